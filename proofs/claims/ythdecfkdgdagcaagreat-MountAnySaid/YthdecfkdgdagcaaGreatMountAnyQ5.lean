/- lamella: what the law needs. No condition beyond the bounds that each states. -/
import Derived.Test.YthdecfkdgdagcaaGreatMountAnyQ4
namespace Go.Proofs.YthdecfkdgdagcaaGreat
open Go Go.RowKit
set_option linter.unusedVariables false
set_option linter.unusedSectionVars false
set_option maxHeartbeats 64000000
open List (append_assoc append_nil drop_drop drop_eq_getElem_cons drop_left' ext_getElem? flatMap_cons foldl_cons length_append length_cons length_drop length_eq_zero_iff length_map length_nil length_pos_iff length_replicate length_set length_singleton length_take map_append map_cons map_set mem_append mem_append_left mem_cons mem_filter mem_flatMap mem_map mem_of_getElem? mem_range mem_singleton nil_append nodup_append not_mem_nil pairwise_iff_getElem pairwise_map size_toArray take_append take_append_drop take_left' take_length take_of_length_le take_zero)
open Classical (byContradiction not_not)
open Option (map_some)
def LbR(ow:Nat→Nat):Nat→Prop:=fun k=>ow k=5∨ow k=6
def Nj(ow:Nat→Nat)(W:World)(g:Nat)(im:By)(F:Nat→Int)(P ids:List Int)(r:Option MSt)(v:Value)(w':World):Prop:=aA (LbR ow) W w'∧∃ b:Bool,v=.bool b∧((b=false∧r=none) ∨
 ∃ (s':MSt) (ow':Nat→Nat),b=true∧r=some s'∧MrV ow' w'.heap g im F P ids s'∧(∀ k,k<W.heap.size→ow' k=ow k)∧(∀ k,w'.heap.size≤k→ow' k=0)∧PlM s')
def MkS(g:Nat)(im:By)(F:Nat→Int)(P ids:List Int)(n:Nat):Prop:=∀ (ow:Nat→Nat) (s:MSt) (ref kind:Int) (W:World),MrV ow W.heap g im F P ids s→(∀ k,W.heap.size≤k→ow k=0)→PlM s→(0≤ref∧ref≤4294967295) →
 CA 92 [pT g,iV ref,iV kind,iV (17-n)] W (Nj ow W g im F P ids (goM im F ids n ref kind s))
theorem GA(g:Nat)(im:By)(F:Nat→Int)(P ids:List Int):MkS g im F P ids 0:=by
 intro ow s ref kind W hM hnew hp href;obtain⟨bo,bc,po,pc,io,ic,lo,lc,qs,hg,_,_,_,_,_,_,_,o1⟩:=hM;have hp1:=hp.1;refine cS 105 [(0,_),(1,_),(2,_),(3,_)] Tryz.func92 ?_;refine Gz 14 ?_;refine VI aE rfl rfl rfl hg rfl ?_;intro w1 hg1 hs1 hf1;refine Gz 6 ?_;refine cL (WJ (WV rfl rfl) (by decide)) ?_;refine Gz 18 ?_;exact⟨_,rfl,hf1.mono (fun k h=>by have h:k=g:=h;subst h;exact .inr o1),false,rfl,.inl ⟨rfl,rfl⟩⟩
theorem FN{l:List (Rec×Int)}{ref:Int}(h:0≤atZ l ref):∃ i,fH l ref=some i∧atZ l ref=(i:Int):=by
 unfold atZ at h ⊢;cases hi:fH l ref with
|none=>rw[hi] at h;exact absurd h (by decide)
|some i=>exact⟨i,rfl,rfl⟩
theorem FO{l:List (Rec×Int)}{ref:Int}(h:¬ 0≤atZ l ref):fH l ref=none:=by
 unfold atZ at h;cases hi:fH l ref with
|none=>rfl
|some i=>rw[hi] at h;exact absurd (Int.natCast_nonneg i) h
theorem Gy(g:Nat)(im:By)(F:Nat→Int)(P ids:List Int)(hb:im.length≤1073741824)(n:Nat)(hn:n+1≤17)(ih:MkS g im F P ids n):MkS g im F P ids (n+1):=by
 intro ow s ref kind W hM hnew hp href;have hle:∀ z,z≠0→∀ k,ow k=z→k<W.heap.size:=fun z hz k hk=>byContradiction fun hc=>by have:=hnew k (by omega);omega
 obtain⟨bo,bc,po,pc,io,ic,lo,lc,qs,hg,⟨v1,l1⟩,⟨v2,l2⟩,⟨v3,l3⟩,ho,hl,hq,hqs,o1⟩:=hM;have hp1:=hp.1;have hql:qs.length=s.1.length:=by rw[←hq,length_map]
 have hgl:=(Array.getElem?_eq_some_iff.1 hg).1;have hog:∀ k,ow k≠6→¬ k=g:=fun k h e=>h (e ▸ o1);have h4g:∀ k,ow k=4→¬ k=g:=fun k h=>hog k (by omega);refine cS 105 [(0,_),(1,_),(2,_),(3,_)] Tryz.func92 ?_;refine Gz 14 ?_;refine VI aE rfl rfl rfl hg rfl ?_;intro w1 hg1 hs1 hf1;have hg1:w1.heap[g]?=some (.cells (miC bo im.length bc F (.slice po P.length pc) (.slice io ids.length ic) (.slice lo qs.length lc) ((s.2+1:Nat):Int)).toArray 134 (0,0)):=hg1;have hF1:aA (LbR ow) W w1:=hf1.mono (fun k h=>by have h:k=g:=h;subst h;exact .inr o1);have v11:=v1.Y8 hf1 (fun a ha=>h4g _ (l1 _ ⟨a,ha,rfl⟩));have v21:=v2.Y8 hf1 (fun a ha=>h4g _ (l2 _ ⟨a,ha,rfl⟩));have v31:=v3.Y8 hf1 (fun a ha=>h4g _ (l3 _ ⟨a,ha,rfl⟩));have ho1:=ho.Y8 hf1 (fun a ha=>hog _ (by have:=hl _ ⟨a,ha,rfl⟩;omega));have hqs1:∀ q∈qs,QV (fun k=>ow k=4) w1.heap q:=fun q hm=>(hqs q hm).Y8 hf1 (fun k hk=>h4g k hk);have hM1:MrV ow w1.heap g im F P ids (s.1,s.2+1):=⟨bo,bc,po,pc,io,ic,lo,lc,qs,hg1,⟨v11,l1⟩,⟨v21,l2⟩,⟨v31,l3⟩,ho1,hl,hq,hqs1,o1⟩
 have hv1:=ho1.vw eG;refine Gz 6 ?_;refine cL (Wu (WV rfl rfl) (by omega)) ?_;refine fW 5 ?_ ?_<;>intro h28
 ·have hres:goM im F ids (n+1) ref kind s=none:=Ay (by omega);refine Gz 12 ?_;exact⟨_,rfl,hF1,false,rfl,.inl ⟨rfl,hres⟩⟩
 have h28:¬ 1024<s.2+1:=by omega
 refine cA 10 PE (HM ow g im F P ids (s.1,s.2+1) ref w1 hM1) ?_;rintro _ wq ⟨rfl,hwq⟩;subst wq;refine fK 7 ?_ ?_<;>intro h34
 ·obtain⟨i,hi,hat⟩:=FN h34;obtain⟨r,hri,hrr⟩:=qN hi;have hil:=(List.getElem?_eq_some_iff.1 hri).1;have hil:i<s.1.length:=hil;obtain⟨q,hqi⟩:∃ q,qs[i]?=some q:=⟨_,List.getElem?_eq_getElem (by omega)⟩
  have hqr:q.1=r:=by have h:s.1[i]?=some r:=hri;rw[←hq,List.getElem?_map,hqi] at h;exact Option.some.inj h
  have hrd:s.1.getD i (qE,0)=r:=by rw[List.getD,show s.1[i]?=some r from hri];rfl
  have hr2:=hp.lt hri;rw[hat];refine Gz 10 ?_;refine cL (VG pW rfl rfl hv1.non (by omega)) ?_;refine Gz 1 ?_;refine cL (VK (u:=iV q.1.2) (VH aE rfl (hv1.rowZ i rfl hqi 1 _ rfl)) rfl) ?_;refine cL (Wr rfl rfl (by rw[hqr];omega)) ?_;refine cL (VG pW rfl rfl hv1.non (by omega)) ?_;refine Gz 1 ?_;refine Xj eG (i:=i) (j:=1) (x':=(((q.1.1,q.1.2+1),q.2):QT)) hqi (by decide) rfl aE rfl (by rw[Int.toNat_natCast]) rfl rfl ho1 ?_;intro w2 ho2 hs2 hf2;have hlg:¬ blk lo g:=fun h=>by have:=hl g h;omega
  have hg2:=hf2.obj hg1 hlg;have hv2:=ho2.vw eG;have hqi2:(qs.set i ((q.1.1,q.1.2+1),q.2))[i]?=some (((q.1.1,q.1.2+1),q.2):QT):=List.getElem?_set_self (by omega);have h4l:∀ k,ow k=4→¬ blk lo k:=fun k hk h=>by have:=hl k h;omega
  refine fK 5 ?_ ?_<;>intro h47
  ·refine Gz 6 ?_;refine cW (VG pW rfl rfl (fun h=>hv2.non (by rw[length_set];exact h)) (by omega)) ?_;refine Gz 2 ?_;refine cW (VK (u:=iV (q.1.1.ino.1 0)) (VH aE rfl (hv2.rowZ i rfl hqi2 2 _ rfl)) rfl) ?_;refine fW 1 ?_ ?_<;>intro h59
   ·have hres:goM im F ids (n+1) ref kind s=some (eH s.1 i,s.2+1):=Db h28 hi ⟨h47,by rw[hrd,←hqr];exact h59⟩;refine Gz 7 ?_;refine⟨_,rfl,hF1.trans (hf2.mono (fun k hk=>.inl (hl k hk))),true,rfl,.inr ⟨_,ow,rfl,hres,⟨bo,bc,po,pc,io,ic,lo,lc,qs.set i ((q.1.1,q.1.2+1),q.2),by rw[length_set];exact hg2,⟨v11.Y8 hf2 (fun a ha=>h4l _ (l1 _ ⟨a,ha,rfl⟩)),l1⟩,⟨v21.Y8 hf2 (fun a ha=>h4l _ (l2 _ ⟨a,ha,rfl⟩)),l2⟩,⟨v31.Y8 hf2 (fun a ha=>h4l _ (l3 _ ⟨a,ha,rfl⟩)),l3⟩,ho2,hl,?_,fun t ht=>?_,o1⟩,fun _ _=>rfl,fun k hk=>hnew k (by have h:w2.heap.size=w1.heap.size:=hs2;omega),hp.bump hri (by omega)⟩⟩
    · show (qs.set i ((q.1.1,q.1.2+1),q.2)).map (·.1)=eH s.1 i
      unfold eH;rw[map_set,hq,hrd,←hqr]
    · rcases List.mem_or_eq_of_mem_set ht with ht|rfl
      ·exact(hqs1 t ht).Y8 hf2 (fun k hk=>h4l k hk)
      ·exact(hqs1 q (mem_of_getElem? hqi)).Y8 hf2 (fun k hk=>h4l k hk)
   have hres:goM im F ids (n+1) ref kind s=none:=mA h28 hi (fun h=>h59 (by rw[hrd,←hqr] at h;exact h.2));refine Gz 7 ?_;exact⟨_,rfl,hF1.trans (hf2.mono (fun k hk=>.inl (hl k hk))),false,rfl,.inl ⟨rfl,hres⟩⟩
  have hres:goM im F ids (n+1) ref kind s=none:=mA h28 hi (fun h=>h47 h.1);refine Gz 19 ?_;exact⟨_,rfl,hF1.trans (hf2.mono (fun k hk=>.inl (hl k hk))),false,rfl,.inl ⟨rfl,hres⟩⟩
 have hi:=FO h34;refine Gz 10 ?_;refine VE Sh rfl (LL g bo po io bc P.length pc ic _ im F ids _ ref kind w1 hg1 v11 hb href) rfl ?_;rintro _ w2 ⟨hf2,⟨⟨x,nm⟩,⟨la,ln,lc2⟩,hx⟩,b,rfl,hbb⟩;have hz2:=hf2.size;refine Gz 3 ?_;refine VJ pE rfl ?_;intro w3 hg3 hs3 hf3;obtain⟨a,ea⟩:∃ a,a=w2.heap.size:=⟨_,rfl⟩
 rw[←ea] at hg3 ⊢;refine sA rfl aM (by exact bI _) hg3 ?_;intro w4 hg4 hs4 hf4;have hf24:aA nob w2 w4:=hf3.tw hf4;have hf14:=hf2.trans hf24;have hgi4:=hf14.obj hg1 id;have ho4:=ho1.Y7 hf14;refine Gz 7 ?_;refine V0 (Wj rfl) rfl (fun h69=>?_) (fun h69=>?_)
 ·have hrn:eQ im F ids ref kind=none:=(hbb.resolve_right (fun h=>by rw[h69] at h;cases h.1)).2;have hres:goM im F ids (n+1) ref kind s=none:=Dd h28 hi hrn;refine Gz 11 ?_;exact⟨_,rfl,hF1.trans hf14.any,false,rfl,.inl ⟨rfl,hres⟩⟩
 obtain⟨hbt,hrm,hnm,hqv⟩:=hbb.resolve_left (fun h=>h69 h.1);have hnm:nm=1:=hnm;subst hnm;have hrm:eQ im F ids ref kind=some x:=hrm;have hqn:ln=x.list.length:=hqv.1.1;subst hqn;have hres:=Dc (n:=n) h28 hi hrm;have hxr:=BP hrm;have hqv4:=hqv.Y8 hf24 (fun _ _=>id);refine Gz 6 ?_;refine VS 10 (fun H=>bG H ((⟨g,0,none⟩:Addr).add 22)=some (.slice lo qs.length lc)∧H[a]?=some (.cells (eL ((x,1),⟨la,x.list.length,lc2⟩,hx)).toArray 137 (0,0))) [6,7,10] [0,1,2,3,4,5,6,7,8,9,10] aK (by kernel_rfl) (⟨aD hgi4 rfl,hg4⟩) ?_;refine Gz 4 ?_;refine xC rfl (VP oR rfl (fun H hH=>hH.1)) ?_;refine xC rfl (Wv (cs:=eL ((x,1),⟨la,x.list.length,lc2⟩,hx)) aM rfl (fun H hH j v hj=>aD hH.2 hj)) ?_;refine VL rfl rfl (We pW (cs:=(eL ((x,1),⟨la,x.list.length,lc2⟩,hx)).toArray) pE rfl rfl rfl (by kernel_rfl) rfl ?_);intro w5 hg5 hs5 hf5;have hf5:=hf5.Y5;have ho5:=dG (e:=137) (xs:=[(((x,1),⟨la,x.list.length,lc2⟩,hx):QT)]) eG (by simpa using hg5) (by show 1≤maxLen;decide);have hz5:=hf5.size;refine VQ (by exact⟨aD (hf5.obj hgi4 id) rfl,hf5.obj hg4 id⟩) ?_;refine VL rfl rfl (VW eG rfl pW rfl rfl (ho4.Y7 hf5) (ho5.vw eG) (by simp only[length_singleton];have:=hp.2.2.2;omega) (by simp only[length_singleton];have:=hp.2.2.2;unfold maxLen;omega) rfl ?_);intro o6 c6 w6 ho6 hf6 hr6 hn6;have hz6:=hf6.size;have hlb:∀ k,blk lo k→k<W.heap.size:=fun k h=>hle 5 (by decide) k (hl k h);have hnlo:∀ k,w1.heap.size≤k∨ow k≠5→¬ blk lo k:=fun k h h2=>by rcases h with h|h;have:=hlb k h2;omega;exact h (hl k h2)
 have hgi6:=hf6.obj (hf5.obj hgi4 id) (hnlo g (.inr (by omega)));have hg6:=hf6.obj (hf5.obj hg4 id) (hnlo a (.inl (by omega)));obtain⟨ad,rfl⟩:∃ ad,o6=some ad:=by cases o6 with|none=>exact absurd (hn6 rfl).2 (by simp)|some ad=>exact⟨ad,rfl⟩
 refine VQ (by exact⟨aD hgi6 rfl,hg6⟩) ?_;refine Gz 2 ?_;refine VL rfl rfl (VI oR rfl rfl rfl hgi6 rfl ?_);intro w7 hgi7 hs7 hf7;have hgi7:w7.heap[g]?=some (.cells (miC bo im.length bc F (.slice po P.length pc) (.slice io ids.length ic) (.slice (some ad) (qs++[(((x,1),⟨la,x.list.length,lc2⟩,hx):QT)]).length c6) ((s.2+1:Nat):Int)).toArray 134 (0,0)):=hgi7;have hg7:=hf7.obj hg6 (by intro e;have e:a=g:=e;omega);refine Wl rfl ?_;obtain⟨ow2,eow⟩:∃ ow2:Nat→Nat,ow2=fun k=>if k<W.heap.size then ow k else if k=ad.block then 5 else if k<w7.heap.size then 4 else 0:=⟨_,rfl⟩
 have c1:∀ k,k<W.heap.size→ow2 k=ow k:=fun k hk=>by rw[eow];exact if_pos hk
 have c2:∀ k,w7.heap.size≤k→ow2 k=0:=fun k hk=>by
  rw[eow];have hal:ad.block<w6.heap.size:=ho6.lt ad rfl;show (if k<W.heap.size then ow k else if k=ad.block then 5 else if k<w7.heap.size then 4 else 0)=0;rw[if_neg (by omega),if_neg (by omega),if_neg (by omega)]
 have hadl:ow2 ad.block=5:=by
  rcases hr6 ad rfl with h|h
  · have h5:=hl ad.block ⟨ad,h,rfl⟩
    rw[c1 _ (hle 5 (by decide) _ h5)];exact h5
  · rw[eow];show (if ad.block<W.heap.size then ow ad.block else if ad.block=ad.block then 5 else if ad.block<w7.heap.size then 4 else 0)=5
    rw[if_neg (by omega),if_pos rfl]
 have c4:∀ k,w1.heap.size≤k→k<w5.heap.size→ow2 k=4:=fun k h1 h2=>by
  have hna:¬ k=ad.block:=fun e=>by
   rcases hr6 ad rfl with h|h
   ·have:=hlb ad.block ⟨ad,h,rfl⟩;omega
   ·omega
  rw[eow];show (if k<W.heap.size then ow k else if k=ad.block then 5 else if k<w7.heap.size then 4 else 0)=4;rw[if_neg (by omega),if_neg hna,if_pos (by omega)]
 have hkv:∀ {α:Type} {en:α→Value} {ao:Option Addr} {c:Nat} {y:List α},Vw en w1.heap ao c y→(∀ k,blk ao k→ow k=4)→Vw en w7.heap ao c y∧∀ k,blk ao k→ow2 k=4:=fun hv hl4=>⟨(((hv.Y7 hf14).Y7 hf5).Y8 hf6 (fun a ha=>hnlo _ (.inr (by have:=hl4 _ ⟨a,ha,rfl⟩;omega)))).Y8 hf7 (fun a ha=>h4g _ (hl4 _ ⟨a,ha,rfl⟩)),fun k hk=>by rw[c1 k (hle 4 (by decide) _ (hl4 _ hk))];exact hl4 k hk⟩
 have hkq:∀ (E:Nat→Prop) (q:QT),QV E w4.heap q→(∀ k,E k→w1.heap.size≤k∧k<w4.heap.size∨ow k=4)→QV (fun k=>ow2 k=4) w7.heap q:=fun E q hq0 hE=>(((hq0.Y8 hf5 (fun _ _=>id)).Y8 hf6 (fun k hk=>(hE k hk).elim (fun h=>hnlo k (.inl h.1)) (fun h=>hnlo k (.inr (by omega))))).Y8 hf7 (fun k hk e=>by have e:k=g:=e;rcases hE k hk with h|h;omega;exact h4g k h e)).mono (fun k hk=>(hE k hk).elim (fun h=>c4 k h.1 (by omega)) (fun h=>by rw[c1 k (hle 4 (by decide) k h)];exact h));have hqx:QV (fun k=>ow2 k=4) w7.heap ((x,1),⟨la,x.list.length,lc2⟩,hx):=hkq _ _ hqv4 (fun k hk=>.inl ⟨hk.1,by have:=hk.2;omega⟩);have hM7:MrV ow2 w7.heap g im F P ids (s.1++[(x,1)],s.2+1):=by
  refine⟨bo,bc,po,pc,io,ic,some ad,c6,qs++[((x,1),⟨la,x.list.length,lc2⟩,hx)],hgi7,hkv v11 l1,hkv v21 l2,hkv v31 l3,ho6.Y8 hf7 (fun y hy e=>?_),fun k ⟨y,hy,e⟩=>?_,by rw[map_append,hq];rfl,fun q hm=>?_,by rw[c1 g hgl];exact o1⟩
  ·cases hy;have e:ad.block=g:=e;rw[e,c1 g hgl] at hadl;omega
  ·cases hy;rw[←e];exact hadl
  · rcases mem_append.1 hm with hm|hm
    ·exact hkq _ _ ((hqs1 q hm).Y8 hf14 (fun _ _=>id)) (fun k hk=>.inr hk)
    ·rw[mem_singleton] at hm;subst hm;exact hqx
 have hpm:PlM (s.1++[(x,1)],s.2+1):=hp.snoc (by rw[hxr.1];exact href) (fun r h=>by rw[hxr.1];exact EZ hi r h) (by omega);have hG7:aA (LbR ow) W w7:=((hF1.trans hf14.any).trans hf5.any).Y4 (hf6.mono (fun k hk=>.inl (hl k hk)) |>.trans (hf7.mono (fun k h=>by have h:k=g:=h;subst h;exact .inr o1)):aA (LbR ow) w5 w7) (fun k h=>.inl h);have hvl7:=hqx.1.2.1;have hvd7:=hqx.1.2.2;have hll:=hvl7.Y6;have ha4:ow2 a=4:=c4 a (by omega) (by omega);refine Gz 9 ?_;refine VM (β:=(Nat×MSt)×(Nat→Nat)) (fun⟨⟨j,s8⟩,ow8⟩=>[(0,pT g),(3,iV (17-((n+1:Nat):Int))),(10,pT a),(12,iV j)]) (fun⟨⟨j,s8⟩,ow8⟩ w=>j≤x.list.length∧goL (goM im F ids n) (x.list.drop j) s8=goL (goM im F ids n) x.list (s.1++[(x,1)],s.2+1)∧MrV ow8 w.heap g im F P ids s8∧(∀ k,k<w7.heap.size→ow8 k=ow2 k)∧(∀ k,w.heap.size≤k→ow8 k=0)∧PlM s8∧w.heap[a]?=some (.cells (eL ((x,1),⟨la,x.list.length,lc2⟩,hx)).toArray 137 (0,0))∧VwM 3 bH w.heap la lc2 x.list∧aA (LbR ow) W w∧aA (fun k=>True) w7 w) (fun⟨⟨j,s8⟩,ow8⟩=>x.list.length-j) ⟨⟨0,(s.1++[(x,1)],s.2+1)⟩,ow2⟩ ⟨rfl,rfl,rfl,rfl,trivial⟩ ⟨Nat.zero_le _,rfl,hM7,fun _ _=>rfl,c2,hpm,hg7,hvl7,hG7,YI _ _⟩ ?_;rintro⟨⟨j,s8⟩,ow8⟩ w8 ⟨hj,hgo,hM8,d1,d2,hp8,ha8,hvl8,hG8,hF8⟩;refine fK 7 ?_ ?_<;>intro h84
 ·have h84b:(j:Int)<((x.list.length:Nat):Int):=h84;have hll2:((x.list.length:Nat):Int)≤9223372036854775807:=hll;have hjl:j<x.list.length:=by omega
  obtain⟨y,hy⟩:∃ y,x.list[j]?=some y:=⟨_,List.getElem?_eq_getElem hjl⟩
  have hfy:=hxr.2 y (mem_of_getElem? hy);have hdr:x.list.drop j=y::x.list.drop (j+1):=by obtain⟨h,rfl⟩:=List.getElem?_eq_some_iff.1 hy;exact drop_eq_getElem_cons h
  rw[hdr] at hgo;have hz8:=hF8.size;refine Gz 1 ?_;refine aW [(0,_),(3,_),(10,_),(12,_),(84,_)] ?_;refine Gz 7 ?_;refine VS 17 (fun H=>H[a]?=some (.cells (eL ((x,1),⟨la,x.list.length,lc2⟩,hx)).toArray 137 (0,0))∧VwM 3 bH H la lc2 x.list) [15] [0,1,2,3,4,5,6,7,8,9,10,11,12,13,14,15,16] aK (by kernel_rfl) (⟨ha8,hvl8⟩) ?_;refine Gz 4 ?_;refine xC rfl (VG lO rfl rfl hvl8.non (by omega)) ?_;refine Gz 1 ?_;refine xC rfl (VP aE rfl (fun H hH=>hH.2.rowZ j rfl hy 2 _ rfl)) ?_;refine Gz 3 ?_;refine xC rfl (VG lO rfl rfl hvl8.non (by omega)) ?_;refine Gz 1 ?_;refine xC rfl (VP aE rfl (fun H hH=>hH.2.rowZ j rfl hy 1 _ rfl)) ?_;refine Gz 1 ?_;refine xC rfl (VK (u:=iV (17-(n:Nat))) (Wr rfl rfl (by omega)) (by congr 1;omega)) ?_;refine VL rfl rfl (VE Ro rfl (ih ow8 s8 y.2.2 y.2.1 (w8.drewN 1) hM8 d2 hp8 ⟨hfy.2.2.2.1,hfy.2.2.2.2⟩) rfl ?_);rintro _ w9 ⟨hF9,b9,rfl,hW9⟩;have hF9:=hF9.Y5;have hn8:∀ k,ow2 k=4→¬ LbR ow8 k:=fun k hk h=>by
   have hlt:k<w7.heap.size:=byContradiction fun hc=>by have:=c2 k (by omega);omega
   have h:ow8 k=5∨ow8 k=6:=h;rw[d1 k hlt] at h;omega
  refine VQ (by exact⟨hF9.obj ha8 (hn8 a ha4),hvl8.keep' hF9 (fun hne z hz=>hn8 _ (hvd7 hne _ ⟨z,hz,rfl⟩))⟩) ?_;have ha9:=hF9.obj ha8 (hn8 a ha4);have hvl9:=hvl8.keep' hF9 (fun hne z hz=>hn8 _ (hvd7 hne _ ⟨z,hz,rfl⟩));have hG9:aA (LbR ow) W w9:=hG8.Y4 hF9 (fun k h=>by
   by_cases hk:k<W.heap.size
   · have h:ow8 k=5∨ow8 k=6:=h
     rw[d1 k (by omega),c1 k hk] at h;exact .inl h
   ·exact .inr (by omega))
  refine Gz 6 ?_;refine V0 (Wj rfl) rfl (fun h104=>?_) (fun h104=>?_)
  ·have hrn:goM im F ids n y.2.2 y.2.1 s8=none:=(hW9.resolve_right (fun⟨s9,ow9,h,_⟩=>by rw[h104] at h;cases h)).2;have hres2:goM im F ids (n+1) ref kind s=none:=by
    rw[hres,←hgo];show (match goM im F ids n y.2.2 y.2.1 s8 with|none=>none|some s9=>goL (goM im F ids n) (x.list.drop (j+1)) s9)=none;rw[hrn]
   refine Gz 15 ?_;exact⟨_,rfl,hG9,false,rfl,.inl ⟨rfl,hres2⟩⟩
  obtain⟨s9,ow9,hbt9,hr9,hM9,e1,e2,hp9⟩:=hW9.resolve_left (fun h=>h104 h.1);have hgo9:goL (goM im F ids n) (x.list.drop (j+1)) s9=goL (goM im F ids n) x.list (s.1++[(x,1)],s.2+1):=by
   rw[←hgo];show _=(match goM im F ids n y.2.2 y.2.1 s8 with|none=>none|some s9=>goL (goM im F ids n) (x.list.drop (j+1)) s9)
   rw[hr9]
  refine Gz 11 ?_;exact aG ⟨⟨j+1,s9⟩,ow9⟩ ⟨by omega,hgo9,hM9,fun k hk=>by rw[e1 k (by show k<w8.heap.size;omega)];exact d1 k hk,e2,hp9,ha9,hvl9,hG9,hF8.trans (hF9.mono (fun _ _=>trivial))⟩ (by show x.list.length-(j+1)<x.list.length-j;omega)
 have h84b:¬ (j:Int)<((x.list.length:Nat):Int):=h84;refine Gz 1 ?_;refine aW [(0,_),(3,_),(10,_),(12,_),(84,_)] ?_;refine Gz 14 ?_;have hdn:x.list.drop j=[]:=List.drop_of_length_le (by omega);rw[hdn] at hgo;exact⟨_,rfl,hG8,true,rfl,.inr ⟨s8,ow8,rfl,by rw[hres,←hgo];rfl,hM8,fun k hk=>by rw[d1 k (by omega),c1 k (by omega)],d2,hp8⟩⟩
theorem B4(g:Nat)(im:By)(F:Nat→Int)(P ids:List Int)(hb:im.length≤1073741824):∀ (n:Nat),n≤17→MkS g im F P ids n
|0,_=>GA g im F P ids
|n+1,hn=>Gy g im F P ids hb n hn (B4 g im F P ids hb n (by omega))
def mrO(g z:Nat):Nat→Nat:=fun k=>if k=g then 6 else if k<z then 4 else 0
theorem Rg{g z:Nat}:mrO g z g=6:=if_pos rfl
theorem LO{g z k:Nat}(h:k≠g)(hk:k<z):mrO g z k=4:=by unfold mrO;rw[if_neg h,if_pos hk]
theorem Od{g z k:Nat}(hg:g<z)(hk:z≤k):mrO g z k=0:=by unfold mrO;rw[if_neg (by omega),if_neg (by omega)]
theorem LN{g z k:Nat}(h:LbR (mrO g z) k):k=g:=by
 have h:mrO g z k=5∨mrO g z k=6:=h;unfold mrO at h
 split at h
 ·assumption
 ·split at h<;>omega
theorem EL(g:Nat)(im:By)(F:Nat→Int)(P ids:List Int)(hb:im.length≤1073741824)(ow:Nat→Nat)(s:MSt)(ref kind:Int)(W:World)(hM:MrV ow W.heap g im F P ids s)(hn:∀ k,W.heap.size≤k→ow k=0)(hp:PlM s)(hr:0≤ref∧ref≤4294967295) :
 CA 92 [pT g,iV ref,iV kind,iV 0] W (Nj ow W g im F P ids (goM im F ids 17 ref kind s)):=
 B4 g im F P ids hb 17 (by omega) ow s ref kind W hM hn hp hr
def ImR(H:Array Obj)(g:Nat)(x:Img):Prop:=∃ ow n,MrV ow H g x.im x.F x.places x.ids (x.recs,n)∧PlM (x.recs,n)∧fX x.F∧x.im.length≤1048576∧FV x∧∀ k,H.size≤k→ow k=0
theorem ImR.Y7{w w':World}{g:Nat}{x:Img}(h:ImR w.heap g x)(f:aA nob w w'):ImR w'.heap g x:=by
 obtain⟨ow,n,h1,h2,h3,h4,h5,h6⟩:=h;exact⟨ow,n,h1.Y7 f,h2,h3,h4,h5,fun k hk=>h6 k (Nat.le_trans f.size hk)⟩
def VB(W:World)(im:By)(v:Value)(w':World):Prop:=aA nob W w'∧((v=.tuple #[.pointer none,iV 2]∧mnt im=none)∨∃ (x:Img) (g:Nat),v=.tuple #[pT g,iV 0]∧mnt im=some x∧x.im=im∧W.heap.size≤g∧ImR w'.heap g x)
theorem BJ(io:Option Addr)(ic:Nat)(im:By)(W:World)(hv:Vw b8 W.heap io ic im)(hb:im.length≤1073741824) :
 CA 50 [.slice io im.length ic] W (VB W im):=by
 obtain⟨T,hT⟩:∃ T,T=aI im:=⟨_,rfl⟩
 refine cS 139 [(0,_)] Tryz.func50 ?_;refine Gz 9 ?_;refine VE UP rfl (IT io ic im W hv (by omega)) rfl ?_;rw[←hT];rintro _ w1 ⟨rfl,hf1⟩;refine Gz 3 ?_;refine VJ mW rfl ?_;intro w2 hg2 hs2 hf2;obtain⟨b,eb⟩:∃ b,b=w1.heap.size:=⟨_,rfl⟩
 rw[←eb] at hg2 ⊢;refine sA rfl cD (by exact dC _) hg2 ?_;intro w3 hg3 hs3 hf3;have hF3:aA nob W w3:=(hf1.trans hf2).Y4 hf3 (fun k hk=>.inr (by have h:k=b:=hk;have:=hf1.size;omega));have hz3:=hF3.size;refine fK 7 ?_ ?_<;>intro h18
 ·have hno:mnt im=none:=C3 (by rw[←hT];exact h18);refine Gz 12 ?_;exact⟨_,rfl,hF3,.inl ⟨rfl,hno⟩⟩
 have hok:fY im:=byContradiction fun h=>h18 (by rw[hT];show (aI im).2≠0;unfold aI;rw[if_neg h];decide);have eT:aI im=(suF im,0):=if_pos hok;obtain⟨F,hFF⟩:∃ F,F=suF im:=⟨_,rfl⟩
 rw[←hFF] at eT;have eT1:T.1=F:=by rw[hT,eT]
 rw[eT1] at hg3;obtain⟨q64,qm,_,q0⟩:=hok;rw[←hFF] at qm q0;have hlb0:=hv.lt (fun e=>by rw[e] at q64;exact absurd q64 (by decide));have qm2:=qm;obtain⟨⟨s1,s2,s3,s4,s5,s6,s7⟩,u1,u2,u3,u4,u5,u6,u7,u8⟩:=qm2;refine Gz 8 ?_;refine cL (VR (cs:=bR F) cD rfl (aX hg3 0 rfl)) ?_;refine Gz 5 ?_;refine cL (bU (rrC io im.length ic (F 2) (F 3)) zZ Dw) ?_;refine Gz 5 ?_;refine cL (bU (rrC io im.length ic (F 3) (F 4)) zZ Dw) ?_;refine Gz 5 ?_;refine cL (bU (rrC io im.length ic (F 6) (F 0)) zZ Dw) ?_;refine cL (bU (miC io im.length ic F sN sN sN 0) Qa QR) ?_;refine V9 rfl rfl ?_;intro w4 hg4 hs4 hf4;obtain⟨g,eg⟩:∃ g,g=w3.heap.size:=⟨_,rfl⟩
 have hg4:w4.heap[w3.heap.size]?=some (.cells (miC io im.length ic F sN sN sN 0).toArray 134 (0,0)):=hg4;rw[←eg] at hg4 ⊢;have hb4:=hf4.obj hg3 id;have hF4:=hF3.trans hf4;have hbg:b≠g:=by omega
 refine Gz 10 ?_;refine cL (bU (rrC io im.length ic (F 4) (F 5)) zZ Dw) ?_;refine V9 rfl rfl ?_;intro w5 hg5 hs5 hf5;obtain⟨r,er⟩:∃ r,r=w4.heap.size:=⟨_,rfl⟩
 rw[←er] at hg5 ⊢;have hb5:=hf5.obj hb4 id;refine Gz 2 ?_;refine VE Rp rfl (BG r io ic im (F 4) (F 5) (F 8) 4 w5 ⟨hg5,hv.Y7 (hF4.trans hf5)⟩ hb (by omega)) rfl ?_;rintro _ w6 ⟨po,pc,rfl,hpo,hpf,hf6⟩;have hf46:=hf5.trans hf6;have hF6:=hF4.trans hf46;have hz6:=hf46.size;have hlP:=hpo.lt;refine fK 11 ?_ ?_<;>intro h55
 ·have hno:mnt im=none:=uF eT (fun h=>h55 h.1);refine Gz 12 ?_;exact⟨_,rfl,hF6,.inl ⟨rfl,hno⟩⟩
 have eP:(mtP im F).2=0:=Decidable.not_not.1 h55;refine Gz 11 ?_;refine VI mL rfl rfl rfl (hf46.obj hg4 id) rfl ?_;intro w7 hg7 hs7 hf7;have hg7:w7.heap[g]?=some (.cells (miC io im.length ic F (.slice po (mtP im F).1.length pc) sN sN 0).toArray 134 (0,0)):=hg7;have hb7:=hf7.obj (hf46.obj hb4 id) hbg;have hF7:aA nob W w7:=hF6.tw hf7;have hpo7:Own i64 3 w7.heap po pc (mtP im F).1:=hpo.Y8 hf7 (fun a ha e=>by have:=hpf a ha;have e:a.block=g:=e;omega);refine Gz 9 ?_;refine cL (bU (rrC io im.length ic (F 5) (F 6)) zZ Dw) ?_;refine V9 rfl rfl ?_;intro w8 hg8 hs8 hf8;obtain⟨r2,er2⟩:∃ r,r=w7.heap.size:=⟨_,rfl⟩
 rw[←er2] at hg8 ⊢;have hb8:=hf8.obj hb7 id;refine Gz 2 ?_;refine VE Rp rfl (BG r2 io ic im (F 5) (F 6) (F 7) 2 w8 ⟨hg8,hv.Y7 (hF7.trans hf8)⟩ hb (by omega)) rfl ?_;rintro _ w9 ⟨io2,ic2,rfl,hio,hif,hf9⟩;have hf79:=hf8.trans hf9;have hF9:=hF7.trans hf79;have hz9:=hf79.size;have hlI:=hio.lt;refine fK 11 ?_ ?_<;>intro h74
 ·have hno:mnt im=none:=uF eT (fun h=>h74 h.2.1);refine Gz 12 ?_;exact⟨_,rfl,hF9,.inl ⟨rfl,hno⟩⟩
 have eI:(mtI im F).2=0:=Decidable.not_not.1 h74;refine Gz 11 ?_;refine VI mL rfl rfl rfl (hf79.obj hg7 id) rfl ?_;intro w10 hg10 hs10 hf10;have hg10:w10.heap[g]?=some (.cells (miC io im.length ic F (.slice po (mtP im F).1.length pc) (.slice io2 (mtI im F).1.length ic2) sN 0).toArray 134 (0,0)):=hg10;have hb10:=hf10.obj (hf79.obj hb7 id) hbg;have hF10:aA nob W w10:=hF9.tw hf10;have hpo10:=(hpo7.Y7 hf79).Y8 hf10 (fun a ha e=>by have:=hpf a ha;have e:a.block=g:=e;omega);have hio10:Own i64 3 w10.heap io2 ic2 (mtI im F).1:=hio.Y8 hf10 (fun a ha e=>by have:=hif a ha;have e:a.block=g:=e;omega);have hvi:=hio10.vw;have h63:=hvi.Y6;refine Gz 9 ?_;refine VM (β:=Nat) (fun k=>[(4,pT b),(6,pT g),(8,.slice io2 (mtI im F).1.length ic2),(9,iV k)]) (fun k w=>1≤k∧(k≤(mtI im F).1.length∨k=1)∧(∀ i,i+1<k→(mtI im F).1.getD i 0<(mtI im F).1.getD (i+1) 0)∧aA nob w10 w) (fun k=>(mtI im F).1.length-k) 1 ⟨rfl,rfl,rfl,rfl,trivial⟩ ⟨Nat.le_refl _,.inr rfl,fun i hi=>by omega,YI _ _⟩ ?_;rintro k w11 ⟨hk1,hkn,hris,hF11⟩;refine fK 6 ?_ ?_<;>intro h82
 ·have hkl:k<(mtI im F).1.length:=by have h:(k:Int)<(((mtI im F).1.length:Nat):Int):=h82;omega
  obtain⟨k1,rfl⟩:∃ k1,k=k1+1:=⟨k-1,by omega⟩
  have hv12:=hvi.Y7 hF11;refine Gz 8 ?_;refine VT 10 [0,1,2,3,4,5,6,7,8,9] aK (by kernel_rfl) ?_;refine Gz 2 ?_;refine xC rfl (VK (u:=iV (k1:Int)) (W3 rfl rfl (by omega)) (by congr 1;omega)) ?_;refine xC rfl (VF bO rfl rfl hv12.non (by omega)) ?_;refine xC rfl (VH aE rfl (hv12.gz 0 k1 rfl (by omega))) ?_;refine Gz 2 ?_;refine xC rfl (VF bO rfl rfl hv12.non (by omega)) ?_;refine xC rfl (VH aE rfl (hv12.gz 0 (k1+1) rfl (by omega))) ?_;refine xK 0 ?_ ?_<;>intro h94
  ·have hno:mnt im=none:=uF eT (fun h=>by have:=h.2.2 k1 hkl;omega);refine Gz 16 ?_;exact⟨_,rfl,(hF10.trans hF11).draws 1,.inl ⟨rfl,hno⟩⟩
  refine Gz 11 ?_;refine aG (k1+1+1) ⟨by omega,.inl (by omega),fun i hi=>?_,hF11.draws 1⟩ (by show (mtI im F).1.length-(k1+1+1)<(mtI im F).1.length-(k1+1);omega);by_cases e:i=k1
  ·subst e;omega
  ·exact hris i (by omega)
 have hkl:(mtI im F).1.length≤k:=by have h:¬ (k:Int)<(((mtI im F).1.length:Nat):Int):=h82;omega
 have hrise:kP (mtI im F).1:=fun i hi=>hris i (by omega);have hgo:=GD eT ⟨eP,eI,hrise⟩;have hF11w:=hF10.trans hF11;have hz11:=hF11.size;have hg11:=hF11.obj hg10 id;have hb11:=hF11.obj hb10 id;have hM11:MrV (mrO g w11.heap.size) w11.heap g im F (mtP im F).1 (mtI im F).1 ([],0):=by
  refine⟨io,ic,po,pc,io2,ic2,none,0,[],hg11,⟨hv.Y7 hF11w,fun k ⟨a,ha,e⟩=>LO (by have:=hlb0 a ha;omega) (by have:=hlb0 a ha;omega)⟩,⟨(hpo10.Y7 hF11).vw,fun k ⟨a,ha,e⟩=>LO (by have:=hpf a ha;omega) (by have:=hlP a ha;omega)⟩,⟨(hio10.Y7 hF11).vw,fun k ⟨a,ha,e⟩=>LO (by have:=hif a ha;omega) (by have:=hlI a ha;omega)⟩,.inl ⟨rfl,rfl,rfl⟩,(fun k ⟨a,ha,_⟩=>by cases ha),rfl,fun q hq=>by simp at hq,Rg⟩
 refine Gz 13 ?_;refine VE Ro rfl (EL g im F _ _ hb (mrO g w11.heap.size) ([],0) (F 9) 1 w11 hM11 (fun k hk=>Od (by omega) hk) ⟨by decide,by simp,by simp,by decide⟩ ⟨by omega,by omega⟩) rfl ?_;rintro _ w12 ⟨hF12,bb,rfl,hW12⟩;have hb12:=hF12.obj hb11 (fun h=>hbg (LN h));have hFw:aA nob W w12:=hF11w.Y4 hF12 (fun k h=>.inr (by have:=LN h;have:=hF3.size;omega));refine Gz 5 ?_;refine VT 12 [0,1,2,3,4,5,6,7,8,9,10,11] aK (by kernel_rfl) ?_;refine Gz 1 ?_;refine Xp rfl rfl (Wj rfl) rfl (fun h100=>?_) (fun h100=>?_)
 ·have hno:mnt im=none:=by
   rw[hgo];have h:=(hW12.resolve_right (fun⟨s9,ow9,h,_⟩=>by rw[h100] at h;cases h)).2;rw[h]
  refine Gz 22 ?_;exact⟨_,rfl,hFw.draws 1,.inl ⟨rfl,hno⟩⟩
 obtain⟨sf,owf,_,hgs,hMf,_,hnf,hpf2⟩:=hW12.resolve_left (fun h=>h100 h.1);rw[hgs] at hgo;have hMf2:=hMf;obtain⟨bo2,bc2,po2,pc2,io3,ic3,lo,lc,qs,hgf,_,_,_,hoq,_,hqq,hqs,_⟩:=hMf2;have hql:qs.length=sf.1.length:=by rw[←hqq,length_map]
 have hgo2:mnt im=if (sf.1.length:Int)≠F 1∨¬ (∀ r∈sf.1,r.2=r.1.ino.1 4) then none else some ⟨im,F,(mtP im F).1,(mtI im F).1,sf.1⟩:=hgo
 have hvq:=hoq.vw eG;refine Gz 4 ?_;refine xV rfl (VH oR rfl (aD hgf rfl)) ?_;refine Gz 2 ?_;refine xV rfl (VH aE rfl (aD hb12 rfl)) ?_;refine xW 0 ?_ ?_<;>intro h109
 ·have hno:mnt im=none:=by
   rw[hgo2,if_pos (.inl (by rw[←hql];exact h109))]
  refine Gz 13 ?_;exact⟨_,rfl,hFw.draws 1,.inl ⟨rfl,hno⟩⟩
 have hcnt:(sf.1.length:Int)=F 1:=by rw[←hql];exact Decidable.not_not.1 h109
 refine Gz 13 ?_;refine VM (β:=Nat) (fun k=>[(6,pT g),(11,iV k)]) (fun k w=>k≤qs.length∧(∀ (j:Nat) (x:Rec×Int),j<k→sf.1[j]?=some x→x.2=x.1.ino.1 4)∧aA nob w12 w) (fun k=>qs.length-k) 0 ⟨rfl,rfl,trivial⟩ ⟨Nat.zero_le _,fun j x hj=>by omega,YJ 1⟩ ?_;rintro k w13 ⟨hk,hsn,hF13⟩;have hgf2:=hF13.obj hgf id;refine fK 9 ?_ ?_<;>intro h117
 ·have hkl:k<qs.length:=by have h:(k:Int)<((qs.length:Nat):Int):=h117;omega
  obtain⟨q,hqk⟩:∃ q,qs[k]?=some q:=⟨_,List.getElem?_eq_getElem hkl⟩
  have hrk:sf.1[k]?=some q.1:=by rw[←hqq,List.getElem?_map,hqk];rfl
  have hv13:=hvq.Y7 hF13;refine Gz 8 ?_;refine VT 18 [0,1,2,3,4,5,6,7,8,9,10,11,12,13,14,15,16,17] aK (by kernel_rfl) ?_;refine Gz 3 ?_;refine xC rfl (VH oR rfl (aD hgf2 rfl)) ?_;refine Gz 1 ?_;refine xC rfl (VG pW rfl rfl hv13.non (by omega)) ?_;refine Gz 1 ?_;refine xC rfl (VH aE rfl (hv13.rowZ k rfl hqk 1 _ rfl)) ?_;refine Gz 3 ?_;refine xC rfl (VH oR rfl (aD hgf2 rfl)) ?_;refine Gz 1 ?_;refine xC rfl (VG pW rfl rfl hv13.non (by omega)) ?_;refine Gz 2 ?_;refine xC rfl (VH aE rfl (hv13.rowZ k rfl hqk 6 _ rfl)) ?_;refine xK 0 ?_ ?_<;>intro h137
  ·have hno:mnt im=none:=by
    rw[hgo2,if_pos (.inr (fun h=>h137 (h q.1 (mem_of_getElem? hrk))))]
   refine Gz 16 ?_;exact⟨_,rfl,(hFw.trans hF13).draws 1,.inl ⟨rfl,hno⟩⟩
  have hqe:q.1.2=q.1.1.ino.1 4:=Decidable.not_not.1 h137;refine Gz 11 ?_;refine aG (k+1) ⟨by omega,fun j x hj hx=>?_,hF13.draws 1⟩ (by show qs.length-(k+1)<qs.length-k;omega);by_cases e:j=k
  ·subst e;rw[hrk] at hx;cases hx;exact hqe
  ·exact hsn j x (by omega) hx
 refine Gz 17 ?_;have hall:∀ r∈sf.1,r.2=r.1.ino.1 4:=fun x hx=>by
  obtain⟨j,hj⟩:=List.getElem?_of_mem hx;exact hsn j x (by have:=(List.getElem?_eq_some_iff.1 hj).1;omega) hj
 have hms:mnt im=some ⟨im,F,(mtP im F).1,(mtI im F).1,sf.1⟩:=by rw[hgo2,if_neg (by rintro(h|h);exact h hcnt;exact h hall)]
 exact⟨_,rfl,hFw.trans hF13,.inr ⟨_,g,rfl,hms,rfl,by omega,owf,sf.2,hMf.Y7 hF13,hpf2,qm,by show im.length≤1048576;omega,(LT hms).1,fun k hk=>hnf k (Nat.le_trans hF13.size hk)⟩⟩
abbrev q0T:QT:=((qE,0),hd0,hd0)
def KnR(W:World)(x:Img)(ref:Int)(v:Value)(w':World):Prop:=aA nob W w'∧∃ (q:QT) (e:Int),v=.tuple #[.agg (eL q).toArray,iV e]∧((knM x ref=none∧q=q0T∧e=1)∨(knM x ref=some q.1.1∧e=0∧(∃ E,QV E w'.heap q)∧vG x.im x.F x.ids q.1.1))
theorem lV(g:Nat)(x:Img)(ref:Int)(W:World)(hx:ImR W.heap g x) :
 CA 129 [pT g,iV ref] W (KnR W x ref):=by
 obtain⟨ow,n,hM,hp,hmq,hl8,hio,hnw⟩:=hx;have hM2:=hM;obtain⟨bo,bc,po,pc,io,ic,lo,lc,qs,hg,_,_,_,ho,hl,hq,hqs,o1⟩:=hM2;obtain⟨z,ez⟩:∃ z,z=W.heap.size:=⟨_,rfl⟩
 refine cS 20 [(0,_),(1,_)] Tryz.func129 ?_;refine Gz 2 ?_;refine VJ pE rfl ?_;intro w1 hg1 hs1 hf1;have hg1:w1.heap[W.heap.size]?=some (.cells (eL q0T).toArray 137 (0,0)):=hg1;rw[←ez] at hg1 ⊢;have hv1:=(ho.Y7 hf1).vw eG;refine cA 7 PE (HM ow g x.im x.F x.places x.ids (x.recs,n) ref w1 (hM.Y7 hf1)) ?_;rintro _ w2 ⟨rfl,hw⟩;subst w2;refine fK 7 ?_ ?_<;>intro h11
 ·have hkn:knM x ref=none:=by unfold knM;rw[show fH x.recs ref=none from FO (by have h:atZ x.recs ref<0:=h11;omega)];rfl
  refine Gz 5 ?_;refine cL (bU (eL q0T) Lu pE) ?_;refine sA rfl aM (by exact bI _) hg1 ?_;intro w9 hg9 hs9 hf9;have hFw:aA nob W w9:=hf1.tw hf9;refine Gz 5 ?_;refine rC hg9 aM ?_;exact⟨_,rfl,hFw,_,_,rfl,.inl ⟨hkn,rfl,rfl⟩⟩
 obtain⟨i,hi,hat⟩:=FN (l:=x.recs) (ref:=ref) (by have h:¬ atZ x.recs ref<0:=h11;omega);obtain⟨r,hri,hrr⟩:=qN hi;have hil:=(List.getElem?_eq_some_iff.1 hri).1;have hql:qs.length=x.recs.length:=by have hq:qs.map (·.1)=x.recs:=hq;rw[←hq,length_map]
 obtain⟨q,hqi⟩:∃ q,qs[i]?=some q:=⟨_,List.getElem?_eq_getElem (by omega)⟩
 have hqr:q.1=r:=by have h:x.recs[i]?=some r:=hri;have hq:qs.map (·.1)=x.recs:=hq;rw[←hq,List.getElem?_map,hqi] at h;exact Option.some.inj h
 have hkn:knM x ref=some q.1.1:=by unfold knM;rw[hi,map_some,List.getD,hri,hqr];rfl
 have hok:=hio.1 r (mem_of_getElem? hri);rw[←hqr] at hok;have hqv:=(hqs q (mem_of_getElem? hqi)).Y8 hf1 (fun _ _=>id);rw[hat];refine Gz 10 ?_;refine cL (VH oR rfl (aD (hf1.obj hg id) rfl)) ?_;refine Gz 1 ?_;refine cL (VG pW rfl rfl hv1.non (by omega)) ?_;refine cL (VR (cs:=eL q) aM rfl (fun a v ha=>hv1.rowZ i rfl hqi a v ha)) ?_;refine sA rfl aM (by exact bI _) hg1 ?_;intro w9 hg9 hs9 hf9;have hFw:aA nob W w9:=hf1.tw hf9;have hqv9:QV (fun k=>k<z∧ow k=4) w9.heap q:=(hqv.mono (E':=fun k=>k<z∧ow k=4) (fun k hk=>⟨byContradiction fun hc=>by have:=hnw k (by omega);omega,hk⟩)).Y8 hf9 (fun k hk e=>by have e:k=z:=e;omega);refine Gz 4 ?_;refine rC hg9 aM ?_;exact⟨_,rfl,hFw,_,_,rfl,.inr ⟨hkn,rfl,⟨_,hqv9⟩,hok⟩⟩
theorem B5(g:Nat)(x:Img)(ref:Int)(W:World)(hx:ImR W.heap g x) :
 CA 94 [pT g,iV ref] W fun v w'=>∃ o c,v=.tuple #[.slice o (fB x ref).1.length c,iV (fB x ref).2]∧VwM 3 bH w'.heap o c (fB x ref).1∧aA nob W w':=by
 refine cS 23 [(0,_),(1,_)] Tryz.func94 ?_;refine cA 10 Fo (lV g x ref W hx) ?_;rintro _ w1 ⟨hf1,q,e,rfl,hk⟩;refine Gz 3 ?_;refine VJ pE rfl ?_;intro w2 hg2 hs2 hf2;obtain⟨y,ey⟩:∃ y,y=w1.heap.size:=⟨_,rfl⟩
 rw[←ey] at hg2 ⊢;refine sA rfl aM (by exact bI _) hg2 ?_;intro w3 hg3 hs3 hf3;have hf13:aA nob w1 w3:=hf2.tw hf3;have hF3:aA nob W w3:=hf1.trans hf13;refine fK 7 ?_ ?_<;>intro h15
 ·obtain⟨hkn,rfl,rfl⟩:=hk.resolve_right (fun h=>h15 h.2.1);have hli:fB x ref=([],1):=by unfold fB;rw[hkn]
  refine Gz 13 ?_;rw[hli];exact⟨_,rfl,none,0,rfl,YS 0 (Nat.zero_le _),hF3⟩
 obtain⟨hkn,rfl,⟨E,hqv⟩,hrok⟩:=hk.resolve_left (fun h=>by have h:=h.2.2;omega);have hql:=hqv.1.1;have hqv3:=hqv.1.2.1.Y7 hf13;refine Gz 10 ?_;refine cL (VH aE rfl (aD (i:=2) hg3 rfl)) ?_;refine fK 0 ?_ ?_<;>intro h20
 ·have hli:fB x ref=([],24):=by unfold fB;rw[hkn];exact if_pos h20
  refine Gz 12 ?_;rw[hli];exact⟨_,rfl,none,0,rfl,YS 0 (Nat.zero_le _),hF3⟩
 have hli:fB x ref=(q.1.1.list,0):=by unfold fB;rw[hkn];exact if_neg h20
 refine Gz 15 ?_;rw[hli];exact⟨_,rfl,q.2.1.a,q.2.1.c,by rw[←hql];rfl,hqv3,hF3⟩
theorem LK(g:Nat)(x:Img)(ref:Int)(W:World)(hx:ImR W.heap g x) :
 CA 95 [pT g,iV ref] W fun v w'=>v=.tuple #[.string (bs (rQ x ref).1),iV (rQ x ref).2]∧aA nob W w':=by
 refine cS 25 [(0,_),(1,_)] Tryz.func95 ?_;refine cA 10 Fo (lV g x ref W hx) ?_;rintro _ w1 ⟨hf1,q,e,rfl,hk⟩;refine Gz 3 ?_;refine VJ pE rfl ?_;intro w2 hg2 hs2 hf2;obtain⟨y,ey⟩:∃ y,y=w1.heap.size:=⟨_,rfl⟩
 rw[←ey] at hg2 ⊢;refine sA rfl aM (by exact bI _) hg2 ?_;intro w3 hg3 hs3 hf3;have hf13:aA nob w1 w3:=hf2.tw hf3;have hF3:aA nob W w3:=hf1.trans hf13;refine fK 7 ?_ ?_<;>intro h15
 ·obtain⟨hkn,rfl,rfl⟩:=hk.resolve_right (fun h=>h15 h.2.1);have hli:rQ x ref=([],1):=by unfold rQ;rw[hkn]
  refine Gz 18 ?_;rw[hli];exact⟨_,rfl,rfl,hF3⟩
 obtain⟨hkn,rfl,⟨E,hqv⟩,hrok⟩:=hk.resolve_left (fun h=>by have h:=h.2.2;omega);refine Gz 3 ?_;refine cW (VH aE rfl (aD (i:=2) hg3 rfl)) ?_;refine fW 0 ?_ ?_<;>intro h20
 ·have hli:rQ x ref=([],1):=by unfold rQ;rw[hkn];exact if_pos h20
  refine Gz 13 ?_;rw[hli];exact⟨_,rfl,rfl,hF3⟩
 have hli:rQ x ref=(q.1.1.ino.2,0):=by unfold rQ;rw[hkn];exact if_neg h20
 refine Gz 10 ?_;refine cL (VH gC rfl (aD (i:=12) hg3 rfl)) ?_;refine Gz 6 ?_;rw[hli];exact⟨_,rfl,rfl,hF3⟩
theorem LJ(g:Nat)(x:Img)(ref:Int)(W:World)(hx:ImR W.heap g x) :
 CA 96 [pT g,iV ref] W fun v w'=>∃ o c,v=.tuple #[.slice o (pK x ref).1.length c,iV (pK x ref).2]∧(∃ E,XsV E w'.heap ⟨o,(pK x ref).1.length,c⟩ (pK x ref).1)∧aA nob W w':=by
 refine cS 17 [(0,_),(1,_)] Tryz.func96 ?_;refine cA 10 Fo (lV g x ref W hx) ?_;rintro _ w1 ⟨hf1,q,e,rfl,hk⟩;refine Gz 3 ?_;refine VJ pE rfl ?_;intro w2 hg2 hs2 hf2;obtain⟨y,ey⟩:∃ y,y=w1.heap.size:=⟨_,rfl⟩
 rw[←ey] at hg2 ⊢;refine sA rfl aM (by exact bI _) hg2 ?_;intro w3 hg3 hs3 hf3;have hf13:aA nob w1 w3:=hf2.tw hf3;have hF3:aA nob W w3:=hf1.trans hf13;refine Gz 14 ?_;rcases hk with⟨hkn,rfl,rfl⟩|⟨hkn,rfl,⟨E,hqv⟩,hrok⟩
 · have hli:pK x ref=([],1):=by unfold pK;rw[hkn]
   rw[hli];exact⟨_,rfl,none,0,rfl,⟨fun _=>True,XsV.zero⟩,hF3⟩
 · have hli:pK x ref=(q.1.1.xs,0):=by unfold pK;rw[hkn]
   rw[hli];obtain⟨⟨ref0,nm⟩,hl,⟨xa,xn,xc⟩⟩:=q;have hql:=hqv.2.1;have hql:xn=ref0.xs.length:=hql;subst hql;exact⟨_,rfl,xa,xc,rfl,⟨E,hqv.2.Y8 hf13 (fun _ _=>id)⟩,hF3⟩
theorem Jv(g:Nat)(x:Img)(ref:Int)(s:By)(W:World)(hx:ImR W.heap g x) :
 CA 99 [pT g,iV ref,.string (bs s)] W fun v w'=>v=.tuple #[.agg (bH (mT x ref s).1).toArray,iV (mT x ref s).2]∧aA nob W w':=by
 obtain⟨z,ez⟩:∃ z,z=W.heap.size:=⟨_,rfl⟩
 obtain⟨L,hL⟩:∃ L,L=fB x ref:=⟨_,rfl⟩
 refine cS 25 [(0,_),(1,_),(2,_)] Tryz.func99 ?_;refine Gz 2 ?_;refine VJ pJ rfl ?_;intro w1 hg1 hs1 hf1;have hg1:w1.heap[W.heap.size]?=some (.cells (bH mC).toArray 39 (0,0)):=hg1;rw[←ez] at hg1 ⊢;refine cA 7 Rn (B5 g x ref w1 (hx.Y7 hf1)) ?_;rw[←hL];rintro _ w2 ⟨o,c,rfl,ho,hf2⟩;have hg2:=hf2.obj hg1 id;have hF2:=hf1.trans hf2;refine fK 11 ?_ ?_<;>intro h17
 ·have hlk:mT x ref s=(mC,L.2):=by unfold mT;rw[←hL];exact if_pos h17
  refine Gz 5 ?_;refine cL (bU (bH mC) zX pJ) ?_;refine Gz 1 ?_;refine sA rfl dY (by exact fQ _) hg2 ?_;intro w9 hg9 hs9 hf9;have hFw:aA nob W w9:=hF2.tw hf9;refine Gz 5 ?_;refine rC hg9 dY ?_;exact⟨_,rfl,by rw[hlk],hFw⟩
 have hlk:mT x ref s=nY L.1 s:=by unfold mT;rw[←hL];exact if_neg h17
 refine cA 9 Sg (I9 o c L.1 s w2 ho) ?_;rintro _ w3 ⟨rfl,hf3⟩;have hg3:=hf3.obj hg2 id;have hF3:=hF2.trans hf3;refine Gz 2 ?_;refine sA rfl dY (by exact fQ _) hg3 ?_;intro w9 hg9 hs9 hf9;have hFw:aA nob W w9:=hF3.tw hf9;refine Gz 4 ?_;refine rC hg9 dY ?_;exact⟨_,rfl,by rw[hlk],hFw⟩
theorem ImR.ids{H:Array Obj}{g:Nat}{x:Img}(h:ImR H g x):∃ (bo po io:Option Addr) (bc pc ic n:Nat) (lv:Value),H[g]?=some (.cells (miC bo x.im.length bc x.F (.slice po x.places.length pc) (.slice io x.ids.length ic) lv n).toArray 134 (0,0))∧Vw b8 H bo bc x.im∧Vw i64 H po pc x.places∧Vw i64 H io ic x.ids∧fX x.F∧x.im.length≤1048576∧FV x:=by
 obtain⟨ow,n,hM,hp,hmq,hl8,hio,hnw⟩:=h;obtain⟨bo,bc,po,pc,io,ic,lo,lc,qs,hg,⟨v1,_⟩,⟨v2,_⟩,⟨v3,_⟩,_⟩:=hM;exact⟨bo,po,io,bc,pc,ic,n,_,hg,v1,v2,v3,hmq,hl8,hio⟩
theorem Ju(g:Nat)(x:Img)(ref:Int)(W:World)(hx:ImR W.heap g x) :
 CA 93 [pT g,iV ref] W fun v w'=>v=.tuple #[.agg (stC (mK x ref).1).toArray,iV (mK x ref).2]∧aA nob W w':=by
 obtain⟨z,ez⟩:∃ z,z=W.heap.size:=⟨_,rfl⟩
 refine cS 71 [(0,_),(1,_)] Tryz.func93 ?_;refine Gz 2 ?_;refine VJ A7 rfl ?_;intro w0 hg0 hs0 hf0;have hg0:w0.heap[W.heap.size]?=some (.cells (stC [0,0,0,0,0,0]).toArray 45 (0,0)):=hg0;rw[←ez] at hg0 ⊢;have hx0:=hx.Y7 hf0;refine cA 7 Fo (lV g x ref w0 hx0) ?_;rintro _ w1 ⟨hf1,q,e,rfl,hk⟩;refine Gz 3 ?_;refine VJ pE rfl ?_;intro w2 hg2 hs2 hf2;obtain⟨y,ey⟩:∃ y,y=w1.heap.size:=⟨_,rfl⟩
 rw[←ey] at hg2 ⊢;have hz01:=hf1.size;refine sA rfl aM (by exact bI _) hg2 ?_;intro w3 hg3 hs3 hf3;have hf13:aA nob w1 w3:=hf2.tw hf3;have hf03:=hf1.trans hf13;have hF3:aA nob W w3:=hf0.trans hf03;have hz3:=hf03.obj hg0 id;refine fK 7 ?_ ?_<;>intro h16
 ·obtain⟨hkn,rfl,rfl⟩:=hk.resolve_right (fun h=>h16 h.2.1);have hst:mK x ref=([0,0,0,0,0,0],1):=by unfold mK;rw[hkn]
  refine Gz 5 ?_;refine cL (bU (stC [0,0,0,0,0,0]) HG A7) ?_;refine Gz 1 ?_;refine sA rfl eJ (by exact iD _) hz3 ?_;intro w9 hg9 hs9 hf9;have hFw:aA nob W w9:=hF3.tw hf9;refine Gz 5 ?_;refine rC hg9 eJ ?_;exact⟨_,rfl,by rw[hst],hFw⟩
 obtain⟨hkn,rfl,⟨E,hqv⟩,hrok⟩:=hk.resolve_left (fun h=>by have h:=h.2.2;omega);have hst:mK x ref=(stM x q.1.1,0):=by unfold mK;rw[hkn]
 have hql:=hqv.1.1;obtain⟨hmay,hu1,hu2,_⟩:=hrok;have hma:=hmay.1;unfold bE at hma;obtain⟨bo,po,io,bc,pc,ic,n,lv,hgc,v1,v2,v3,hmq,hl8,hio⟩:=(hx0.Y7 hf03).ids;refine Gz 6 ?_;refine VS 31 (fun H=>H[y]?=some (.cells (eL q).toArray 137 (0,0))∧H[g]?=some (.cells (miC bo x.im.length bc x.F (.slice po x.places.length pc) (.slice io x.ids.length ic) lv n).toArray 134 (0,0))∧Vw i64 H io ic x.ids) [29,30] [0,1,2,3,4,5,6,7,8,9,10,11,12,13,14,15,16,17,18,19,20,21,22,23,24,25,26,27,28,29,30] aK (by kernel_rfl) (⟨hg3,hgc,v3⟩) ?_;refine Gz 2 ?_;refine xC rfl (VP aE rfl (fun H hH=>aD (i:=2) hH.1 rfl)) ?_;refine Gz 2 ?_;refine xC rfl (VP aE rfl (fun H hH=>aD (i:=3) hH.1 rfl)) ?_;refine Gz 6 ?_;refine xC rfl (VP aE rfl (fun H hH=>aD (i:=4) hH.1 rfl)) ?_;refine xC rfl (VF bO rfl rfl v3.non (by omega)) ?_;refine xC rfl (VP aE rfl (fun H hH=>hH.2.2.gz 0 (q.1.1.ino.1 2).toNat (by omega) (by omega))) ?_;refine Gz 6 ?_;refine xC rfl (VP aE rfl (fun H hH=>aD (i:=5) hH.1 rfl)) ?_;refine xC rfl (VF bO rfl rfl v3.non (by omega)) ?_;refine xC rfl (VP aE rfl (fun H hH=>hH.2.2.gz 0 (q.1.1.ino.1 3).toNat (by omega) (by omega))) ?_;refine xC rfl (bU (stC [q.1.1.ino.1 1,x.ids.getD (q.1.1.ino.1 2).toNat 0,x.ids.getD (q.1.1.ino.1 3).toNat 0]) Pg PN) ?_;refine Gz 2 ?_;refine xC rfl (VP aE rfl (fun H hH=>aD (i:=6) hH.1 rfl)) ?_;refine xC rfl (bU (stC [q.1.1.ino.1 0,q.1.1.ino.1 1,x.ids.getD (q.1.1.ino.1 2).toNat 0,x.ids.getD (q.1.1.ino.1 3).toNat 0,q.1.1.ino.1 4,0]) HG A7) ?_;refine VL rfl rfl (VJ A7 rfl ?_);intro w4 hg4 hs4 hf4;have hf4:=hf4.Y5;refine VQ (by exact⟨hf4.obj hg3 id,hf4.obj hgc id,v3.Y7 hf4⟩) ?_;refine VL rfl rfl (Wf (vs:=stC [q.1.1.ino.1 0,q.1.1.ino.1 1,x.ids.getD (q.1.1.ino.1 2).toNat 0,x.ids.getD (q.1.1.ino.1 3).toNat 0,q.1.1.ino.1 4,0]) eJ rfl rfl (by exact iD _) hg4 rfl ?_);intro w5 hg5 hs5 hf5;obtain⟨p,ep⟩:∃ y,y=w3.heap.size:=⟨_,rfl⟩
 have hf5:aA (· = w3.heap.size) w4 w5:=hf5;have hg5:w5.heap[w3.heap.size]?=some (.cells (stC [q.1.1.ino.1 0,q.1.1.ino.1 1,x.ids.getD (q.1.1.ino.1 2).toNat 0,x.ids.getD (q.1.1.ino.1 3).toNat 0,q.1.1.ino.1 4,0]).toArray 45 (0,0)):=hg5;rw[show (w3.drewN 1).heap.size=p from ep.symm];rw[←ep] at hg5 hf5;have hf35:aA nob w3 w5:=hf4.tw hf5;refine VQ (by exact⟨hf35.obj hg3 id,hf35.obj hgc id,v3.Y7 hf35⟩) ?_;have hy5:=hf35.obj hg3 id;have hz5:=hf35.obj hz3 id;have hzp:¬ z=p:=by omega
 have hF5:=hF3.trans hf35;refine Gz 7 ?_;refine cL (VH aE rfl (aD (i:=2) hy5 rfl)) ?_;refine fK 5 ?_ ?_<;>intro h52
 ·have hsz:vN q.1.1=q.1.1.ino.1 7:=by unfold vN;rw[if_neg (by omega),if_neg (by omega)]
  refine Gz 7 ?_;refine cL (VH aE rfl (aD (i:=9) hy5 rfl)) ?_;refine Gz 1 ?_;refine VI aE rfl rfl rfl hg5 rfl ?_;intro w6 hg6 hs6 hf6;have hg6:w6.heap[p]?=some (.cells (stC (stM x q.1.1)).toArray 45 (0,0)):=by unfold stM;rw[hsz];exact hg6
  have hF6:aA nob W w6:=hF5.tw hf6;have hz6:=hf6.obj hz5 hzp;refine Gz 5 ?_;refine cL (VR (cs:=stC (stM x q.1.1)) eJ rfl (aX hg6 0 rfl)) ?_;refine sA rfl eJ (by exact iD _) hz6 ?_;intro w9 hg9 hs9 hf9;have hFw:aA nob W w9:=hF6.tw hf9;refine Gz 4 ?_;refine rC hg9 eJ ?_;exact⟨_,rfl,by rw[hst],hFw⟩
 refine fK 6 ?_ ?_<;>intro h58
 ·have hsz:vN q.1.1=q.2.1.n:=by unfold vN;rw[if_pos h58,hql]
  refine Gz 9 ?_;refine VI aE rfl rfl rfl hg5 rfl ?_;intro w6 hg6 hs6 hf6;have hg6:w6.heap[p]?=some (.cells (stC (stM x q.1.1)).toArray 45 (0,0)):=by unfold stM;rw[hsz];exact hg6
  have hF6:aA nob W w6:=hF5.tw hf6;have hz6:=hf6.obj hz5 hzp;refine Gz 5 ?_;refine cL (VR (cs:=stC (stM x q.1.1)) eJ rfl (aX hg6 0 rfl)) ?_;refine sA rfl eJ (by exact iD _) hz6 ?_;intro w9 hg9 hs9 hf9;have hFw:aA nob W w9:=hF6.tw hf9;refine Gz 4 ?_;refine rC hg9 eJ ?_;exact⟨_,rfl,by rw[hst],hFw⟩
 refine Gz 6 ?_;refine cL (WJ (WI rfl rfl) (by omega)) ?_;have hsz:vN q.1.1=q.1.1.ino.2.length:=by unfold vN;rw[if_neg h58,if_pos (by omega)]
 refine Gz 7 ?_;refine cL (VH gC rfl (aD (i:=12) hy5 rfl)) ?_;refine cL (V7 ty9 rfl) ?_;refine Gz 1 ?_;refine VI aE rfl rfl rfl hg5 rfl ?_;intro w6 hg6 hs6 hf6;have hg6:w6.heap[p]?=some (.cells (stC (stM x q.1.1)).toArray 45 (0,0)):=by unfold stM;rw[hsz];exact hg6
 have hF6:aA nob W w6:=hF5.tw hf6;have hz6:=hf6.obj hz5 hzp;refine Gz 5 ?_;refine cL (VR (cs:=stC (stM x q.1.1)) eJ rfl (aX hg6 0 rfl)) ?_;refine sA rfl eJ (by exact iD _) hz6 ?_;intro w9 hg9 hs9 hf9;have hFw:aA nob W w9:=hF6.tw hf9;refine Gz 4 ?_;refine rC hg9 eJ ?_;exact⟨_,rfl,by rw[hst],hFw⟩
theorem Jw(g:Nat)(x:Img)(ref off n:Int)(W:World)(hx:ImR W.heap g x)(hob : -9223372036854775808≤off∧off≤9223372036854775807)(hnb : -9223372036854775808≤n∧n≤9223372036854775807) :
 CA 100 [pT g,iV ref,iV off,iV n] W (wQ W (jL x ref off n)):=by
 refine cS 122 [(0,_),(1,_),(2,_),(3,_)] Tryz.func100 ?_;refine cA 10 Fo (lV g x ref W hx) ?_;rintro _ w1 ⟨hf1,q,e,rfl,hk⟩;refine Gz 3 ?_;refine VJ pE rfl ?_;intro w2 hg2 hs2 hf2;obtain⟨y,ey⟩:∃ y,y=w1.heap.size:=⟨_,rfl⟩
 rw[←ey] at hg2 ⊢;refine sA rfl aM (by exact bI _) hg2 ?_;intro w3 hg3 hs3 hf3;have hf13:aA nob w1 w3:=hf2.tw hf3;have hF3:aA nob W w3:=hf1.trans hf13;refine fK 7 ?_ ?_<;>intro h25
 ·obtain⟨hkn,rfl,rfl⟩:=hk.resolve_right (fun h=>h25 h.2.1);have hli:jL x ref off n=([],1):=by unfold jL;rw[hkn]
  refine Gz 13 ?_;rw[hli];exact⟨_,rfl,none,0,rfl,YP,YN,hF3⟩
 obtain⟨hkn,rfl,⟨E,hqv⟩,hrok⟩:=hk.resolve_left (fun h=>by have h:=h.2.2;omega);obtain⟨r,er⟩:∃ r,r=q.1.1:=⟨_,rfl⟩
 have hma:=hrok.1.1;rw[←er] at hma hkn;unfold bE at hma;obtain⟨bo,po,io,bc,pc,ic,nn,lv,hgc,v1,v2,v3,hmq,hl8,hio⟩:=(hx.Y7 hF3).ids;have hrd:jL x ref off n=if r.ino.1 0=1 then ([],25) else if r.ino.1 0=3∨off<0∨n<0 then ([],1) else if r.ino.1 7≤off then ([],0) else Bd x r off (if r.ino.1 7-off<n then r.ino.1 7-off else n):=by unfold jL;rw[hkn]
 have hgC:∀ i v,([iV (r.ino.1 0),iV (r.ino.1 1),iV (r.ino.1 2),iV (r.ino.1 3),iV (r.ino.1 4),iV (r.ino.1 5),iV (r.ino.1 6),iV (r.ino.1 7),iV (r.ino.1 8),iV (r.ino.1 9)]:List Value)[i]?=some v→(eL q)[i+2]?=some v:=fun i v hv=>by
  rw[er] at hv
  match i,hv with
 |0,h=>exact h
 |1,h=>exact h
 |2,h=>exact h
 |3,h=>exact h
 |4,h=>exact h
 |5,h=>exact h
 |6,h=>exact h
 |7,h=>exact h
 |8,h=>exact h
 |9,h=>exact h
 |i+10,h=>cases h
 refine Gz 10 ?_;refine cL (VH aE rfl (aD (i:=2) hg3 (hgC 0 _ rfl))) ?_;refine fK 0 ?_ ?_<;>intro h30
 ·have hli:jL x ref off n=([],25):=by rw[hrd,if_pos h30]
  refine Gz 12 ?_;rw[hli];exact⟨_,rfl,none,0,rfl,YP,YN,hF3⟩
 rw[if_neg h30] at hrd;refine Gz 10 ?_;refine cL (VH aE rfl (aD (i:=2) hg3 (hgC 0 _ rfl))) ?_;refine fK 0 ?_ ?_<;>intro h34
 ·have hli:jL x ref off n=([],1):=by rw[hrd,if_pos (.inl h34)]
  refine Gz 20 ?_;rw[hli];exact⟨_,rfl,none,0,rfl,YP,YN,hF3⟩
 refine fW 2 ?_ ?_<;>intro h37
 ·have hli:jL x ref off n=([],1):=by rw[hrd,if_pos (.inr (.inl h37))]
  refine Gz 17 ?_;rw[hli];exact⟨_,rfl,none,0,rfl,YP,YN,hF3⟩
 refine fW 3 ?_ ?_<;>intro h41
 ·have hli:jL x ref off n=([],1):=by rw[hrd,if_pos (.inr (.inr h41))]
  refine Gz 13 ?_;rw[hli];exact⟨_,rfl,none,0,rfl,YP,YN,hF3⟩
 rw[if_neg (by rintro(h|h|h);exact h34 h;exact h37 h;exact h41 h)] at hrd;refine Gz 12 ?_;refine cL (VH aE rfl (aD (i:=9) hg3 (hgC 7 _ rfl))) ?_;refine fK 0 ?_ ?_<;>intro h47
 ·have hli:jL x ref off n=([],0):=by rw[hrd,if_pos h47]
  refine Gz 12 ?_;rw[hli];exact⟨_,rfl,none,0,rfl,YP,YN,hF3⟩
 rw[if_neg h47] at hrd;obtain⟨m,hm⟩:∃ m,m=(if r.ino.1 7-off<n then r.ino.1 7-off else n):=⟨_,rfl⟩
 have hmb:0≤m∧m≤4096∧off+m≤r.ino.1 7:=by rw[hm];split<;>omega
 rw[←hm] at hrd;obtain⟨D,hD⟩:∃ D,D=gM x.im (r.ino.1 6) (r.ino.1 7) off m:=⟨_,rfl⟩
 have hDl:=BR x.im (r.ino.1 6) (r.ino.1 7) off m hmb.1;rw[←hD] at hDl;unfold Bd at hrd;rw[←hD] at hrd;refine Gz 10 ?_;refine cL (VH aE rfl (aD (i:=9) hg3 (hgC 7 _ rfl))) ?_;refine Gz 2 ?_;refine cL (VK (u:=iV m) (WB rfl rfl) (by rw[hm])) ?_;refine Gz 7 ?_;refine cL (VH aE rfl (aD (i:=9) hg3 (hgC 7 _ rfl))) ?_;refine cL (Ws rfl rfl (by omega) (by decide)) ?_;refine cL (V8 rfl rfl (by omega)) ?_;refine Gz 5 ?_;refine VZ b8 aF rfl ?_;intro w4 ho4 hs4 hf4;obtain⟨a4,ea⟩:∃ a,a=w3.heap.size:=⟨_,rfl⟩
 rw[←ea] at ho4 ⊢;have hy4:=hf4.obj hg3 id;have hgc4:=hf4.obj hgc id;refine Gz 3 ?_;refine V6 (β:=Option Addr×Nat) (fun⟨oo,oc⟩=>[(0,pT g),(2,iV off),(3,iV m),(10,pT y),(12,iV (r.ino.1 7/128*128)),(13,.slice oo D.1.length oc)]) (fun⟨oo,oc⟩ w=>Own b8 5 w.heap oo oc D.1∧Fr w3.heap.size oo∧D.2=0∧aA nob w3 w) ?_ ?_
 ·refine fK 4 ?_ ?_<;>intro h63
  ·refine Gz 4 ?_;refine VS 18 (fun H=>H[y]?=some (.cells (eL q).toArray 137 (0,0))∧H[g]?=some (.cells (miC bo x.im.length bc x.F (.slice po x.places.length pc) (.slice io x.ids.length ic) lv nn).toArray 134 (0,0))) [12] [0,1,2,3,4,5,6,7,8,9,10,11,12,13,14,15,16,17] aK (by kernel_rfl) (⟨hy4,hgc4⟩) ?_;refine Gz 6 ?_;refine xC rfl (VP aE rfl (fun H hH=>aD (i:=8) hH.1 (hgC 6 _ rfl))) ?_;refine Gz 2 ?_;refine xC rfl (VP aE rfl (fun H hH=>aD (i:=9) hH.1 (hgC 7 _ rfl))) ?_;refine Gz 2 ?_;refine VL rfl rfl (VE Sf rfl (I8 bo bc x.im (r.ino.1 6) (r.ino.1 7) off m (w4.drewN 1) ((v1.Y7 hf4).Y7 (YJ 1)) (by omega) (by omega) (by omega) (by omega)) rfl ?_);rw[←hD];rintro _ w5 ⟨o5,c5,rfl,ho5,hfr5,hf5⟩;have hf5:=hf5.Y5;refine VQ (by exact⟨hf5.obj hy4 id,hf5.obj hgc4 id⟩) ?_;have hD63:=ho5.vw.Y6;refine fK 11 ?_ ?_<;>intro h81
   ·have hli:jL x ref off n=([],35):=by rw[hrd,if_pos h81]
    refine Gz 13 ?_;rw[hli];exact⟨_,rfl,none,0,rfl,YP,YN,(hF3.trans hf4).trans hf5⟩
   have hD0:D.2=0:=Decidable.not_not.1 h81;refine Gz 8 ?_;refine VN aP aF rfl rfl (ho4.Y7 hf5) ho5.vw (by simp only[length_nil];omega) (by simp only[length_nil];unfold maxLen;omega) rfl ?_;intro o6 c6 w6 ho6 hf6 hr6 hn6;have ho6:Own b8 5 w6.heap o6 c6 D.1:=ho6;have hf46:aA (· = a4) w4 w6:=hf5.any.trans (hf6.mono (fun k hk=>by obtain⟨a,ha,e⟩:=hk;cases ha;exact e.symm));have hf36:aA nob w3 w6:=hf4.tw hf46;refine Gz 2 ?_;exact aC ⟨o6,c6⟩ ⟨ho6,(fun a ha=>(hr6 a ha).elim (fun h=>by cases h;show w3.heap.size≤a4;omega) (fun h=>by have h1:=hf5.size;omega)),hD0,hf36⟩
  have hDn:D=([],0):=by
   obtain⟨S,hS⟩:=Int.eq_ofNat_of_zero_le (show 0≤r.ino.1 7 by omega);obtain⟨O,hO⟩:=Int.eq_ofNat_of_zero_le (show 0≤off by omega);obtain⟨M,hM⟩:=Int.eq_ofNat_of_zero_le hmb.1;rw[hD,hS,hO,hM];exact nS (by omega) (by omega)
  refine Gz 4 ?_;have hD0l:D.1.length=0:=by rw[hDn];rfl
  exact Wm ⟨some ⟨a4,0,none⟩,0⟩ ⟨rfl,rfl,rfl,rfl,rfl,by rw[hD0l];rfl,trivial⟩ ⟨by rw[hDn];exact ho4,(fun a ha=>by cases ha;show w3.heap.size≤a4;omega),by rw[hDn],hf4⟩
 rintro⟨oo,oc⟩ w7 ⟨ho7,hfr7,hD0,hF7⟩;have hy7:=hF7.obj hg3 id;have hgc7:=hF7.obj hgc id;refine fK 6 ?_ ?_<;>intro h88
 ·have hli0:¬ (D.1.length:Int)=m:=by omega
  rw[if_neg (show ¬ D.2≠0 from fun h=>h hD0),if_neg hli0] at hrd;refine Gz 4 ?_;refine VS 29 (fun H=>H[y]?=some (.cells (eL q).toArray 137 (0,0))∧H[g]?=some (.cells (miC bo x.im.length bc x.F (.slice po x.places.length pc) (.slice io x.ids.length ic) lv nn).toArray 134 (0,0))) [23] [0,1,2,3,4,5,6,7,8,9,10,11,12,13,14,15,16,17,18,19,20,21,22,23,24,25,26,27,28] aK (by kernel_rfl) (⟨hy7,hgc7⟩) ?_;refine Gz 10 ?_;refine xC rfl (VP aE rfl (fun H hH=>aD (i:=10) hH.1 (hgC 8 _ rfl))) ?_;refine Gz 2 ?_;refine xC rfl (VP aE rfl (fun H hH=>aD (i:=11) hH.1 (hgC 9 _ rfl))) ?_;refine Gz 3 ?_;obtain⟨mx,hmx⟩:∃ mx,mx=(if off-r.ino.1 7/128*128<0 then 0 else off-r.ino.1 7/128*128):=⟨_,rfl⟩
  rw[←hmx] at hrd;refine xC rfl (VK (u:=iV mx) (W4 rfl rfl) (by rw[hmx])) ?_;refine Gz 5 ?_;refine VL rfl rfl (VE Se rfl (I1 bo bc x.im po pc x.places (r.ino.1 8) (r.ino.1 9+mx) (m-D.1.length) (w7.drewN 1) ((v1.Y7 hF7).Y7 (YJ 1)) (by omega) ((v2.Y7 hF7).Y7 (YJ 1)) (fun z hz=>by have:=hio.2.1 z hz;unfold bd;omega) (by unfold bd;omega) (by unfold bd;omega) (by unfold bd;omega)) rfl ?_);obtain⟨T,hT⟩:∃ T,T=dU x.im x.places (r.ino.1 8) (r.ino.1 9+mx) (m-D.1.length):=⟨_,rfl⟩
  rw[←hT] at hrd ⊢;rintro _ w8 ⟨o8,c8,rfl,ho8,hfr8,hf8⟩;have hf8:=hf8.Y5;refine VQ (by exact⟨hf8.obj hy7 id,hf8.obj hgc7 id⟩) ?_;have hT63:=Ck x.im x.places (r.ino.1 8) (r.ino.1 9+mx) (m-D.1.length);rw[←hT] at hT63;refine fK 11 ?_ ?_<;>intro h117
  ·have hli:jL x ref off n=([],35):=by rw[hrd,if_pos h117]
   refine Gz 13 ?_;rw[hli];exact⟨_,rfl,none,0,rfl,YP,YN,(hF3.trans hF7).trans hf8⟩
  have hli:jL x ref off n=(D.1++T.1,0):=by rw[hrd,if_neg h117]
  refine Gz 8 ?_;refine VN aP aF rfl rfl (ho7.Y7 hf8) ho8.vw (by omega) (by unfold maxLen;omega) rfl ?_;intro o9 c9 w9 ho9 hf9 hr9 hn9;refine Gz 12 ?_;rw[hli];have hF3s:=hF3.size;exact⟨_,rfl,o9,c9,rfl,ho9,(aR hfr7 hr9 (hF7.trans hf8).size).mono hF3s,hF3.trans ((hF7.trans hf8).Y4 hf9 hfr7.step)⟩
 have hli:jL x ref off n=(D.1,0):=by rw[hrd,if_neg (show ¬ D.2≠0 from fun h=>h hD0),if_pos (show (D.1.length:Int)=m by omega)]
 refine Gz 14 ?_;rw[hli];have hF3s:=hF3.size;exact⟨_,rfl,oo,oc,rfl,ho7,hfr7.mono hF3s,hF3.trans hF7⟩
theorem KU{P:Program}{t e:TypeId}(m:Nat)(h:IK P t e=true)(he:P.underlying e=some (.int .i64))(hs:P.stoodInHeld t=false)(w:World)(a b c:Int) :
 (Op.equalIn (m+2) t (.agg #[iV a,iV b,iV c]) (.agg #[iV a,iV b,iV c])).run P w=.ok true w:=by
 unfold IK at h
 split at h
 · rename_i fs hu
   split at h
   · rename_i f0 f1 f2 hl
     simp only[Bool.and_eq_true,decide_eq_true_eq] at h;obtain⟨⟨⟨t0,o0,n0⟩,⟨t1,o1,n1⟩⟩,⟨t2,o2,n2⟩⟩:=h;have hf:P.fieldsOf t=fs:=by unfold Program.fieldsOf;rw[hu]
     rw[run_equalIn_struct w (m+1) t _ _ (by rw[hf];exact hu) hs,hf,hl];have hp:∀ (cs:Array Value) (o:Nat) (v:Value),cs[o]?=some v→(part e cs o).run P w=.ok v w:=fun cs o v hv=>by
      simp[part,isAgg,run_underlying he,hv]
     have hq:∀ (x y:Int),(Op.equalIn (m+1) e (iV x) (iV y)).run P w=.ok (x == y) w:=fun x y=>run_equalIn_int w m e .i64 .i64 x y he;have p0:=hp #[iV a,iV b,iV c] 0 (iV a) rfl;have p1:=hp #[iV a,iV b,iV c] 1 (iV b) rfl;have p2:=hp #[iV a,iV b,iV c] 2 (iV c) rfl;simp[Op.eqFields,n0,n1,n2,t0,o0,t1,o1,t2,o2,Sem.run_bind,p0,p1,p2,hq,Result.andThen_ok]
   ·cases h
 ·cases h
theorem NE(a b c d e f:Int)(w:World):(part 3 (stC [a,b,c,d,e,f]).toArray 0).run Tryz.prog w=.ok (iV a) w:=by kernel_rfl
theorem ND(a b c d e f:Int)(w:World):(part 43 (stC [a,b,c,d,e,f]).toArray 1).run Tryz.prog w=.ok (.agg #[iV b,iV c,iV d]) w:=by kernel_rfl
theorem NC(a b c d e f:Int)(w:World):(part 3 (stC [a,b,c,d,e,f]).toArray 4).run Tryz.prog w=.ok (iV e) w:=by kernel_rfl
theorem NB(a b c d e f:Int)(w:World):(part 3 (stC [a,b,c,d,e,f]).toArray 5).run Tryz.prog w=.ok (iV f) w:=by kernel_rfl
theorem NG(a b c d e f:Int)(w:World):(Op.equalIn 10000 45 (.agg (stC [a,b,c,d,e,f]).toArray) (.agg (stC [a,b,c,d,e,f]).toArray)).run Tryz.prog w=.ok true w:=by
 have h0:=run_equalIn_struct (P:=Tryz.prog) w 9999 45 (stC [a,b,c,d,e,f]).toArray (stC [a,b,c,d,e,f]).toArray (by kernel_rfl) (by kernel_rfl);refine h0.trans ?_;unfold Program.fieldsOf;rw[Tryz.underlying45];have hq:∀ (x:Int),(Op.equalIn 9999 3 (iV x) (iV x)).run Tryz.prog w=.ok (x == x) w:=fun x=>run_equalIn_int w 9998 3 .i64 .i64 x x PV;have h3:=KU (P:=Tryz.prog) 9997 stA PV QZ w b c d;have g0:=NE a b c d e f w;have g1:=ND a b c d e f w;have g4:=NC a b c d e f w;have g5:=NB a b c d e f w;simp[Op.eqFields,Sem.run_bind,g0,g1,g4,g5,hq,h3,Result.andThen_ok]
section
variable {N:Nt}{l:SF}{ty:TypeId}{pos:String}{aft:Array Edge}{CH:Array Obj→Prop}{x y:Operand}{t':TypeId}{g:Option (Nat×Bool)}{dd:Option Nat}
theorem XN{L:List Int}(hL:L.length=6)(hx:evL l x=some (.agg (stC L).toArray))(hy:evL l y=some (.agg (stC L).toArray)):Cm Tryz.prog N CH l ⟨dd,.binOp .neq 45 x y t',ty,pos,aft,g⟩ (.bool false):=fun k w ha _=>by
 match L,hL with
|[a,b,c,d,e,f],_=>
   have h1:=run_eqGuard_agg (P:=Tryz.prog) w .neq 45 x y (stC [a,b,c,d,e,f]).toArray (stC [a,b,c,d,e,f]).toArray (by kernel_rfl);have h2:=run_neq_struct (P:=Tryz.prog) w 45 (stC [a,b,c,d,e,f]).toArray (stC [a,b,c,d,e,f]).toArray;rw[NG] at h2;simp only[execOp,ha.ev hx,ha.ev hy,Sem.run_bind,h1,Result.andThen_ok,h2];simp
end
theorem IJ(x:Img)(ref:Int):∃ a b c d e f,(mK x ref).1=[a,b,c,d,e,f]:=by unfold mK;split<;>exact⟨_,_,_,_,_,_,rfl⟩
theorem Gq(ao bo:Option Addr)(ac bc:Nat)(a:List Ent)(W:World)(ha:VwM 3 bH W.heap ao ac a)(hb:VwM 3 bH W.heap bo bc a) :
 CA 97 [.slice ao a.length ac,.slice bo a.length bc] W fun v w'=>v=.bool true∧aA nob W w':=by
 have h:=I7 ao bo ac bc a a W ha hb;rwa[decide_eq_true rfl] at h
theorem Ae{X:List Xa}(h:eY X):∀ x∈X,x.1.length≤255:=fun x hx=>by
 obtain⟨i,hi⟩:=List.getElem?_of_mem hx;have:=(h.1 i (List.getElem?_eq_some_iff.1 hi).1).2.1;rw[show X.getD i x0=x by rw[List.getD,hi];rfl] at this;omega
theorem EO(g y:Nat)(x:Img)(ref:Int)(lo:Option Addr)(lc:Nat)(L:List Ent)(W:World)(hx:ImV W.heap g x)(hy:ImR W.heap y x)(hl:VwM 3 bH W.heap lo lc L)(href : -9223372036854775808≤ref∧ref≤9223372036854775807)
 (hL:∀ q∈L,(-9223372036854775808≤q.2.1∧q.2.1≤9223372036854775807)∧(-9223372036854775808≤q.2.2∧q.2.2≤9223372036854775807)) :
 CA 51 [pT g,pT y,iV ref,.slice lo L.length lc] W fun v w'=>v=.bool true∧aA nob W w':=by
 obtain⟨p0,p1,p2,p3,p4,p5,hst⟩:=IJ x ref;refine cS 210 [(0,_),(1,_),(2,_),(3,_)] Tryz.func51 ?_;refine cA 9 Vt (Jy g x ref W hx href) ?_;rw[hst];rintro _ w1 ⟨rfl,hf1⟩;refine Gz 3 ?_;refine VJ A7 rfl ?_;intro w2 hg2 hs2 hf2;obtain⟨a,ea⟩:∃ a,a=w1.heap.size:=⟨_,rfl⟩
 rw[←ea] at hg2 ⊢;refine sA rfl eJ (by exact iD _) hg2 ?_;intro w3 hg3 hs3 hf3;have hF3:aA nob W w3:=(hf1.trans hf2).Y4 hf3 (fun k hk=>.inr (by have h:k=a:=hk;have:=hf1.size;omega));refine cA 7 UO (Ju y x ref w3 (hy.Y7 hF3)) ?_;rw[hst];rintro _ w4 ⟨rfl,hf4⟩;refine Gz 3 ?_;refine VJ A7 rfl ?_;intro w5 hg5 hs5 hf5;obtain⟨b,eb⟩:∃ a,a=w4.heap.size:=⟨_,rfl⟩
 rw[←eb] at hg5 ⊢;refine sA rfl eJ (by exact iD _) hg5 ?_;intro w6 hg6 hs6 hf6;have hf36:aA nob w3 w6:=(hf4.trans hf5).Y4 hf6 (fun k hk=>.inr (by have h:k=b:=hk;have:=hf4.size;omega));have hF6:=hF3.trans hf36;have ha6:=hf36.obj hg3 id;refine cA 7 QA (vZ g x ref w6 (hx.Y7 hF6) href) ?_;rintro _ w7 ⟨⟨o1,c1,rfl,ho1,hfr1,hf7⟩,hch,hll⟩;have hF7:=hF6.trans hf7;refine cA 11 Rn (B5 y x ref w7 (hy.Y7 hF7)) ?_;rintro _ w8 ⟨o2,c2,rfl,hv2,hf8⟩;have hF8:=hF7.trans hf8;refine cA 11 Vd (LQ g x ref w8 (hx.Y7 hF8) href) ?_;rintro _ w9 ⟨rfl,hf9⟩;have hF9:=hF8.trans hf9;refine cA 11 UN (LK y x ref w9 (hy.Y7 hF9)) ?_;rintro _ w10 ⟨rfl,hf10⟩;have hF10:=hF9.trans hf10;refine cA 11 Vf (LP g x ref w10 (hx.Y7 hF10) href) ?_;rintro _ w11 ⟨o3,c3,rfl,hX3,hmx,hf11⟩;have hF11:=hF10.trans hf11;refine cA 11 UM (LJ y x ref w11 (hy.Y7 hF11)) ?_;rintro _ w12 ⟨o4,c4,rfl,⟨E,hX4⟩,hf12⟩;refine cA 11 UL (Gq o1 o2 c1 c2 (fB x ref).1 w12 ((ho1.vw aU).Y7 ((((hf8.trans hf9).trans hf10).trans hf11).trans hf12)) (hv2.Y7 (((hf9.trans hf10).trans hf11).trans hf12))) ?_;rintro _ w13 ⟨rfl,hf13⟩;refine cA 7 Rm (KP (pK x ref).1 o3 o4 c3 c4 w13 ((hX3.xa (Ae hmx)).Y7 (hf12.trans hf13)) ((hX4.xa (Ae hmx)).Y7 hf13)) ?_;rintro _ w14 ⟨rfl,hf14⟩;have hf614:aA nob w6 w14:=((((((hf7.trans hf8).trans hf9).trans hf10).trans hf11).trans hf12).trans hf13).trans hf14;have hF14:=hF6.trans hf614;have ha14:=hf614.obj ha6 id;have hb14:=hf614.obj hg6 id;refine Gz 6 ?_;refine cL (VR (cs:=stC [p0,p1,p2,p3,p4,p5]) eJ rfl (aX ha14 0 rfl)) ?_;refine cL (VR (cs:=stC [p0,p1,p2,p3,p4,p5]) eJ rfl (aX hb14 0 rfl)) ?_;refine cL (XN (L:=[p0,p1,p2,p3,p4,p5]) rfl rfl rfl) ?_;refine Gz 3 ?_;refine cW (Wu (Wq rfl rfl) (fun h=>h rfl)) ?_;refine Gz 3 ?_;refine cW (Wa rfl) ?_;refine Gz 4 ?_;refine cW (Wu (Wq rfl rfl) (fun h=>h rfl)) ?_;refine Gz 4 ?_;refine cW (Wu (WE rfl rfl) (fun h=>h rfl)) ?_;refine Gz 4 ?_;refine cW (Wu (Wq rfl rfl) (fun h=>h rfl)) ?_;refine Gz 3 ?_;refine cW (Wa rfl) ?_;refine Gz 4 ?_;refine cW (Wu (Wq rfl rfl) (fun h=>h rfl)) ?_;refine Gz 13 ?_;refine VM (β:=Nat) (fun j=>[(0,pT g),(1,pT y),(2,iV ref),(3,.slice lo L.length lc),(27,iV j)]) (fun j w=>j≤L.length∧aA nob w14 w) (fun j=>L.length-j) 0 ⟨rfl,rfl,rfl,rfl,rfl,trivial⟩ ⟨Nat.zero_le _,YI _ _⟩ ?_;rintro j w ⟨hj,hF⟩;refine fK 6 ?_ ?_<;>intro h129
 ·have hjl:j<L.length:=by omega
  obtain⟨q,hq⟩:∃ q,L[j]?=some q:=⟨_,List.getElem?_eq_getElem hjl⟩
  have hqb:=hL q (mem_of_getElem? hq);have hl0:=hl.Y7 (hF14.trans hF);refine fW 2 ?_ ?_<;>intro h132
  ·refine Gz 14 ?_;refine cL (VG DW rfl rfl hl0.non (by omega)) ?_;refine Gz 1 ?_;refine cL (VH gC rfl (hl0.rowZ j rfl hq 0 _ rfl)) ?_;refine cA 0 Vu (JA g x ref q.1 w (hx.Y7 (hF14.trans hF)) href) ?_;rintro _ w15 ⟨rfl,hf15⟩;refine Gz 3 ?_;refine VJ pJ rfl ?_;intro w16 hg16 hs16 hf16;obtain⟨d,ed⟩:∃ a,a=w15.heap.size:=⟨_,rfl⟩
   rw[←ed] at hg16 ⊢;refine sA rfl dY (by exact fQ _) hg16 ?_;intro w17 hg17 hs17 hf17;have hf17b:aA nob w w17:=(hf15.trans hf16).Y4 hf17 (fun k hk=>.inr (by have h:k=d:=hk;have:=hf15.size;omega));have hF17:=hF14.trans (hF.trans hf17b);have hl17:=hl.Y7 hF17;refine Gz 9 ?_;refine cL (VG DW rfl rfl hl17.non (by omega)) ?_;refine Gz 1 ?_;refine cL (VH gC rfl (hl17.rowZ j rfl hq 0 _ rfl)) ?_;refine cA 0 UK (Jv y x ref q.1 w17 (hy.Y7 hF17)) ?_;rintro _ w18 ⟨rfl,hf18⟩;refine Gz 3 ?_;refine VJ pJ rfl ?_;intro w19 hg19 hs19 hf19;obtain⟨d2,ed2⟩:∃ a,a=w18.heap.size:=⟨_,rfl⟩
   rw[←ed2] at hg19 ⊢;refine sA rfl dY (by exact fQ _) hg19 ?_;intro w20 hg20 hs20 hf20;have hf1720:aA nob w17 w20:=(hf18.trans hf19).Y4 hf20 (fun k hk=>.inr (by have h:k=d2:=hk;have:=hf18.size;omega));have hF20:=hF17.trans hf1720;have hl20:=hl.Y7 hF20;have hd20:=hf1720.obj hg17 id;refine Gz 4 ?_;refine VS 18 (fun H=>VwM 3 bH H lo lc L) [12] [0,1,2,3,4,5,6,7,8,9,10,11,12,13,14,15,16,17] aK (by kernel_rfl) (hl20) ?_;refine Gz 4 ?_;refine xC rfl (VG DW rfl rfl hl20.non (by omega)) ?_;refine Gz 1 ?_;refine xC rfl (VP aE rfl (fun H hH=>hH.rowZ j rfl hq 1 _ rfl)) ?_;refine Gz 2 ?_;refine xC rfl (VG DW rfl rfl hl20.non (by omega)) ?_;refine Gz 1 ?_;refine xC rfl (VP aE rfl (fun H hH=>hH.rowZ j rfl hq 2 _ rfl)) ?_;refine VL rfl rfl (VE Ve rfl (JB g x ref q.2.1 q.2.2 (w20.drewN 1) ((hx.Y7 hF20).Y7 (YJ 1)) href hqb.1 hqb.2) rfl ?_);rintro _ w21 ⟨o5,c5,rfl,ho5,hfr5,hf21⟩;have hf21:=hf21.Y5;refine VQ (by exact(hl20.Y7 hf21)) ?_;have hF21:=hF20.trans hf21;have hl21:=hl.Y7 hF21;refine Gz 8 ?_;refine VS 18 (fun H=>VwM 3 bH H lo lc L) [12] [0,1,2,3,4,5,6,7,8,9,10,11,12,13,14,15,16,17] aK (by kernel_rfl) (hl21) ?_;refine Gz 4 ?_;refine xC rfl (VG DW rfl rfl hl21.non (by omega)) ?_;refine Gz 1 ?_;refine xC rfl (VP aE rfl (fun H hH=>hH.rowZ j rfl hq 1 _ rfl)) ?_;refine Gz 2 ?_;refine xC rfl (VG DW rfl rfl hl21.non (by omega)) ?_;refine Gz 1 ?_;refine xC rfl (VP aE rfl (fun H hH=>hH.rowZ j rfl hq 2 _ rfl)) ?_;refine VL rfl rfl (VE SB rfl (Jw y x ref q.2.1 q.2.2 (w21.drewN 1) ((hy.Y7 hF21).Y7 (YJ 1)) hqb.1 hqb.2) rfl ?_);rintro _ w22 ⟨o6,c6,rfl,ho6,hfr6,hf22⟩;have hf22:=hf22.Y5;refine VQ (by exact(hl21.Y7 hf22)) ?_;have hf2022:=hf21.trans hf22;have hd22:=hf2022.obj hd20 id;have he22:=hf2022.obj hg20 id;have h5v:=ho5.vw.Y7 hf22;refine Gz 9 ?_;refine cL (VR (cs:=bH (mT x ref q.1).1) dY rfl (aX hd22 0 rfl)) ?_;refine cL (VR (cs:=bH (mT x ref q.1).1) dY rfl (aX he22 0 rfl)) ?_;refine cL (Wu (Xk rfl rfl) (fun h=>h rfl)) ?_;refine Gz 3 ?_;refine cW (Wu (Wq rfl rfl) (fun h=>h rfl)) ?_;refine Gz 3 ?_;refine cW (V1 aF ty5 ty9 rfl h5v) ?_;refine Gz 1 ?_;refine cW (V1 aF ty5 ty9 rfl ho6.vw) ?_;refine cW (Wu (WE rfl rfl) (fun h=>h rfl)) ?_;refine Gz 4 ?_;refine cW (Wu (Wq rfl rfl) (fun h=>h rfl)) ?_;refine Gz 12 ?_;exact aG (j+1) ⟨by omega,((hF.trans hf17b).trans hf1720).trans hf2022⟩ (by show L.length-(j+1)<L.length-j;omega)
  refine Gz 16 ?_;exact⟨_,rfl,rfl,hF14.trans hF⟩
 refine Gz 19 ?_;exact⟨_,rfl,rfl,hF14.trans hF⟩
theorem PO{X Y:List Xa}{k:Nat}(hx:k<X.length)(hy:k<Y.length)(ht:X.take k=Y.take k)(h1:(X.getD k x0).1=(Y.getD k x0).1)(h2:(X.getD k x0).2=(Y.getD k x0).2):X.take (k+1)=Y.take (k+1):=by
 have e:X[k]?=Y[k]?:=by
  rw[List.getD,List.getElem?_eq_getElem hx,List.getD,List.getElem?_eq_getElem hy] at h1 h2;rw[List.getElem?_eq_getElem hx,List.getElem?_eq_getElem hy];exact congrArg some (Prod.ext h1 h2)
 rw[List.take_add_one,List.take_add_one,ht,e]
theorem IQ(X Y:List Xa)(ao bo:Option Addr)(ac bc:Nat)(W:World)(ha:XaV W.heap ao ac X)(hb:XaV W.heap bo bc Y) :
 CA 98 [.slice ao X.length ac,.slice bo Y.length bc] W fun v w'=>v=.bool (decide (X=Y))∧aA nob W w':=by
 have hl:=ha.Y6;refine cS 43 [(0,_),(1,_)] Tryz.func98 ?_;refine fK 12 ?_ ?_<;>intro h10
 ·have hne:¬ X=Y:=fun e=>h10 (by rw[e]);refine Gz 11 ?_;exact⟨_,rfl,congrArg Value.bool (decide_eq_false hne).symm,YI _ _⟩
 have hab:X.length=Y.length:=by omega
 refine Gz 12 ?_;refine VM (β:=Nat) (fun k=>[(0,.slice ao X.length ac),(1,.slice bo Y.length bc),(5,iV k)]) (fun k w=>k≤X.length∧X.take k=Y.take k∧aA nob W w) (fun k=>X.length-k) 0 ⟨rfl,rfl,rfl,trivial⟩ ⟨Nat.zero_le _,rfl,YI _ _⟩ ?_;rintro k w ⟨hk,htk,hF⟩;refine fK 6 ?_ ?_<;>intro h14
 ·obtain⟨xa,xc,hrow,hxv,hnl⟩:=(ha.Y7 hF).at (i:=k) rfl (by omega);obtain⟨ya,yc,hrow2,hyv,_⟩:=(hb.Y7 hF).at (i:=k) rfl (by omega);refine Gz 8 ?_;refine VT 26 [0,1,2,3,4,5,6,7,8,9,10,11,12,13,14,15,16,17,18,19,20,21,22,23,24,25] aK (by kernel_rfl) ?_;refine Gz 2 ?_;refine xC rfl (VG jK rfl rfl ha.non (by omega)) ?_;refine Gz 1 ?_;refine xC rfl (VH gC rfl (hrow 0 _ rfl)) ?_;refine Gz 2 ?_;refine xC rfl (VG jK rfl rfl hb.non (by omega)) ?_;refine Gz 1 ?_;refine xC rfl (VH gC rfl (hrow2 0 _ rfl)) ?_;refine xK 0 ?_ ?_<;>intro h27
  ·have hne:¬ X=Y:=fun e=>h27 (by rw[e]);refine Gz 30 ?_;exact⟨_,rfl,congrArg Value.bool (decide_eq_false hne).symm,hF.draws 1⟩
  have e1:(X.getD k x0).1=(Y.getD k x0).1:=Decidable.not_not.1 h27;refine Gz 3 ?_;refine xV rfl (VG jK rfl rfl ha.non (by omega)) ?_;refine Gz 1 ?_;refine xV rfl (VH bD rfl (hrow 1 _ rfl)) ?_;refine xV rfl (V1 aF ty5 ty9 rfl hxv) ?_;refine Gz 2 ?_;refine xV rfl (VG jK rfl rfl hb.non (by omega)) ?_;refine Gz 1 ?_;refine xV rfl (VH bD rfl (hrow2 1 _ rfl)) ?_;refine xV rfl (V1 aF ty5 ty9 rfl hyv) ?_;refine xW 0 ?_ ?_<;>intro h41
  ·have hne:¬ X=Y:=fun e=>h41 (by rw[e]);refine Gz 16 ?_;exact⟨_,rfl,congrArg Value.bool (decide_eq_false hne).symm,hF.draws 1⟩
  have e2:(X.getD k x0).2=(Y.getD k x0).2:=Decidable.not_not.1 h41;refine Gz 12 ?_;exact aG (k+1) ⟨by omega,PO (by omega) (by omega) htk e1 e2,hF.draws 1⟩ (by show X.length-(k+1)<X.length-k;omega)
 refine Gz 15 ?_;have heq:X=Y:=by rw[←take_length (l:=X),←take_length (l:=Y),←hab,show X.length=k by omega];exact htk
 exact⟨_,rfl,congrArg Value.bool (decide_eq_true heq).symm,hF⟩
theorem N2{l:List Int}{n:Int}{i:Nat}(hi:i<l.length)(h:l.getD i 0=n)(hno:∀ j,j<i→l.getD j 0≠n):pM l n=i:=by
 unfold pM;rw[show l.findIdx? (fun x=>decide (x=n))=some i from ?_];rw[List.findIdx?_eq_some_iff_getElem];refine⟨hi,?_,fun j hj=>?_⟩
 ·rw[List.getD,List.getElem?_eq_getElem hi] at h;exact decide_eq_true h
 · have:=hno j hj
   rw[List.getD,List.getElem?_eq_getElem (by omega)] at this;simpa using this
theorem Lr{l:List Int}{n:Int}(hno:∀ j,j<l.length→l.getD j 0≠n):pM l n=0:=by
 unfold pM;rw[show l.findIdx? (fun x=>decide (x=n))=none from ?_];rw[List.findIdx?_eq_none_iff];intro x hx;obtain⟨j,hj⟩:=List.getElem?_of_mem hx;have:=hno j (List.getElem?_eq_some_iff.1 hj).1;rw[List.getD,hj] at this;simpa using this
theorem BI(io:Option Addr)(ic:Nat)(l:List Int)(n:Int)(W:World)(hv:Vw i64 W.heap io ic l) :
 CA 57 [.slice io l.length ic,iV n] W fun v w'=>v=iV (pM l n)∧w'=W:=by
 have h63:=hv.Y6;refine cS 19 [(0,_),(1,_)] Tryz.func57 ?_;refine Gz 12 ?_;refine VM (β:=Nat) (fun i=>[(0,.slice io l.length ic),(1,iV n),(5,iV i)]) (fun i w=>i≤l.length∧(∀ j,j<i→l.getD j 0≠n)∧w=W) (fun i=>l.length-i) 0 ⟨rfl,rfl,rfl,trivial⟩ ⟨Nat.zero_le _,fun j hj=>by omega,rfl⟩ ?_;rintro i w ⟨hi,hno,hw⟩;subst w;refine fK 6 ?_ ?_<;>intro h9
 ·have hil:i<l.length:=by omega
  refine Gz 11 ?_;refine cL (VF bO rfl rfl hv.non (by omega)) ?_;refine cL (VH aE rfl (hv.gz 0 i rfl hil)) ?_;refine fK 1 ?_ ?_<;>intro h17
  ·have hres:pM l n=i:=N2 hil h17 hno;refine Gz 16 ?_;exact⟨_,rfl,by rw[hres],rfl⟩
  refine Gz 11 ?_;refine aG (i+1) ⟨by omega,fun j hj=>?_,rfl⟩ (by show l.length-(i+1)<l.length-i;omega);by_cases e:j=i
  ·subst e;exact h17
  ·exact hno j (by omega)
 have hie:i=l.length:=by omega
 subst hie;refine Gz 15 ?_;exact⟨_,rfl,by rw[Lr hno],rfl⟩
theorem O3{a:BiA}{ow:Nat→Nat}{g:Nat}{qs:List (NdH×Nd)}{ids:List Int}{files:List Ino}{s:BSt}{w w':World}{X:List Xa}{r:Int}{xo so' tr':Option Addr}{xc sc' tc':Nat}(hM:BiW a ow w.heap g qs ids files s)(hn:∀ k,w.heap.size≤k→ow k=0)(hX:XsV (fun k=>ow k=4) w.heap ⟨xo,X.length,xc⟩ X)
 (hg:w'.heap[g]?=some (.cells (biK { a with so:=so',sc:=sc',tr:=tr',tc:=tc' } qs ids files { s with sets:=s.sets++[(X,r)] }).toArray 76 (0,0)))
 (ho:Own hd 66 w'.heap so' sc' (a.hs++[⟨xo,X.length,xc⟩]))(hr:∀ b,so'=some b→a.so=some b∨w.heap.size≤b.block)
 (ht:Own i64 3 w'.heap tr' tc' (s.sets.map (·.2)++[r]))(hrt:∀ b,tr'=some b→a.tr=some b∨w.heap.size≤b.block)(hap:∀ b c,so'=some b→tr'=some c→w.heap.size≤b.block→b.block≠c.block)
 (hf:aA (fun k=>k=g∨ow k=7∨ow k=8) w w'):∃ (a':BiA) (ow':Nat→Nat),BiW a' ow' w'.heap g qs ids files { s with sets:=s.sets++[(X,r)] }∧(a'.lo=a.lo∧a'.lc=a.lc∧a'.ro=a.ro∧a'.rc=a.rc)∧(∀ k,k<w.heap.size→ow' k=ow k)∧(∀ k,w'.heap.size≤k→ow' k=0):=by
 classical
 have hle:∀ z,z≠0→∀ k,ow k=z→k<w.heap.size:=fun z hz k hk=>byContradiction fun hc=>by have:=hn k (by omega);omega
 obtain⟨_,h6,⟨nd1,nd2⟩,⟨i1,i2⟩,⟨f1,f2⟩,w1,w2,w3,⟨r1,r2⟩,⟨s1,s2⟩,⟨e1,e2⟩,t1,t2⟩:=hM;obtain⟨ow',eo⟩:∃ o:Nat→Nat,∀ k,o k=if k<w.heap.size then ow k else if blk so' k then 7 else if blk tr' k then 8 else 0:=⟨_,fun _=>rfl⟩
 have c1:∀ k,k<w.heap.size→ow' k=ow k:=fun k hk=>by rw[eo];exact if_pos hk
 have c2:∀ k,w'.heap.size≤k→ow' k=0:=fun k hk=>by
  have:=hf.size;rw[eo,if_neg (by omega),if_neg (fun⟨b,hb,e⟩=>by have:=ho.lt b hb;omega),if_neg (fun⟨b,hb,e⟩=>by have:=ht.lt b hb;omega)]
 have key:∀ z,z≠0→z≠7→z≠8→z≠6→∀ k,ow k=z→¬ (k=g∨ow k=7∨ow k=8):=fun z _ h1 h2 h3 k hk h=>by rcases h with rfl|h|h<;>omega
 have kz:∀ z,z≠0→∀ k,ow k=z→ow' k=z:=fun z hz k hk=>by rw[c1 k (hle z hz k hk)];exact hk
 refine⟨{ a with so:=so',sc:=sc',tr:=tr',tc:=tc',hs:=a.hs++[⟨xo,X.length,xc⟩] },ow',⟨hg,kz 6 (by decide) g h6,⟨eC nd1 hf (key 4 (by decide) (by decide) (by decide) (by decide)) (fun hne k hk=>key 4 (by decide) (by decide) (by decide) (by decide) k (nd2 hne k hk)) (kz 4 (by decide)),fun hne k hk=>kz 4 (by decide) k (nd2 hne k hk)⟩,
  ⟨i1.Y8 hf (fun a ha=>key 4 (by decide) (by decide) (by decide) (by decide) _ (i2 _ ⟨a,ha,rfl⟩)),fun k hk=>kz 4 (by decide) k (i2 k hk)⟩,⟨f1.Y8 hf (fun a ha=>key 4 (by decide) (by decide) (by decide) (by decide) _ (f2 _ ⟨a,ha,rfl⟩)),fun k hk=>kz 4 (by decide) k (f2 k hk)⟩,
  w1.Y8 hf (key 1 (by decide) (by decide) (by decide) (by decide)) (kz 1 (by decide)),w2.Y8 hf (key 2 (by decide) (by decide) (by decide) (by decide)) (kz 2 (by decide)),w3.Y8 hf (key 3 (by decide) (by decide) (by decide) (by decide)) (kz 3 (by decide)),
  ⟨r1.Y8 hf (fun a ha=>key 5 (by decide) (by decide) (by decide) (by decide) _ (r2 _ ⟨a,ha,rfl⟩)),fun k hk=>kz 5 (by decide) k (r2 k hk)⟩,⟨ho,fun k hk=>?_⟩,⟨by show (a.hs++_).length=(s.sets++_).length;rw[length_append,length_append,e1];rfl,fun i h y hh hy=>?_⟩,by show Own i64 3 w'.heap tr' tc' ((s.sets++[(X,r)]).map (·.2));rw[map_append];exact ht,fun k hk=>?_⟩,⟨rfl,rfl,rfl,rfl⟩,c1,c2⟩
 · obtain⟨b,hb,rfl⟩:=hk
   rcases hr b hb with h|h
   ·exact kz 7 (by decide) _ (s2 _ ⟨b,h,rfl⟩)
   ·rw[eo,if_neg (by omega),if_pos ⟨b,hb,rfl⟩]
 · have hh:(a.hs++[⟨xo,X.length,xc⟩])[i]?=some h:=hh
   have hy:(s.sets++[(X,r)])[i]?=some y:=hy;by_cases hi:i<a.hs.length
   · rw[List.getElem?_append_left hi] at hh
     rw[List.getElem?_append_left (by omega)] at hy;exact((e2 i h y hh hy).Y8 hf (key 4 (by decide) (by decide) (by decide) (by decide))).mono (kz 4 (by decide))
   · have hil:=(List.getElem?_eq_some_iff.1 hh).1
     rw[length_append,length_singleton] at hil;have ei:i=a.hs.length:=by omega
     rw[ei,List.getElem?_concat_length] at hh;rw[ei,e1,List.getElem?_concat_length] at hy;cases hh;cases hy;exact(hX.Y8 hf (key 4 (by decide) (by decide) (by decide) (by decide))).mono (kz 4 (by decide))
 · obtain⟨b,hb,rfl⟩:=hk
   rcases hrt b hb with h|h
   ·exact kz 8 (by decide) _ (t2 _ ⟨b,h,rfl⟩)
   ·rw[eo,if_neg (by omega),if_neg (fun⟨c,hc,e⟩=>hap c b hc hb (by omega) e),if_pos ⟨b,hb,rfl⟩]
def bdB(s:BSt):Prop:=s.ino.length≤137438953472∧s.lst.length≤137438953472∧s.fur.length≤137438953472∧s.sets.length≤1048576∧s.many≤1048576
def bdR(s:BSt):Prop:=(∀ z∈s.refs,0≤z∧z≤1152921504606846977)∧∀ y∈s.sets,0≤y.2∧y.2≤1152921504606846976
def Nl(ow:Nat→Nat)(W:World)(g:Nat)(qs:List (NdH×Nd))(ids:List Int)(files:List Ino)(s':BSt)(w':World):Prop:=
 aA (Lb ow) W w'∧∃ (a':BiA) (ow':Nat→Nat),BiW a' ow' w'.heap g qs ids files s'∧(∀ k,k<W.heap.size→ow' k=ow k)∧(∀ k,w'.heap.size≤k→ow' k=0)∧bdR s'
theorem JN{s:BSt}{X:List Xa}(h:X.length=0):dW s X=(0,s):=if_pos h
theorem Ml{s:BSt}{X:List Xa}{i:Nat}{y:List Xa×Int}(h:¬ X.length=0)(hy:s.sets[i]?=some y)(he:y.1=X)(hno:∀ (j:Nat) (z:List Xa×Int),j<i→s.sets[j]?=some z→z.1≠X):dW s X=(y.2+1,s):=by
 unfold dW;rw[if_neg h,show s.sets.find? (fun y=>decide (y.1=X))=some y from ?_];rw[List.find?_eq_some_iff_getElem];obtain⟨hi,rfl⟩:=List.getElem?_eq_some_iff.1 hy;exact⟨decide_eq_true he,i,hi,rfl,fun j hj=>by have:=hno j s.sets[j] hj (List.getElem?_eq_getElem (by omega));simpa using this⟩
theorem Mm{s:BSt}{X:List Xa}(h:¬ X.length=0)(hno:∀ (j:Nat) (z:List Xa×Int),s.sets[j]?=some z→z.1≠X):dW s X=(((aQ s.fur s.fur.length:Nat):Int)+1,{ s with fur:=s.fur++(kQ X).1,sets:=s.sets++[(X,((aQ s.fur s.fur.length:Nat):Int))] }):=by
 unfold dW;rw[if_neg h,show s.sets.find? (fun y=>decide (y.1=X))=none from ?_];rw[List.find?_eq_none];intro x hx;obtain⟨j,hj⟩:=List.getElem?_of_mem hx;simpa using hno j x hj
theorem Eh(a:BiA)(ow:Nat→Nat)(g:Nat)(qs:List (NdH×Nd))(ids:List Int)(files:List Ino)(s:BSt)(xo:Option Addr)(xc:Nat)(X:List Xa)(W:World)(hM:BiW a ow W.heap g qs ids files s)(hn:∀ k,W.heap.size≤k→ow k=0)(hX:XsV (fun k=>ow k=4) W.heap ⟨xo,X.length,xc⟩ X)(hmX:∀ x∈X,x.1.length≤255)(hsX:∀ y∈s.sets,∀ x∈y.1,x.1.length≤255)(hb:bdB (dW s X).2)(hbr:bdR s) :
 CA 59 [pT g,.slice xo X.length xc] W fun v w'=>v=iV (dW s X).1∧Nl ow W g qs ids files (dW s X).2 w':=by
 have hM0:=hM;obtain⟨hg,h6,⟨nd1,nd2⟩,⟨i1,i2⟩,⟨f1,f2⟩,w1,w2,w3,⟨r1,r2⟩,⟨s1,s2⟩,⟨e1,e2⟩,t1,t2⟩:=hM;have hXa:=hX.xa hmX;have hv7:=s1.vw;have hs63:=hv7.Y6;rw[e1] at hs63;refine cS 72 [(0,_),(1,_)] Tryz.func59 ?_;refine fK 10 ?_ ?_<;>intro h12
 ·have hres:dW s X=(0,s):=JN (by omega);refine Gz 11 ?_;exact⟨_,rfl,by rw[hres],by rw[hres];exact⟨YI _ _,a,ow,hM0,fun _ _=>rfl,hn,hbr⟩⟩
 have hne:¬ X.length=0:=by omega
 refine Gz 12 ?_;refine VM (β:=Nat) (fun k=>[(0,pT g),(1,.slice xo X.length xc),(5,iV k)]) (fun k w=>k≤s.sets.length∧(∀ (j:Nat) (z:List Xa×Int),j<k→s.sets[j]?=some z→z.1≠X)∧aA nob W w) (fun k=>s.sets.length-k) 0 ⟨rfl,rfl,rfl,trivial⟩ ⟨Nat.zero_le _,fun j z hj=>by omega,YI _ _⟩ ?_;rintro k w ⟨hk,hno,hF⟩;refine Gz 7 ?_;refine cL (VH D4 rfl (aD (hF.obj hg id) rfl)) ?_;refine fK 1 ?_ ?_<;>intro h19
 ·have hkl:k<s.sets.length:=by omega
  obtain⟨y,hy⟩:∃ y,s.sets[k]?=some y:=⟨_,List.getElem?_eq_getElem hkl⟩
  obtain⟨h,hh⟩:∃ h,a.hs[k]?=some h:=⟨_,List.getElem?_eq_getElem (by omega)⟩
  have hxv:=(e2 k h y hh hy).Y8 hF (fun _ _=>id);have hyn:=hxv.1;have hhd:a.hs.getD k hd0=h:=by rw[List.getD,hh];rfl
  have hsd:(s.sets.map (·.2)).getD k 0=y.2:=by rw[List.getD,List.getElem?_map,hy];rfl
  have hyb:=hbr.2 y (mem_of_getElem? hy);have hyx:XaV w.heap h.a h.c y.1:=by obtain⟨ha,hn0,hc0⟩:=h;have hyn:hn0=y.1.length:=hyn;exact hxv.xa (hsX y (mem_of_getElem? hy))
  refine Gz 12 ?_;refine cL (VH D4 rfl (aD (hF.obj hg id) rfl)) ?_;refine Gz 1 ?_;refine cL (VF NH rfl rfl (fun h=>hv7.non (by rw[e1];exact h)) (by omega)) ?_;refine cL (VK (u:=.slice h.a y.1.length h.c) (VH kO rfl ((hv7.Y7 hF).gz hd0 k rfl (by omega))) (by rw[hhd,←hyn];rfl)) ?_;refine cA 1 Rm (IQ y.1 X h.a xo h.c xc w hyx (hXa.Y7 hF)) ?_;rintro _ w5 ⟨rfl,hf5⟩;have hF5:=hF.trans hf5;refine Gz 5 ?_;refine V0 (V5 (Wh rfl)) rfl (fun h31=>?_) (fun h31=>?_)
  ·have hyX:y.1=X:=of_decide_eq_true h31;have hres:dW s X=(y.2+1,s):=Ml hne hy hyX hno;refine Gz 8 ?_;refine cL (VH mL rfl (aD (hF5.obj hg id) rfl)) ?_;refine Gz 1 ?_;refine cL (VF bO rfl rfl (fun h=>t1.vw.non (by rw[length_map];exact h)) (by omega)) ?_;refine cL (VH aE rfl ((t1.vw.Y7 hF5).gz 0 k rfl (by rw[length_map];omega))) ?_;rw[hsd];refine Gz 11 ?_;exact⟨_,rfl,by rw[hres],by rw[hres];exact⟨hF5.any,a,ow,hM0.Y7 hF5,fun _ _=>rfl,fun k hk=>hn k (Nat.le_trans hF5.size hk),hbr⟩⟩
  have hyX:¬ y.1=X:=fun e=>h31 (decide_eq_true e);refine Gz 11 ?_;refine aG (k+1) ⟨by omega,fun j z hj hz=>?_,hF5⟩ (by show s.sets.length-(k+1)<s.sets.length-k;omega);by_cases e:j=k
  ·subst e;rw[hy] at hz;cases hz;exact hyX
  ·exact hno j z (by omega) hz
 have hres:dW s X=_:=Mm hne (fun j z hz=>hno j z (by have:=(List.getElem?_eq_some_iff.1 hz).1;omega) hz);rw[hres] at hb;have hsl:s.sets.length+1≤1048576:=by have h:=hb.2.2.2.1;rwa[length_append] at h
 have hbl:s.fur.length+(kQ X).1.length≤137438953472:=by have h:=hb.2.2.1;rwa[length_append] at h
 refine cA 11 Sz (KW xo xc X w (hXa.Y7 hF)) ?_;rintro _ w5 ⟨o5,c5,rfl,ho5,hfr5,hf5⟩;have hF5:=hF.trans hf5;have hz5:=hF5.size;have hzF:=hF.size;refine Gz 13 ?_;refine VE Mw rfl (J8 o5 c5 (kQ X).1 w5 (hM0.Y7 hF5) (fun k hk=>hn k (by omega)) ho5.vw (fun _ k ⟨b,hb,e⟩=>.inl (hn k (by have:=hfr5 b hb;omega))) (by omega)) rfl ?_;rintro _ w6 ⟨rfl,a6,ow6,hM6,hae,q1,q2,hf6⟩;have hz6:=hf6.size;have hX6:XsV (fun k=>ow6 k=4) w6.heap ⟨xo,X.length,xc⟩ X:=((hX.Y8 hF5 (fun _ _=>id)).Y8 hf6 (fun k hk h=>by have hk:ow k=4:=hk;have h:k=g∨ow k=3:=h;rcases h with rfl|h<;>omega)).mono (fun k hk=>by have hk:ow k=4:=hk;rw[q1 k (byContradiction fun hc=>by have:=hn k (by omega);omega)];exact hk);obtain⟨s6,es6⟩:∃ t:BSt,t = { s with fur:=s.fur++(kQ X).1 }:=⟨_,rfl⟩
 have z6:s6.sets=s.sets:=by rw[es6]
 rw[←es6] at hM6;have hM60:=hM6;obtain⟨hg6,h66,_,_,_,_,_,_,_,⟨s61,s62⟩,⟨e61,e62⟩,t61,t62⟩:=hM6;have hrb:aQ s.fur s.fur.length≤1152921504606846976:=Ld (by omega);have hl6:a6.hs.length≤1048575:=by rw[e61,z6];omega
 have hL6:∀ k,ow6 k=7∨ow6 k=8→k<w6.heap.size∧k≠g:=fun k hk=>⟨byContradiction fun hc=>by have:=q2 k (by omega);omega,fun e=>by have h66:ow6 g=6:=h66;rw[e,h66] at hk;omega⟩
 have hg6s:g<w6.heap.size:=(Array.getElem?_eq_some_iff.1 hg6).1;refine Gz 9 ?_;refine cL (VK (u:=.slice a6.so a6.hs.length a6.sc) (VH D4 rfl (aD hg6 rfl)) (by rw[e61])) ?_;refine Gz 1 ?_;refine Wd (enc:=hd) (u:=⟨xo,X.length,xc⟩) NH rfl rfl rfl ?_;intro w7 ho7 hs7 hf7;refine VN Ax NH rfl rfl (s61.Y7 hf7) ho7.vw (by simp only[length_singleton];omega) (by simp only[length_singleton];unfold maxLen;omega) rfl ?_;intro so8 sc8 w8 ho8 hf8 hr8 hn8;refine Gz 2 ?_;refine VI D4 rfl rfl rfl (hf8.obj (hf7.obj hg6 id) (fun h=>(hL6 g (.inl (s62 g h))).2 rfl)) rfl ?_;intro w9 hg9 hs9 hf9;have hz8:=hf8.size;have hf69:aA (fun k=>k=g∨ow6 k=7) w6 w9:=(hf7.any.trans (hf8.mono (fun k h=>.inr (s62 k h)))).trans (hf9.mono (fun k h=>.inl h));have hso:∀ b,so8=some b→a6.so=some b∨w6.heap.size≤b.block:=fun b hb=>(hr8 b hb).imp id (fun h=>by omega);have hsn:∀ k,blk so8 k→k≠g:=fun k ⟨b,hb,e⟩ h=>by rcases hso b hb with h2|h2;exact(hL6 k (.inl (s62 k ⟨b,h2,e⟩))).2 h;omega
 have ho9:=ho8.Y8 hf9 (fun b hb e=>hsn _ ⟨b,hb,rfl⟩ e);have ht9:=t61.Y8 hf69 (fun b hb e=>by have h8:=t62 _ ⟨b,hb,rfl⟩;have e:b.block=g∨ow6 b.block=7:=e;rcases e with e|e;rw[e,show ow6 g=6 from h66] at h8;omega;omega);refine Gz 8 ?_;refine cL (VK (u:=.slice a6.tr (s6.sets.map (·.2)).length a6.tc) (VH mL rfl (aD hg9 rfl)) (by rw[length_map])) ?_;refine Gz 1 ?_;refine Wd (enc:=i64) (u:=((aQ s.fur s.fur.length:Nat):Int)) bO rfl rfl rfl ?_;intro w10 ho10 hs10 hf10;refine VN lZ bO rfl rfl (ht9.Y7 hf10) ho10.vw (by simp only[length_singleton,length_map];omega) (by simp only[length_singleton,length_map];unfold maxLen;omega) rfl ?_;intro tr11 tc11 w11 ho11 hf11 hr11 hn11;refine Gz 2 ?_;refine VI mL rfl rfl rfl (hf11.obj (hf10.obj hg9 id) (fun h=>(hL6 g (.inr (t62 g h))).2 rfl)) rfl ?_;intro w12 hg12 hs12 hf12;refine Gz 11 ?_;have hlo9:=ho9.lt;have hlt6:=t61.lt;have hst:∀ k,blk so8 k→¬ blk a6.tr k:=fun k ⟨b,hb,e⟩ ht=>by
  have h8:=t62 k ht;rcases hso b hb with h|h
  ·have:=s62 k ⟨b,h,e⟩;omega
  ·obtain⟨c,hc,e2⟩:=ht;have:=hlt6 c hc;omega
 have hrt:∀ b,tr11=some b→a6.tr=some b∨w6.heap.size≤b.block:=fun b hb=>(hr11 b hb).imp id (fun h=>by omega);have htn:∀ k,blk tr11 k→k≠g:=fun k ⟨b,hb,e⟩ h=>by
  rcases hrt b hb with h2|h2
  ·exact(hL6 k (.inr (t62 k ⟨b,h2,e⟩))).2 h
  ·omega
 have ho12:=((ho9.Y7 hf10).Y8 hf11 (fun b hb e=>hst _ ⟨b,hb,rfl⟩ e)).Y8 hf12 (fun b hb e=>hsn _ ⟨b,hb,rfl⟩ e);have ht12:=ho11.Y8 hf12 (fun b hb e=>htn _ ⟨b,hb,rfl⟩ e);have hf612:aA (fun k=>k=g∨ow6 k=7∨ow6 k=8) w6 w12:=(((hf69.mono (fun k h=>h.elim .inl (fun h=>.inr (.inl h)))).trans hf10.any).trans (hf11.mono (fun k h=>.inr (.inr (t62 k h))))).trans (hf12.mono (fun k h=>.inl h));have hg12b:w12.heap[g]?=some (.cells (biK { a6 with so:=so8,sc:=sc8,tr:=tr11,tc:=tc11 } qs ids files { s6 with sets:=s6.sets++[(X,((aQ s.fur s.fur.length:Nat):Int))] }).toArray 76 (0,0)):=by
  rw[hg12];have l1:(a6.hs++[(⟨xo,X.length,xc⟩:Hd)]).length=(s6.sets++[(X,((aQ s.fur s.fur.length:Nat):Int))]).length:=by simp[e61]
  have l2:(s6.sets.map (·.2)++[((aQ s.fur s.fur.length:Nat):Int)]).length=(s6.sets++[(X,((aQ s.fur s.fur.length:Nat):Int))]).length:=by simp
  rw[l1,l2];rfl
 obtain⟨a9,ow9,hM9,_,k1,k2⟩:=O3 hM60 q2 hX6 hg12b ho12 hso ht12 hrt (fun b c hb hc h6b=>by
  rcases hr11 c hc with h|h
  ·have:=hlt6 c h;omega
  ·have:=hlo9 b hb;omega) hf612
 refine⟨_,rfl,by rw[hres],?_⟩;rw[hres];rw[es6] at hM9;refine⟨(hF5.any.trans (hf6.mono (fun k h=>?_))).Y4 hf612 (fun k h=>?_),a9,ow9,hM9,fun k hk=>by rw[k1 k (by omega),q1 k (by omega)],k2,hbr.1,fun y hy=>?_⟩
 · have h:k=g∨ow k=3:=h
   show ow k≠0∧ow k≠4;rcases h with h|h
   ·rw[h,h6];decide
   ·rw[h];decide
 · by_cases hk:k<W.heap.size
   · have h:k=g∨ow6 k=7∨ow6 k=8:=h
     rw[q1 k (by omega)] at h;refine .inl ?_;show ow k≠0∧ow k≠4;rcases h with h|h|h
     ·rw[h,h6];decide
     ·rw[h];decide
     ·rw[h];decide
   ·exact .inr (by omega)
 · have hy:y∈s.sets++[(X,((aQ s.fur s.fur.length:Nat):Int))]:=hy
   rcases mem_append.1 hy with hy|hy
   ·exact hbr.2 y hy
   ·rw[mem_singleton] at hy;subst hy;exact⟨by show (0:Int)≤((aQ s.fur s.fur.length:Nat):Int);omega,by show ((aQ s.fur s.fur.length:Nat):Int)≤_;omega⟩
theorem XsV.eta{D:Nat→Prop}{H:Array Obj}{z:Hd}{X:List Xa}(h:XsV D H z X):XsV D H ⟨z.a,X.length,z.c⟩ X:=⟨rfl,h.2⟩
section
variable {a:BiA}{ow:Nat→Nat}{g:Nat}{qs:List (NdH×Nd)}{ids:List Int}{files:List Ino}{s:BSt}{w w':World}
theorem BiW.refsup{m:Nat}{v:Int}(h:BiW a ow w.heap g qs ids files s)(ho:Own i64 3 w'.heap a.ro a.rc (s.refs.set m v))(f:aA (blk a.ro) w w'):BiW a ow w'.heap g qs ids files { s with refs:=s.refs.set m v }:=by
 obtain⟨hg,hl,⟨n1,n2⟩,⟨i1,i2⟩,⟨f1,f2⟩,w1,w2,w3,⟨r1,r2⟩,⟨s1,s2⟩,⟨e1,e2⟩,t1,t2⟩:=h;have key:∀ z,z≠5→∀ k,ow k=z→¬ blk a.ro k:=fun z hz k hk hb=>by have:=r2 k hb;omega
 refine⟨?_,hl,⟨eC n1 f (key 4 (by decide)) (fun hne k hk=>key 4 (by decide) k (n2 hne k hk)) (fun _=>id),n2⟩,⟨i1.Y8 f (fun a ha=>key 4 (by decide) _ (i2 _ ⟨a,ha,rfl⟩)),i2⟩,⟨f1.Y8 f (fun a ha=>key 4 (by decide) _ (f2 _ ⟨a,ha,rfl⟩)),f2⟩,
  w1.Y8 f (key 1 (by decide)) (fun _=>id),w2.Y8 f (key 2 (by decide)) (fun _=>id),w3.Y8 f (key 3 (by decide)) (fun _=>id),⟨ho,r2⟩,⟨s1.Y8 f (fun a ha=>key 7 (by decide) _ (s2 _ ⟨a,ha,rfl⟩)),s2⟩,⟨e1,fun i h y hh hy=>(e2 i h y hh hy).Y8 f (key 4 (by decide))⟩,t1.Y8 f (fun a ha=>key 8 (by decide) _ (t2 _ ⟨a,ha,rfl⟩)),t2⟩
 have:=f.obj hg (key 6 (by decide) g hl);rw[this];unfold biK;show _=some (Obj.cells (biC _ _ _ _ _ _ _ _ (.slice a.ro (s.refs.set m v).length a.rc) _ _ _ _).toArray _ _);rw[length_set]
theorem BiW.manyup{n:Nat}(h:BiW a ow w.heap g qs ids files s)(hg':w'.heap[g]?=some (.cells (biK a qs ids files { s with many:=n }).toArray 76 (0,0)))(f:aA (· = g) w w'):BiW a ow w'.heap g qs ids files { s with many:=n }:=by
 obtain⟨hg,hl,⟨n1,n2⟩,⟨i1,i2⟩,⟨f1,f2⟩,w1,w2,w3,⟨r1,r2⟩,⟨s1,s2⟩,⟨e1,e2⟩,t1,t2⟩:=h;have key:∀ z,z≠6→∀ k,ow k=z→¬ k=g:=fun z hz k hk hb=>by rw[hb,hl] at hk;omega
 exact⟨hg',hl,⟨eC n1 f (key 4 (by decide)) (fun hne k hk=>key 4 (by decide) k (n2 hne k hk)) (fun _=>id),n2⟩,⟨i1.Y8 f (fun a ha=>key 4 (by decide) _ (i2 _ ⟨a,ha,rfl⟩)),i2⟩,⟨f1.Y8 f (fun a ha=>key 4 (by decide) _ (f2 _ ⟨a,ha,rfl⟩)),f2⟩,
  w1.Y8 f (key 1 (by decide)) (fun _=>id),w2.Y8 f (key 2 (by decide)) (fun _=>id),w3.Y8 f (key 3 (by decide)) (fun _=>id),⟨r1.Y8 f (fun a ha=>key 5 (by decide) _ (r2 _ ⟨a,ha,rfl⟩)),r2⟩,⟨s1.Y8 f (fun a ha=>key 7 (by decide) _ (s2 _ ⟨a,ha,rfl⟩)),s2⟩,⟨e1,fun i h y hh hy=>(e2 i h y hh hy).Y8 f (key 4 (by decide))⟩,t1.Y8 f (fun a ha=>key 8 (by decide) _ (t2 _ ⟨a,ha,rfl⟩)),t2⟩
end
structure leB (s t:BSt):Prop where
 i:s.ino.length≤t.ino.length
 l:s.lst.length≤t.lst.length
 f:s.fur.length≤t.fur.length
 e:s.sets.length≤t.sets.length
 r:t.refs.length=s.refs.length
 m:s.many≤t.many
theorem leB.rfl{s:BSt}:leB s s:=⟨Nat.le_refl _,Nat.le_refl _,Nat.le_refl _,Nat.le_refl _,Eq.refl _,Nat.le_refl _⟩
theorem leB.trans{s t u:BSt}(h:leB s t)(k:leB t u):leB s u:=⟨Nat.le_trans h.i k.i,Nat.le_trans h.l k.l,Nat.le_trans h.f k.f,Nat.le_trans h.e k.e,k.r.trans h.r,Nat.le_trans h.m k.m⟩
theorem leB.bd{s t:BSt}(h:leB s t)(k:bdB t):bdB s:=⟨Nat.le_trans h.i k.1,Nat.le_trans h.l k.2.1,Nat.le_trans h.f k.2.2.1,Nat.le_trans h.e k.2.2.2.1,Nat.le_trans h.m k.2.2.2.2⟩
theorem H9(s:BSt)(X:List Xa):leB s (dW s X).2:=by
 unfold dW
 split
 ·exact .rfl
 · split
   ·exact .rfl
   ·exact⟨Nat.le_refl _,Nat.le_refl _,by show _≤(s.fur++_).length;rw[length_append];omega,by show _≤(s.sets++_).length;rw[length_append];omega,Eq.refl _,Nat.le_refl _⟩
section
variable {qs:List (NdH×Nd)}{ids:List Int}{files:List Ino}
theorem Ig(k:Int)(i:Ino)(s:BSt):leB (dW s (ndB qs k).xs).2 (lB qs ids k i s):=⟨by show _≤(_++_:By).length;rw[length_append];omega,Nat.le_refl _,Nat.le_refl _,Nat.le_refl _,length_set,Nat.le_succ _⟩
theorem qQ(k:Int)(i:Ino)(s:BSt):leB s (lB qs ids k i s):=(H9 s _).trans (Ig k i s)
theorem FX{wr:Int→BSt→BSt}(hw:∀ k s,leB s (wr k s)):∀ (ys:List Int) (s:BSt),leB s (wrK wr qs ys s).1
|[],s=>.rfl
|j::r,s=>(hw j s).trans (FX hw r (wr j s))
theorem LW(s:BSt)(b:By):leB s { s with lst:=s.lst++b }:=⟨Nat.le_refl _,by show _≤(s.lst++b).length;rw[length_append];omega,Nat.le_refl _,Nat.le_refl _,Eq.refl _,Nat.le_refl _⟩
theorem CF:∀ (n:Nat) (k:Int) (s:BSt),leB s (wrB qs ids files n k s)
|0,k,s=>.rfl
|n+1,k,s=>by
   unfold wrB
   split
   ·exact .rfl
   · split
     ·exact qQ _ _ _
     · split
       ·exact qQ _ _ _
       · split
         ·exact((FX (CF n) _ s).trans (LW _ _)).trans (qQ _ _ _)
         ·exact qQ _ _ _
def shS(s:BSt):Prop:=∀ y∈s.sets,∀ x∈y.1,x.1.length≤255
theorem H8{s:BSt}{X:List Xa}(h:shS s)(hX:∀ x∈X,x.1.length≤255):shS (dW s X).2:=by
 unfold dW
 split
 ·exact h
 · split
   ·exact h
   · intro y hy
     rcases mem_append.1 hy with hy|hy
     ·exact h y hy
     ·rw[mem_singleton] at hy;subst hy;exact hX
structure GdB (qs:List (NdH×Nd))(files:List Ino):Prop where
 q:∀ q∈qs,(1≤q.2.ino∧q.2.ino≤qs.length)∧q.2.names.length≤16∧(∀ c∈q.2.names,c.length≤255)∧q.2.tgt.length≤200∧(∀ x∈q.2.xs,x.1.length≤255)
 k:∀ s ys,CE qs s ys→ys=bY qs s qs.length
 fl:files.length=qs.length+1
 ft:∀ f∈files,f.2.length≤200
 n:qs.length≤1024
theorem GdB.nd(G:GdB qs files)(k:Int):∀ x∈(ndB qs k).xs,x.1.length≤255:=by
 unfold ndB;rw[List.getD];cases h:qs[k.toNat]? with
|none=>simp[nd0]
|some q=>exact(G.q q (mem_of_getElem? h)).2.2.2.2
theorem yJ(G:GdB qs files){k:Int}{i:Ino}{s:BSt}(h:shS s):shS (lB qs ids k i s):=H8 h (G.nd k)
theorem Kl{wr:Int→BSt→BSt}(hw:∀ k s,shS s→shS (wr k s)):∀ (ys:List Int) (s:BSt),shS s→shS (wrK wr qs ys s).1
|[],s,h=>h
|j::r,s,h=>Kl hw r (wr j s) (hw j s h)
theorem Km(G:GdB qs files):∀ (n:Nat) (k:Int) (s:BSt),shS s→shS (wrB qs ids files n k s)
|0,k,s,h=>h
|n+1,k,s,h=>by
   unfold wrB
   split
   ·exact h
   · split
     ·exact yJ G h
     · split
       ·exact yJ G h
       · split
         ·exact yJ G (show shS { (wrK (wrB qs ids files n) qs (bY qs (ndB qs k).names qs.length) s).1 with lst:=_ } from Kl (Km G n) _ s h)
         ·exact yJ G h
structure okS (qs:List (NdH×Nd))(s:BSt):Prop where
 r:s.refs.length=qs.length+1
 b:bdR s
 h:shS s
end
def WrS(g:Nat)(qs:List (NdH×Nd))(ids:List Int)(files:List Ino)(n:Nat):Prop:=∀ (a:BiA) (ow:Nat→Nat) (s:BSt) (k:Int) (W:World),BiW a ow W.heap g qs ids files s→(∀ k,W.heap.size≤k→ow k=0)→(0≤k∧k<qs.length)→17≤(ndB qs k).names.length+n→okS qs s→bdB (wrB qs ids files n k s) →
 CA 27 [pT g,iV k] W fun _ w'=>Nl ow W g qs ids files (wrB qs ids files n k s) w'
theorem bS{qs:List (NdH×Nd)}{i:Nat}{q:NdH×Nd}(h:qs[i]?=some q):ndB qs (i:Int)=q.2:=by unfold ndB;rw[Int.toNat_natCast,List.getD,h];rfl
theorem Kn{qs:List (NdH×Nd)}{ids:List Int}{files:List Ino}{i m:Nat}{q:NdH×Nd}(n:Nat)(s:BSt)(h:qs[i]?=some q)(hm:q.2.ino=(m:Int)):wrB qs ids files (n+1) (i:Int) s=if 0<s.refs.getD m 0 then s else if q.2.kind=2 then lB qs ids i (files.getD m kF) s else if q.2.kind=3 then lB qs ids i (zF,q.2.tgt) s else if q.2.kind=1 then
 lB qs ids i (J0 (wrK (wrB qs ids files n) qs (bY qs q.2.names qs.length) s).1 (iG (wrK (wrB qs ids files n) qs (bY qs q.2.names qs.length) s).2).1)
  { (wrK (wrB qs ids files n) qs (bY qs q.2.names qs.length) s).1 with lst:=(wrK (wrB qs ids files n) qs (bY qs q.2.names qs.length) s).1.lst++(iG (wrK (wrB qs ids files n) qs (bY qs q.2.names qs.length) s).2).1 }
 else lB qs ids i (zF,[]) s:=by
 rw[wrB,bS h,hm,Int.toNat_natCast]
theorem HV{qs:List (NdH×Nd)}{s:List By}:∀ (n:Nat),(bY qs s n).length≤n
|0=>Nat.le_refl _
|n+1=>by
   have:=HV (qs:=qs) (s:=s) n;unfold bY
   split
   ·rw[length_append,length_singleton];omega
   ·omega
theorem EW{l:List By}(h:∀ c∈l,c.length≤255):(aZ l).length≤255:=by
 unfold aZ;rw[List.getD];cases hx:l[l.length-1]? with
|none=>exact Nat.zero_le _
|some x=>exact h x (mem_of_getElem? hx)
theorem Ow{ow ow8:Nat→Nat}{w4 w w':World}(h8:∀ k,k<w4.heap.size→ow8 k=ow k)(hF:aA (Lb ow) w4 w)(hf:aA (Lb ow8) w w'):aA (Lb ow) w4 w':=hF.Y4 hf (fun k h=>by
 by_cases hk:k<w4.heap.size
 · have h:ow8 k≠0∧ow8 k≠4:=h
   rw[h8 k hk] at h;exact .inl h
 ·exact .inr (by omega))
theorem F7(g:Nat)(qs:List (NdH×Nd))(ids:List Int)(files:List Ino)(G:GdB qs files)(n:Nat)(ih:WrS g qs ids files n):WrS g qs ids files (n+1):=by
 intro a ow s k W hM hn hk hdp hok hbd;obtain⟨kn,rfl⟩:=Int.eq_ofNat_of_zero_le hk.1;have hkl:kn<qs.length:=by omega
 obtain⟨q,hq⟩:∃ q,qs[kn]?=some q:=⟨_,List.getElem?_eq_getElem hkl⟩
 have hnd:=bS hq;obtain⟨⟨hi1,hi2⟩,hnl,hnc,htl,hxl⟩:=G.q q (mem_of_getElem? hq);obtain⟨m,hm⟩:=Int.eq_ofNat_of_zero_le (show 0≤q.2.ino by omega);have hwr:=Kn (ids:=ids) (files:=files) n s hq hm;have hM2:=hM;obtain⟨hg,h6,⟨nd1,nd2⟩,⟨i1,i2⟩,⟨f1,f2⟩,_,_,_,⟨r1,r2⟩,⟨s1,s2⟩,e0,t0⟩:=hM2;have hlr:=hok.r;have hfl:=G.fl;have hn1024:=G.n;have hgl:=(Array.getElem?_eq_some_iff.1 hg).1;obtain⟨hvn,hvd,hvx⟩:=nd1.2 q (mem_of_getElem? hq);refine cS 179 [(0,_),(1,_)] Tryz.func27 ?_;refine Gz 7 ?_;refine cL (VG cY rfl rfl nd1.1.non (by omega)) ?_;refine cL (VR (cs:=cT q) oK rfl (fun j v hj=>nd1.1.rowZ kn rfl hq j v hj)) ?_;refine VJ A0 rfl ?_;intro w1 hg1 hs1 hf1;obtain⟨b,eb⟩:∃ b,b=W.heap.size:=⟨_,rfl⟩
 rw[←eb] at hg1 ⊢;refine Wf (vs:=cT q) oK rfl rfl (aJ q).2 hg1 rfl ?_;intro w2 hb2 hs2 hf2;have hF2:aA nob W w2:=hf1.tw hf2;have hr2v:=(r1.Y7 hF2).vw;refine Gz 4 ?_;refine VT 9 [0,1,2,3,4,5,6,7,8] aK (by kernel_rfl) ?_;refine Gz 3 ?_;refine xC rfl (VH mL rfl (aD (hF2.obj hg id) rfl)) ?_;refine Gz 1 ?_;refine xC rfl (VH aE rfl (aD hb2 rfl)) ?_;refine xC rfl (VF bO rfl rfl hr2v.non (by omega)) ?_;refine xC rfl (VH aE rfl (hr2v.gz 0 m hm (by omega))) ?_;refine xK 0 ?_ ?_<;>intro h29
 ·rw[if_pos h29] at hwr;refine Gz 6 ?_;exact⟨_,rfl,by rw[hwr];exact⟨(hF2.draws 1).any,a,ow,hM.Y7 (hF2.draws 1),fun _ _=>rfl,fun k hk=>hn k (by have hk:w2.heap.size≤k:=hk;omega),hok.b⟩⟩
 rw[if_neg h29] at hwr;refine Gz 7 ?_;refine cL (bU (aN zF []) qK mG) ?_;refine VJ mG rfl ?_;intro w3 hg3 hs3 hf3;obtain⟨c,ec⟩:∃ c,c=w2.heap.size:=⟨_,rfl⟩
 rw[show (w2.drewN 1).heap.size=c from ec.symm] at hg3 ⊢;refine sA rfl bJ (bT _ _) hg3 ?_;intro w4 hc4 hs4 hf4;have hf24:aA nob w2 w4:=hf3.Y5.tw hf4;have hF4:=hF2.trans hf24;have hs3b:w3.heap.size=w2.heap.size+1:=hs3;have hb4:=hf24.obj hb2 id;have hM4:=hM.Y7 hF4;have hg4:=hF4.obj hg id;have hbl:ow b=0:=hn b (by omega);have hcl:ow c=0:=hn c (by omega);have hn4:∀ k,w4.heap.size≤k→ow k=0:=fun k hk=>hn k (by omega);have hbc:b≠c:=by omega
 refine Gz 2 ?_;refine V6 (β:=(BSt×Ino)×(BiA×(Nat→Nat))) (fun⟨⟨s8,i8⟩,⟨a8,ow8⟩⟩=>[(0,pT g),(1,iV (kn:Int)),(4,pT b),(5,pT c)]) (fun⟨⟨s8,i8⟩,⟨a8,ow8⟩⟩ w=>BiW a8 ow8 w.heap g qs ids files s8∧w.heap[b]?=some (.cells (cT q).toArray 68 (0,0))∧w.heap[c]?=some (.cells (aN i8.1 i8.2).toArray 84 (0,0))∧wrB qs ids files (n+1) (kn:Int) s=lB qs ids kn i8 s8∧okS qs s8∧i8.2.length≤200∧(∀ k,k<w4.heap.size→ow8 k=ow k)∧(∀ k,w.heap.size≤k→ow8 k=0)∧aA (fun k=>Lb ow k∨k=c) w4 w) ?_ ?_
 ·refine fK 9 ?_ ?_<;>intro h34
  ·rw[if_pos h34] at hwr;have hmf:m<files.length:=by omega
   obtain⟨fi,hfi⟩:∃ fi,files[m]?=some fi:=⟨_,List.getElem?_eq_getElem hmf⟩
   have hfd:files.getD m kF=fi:=by rw[List.getD,hfi];rfl
   rw[hfd] at hwr;have hfv4:=f1.Y7 hF4;refine Gz 4 ?_;refine VS 8 (fun H=>H[g]?=some (.cells (biK a qs ids files s).toArray 76 (0,0))∧H[b]?=some (.cells (cT q).toArray 68 (0,0))∧VwM 11 Be H a.fo a.fc files) [8] [0,1,2,3,4,5,6,7,8] aK (by kernel_rfl) (⟨hg4,hb4,hfv4⟩) ?_;refine Gz 6 ?_;refine xC rfl (VG CO rfl rfl f1.non (by omega)) ?_;refine xC rfl (Wv (cs:=Be fi) bJ rfl (fun H hH a v hv=>hH.2.2.rowZ m hm hfi a v hv)) ?_;refine VL rfl rfl (Wf (vs:=Be fi) bJ rfl rfl (bT _ _) hc4 rfl ?_);intro w5 hc5 hs5 hf5;refine Wl rfl ?_;have hf45:aA (· = c) w4 w5:=hf5.Y5;refine Gz 2 ?_;have hM5:=hM4.Y8 hf45 (fun k hk h=>hk (by have h:k=c:=h;rw[h];exact hcl)) (fun _ _=>rfl);exact aC ⟨⟨s,fi⟩,⟨a,ow⟩⟩ ⟨hM5,hf45.obj hb4 hbc,hc5,hwr,hok,G.ft fi (mem_of_getElem? hfi),fun _ _=>rfl,fun k hk=>hn4 k (Nat.le_trans hf45.size hk),hf45.mono (fun k h=>.inr h)⟩
  rw[if_neg h34] at hwr;refine fK 6 ?_ ?_<;>intro h44
  ·rw[if_pos h44] at hwr;refine Gz 8 ?_;refine VI gC rfl rfl rfl hc4 rfl ?_;intro w5 hc5 hs5 hf5;have hf45:aA (· = c) w4 w5:=hf5;refine Gz 2 ?_;have hM5:=hM4.Y8 hf45 (fun k hk h=>hk (by have h:k=c:=h;rw[h];exact hcl)) (fun _ _=>rfl);exact aC ⟨⟨s,(zF,q.2.tgt)⟩,⟨a,ow⟩⟩ ⟨hM5,hf45.obj hb4 hbc,hc5,hwr,hok,htl,fun _ _=>rfl,fun k hk=>hn4 k (Nat.le_trans hf45.size hk),hf45.mono (fun k h=>.inr h)⟩
  rw[if_neg h44] at hwr;refine fK 6 ?_ ?_<;>intro h49
  ·rw[if_pos h49] at hwr;have hvn4:=hvn.Y8 hF4 (fun _ _=>id);have hqn:q.1.names.n=q.2.names.length:=hvn4.1;have hbK:=(qQ (qs:=qs) (ids:=ids) _ _ _).bd (show bdB _ from hwr ▸ hbd);have hbK2:=(LW _ _).bd hbK;refine Gz 5 ?_;refine VS 8 (fun H=>H[g]?=some (.cells (biK a qs ids files s).toArray 76 (0,0))∧H[b]?=some (.cells (cT q).toArray 68 (0,0))) [6] [0,1,2,3,4,5,6,7] aK (by kernel_rfl) (⟨hg4,hb4⟩) ?_;refine Gz 5 ?_;refine xC rfl (VK (u:=.slice q.1.names.a q.2.names.length q.1.names.c) (VP mM rfl (fun H hH=>aD hH.2 rfl)) (by rw[←hqn];rfl)) ?_;refine VL rfl rfl (VE U6 rfl (K9 a.lo a.lc qs q.1.names.a q.1.names.c q.2.names (w4.drewN 1) ⟨(hM4.Y7 (YJ 1)).2.2.1.1.1,(hM4.Y7 (YJ 1)).2.2.1.1.2⟩ (hvn4.2.1.Y7 (YJ 1)) (by omega)) rfl ?_);rintro _ w5 ⟨ko,kc,ys,rfl,hoy,hfy,hky,hf5⟩;have hf5:=hf5.Y5;refine VQ (by exact⟨hf5.obj hg4 id,hf5.obj hb4 id⟩) ?_;have hfy:Fr w4.heap.size ko:=hfy;have hky:=G.k _ _ hky;rw[←hky] at hwr hbK hbK2;have hysl:ys.length≤qs.length:=by rw[hky];exact HV _
   have hyv:=hoy.vw;have hy63:=hyv.Y6;have hz5:=hf5.size;have hb5:=hf5.obj hb4 id;have hc5:=hf5.obj hc4 id;have hM5:=hM4.Y7 hf5;have hlk5:=hoy.lt;refine Gz 5 ?_;refine WC aU lO rfl ?_;intro w6 ho6 hs6 hf6;obtain⟨lb,elb⟩:∃ b,b=w5.heap.size:=⟨_,rfl⟩
   rw[←elb] at ho6 ⊢;refine Gz 10 ?_;refine VM (β:=((Nat×BSt)×(BiA×(Nat→Nat)))×(Option Addr×(Nat×List Ent))) (fun⟨⟨⟨j,s9⟩,⟨a9,ow9⟩⟩,⟨lo9,⟨lc9,L9⟩⟩⟩=>[(0,pT g),(1,iV (kn:Int)),(4,pT b),(5,pT c),(6,.slice ko ys.length kc),(7,.slice lo9 L9.length lc9),(8,iV j)]) (fun⟨⟨⟨j,s9⟩,⟨a9,ow9⟩⟩,⟨lo9,⟨lc9,L9⟩⟩⟩ w=>j≤ys.length∧L9.length=j∧wrK (wrB qs ids files n) qs ys s=((wrK (wrB qs ids files n) qs (ys.drop j) s9).1,L9++(wrK (wrB qs ids files n) qs (ys.drop j) s9).2)∧BiW a9 ow9 w.heap g qs ids files s9∧okS qs s9∧(∀ k,k<w5.heap.size→ow9 k=ow k)∧(∀ k,w.heap.size≤k→ow9 k=0)∧bN 3 bH 39 w.heap lo9 lc9 L9∧(∀ k,blk lo9 k→w5.heap.size≤k∧ow9 k=0)∧(∀ x∈L9,x.1.length≤255)∧aA (Lb ow) w5 w) (fun⟨⟨⟨j,s9⟩,⟨a9,ow9⟩⟩,⟨lo9,⟨lc9,L9⟩⟩⟩=>ys.length-j) ⟨⟨⟨0,s⟩,⟨a,ow⟩⟩,⟨some ⟨lb,0,none⟩,⟨0,[]⟩⟩⟩ ⟨rfl,rfl,rfl,rfl,rfl,rfl,rfl,trivial⟩ ⟨Nat.zero_le _,rfl,rfl,hM5.Y7 hf6,hok,fun _ _=>rfl,fun k hk=>hn k (by have:=hf6.size;omega),ho6,fun k ⟨a,ha,e⟩=>by cases ha;have e:lb=k:=e;exact⟨by omega,hn k (by omega)⟩,by simp,hf6.any⟩ ?_;rintro⟨⟨⟨j,s9⟩,⟨a9,ow9⟩⟩,⟨lo9,⟨lc9,L9⟩⟩⟩ w9 ⟨hj,hLj,hwk,hM9,hok9,hl9,hn9,ho9,hb9l,hL9,hF9⟩;refine fK 6 ?_ ?_<;>intro h61
   ·have hjl:j<ys.length:=by omega
    obtain⟨z,hz⟩:∃ z,ys[j]?=some z:=⟨_,List.getElem?_eq_getElem hjl⟩
    have hzd:ys.getD j 0=z:=by rw[List.getD,hz];rfl
    have hzm:=mem_of_getElem? hz;rw[hky] at hzm;obtain⟨i,rfl,hil,hkq⟩:=gE.1 hzm;obtain⟨r,hr⟩:∃ r,qs[i]?=some r:=⟨_,List.getElem?_eq_getElem hil⟩
    rw[sH hr] at hkq;obtain⟨hrne,hrdl⟩:=oB.1 hkq;have hrl:r.2.names.length=q.2.names.length+1:=by have h0:=length_pos_iff.2 hrne;rw[←hrdl,List.length_dropLast];omega
    have hnr:=bS hr;obtain⟨⟨hr1,hr2⟩,hrnl,hrnc,hrtl,hrxl⟩:=G.q r (mem_of_getElem? hr);obtain⟨mr,hmr⟩:=Int.eq_ofNat_of_zero_le (show 0≤r.2.ino by omega);have hdr:ys.drop j=(i:Int)::ys.drop (j+1):=by obtain⟨h,e⟩:=List.getElem?_eq_some_iff.1 hz;rw[←e];exact drop_eq_getElem_cons h
    rw[hdr] at hwk;have hb9:bdB (wrB qs ids files n (i:Int) s9):=(FX (qs:=qs) (CF n) (ys.drop (j+1)) _).bd (by have h:=hbK2;rw[hwk] at h;exact h);have hvy9:=hyv.Y8 hF9 (fun a ha h=>by have h1:=hfy a ha;have h2:=hlk5 a ha;have h:(ow a.block≠0∧ow a.block≠4):=h;exact h.1 (hn4 _ h1));refine Gz 1 ?_;refine aW [(0,_),(1,_),(4,_),(5,_),(6,_),(7,_),(8,_),(61,_)] ?_;refine Gz 11 ?_;refine cL (VF bO rfl rfl hvy9.non (by omega)) ?_;refine cL (VH aE rfl (hvy9.gz 0 j rfl hjl)) ?_;rw[hzd];refine VE RE rfl (ih a9 ow9 s9 (i:Int) w9 hM9 hn9 ⟨by omega,by omega⟩ (by rw[hnr,hrl];rw[hnd] at hdp;omega) hok9 hb9) rfl ?_;rintro _ w10 hP;obtain⟨hf10,a10,ow10,hM10,hl10,hn10,hbr10⟩:=hP;have hok10:okS qs (wrB qs ids files n (i:Int) s9):=⟨by rw[(CF n _ s9).r];exact hok9.r,hbr10,Km G n _ s9 hok9.h⟩
    obtain⟨e,ee⟩:∃ e:Ent,e=(aZ r.2.names,r.2.kind,(wrB qs ids files n (i:Int) s9).refs.getD mr 0-1):=⟨_,rfl⟩
    have hwk2:wrK (wrB qs ids files n) qs ys s=((wrK (wrB qs ids files n) qs (ys.drop (j+1)) (wrB qs ids files n (i:Int) s9)).1,(L9++[e])++(wrK (wrB qs ids files n) qs (ys.drop (j+1)) (wrB qs ids files n (i:Int) s9)).2):=by
     rw[hwk];show (_,L9++((aZ (ndB qs i).names,(ndB qs i).kind,(wrB qs ids files n (i:Int) s9).refs.getD (ndB qs i).ino.toNat 0-1)::_))=_;rw[hnr,hmr,Int.toNat_natCast,←ee,append_assoc];rfl
    obtain⟨s10,es10⟩:∃ t,t=wrB qs ids files n (i:Int) s9:=⟨_,rfl⟩
    rw[←es10] at hM10 hbr10 hok10 ee hwk2;have hz10:=hf10.size;have hz9:=hF9.size;have hl9lt:=ho9.lt;have hnl9:∀ k,blk lo9 k→¬ Lb ow9 k:=fun k hk h=>h.1 (hb9l k hk).2;have hvy10:=hvy9.Y8 hf10 (fun a ha h=>by have h1:=hfy a ha;have h2:=hlk5 a ha;exact h.1 (by rw[hl9 _ h2];exact hn4 _ h1));have ho10:=ho9.Y8 hf10 (fun a ha=>hnl9 _ ⟨a,ha,rfl⟩);have hN10:=hM10.2.2.1.1;have hg10:=hM10.1;have hR10:=hM10.2.2.2.2.2.2.2.2.1.1;obtain⟨hrn,_⟩:=hN10.2 r (mem_of_getElem? hr);have hrnn:r.1.names.n=r.2.names.length:=hrn.1;have hlr10:=hok10.r;have hrb:=hbr10.1 (s10.refs.getD mr 0) (by rw[List.getD,List.getElem?_eq_getElem (by omega)];exact List.getElem_mem _);refine Gz 3 ?_;refine VS 11 (fun H=>H[g]?=some (.cells (biK a10 qs ids files s10).toArray 76 (0,0))∧Vw i64 H ko kc ys∧VwM 10 cT H a10.lo a10.lc qs) [10,11] [0,1,2,3,4,5,6,7,8,9,10,11] aK (by kernel_rfl) (⟨hg10,hvy10,hN10.1⟩) ?_;refine Gz 6 ?_;refine xC rfl (VF bO rfl rfl hvy10.non (by omega)) ?_;refine xC rfl (VP aE rfl (fun H hH=>hH.2.1.gz 0 j rfl hjl)) ?_;rw[hzd];refine xC rfl (VG cY rfl rfl hN10.1.non (by omega)) ?_;refine xC rfl (Wv (cs:=cT r) oK rfl (fun H hH a v hv=>hH.2.2.rowZ i rfl hr a v hv)) ?_;refine VL rfl rfl (VJ A0 rfl ?_);intro w11 hg11 hs11 hf11;have hf11:=hf11.Y5;obtain⟨d,ed⟩:∃ d,d=w10.heap.size:=⟨_,rfl⟩
    rw[show (w10.drewN 1).heap.size=d from ed.symm] at hg11 ⊢;refine VQ (by exact⟨hf11.obj hg10 id,hvy10.Y7 hf11,hN10.1.Y7 hf11⟩) ?_;refine VL rfl rfl (Wf (vs:=cT r) oK rfl rfl (aJ r).2 hg11 rfl ?_);intro w12 hd12 hs12 hf12;refine Wl rfl ?_;have hf1012:aA nob w10 w12:=hf11.tw hf12;have hg12:=hf1012.obj hg10 id;have hr12:=hrn.2.1.Y7 hf1012;have hR12:=hR10.vw.Y7 hf1012;refine Gz 2 ?_;refine VS 24 (fun H=>H[d]?=some (.cells (cT r).toArray 68 (0,0))∧H[g]?=some (.cells (biK a10 qs ids files s10).toArray 76 (0,0))∧Vw Bb H r.1.names.a r.1.names.c r.2.names∧Vw i64 H a10.ro a10.rc s10.refs) [21,22] [0,1,2,3,4,5,6,7,8,9,10,11,12,13,14,15,16,17,18,19,20,21,22,23] aK (by kernel_rfl) (⟨hd12,hg12,hr12,hR12⟩) ?_;refine Gz 2 ?_;refine xC rfl (VK (u:=.slice r.1.names.a r.2.names.length r.1.names.c) (VP mM rfl (fun H hH=>aD hH.1 rfl)) (by rw[←hrnn];rfl)) ?_;refine Gz 1 ?_;refine xC rfl (VK (u:=.slice r.1.names.a r.2.names.length r.1.names.c) (VP mM rfl (fun H hH=>aD hH.1 rfl)) (by rw[←hrnn];rfl)) ?_;refine Gz 1 ?_;refine xC rfl (VK (u:=iV ((r.2.names.length-1:Nat):Int)) (W3 rfl rfl (by omega)) (by congr 1;omega)) ?_;refine xC rfl (VF xH rfl rfl hr12.non (by omega)) ?_;refine xC rfl (VP gC rfl (fun H hH=>hH.2.2.1.gz [] (r.2.names.length-1) rfl (by omega))) ?_;refine Gz 8 ?_;refine xC rfl (VF bO rfl rfl hR12.non (by omega)) ?_;refine xC rfl (VP aE rfl (fun H hH=>hH.2.2.2.gz 0 mr hmr (by omega))) ?_;refine Gz 1 ?_;refine xC rfl (bU (bH (aZ r.2.names,r.2.kind,s10.refs.getD mr 0-1)) zX pJ) ?_;rw[←ee];refine VL rfl rfl (We lO (cs:=(bH e).toArray) pJ rfl rfl rfl (by kernel_rfl) rfl ?_);intro w13 hg13 hs13 hf13;have hf13:=hf13.Y5;have ho13:=dG (e:=39) (xs:=[e]) aU (by simpa using hg13) (by show 1≤maxLen;decide);refine VQ (by exact⟨hf13.obj hd12 id,hf13.obj hg12 id,hr12.Y7 hf13,hR12.Y7 hf13⟩) ?_;refine VL rfl rfl (VW aU rfl lO rfl rfl ((ho10.Y7 hf1012).Y7 hf13) (ho13.vw aU) (by simp only[length_singleton];omega) (by simp only[length_singleton];unfold maxLen;omega) rfl ?_);intro lo14 lc14 w14 ho14 hf14 hr14 hn14;have hf1013:=hf1012.trans hf13;have hz13:=hf1013.size;have hz14:=hf14.size;have hn9l:∀ k,blk lo9 k→ow10 k=0:=fun k hk=>by
     have hk2:k<w9.heap.size:=by obtain⟨x,hx,hxe⟩:=hk;have:=hl9lt x hx;omega
     rw[hl10 k hk2];exact(hb9l k hk).2
    refine VQ (by exact⟨hf14.obj (hf13.obj hd12 id) (fun⟨x,hx,hxe⟩=>by have:=hl9lt x hx;omega),hf14.obj (hf13.obj hg12 id) (fun h=>by have:=hn9l g h;rw[hM10.2.1] at this;omega),(hr12.Y7 hf13).Y8 hf14 (fun x hx h=>by have h1:=hrn.2.2 hrne _ ⟨x,hx,rfl⟩;have h1:ow10 x.block=4:=h1;have:=hn9l _ h;omega),(hR12.Y7 hf13).Y8 hf14 (fun x hx h=>by have h1:=hM10.2.2.2.2.2.2.2.2.1.2 _ ⟨x,hx,rfl⟩;have:=hn9l _ h;omega)⟩) ?_;have hM14:=(hM10.Y7 hf1013).Y8 hf14 (fun k hk hb=>hk (hn9l k hb)) (fun _ _=>rfl);have hF14:aA (Lb ow) w5 w14:=((Ow hl9 hF9 hf10).trans hf1013.any).Y4 hf14 (fun k h=>.inr (hb9l k h).1);have hb14:∀ k,blk lo14 k→w5.heap.size≤k∧ow10 k=0:=fun k hk=>by
     obtain⟨x,hx,hxe⟩:=hk;rcases hr14 x hx with h|h
     ·exact⟨(hb9l k ⟨x,h,hxe⟩).1,hn9l k ⟨x,h,hxe⟩⟩
     ·exact⟨by omega,hn10 k (by omega)⟩
    refine Gz 9 ?_;exact aG ⟨⟨⟨j+1,s10⟩,⟨a10,ow10⟩⟩,⟨lo14,⟨lc14,L9++[e]⟩⟩⟩ ⟨by omega,by rw[length_append,hLj];rfl,hwk2,hM14,hok10,fun k hk=>by rw[hl10 k (by omega)];exact hl9 k hk,fun k hk=>hn10 k (by omega),ho14,hb14,fun x hx=>by
     rcases mem_append.1 hx with hx|hx
     ·exact hL9 x hx
     ·rw[mem_singleton] at hx;subst hx;rw[ee];exact EW hrnc,hF14⟩ (by show ys.length-(j+1)<ys.length-j;omega)
   have hje:ys.drop j=[]:=List.drop_of_length_le (by omega);rw[hje] at hwk;have hwk:wrK (wrB qs ids files n) qs ys s=(s9,L9):=by rw[hwk];show (s9,L9++[])=(s9,L9);rw[append_nil]
   rw[hwk] at hwr hbK hbK2;have hL9n:L9.length≤1024:=by omega
   refine Gz 1 ?_;refine aW [(0,_),(1,_),(4,_),(5,_),(6,_),(7,_),(8,_),(61,_)] ?_;refine Gz 10 ?_;refine VE Qz rfl (zT lo9 lc9 L9 w9 (ho9.vw aU) (fun x hx=>Nat.le_trans (hL9 x hx) (by decide)) (by omega)) rfl ?_;rintro _ w10 ⟨o10,c10,rfl,ho10,hfr10,hf10⟩;have hz10:=hf10.size;have hz9:=hF9.size;have hbk5:b<w5.heap.size:=by omega
   have hck5:c<w5.heap.size:=by omega
   have hb10:=hf10.obj (hF9.obj hb5 (fun h=>h.1 hbl)) id;have hc10:=hf10.obj (hF9.obj hc5 (fun h=>h.1 hcl)) id;refine Gz 12 ?_;refine VI aE rfl rfl rfl hc10 rfl ?_;intro w11 hc11 hs11 hf11;have hM11:=(hM9.Y7 hf10).Y8 hf11 (fun k hk h=>hk (by have h:k=c:=h;rw[h,hl9 c hck5];exact hcl)) (fun _ _=>rfl);have ho11:=ho10.Y8 hf11 (fun x hx h=>by have h:x.block=c:=h;have:=hfr10 x hx;omega);have hb11:=hf11.obj hb10 hbc;refine Gz 7 ?_;refine VE Mw rfl (J9 o10 c10 (iG L9).1 w11 hM11 (fun k hk=>hn9 k (by omega)) ho11.vw (fun _ k ⟨x,hx,hxe⟩=>.inl (hn9 k (by have:=hfr10 x hx;omega))) (by have h:=hbK.2.1;simp only[length_append] at h;omega)) rfl ?_;rintro _ w12 ⟨rfl,a12,ow12,hM12,_,q1,q2,hf12⟩;have hb12:=hf12.obj hb11 (fun h=>by have h:b=g∨ow9 b=2:=h;rw[hl9 b hbk5,hbl] at h;omega);have hc12:=hf12.obj hc11 (fun h=>by have h:c=g∨ow9 c=2:=h;rw[hl9 c hck5,hcl] at h;omega);refine Gz 1 ?_;refine VI aE rfl rfl rfl hc12 rfl ?_;intro w13 hc13 hs13 hf13;refine Gz 2 ?_;have hc12l:ow12 c=0:=by rw[q1 c (by omega),hl9 c hck5];exact hcl
   have hM13:=hM12.Y8 hf13 (fun k hk h=>hk (by have h:k=c:=h;rw[h];exact hc12l)) (fun _ _=>rfl);refine aC ⟨⟨{ s9 with lst:=s9.lst++(iG L9).1 },J0 s9 (iG L9).1⟩,⟨a12,ow12⟩⟩ ⟨hM13,hf13.obj hb12 hbc,hc13,hwr,⟨hok9.r,hok9.b,hok9.h⟩,Nat.zero_le _,fun k hk=>by rw[q1 k (by omega),hl9 k (by omega)],fun k hk=>q2 k (by omega),?_⟩;have hf49:aA (Lb ow) w4 w9:=hf5.any.trans hF9;have hf411:aA (fun k=>Lb ow k∨k=c) w4 w11:=((hf49.mono (fun k h=>.inl h)).trans hf10.any).trans (hf11.mono (fun k h=>.inr h));refine(hf411.Y4 hf12 (fun k h=>?_)).trans (hf13.mono (fun k h=>.inr h));have h:k=g∨ow9 k=2:=h;by_cases hk:k<w5.heap.size
   · rw[hl9 k hk] at h
     refine .inl (.inl ?_);show ow k≠0∧ow k≠4;rcases h with h|h
     ·rw[h,h6];decide
     ·rw[h];decide
   ·exact .inr (by omega)
  rw[if_neg h49] at hwr;refine Gz 6 ?_;exact aC ⟨⟨s,(zF,[])⟩,⟨a,ow⟩⟩ ⟨hM4,hb4,hc4,hwr,hok,Nat.zero_le _,fun _ _=>rfl,hn4,YI _ _⟩
 rintro⟨⟨s8,i8⟩,⟨a8,ow8⟩⟩ w8 ⟨hM8,hb8,hc8,hw8,hok8,hi8,hl8,hn8,hF8⟩;refine Gz 3 ?_;have hz8:=hF8.size;have hcs:c<w4.heap.size:=by omega
 have hbs:b<w4.heap.size:=by omega
 have hc8l:ow8 c=0:=by rw[hl8 c hcs];exact hcl
 have hb8l:ow8 b=0:=by rw[hl8 b hbs];exact hbl
 have kc:∀ {w w2:World} {S:Nat→Prop},(∀ k,S k→k=c)→BiW a8 ow8 w.heap g qs ids files s8→aA S w w2→BiW a8 ow8 w2.heap g qs ids files s8:=fun hS hM hf=>hM.Y8 hf (fun k hk h=>hk (by rw[hS k h];exact hc8l)) (fun _ _=>rfl);obtain⟨R,hR⟩:∃ R,R=dW s8 q.2.xs:=⟨_,rfl⟩
 have hfix:lB qs ids (kn:Int) i8 s8 = { R.2 with ino:=R.2.ino++(nV (inB qs ids kn i8 R.1).1 (inB qs ids kn i8 R.1).2).1,refs:=R.2.refs.set m ((aQ R.2.ino R.2.ino.length:Nat)+1),many:=R.2.many+1 }:=by unfold lB;rw[hnd,←hR,hm,Int.toNat_natCast]
 have hbF:bdB R.2:=by have h:=(Ig (qs:=qs) (ids:=ids) kn i8 s8).bd (by rw[←hw8];exact hbd);rw[hnd,←hR] at h;exact h
 have hbT:R.2.ino.length+(nV (inB qs ids kn i8 R.1).1 (inB qs ids kn i8 R.1).2).1.length≤137438953472:=by have h:=hbd.1;rw[hw8,hfix] at h;simp only[length_append] at h;exact h
 refine Gz 2 ?_;refine VI aE rfl rfl rfl hc8 rfl ?_;intro w9 hc9 hs9 hf9;have hb9:=hf9.obj hb8 hbc;refine Gz 6 ?_;refine cL (VH aE rfl (aD (i:=3) hb9 rfl)) ?_;refine Gz 1 ?_;refine VI aE rfl rfl rfl hc9 rfl ?_;intro w10 hc10 hs10 hf10;have hb10:=hf10.obj hb9 hbc;have hM10:=kc (fun _ h=>h) (kc (fun _ h=>h) hM8 hf9) hf10;refine Gz 3 ?_;refine VS 9 (fun H=>H[g]?=some (.cells (biK a8 qs ids files s8).toArray 76 (0,0))∧H[b]?=some (.cells (cT q).toArray 68 (0,0))) [7,9] [0,1,2,3,4,5,6,7,8,9] aK (by kernel_rfl) (⟨hM10.1,hb10⟩) ?_;refine Gz 6 ?_;refine xC rfl (VP aE rfl (fun H hH=>aD (i:=4) hH.2 rfl)) ?_;refine VL rfl rfl (VE Rw rfl (BI a8.io a8.ic ids q.2.ud (w10.drewN 1) (hM10.2.2.2.1.1.Y7 (YJ 1))) rfl ?_);rintro _ w11 ⟨rfl,hw⟩;subst hw;refine VQ (by exact⟨hM10.1,hb10⟩) ?_;refine Gz 1 ?_;refine VL rfl rfl (VI aE rfl rfl rfl hc10 rfl ?_);intro w12 hc12 hs12 hf12;refine Wl rfl ?_;have hf12:=hf12.Y5;have hb12:=hf12.obj hb10 hbc;have hM12:=kc (fun _ h=>h) hM10 hf12;have hs12b:w12.heap.size=w10.heap.size:=hs12;refine Gz 3 ?_;refine VS 9 (fun H=>H[g]?=some (.cells (biK a8 qs ids files s8).toArray 76 (0,0))∧H[b]?=some (.cells (cT q).toArray 68 (0,0))) [7,9] [0,1,2,3,4,5,6,7,8,9] aK (by kernel_rfl) (⟨hM12.1,hb12⟩) ?_;refine Gz 6 ?_;refine xC rfl (VP aE rfl (fun H hH=>aD (i:=5) hH.2 rfl)) ?_;refine VL rfl rfl (VE Rw rfl (BI a8.io a8.ic ids q.2.gd (w12.drewN 1) (hM12.2.2.2.1.1.Y7 (YJ 1))) rfl ?_);rintro _ w13 ⟨rfl,hw⟩;subst hw;refine VQ (by exact⟨hM12.1,hb12⟩) ?_;refine Gz 1 ?_;refine VL rfl rfl (VI aE rfl rfl rfl hc12 rfl ?_);intro w14 hc14 hs14 hf14;refine Wl rfl ?_;have hf14:=hf14.Y5;have hb14:=hf14.obj hb12 hbc;have hM14:=kc (fun _ h=>h) hM12 hf14;have hs14b:w14.heap.size=w12.heap.size:=hs14;refine Gz 7 ?_;refine cL (VH Pd rfl (aD hM14.1 rfl)) ?_;refine cA 1 U5 (I0 a8.lo a8.lc qs kn w14 hM14.2.2.1.1) ?_;rintro _ w15 ⟨rfl,hf15⟩;have hz15:=hf15.size;refine Gz 1 ?_;refine VI aE rfl rfl rfl (hf15.obj hc14 id) rfl ?_;intro w16 hc16 hs16 hf16;have hb16:=hf16.obj (hf15.obj hb14 id) hbc;have hM16:=kc (fun _ h=>h) (hM14.Y7 hf15) hf16;have hX16:=(hM16.2.2.1.1.2 q (mem_of_getElem? hq)).2.2;have hxn:q.1.xs.n=q.2.xs.length:=hX16.1;have hX16:=hX16.eta;have hn16:∀ k,w16.heap.size≤k→ow8 k=0:=fun k hk=>hn8 k (by omega);refine Gz 6 ?_;refine cL (VK (u:=.slice q.1.xs.a q.2.xs.length q.1.xs.c) (VH kO rfl (aD hb16 rfl)) (by rw[←hxn];rfl)) ?_;refine cA 0 U4 (Eh a8 ow8 g qs ids files s8 q.1.xs.a q.1.xs.c q.2.xs w16 hM16 hn16 hX16 hxl hok8.h (hR ▸ hbF) hok8.b) ?_;rw[←hR];rintro _ w17 ⟨rfl,hf17,a17,ow17,hM17,hl17,hn17,hbr17⟩;have hz17:=hf17.size;have hb17:=hf17.obj hb16 (fun h=>h.1 hb8l);have hc17:=hf17.obj hc16 (fun h=>h.1 hc8l);have hc17l:ow17 c=0:=by rw[hl17 c (by omega)];exact hc8l
 have hb17l:ow17 b=0:=by rw[hl17 b (by omega)];exact hb8l
 refine Gz 1 ?_;refine VI aE rfl rfl rfl hc17 rfl ?_;intro w18 hc18 hs18 hf18;have hb18:=hf18.obj hb17 hbc;have hM18:=hM17.Y8 hf18 (fun k hk h=>hk (by have h:k=c:=h;rw[h];exact hc17l)) (fun _ _=>rfl);have hcF:w18.heap[c]?=some (.cells (aN (inB qs ids kn i8 R.1).1 (inB qs ids kn i8 R.1).2).toArray 84 (0,0)):=by unfold inB;rw[hnd];exact hc18
 refine Gz 4 ?_;refine cL (VR (cs:=aN (inB qs ids kn i8 R.1).1 (inB qs ids kn i8 R.1).2) bJ rfl (aX hcF 0 rfl)) ?_;refine VE Rv rfl (Hw (inB qs ids kn i8 R.1).1 (inB qs ids kn i8 R.1).2 w18 (by show i8.2.length≤maxLen;unfold maxLen;omega)) rfl ?_;rintro _ w19 ⟨o19,c19,rfl,ho19,hfr19,hf19⟩;have hz19:=hf19.size;have hb19:=hf19.obj hb18 id;have hM19:=hM18.Y7 hf19;refine Gz 8 ?_;refine VS 13 (fun H=>bG H ((⟨g,0,none⟩:Addr).add 8)=some (.slice a17.ro R.2.refs.length a17.rc)∧H[b]?=some (.cells (cT q).toArray 68 (0,0))) [10,13] [0,1,2,3,4,5,6,7,8,9,10,11,12,13] aK (by kernel_rfl) (⟨aD hM19.1 rfl,hb19⟩) ?_;refine Gz 3 ?_;refine xC rfl (VP mL rfl (fun H hH=>hH.1)) ?_;refine Gz 6 ?_;refine VL rfl rfl (VE Mw rfl (Ka o19 c19 (nV (inB qs ids kn i8 R.1).1 (inB qs ids kn i8 R.1).2).1 (w19.drewN 1) (hM19.Y7 (YJ 1)) (fun k hk=>hn17 k (by have hk:w19.heap.size≤k:=hk;omega)) (ho19.vw.Y7 (YJ 1)) (fun _ k ⟨x,hx,hxe⟩=>.inl (hn17 k (by have:=hfr19 x hx;omega))) (by omega)) rfl ?_);rintro _ w20 ⟨rfl,a20,ow20,hM20,⟨_,_,hro,hrc⟩,q1,q2,hf20⟩;obtain⟨s20,es20⟩:∃ t:BSt,t = { R.2 with ino:=R.2.ino++(nV (inB qs ids kn i8 R.1).1 (inB qs ids kn i8 R.1).2).1 }:=⟨_,rfl⟩
 rw[←es20] at hM20;have zr:s20.refs=R.2.refs:=by rw[es20]
 have zm:s20.many=R.2.many:=by rw[es20]
 have hf20:=hf20.Y5;have hb20:=hf20.obj hb19 (fun h=>by have h:b=g∨ow17 b=1:=h;rw[hb17l] at h;omega);refine VQ (by exact⟨by rw[←hro,←hrc,←zr];exact aD hM20.1 rfl,hb20⟩) ?_;have hrT:aQ R.2.ino R.2.ino.length≤1152921504606846976:=Ld (by have:=hbF.1;omega);have hR20:=hM20.2.2.2.2.2.2.2.2.1.1;have hRl:R.2.refs.length=qs.length+1:=by rw[hR,(H9 s8 q.2.xs).r];exact hok8.r
 rw[hro,hrc] at hR20;refine Gz 1 ?_;refine xC rfl (VF bO rfl rfl (by rw[←zr];exact hR20.vw.non) (by omega)) ?_;refine VL rfl rfl (Wo lZ aE rfl rfl hR20 (by rw[zr];omega) ?_);intro w21 ho21 hs21 hf21;refine Wl rfl ?_;rw[hm,Int.toNat_natCast] at ho21;have hM21:=hM20.refsup (by rw[hro,hrc];exact ho21) (by rw[hro];exact hf21);refine Gz 6 ?_;refine cL (VK (u:=iV (R.2.many:Nat)) (VH aE rfl (aD hM21.1 rfl)) (by show Value.int .i64 ((s20.many:Nat):Int)=_;rw[zm])) ?_;refine cL (Wr rfl rfl (by have:=hbF.2.2.2.2;omega)) ?_;refine Gz 2 ?_;refine VI aE rfl rfl rfl hM21.1 rfl ?_;intro w22 hg22 hs22 hf22;have hM22:=hM21.manyup (n:=R.2.many+1) hg22 hf22;refine Gz 1 ?_;refine WD rfl ?_;rw[es20] at hM22;rw[hw8,hfix];have A8:aA (Lb ow) W w8:=(hF4.any (S:=Lb ow)).Y4 hF8 (fun k h=>h.elim .inl (fun h=>.inr (by omega)));have A10:=(A8.tw hf9).tw hf10;have A14:=(A10.tw hf12).tw hf14;have A16:=(A14.trans hf15.any).tw hf16;have l8:∀ k,k<W.heap.size→ow8 k=ow k:=fun k hk=>hl8 k (by omega);have l17:∀ k,k<W.heap.size→ow17 k=ow k:=fun k hk=>by rw[hl17 k (by omega),l8 k hk]
 have lg:Lb ow g:=by show ow g≠0∧ow g≠4;rw[h6];decide
 have A18:=(A16.Y4 hf17 (fun k h=>by
  by_cases hk:k<W.heap.size
  · have h:ow8 k≠0∧ow8 k≠4:=h
    rw[l8 k hk] at h;exact .inl h
  ·exact .inr (by omega))).tw hf18
 have A20:=(A18.trans hf19.any).Y4 hf20 (fun k h=>by
  by_cases hk:k<W.heap.size
  · have h:k=g∨ow17 k=1:=h
    rw[l17 k hk] at h;refine .inl ?_;rcases h with h|h
    ·rw[h];exact lg
    · show ow k≠0∧ow k≠4
      rw[h];decide
  ·exact .inr (by omega))
 have A22:=(A20.Y4 hf21 (fun k h=>by
  by_cases hk:k<W.heap.size
  · have h5:=hM17.2.2.2.2.2.2.2.2.1.2 k h
    rw[l17 k hk] at h5;refine .inl ?_;show ow k≠0∧ow k≠4;rw[h5];decide
  ·exact .inr (by omega))).trans (hf22.mono (fun k h=>by have h:k=g:=h;rw[h];exact lg))
 refine⟨_,rfl,A22,a20,ow20,hM22,fun k hk=>by rw[q1 k (by show k<w19.heap.size;omega),l17 k hk],fun k hk=>q2 k (by omega),fun z hz=>?_,hbr17.2⟩;have hz:z∈R.2.refs.set m (((aQ R.2.ino R.2.ino.length:Nat):Int)+1):=hz;rcases List.mem_or_eq_of_mem_set hz with hz|hz
 ·exact hbr17.1 z hz
 ·omega
theorem BD(g:Nat)(qs:List (NdH×Nd))(ids:List Int)(files:List Ino)(G:GdB qs files):∀ (n:Nat),WrS g qs ids files n
|0=>fun a ow s k W hM hn hk hdp hok hbd=>by
   exfalso;obtain⟨kn,rfl⟩:=Int.eq_ofNat_of_zero_le hk.1;obtain⟨q,hq⟩:∃ q,qs[kn]?=some q:=⟨_,List.getElem?_eq_getElem (by omega)⟩
   have h:=(G.q q (mem_of_getElem? hq)).2.1;rw[bS hq] at hdp;omega
|n+1=>F7 g qs ids files G n (BD g qs ids files G n)
section
open Go Go.RowKit Go.Maps
def Bf(l:List Nd):Prop:=l.length≤1024∧(∀ n∈l,∀ s∈n.names,fL s=0)∧(∀ n∈l,n.names.length≤16)∧(l.Pairwise fun a b=>a.names≠b.names)∧iQ l []∧(∀ n∈l,n.names≠[]→iQ l n.names.dropLast)∧(∀ n∈l,sJ n)∧l.Pairwise qM
theorem MY(l:List Nd):chk l=0↔Bf l:=by
 constructor
 · intro h
   have h1:=FF h;have h2:=Ac (Ez h1);have h3:=Jm h1;have hm:¬ ∃ n∈l,¬ sJ n:=fun hm=>by
    rw[lC,h1,if_neg (show ¬ ((0:Int)≠0) from fun h=>h rfl),if_pos hm] at h;cases h
   have hl:l.Pairwise qM:=by
    apply byContradiction;intro hl;rw[lC,h1,if_neg (show ¬ ((0:Int)≠0) from fun h=>h rfl),if_neg hm,if_neg hl] at h;cases h
   exact⟨In h,fun n hn s hs=>h2.1 s (mem_flatMap.2 ⟨n,hn,hs⟩),h2.2.1,not_not.1 h2.2.2,h3.1,h3.2,fun n hn=>byContradiction fun h=>hm ⟨n,hn,h⟩,hl⟩
 · rintro⟨g1,g2,g3,g4,g5,g6,g7,g8⟩
   have e1:kE (iU l)=0:=Ad fun s hs=>by obtain⟨n,hn,h⟩:=mem_flatMap.1 hs;exact g2 n hn s h
   have e2:nmd l=0:=by
    unfold nmd;rw[if_neg (fun h=>h e1),if_neg (fun⟨n,hn,h⟩=>by have:=g3 n hn;omega),if_neg (fun h=>h g4)]
   have e3:plc l=0:=by
    unfold plc;rw[if_neg (by omega),if_neg (fun h=>h e2),if_neg (fun h=>h g5),if_neg (fun⟨n,hn,h1,h2⟩=>h2 (g6 n hn h1))]
   rw[lC,e3,if_neg (show ¬ ((0:Int)≠0) from fun h=>h rfl),if_neg (fun⟨n,hn,h⟩=>h (g7 n hn)),if_pos g8]
theorem JI{a b:Nd}(h:qM a b):qM b a:=fun e=>by
 obtain⟨h1,h2⟩:=h e.symm;exact⟨by rw[←h2.1];exact h1,h2.symm⟩
theorem AJ{l m:List Nd}(h:l.Perm m){s:List By}(hd:iQ l s):iQ m s:=by
 obtain⟨n,hn,h1,h2⟩:=hd;exact⟨n,h.mem_iff.1 hn,h1,h2⟩
theorem wG{l m:List Nd}(h:l.Perm m)(g:Bf l):Bf m:=by
 obtain⟨g1,g2,g3,g4,g5,g6,g7,g8⟩:=g;exact⟨by rw[←h.length_eq];exact g1,fun n hn=>g2 n (h.mem_iff.2 hn),fun n hn=>g3 n (h.mem_iff.2 hn),(h.pairwise_iff (fun h e=>h e.symm)).1 g4,AJ h g5,fun n hn hne=>AJ h (g6 n (h.mem_iff.2 hn) hne),fun n hn=>g7 n (h.mem_iff.2 hn),(h.pairwise_iff (fun h=>JI h)).1 g8⟩
def zO(f:Int→Int)(n:Nd):Nd:={ n with ino:=f n.ino }
def Iq(f:Int→Int)(zs:List Int):Prop:=∀ a∈zs,∀ b∈zs,f a=f b→a=b
theorem Cs{f:Int→Int}{l:List Nd}{s:List By}:iQ (l.map (zO f)) s↔iQ l s:=by
 constructor
 · rintro⟨n,hn,h1,h2⟩
   obtain⟨m,hm,rfl⟩:=mem_map.1 hn;exact⟨m,hm,h1,h2⟩
 · rintro⟨n,hn,h1,h2⟩
   exact⟨zO f n,mem_map.2 ⟨n,hn,rfl⟩,h1,h2⟩
theorem Fc{f:Int→Int}{l:List Nd}(hf:Iq f (l.map (·.ino))):Bf (l.map (zO f))↔Bf l:=by
 have hp:∀ {R R':Nd→Nd→Prop},(∀ a∈l,∀ b∈l,R (zO f a) (zO f b)↔R' a b)→((l.map (zO f)).Pairwise R↔l.Pairwise R'):=fun {R R'} h=>by
  rw[pairwise_map];exact⟨fun g=>g.imp_of_mem (fun ha hb=>(h _ ha _ hb).1),fun g=>g.imp_of_mem (fun ha hb=>(h _ ha _ hb).2)⟩
 have hl:(l.map (zO f)).Pairwise qM↔l.Pairwise qM:=hp fun a ha b hb=>by
  unfold qM;constructor
  ·intro h e;exact h (by show f b.ino=f a.ino;rw[e])
  ·intro h e;exact h (hf _ (mem_map.2 ⟨b,hb,rfl⟩) _ (mem_map.2 ⟨a,ha,rfl⟩) e)
 have hn:((l.map (zO f)).Pairwise fun a b=>a.names≠b.names)↔l.Pairwise fun a b=>a.names≠b.names:=hp fun a _ b _=>Iff.rfl;unfold Bf;rw[hl,hn,length_map,Cs];simp only[List.forall_mem_map,Cs];exact Iff.rfl
theorem LC(zs:List Int):Iq (qL zs) zs:=fun a ha b hb h=>by
 unfold qL at h;have h1:=List.idxOf_lt_length_iff.2 (lP.2 ha);have h2:=List.idxOf_lt_length_iff.2 (lP.2 hb);have e:(dA zs).idxOf a=(dA zs).idxOf b:=by omega
 have g1:=List.getElem_idxOf h1;have g2:=List.getElem_idxOf h2;rw[←g1,←g2];exact getElem_congr_idx e
def NT(f:Int→Int)(p:NdH×Nd):NdH×Nd:=(p.1,zO f p.2)
theorem N9(f:Int→Int)(ps:List (NdH×Nd)):nds (ps.map (NT f))=(nds ps).map (zO f):=by simp[nds,NT,Function.comp_def]
theorem OE{f:Int→Int}{ps qs:List (NdH×Nd)}(hp:qs.Perm (ps.map (NT f)))(hf:Iq f (bK ps)):Bf (nds qs)↔Bf (nds ps):=by
 have h1:(nds qs).Perm ((nds ps).map (zO f)):=by rw[←N9];exact hp.map _
 have h2:Iq f ((nds ps).map (·.ino)):=by
  have e:(nds ps).map (·.ino)=bK ps:=by simp[nds,bK,Function.comp_def]
  rw[e];exact hf
 constructor
 ·intro g;exact(Fc h2).1 (wG h1 g)
 ·intro g;exact wG h1.symm ((Fc h2).2 g)
theorem M2{ps:List (NdH×Nd)}(g:Bf (nds ps)):Bf (nds (jJ ps)):=by
 have e:jJ ps=(kT ps).map (NT (qL (bK (kT ps)))):=rfl;refine(OE (f:=qL (bK (kT ps))) (ps:=kT ps) (by rw[e]) (LC _)).2 ?_;exact wG ((pV ps).symm.map _) g
end
section
open Go Go.RowKit Go.Maps
structure GdT (qs:List (NdH×Nd)):Prop where
 n:0<qs.length∧qs.length≤40
 ino:∀ q∈qs,1≤q.2.ino∧q.2.ino≤qs.length
 may:∀ q∈qs,sJ q.2
 nmv:∀ q∈qs,∀ c∈q.2.names,fL c=0
 dep:∀ q∈qs,q.2.names.length≤16
 lt:∀ (i j:Nat) (p q:NdH×Nd),i<j→qs[i]?=some p→qs[j]?=some q→cP p.2.names q.2.names=true
 lnk:∀ (i j:Nat) (p q:NdH×Nd),i≠j→qs[i]?=some p→qs[j]?=some q→p.2.ino=q.2.ino→p.2.kind≠1∧Alk p.2 q.2
 root:∃ q,qs[0]?=some q∧q.2.names=[]∧q.2.kind=1
 up:∀ q∈qs,q.2.names≠[]→∃ p∈qs,p.2.names=q.2.names.dropLast∧p.2.kind=1
theorem FJ(ps:List (NdH×Nd)):(jJ ps).length=ps.length:=OY (ps:=ps) rfl
theorem M3(ps:List (NdH×Nd)):∀ q∈jJ ps,1≤q.2.ino∧q.2.ino≤(jJ ps).length:=by
 intro q hq;obtain⟨i,hi⟩:=List.getElem?_of_mem hq;obtain⟨h1,h2,_⟩:=OZ (ps:=ps) rfl hi;have h3:=(List.getElem?_eq_some_iff.1 hi).1;have h4:zH ps i≤i:=by
  have:=Ht (bK ((kT ps).take i));have:(bK ((kT ps).take i)).length≤i:=by simp[bK];omega
  unfold zH;omega
 omega
theorem Mh{ps:List (NdH×Nd)}(hz:chk (nds ps)=0)(hl:ps.length≤40):GdT (jJ ps):=by
 have g:=M2 ((MY _).1 hz);obtain⟨qs,hqs⟩:∃ qs,qs=jJ ps:=⟨_,rfl⟩
 have hlen:=FJ ps;have hino:=M3 ps;have hq:nds qs=nds (jJ ps):=by rw[hqs]
 rw[←hqs] at g hlen hino ⊢;obtain⟨g1,g2,g3,g4,g5,g6,g7,g8⟩:=g;have hlt:∀ (i j:Nat) (p q:NdH×Nd),i<j→qs[i]?=some p→qs[j]?=some q→cP p.2.names q.2.names=true:=fun i j p q hij hp h=>QH (CC hz) hq hij hp h;have hmem:∀ q∈qs,q.2∈nds qs:=fun q h=>mem_map.2 ⟨q,h,rfl⟩;have hr:∃ q,qs[0]?=some q∧q.2.names=[]∧q.2.kind=1:=by
  obtain⟨n,hn,h1,h2⟩:=g5;obtain⟨q,hqm,rfl⟩:=mem_map.1 hn;obtain⟨i,hi⟩:=List.getElem?_of_mem hqm;have hi0:=(List.getElem?_eq_some_iff.1 hi).1;by_cases e:i=0
  ·subst e;exact⟨q,hi,h1,h2⟩
  · have:=hlt 0 i _ q (by omega) (List.getElem?_eq_getElem (by omega)) hi
    rw[h1,JJ] at this;cases this
 refine⟨⟨?_,by omega⟩,hino,fun q h=>g7 _ (hmem q h),fun q h=>g2 _ (hmem q h),fun q h=>g3 _ (hmem q h),hlt,fun i j p q hij hp h e=>?_,hr,fun q h hne=>?_⟩
 · obtain⟨q,h,_⟩:=hr
   have:=(List.getElem?_eq_some_iff.1 h).1;omega
 · have hp':=jE hp
   have hq':=jE h;have l1:=(List.getElem?_eq_some_iff.1 hp').1;have l2:=(List.getElem?_eq_some_iff.1 hq').1;have e1:=(List.getElem?_eq_some_iff.1 hp').2;have e2:=(List.getElem?_eq_some_iff.1 hq').2;rcases Nat.lt_or_gt_of_ne hij with c|c
   · have:=pairwise_iff_getElem.1 g8 i j l1 l2 c
     rw[e1,e2] at this;obtain⟨a,b⟩:=this e.symm;have b':=b.symm;exact⟨fun hk=>a (by rw[←b'.1];exact hk),b'⟩
   · have:=pairwise_iff_getElem.1 g8 j i l2 l1 c
     rw[e1,e2] at this;exact this e
 · obtain⟨n,hn,h1,h2⟩:=g6 _ (hmem q h) hne
   obtain⟨p,hp,rfl⟩:=mem_map.1 hn;exact⟨p,hp,h1,h2⟩
section
variable {qs:List (NdH×Nd)}(G:GdT qs)
include G
theorem GdT.inj{i j:Nat}{p q:NdH×Nd}(hp:qs[i]?=some p)(h:qs[j]?=some q)(e:p.2.names=q.2.names):i=j:=by
 rcases Nat.lt_trichotomy i j with g|g|g
 ·have:=G.lt i j p q g hp h;rw[e,Cb] at this;cases this
 ·exact g
 ·have:=G.lt j i q p g h hp;rw[e,Cb] at this;cases this
theorem GdT.kids{s:List By}{ys:List Int}(h:CE qs s ys):ys=bY qs s qs.length:=by
 refine h.uniq ⟨List.Perm.refl _,?_⟩;refine Ln ?_;have h1:=oC (ps:=qs) (s:=s) qs.length;refine List.Pairwise.imp_of_mem (fun {a b} ha hb hab=>?_) h1;obtain⟨x,rfl,hx,_⟩:=gE.1 ha;obtain⟨y,rfl,hy,_⟩:=gE.1 hb;obtain⟨p,hp,ep⟩:=yC qs hx;obtain⟨q,hq',eq⟩:=yC qs hy;have hl:=G.lt x y p q (by omega) hp hq';refine .inl ?_;show fR (nmG qs ((x:Int)).toNat) (nmG qs ((y:Int)).toNat)<0;rw[Int.toNat_natCast,Int.toNat_natCast,ep,eq];unfold cP at hl;exact of_decide_eq_true hl
theorem GdT.nodir{i:Nat}{p:NdH×Nd}(hp:qs[i]?=some p)(hk:p.2.kind≠1):bY qs p.2.names qs.length=[]:=by
 apply List.eq_nil_iff_forall_not_mem.2;intro z h;obtain⟨k,rfl,hkl,hkq⟩:=gE.1 h;obtain⟨q,hq',eq⟩:=yC qs hkl;rw[eq] at hkq;obtain⟨hne,hd⟩:=oB.1 hkq;obtain⟨r,hrm,h1,h2⟩:=G.up q (mem_of_getElem? hq') hne;obtain⟨j,hr⟩:=List.getElem?_of_mem hrm;have e:=G.inj hr hp (h1.trans hd);subst e;rw[hr] at hp;cases hp;exact hk h2
theorem GdT.gdB{files:List Ino}(h1:files.length=qs.length+1)(h2:∀ f∈files,f.2.length≤200):GdB qs files where
 q:=fun q hq=>by
  have hm:=G.may q hq;have ht:q.2.tgt.length≤200:=by
   have h:=hm.2.2.2.2.2.2.2.1;unfold okT at h
   split at h
   ·exact h.2.1
   ·rw[h];exact Nat.zero_le _
  refine⟨G.ino q hq,G.dep q hq,fun c hc=>(oO (G.nmv q hq c hc)).1,ht,fun x hx=>?_⟩;have hx2:=hm.2.2.2.2.2.2.2.2;obtain⟨i,hi,rfl⟩:=List.getElem_of_mem hx;obtain⟨_,g2,_,_⟩:=hx2.1 i hi;have e:q.2.xs.getD i x0=q.2.xs[i]:=by simp[List.getD,hi]
  rw[e] at g2;omega
 k:=fun s ys h=>G.kids h
 fl:=h1
 ft:=h2
 n:=by have:=G.n.2;omega
omit G in
theorem jF {s:List By} {z:Int} (h:z∈bY qs s qs.length):∃ (k:Nat) (q:NdH×Nd),z=(k:Int)∧qs[k]?=some q∧q.2.names=s++[aZ q.2.names]:=by
 obtain⟨k,rfl,hkl,hkq⟩:=gE.1 h;obtain⟨q,hq',eq⟩:=yC qs hkl;rw[eq] at hkq;refine⟨k,q,rfl,hq',?_⟩;have h1:q.2.names[s.length]?=some (aZ q.2.names):=by
  unfold aZ;rw[hkq.1,List.getD,Nat.add_sub_cancel,List.getElem?_eq_getElem (by have:=hkq.1;omega)];rfl
 have h2:=tkL h1;rw[hkq.2,take_of_length_le (by have:=hkq.1;omega)] at h2;exact h2
omit G in
theorem L3 {k:Nat} {q:NdH×Nd} {s:List By} (h:qs[k]?=some q) (hne:q.2.names≠[]) (hs:q.2.names.dropLast=s):(k:Int)∈bY qs s qs.length:=by
 have hk:=(List.getElem?_eq_some_iff.1 h).1;exact gE.2 ⟨k,rfl,hk,by rw[sH h];exact oB.2 ⟨hne,hs⟩⟩
theorem GdT.above{q:NdH×Nd}(hq:q∈qs):∀ (m d:Nat),d+m=q.2.names.length→∃ (k:Nat) (p:NdH×Nd),qs[k]?=some p∧p.2.names=q.2.names.take d∧(0<m→p.2.kind=1)
|0,d,h=>by
   obtain⟨k,hk⟩:=List.getElem?_of_mem hq;exact⟨k,q,hk,by rw[take_of_length_le (by omega)],fun h=>absurd h (Nat.lt_irrefl 0)⟩
|m+1,d,h=>by
   obtain⟨k,p,hk,hn,_⟩:=GdT.above hq m (d+1) (by omega);have hpl:p.2.names.length=d+1:=by rw[hn,length_take];omega
   obtain⟨r,hr,h1,h2⟩:=G.up p (mem_of_getElem? hk) (fun e=>by rw[e] at hpl;simp at hpl);obtain⟨j,hj⟩:=List.getElem?_of_mem hr;refine⟨j,r,hj,?_,fun _=>h2⟩;rw[h1,hn,List.dropLast_eq_take,List.take_take,length_take];congr 1;omega
end
end
theorem Cj{r post:By}{k:Nat}(h:k<r.length):(r++post).getD k 0=r.getD k 0:=by
 rw[List.getD,List.getD,List.getElem?_append_left h]
theorem Qn(x:By):3≤eD x:=by unfold eD;split<;>omega
theorem Cu{r x:By}{s:Nat}{st:Bool}(h:jN r=some (x,s,st)):eD x≤r.length:=by
 unfold jN at h;obtain⟨n,hn⟩:∃ n,n=(r.getD 0 0).toNat+256*(r.getD 1 0).toNat:=⟨_,rfl⟩
 rw[←hn] at h
 split at h
 ·cases h
 · split at h
   ·cases h
   · split at h
     ·cases h
     · split at h
       · simp only[Option.some.injEq,Prod.mk.injEq] at h
         rw[←h.1];show 3≤_;omega
       · split at h
         ·cases h
         · simp only[Option.some.injEq,Prod.mk.injEq] at h
           rw[←h.1];unfold eD;rw[length_take,length_drop]
           split<;>omega
theorem AK{r post x:By}{s:Nat}{st:Bool}(hl:eD x≤r.length):jN (r++post)=some (x,s,st)↔jN r=some (x,s,st):=by
 have h3:3≤r.length:=Nat.le_trans (Qn x) hl;have e0:(r++post).getD 0 0=r.getD 0 0:=Cj (by omega);have e1:(r++post).getD 1 0=r.getD 1 0:=Cj (by omega);have et:(r++post).take 3=r.take 3:=List.take_append_of_le_length h3;unfold jN;rw[e0,e1,et,if_neg (by rw[length_append];omega),if_neg (show ¬ r.length<3 by omega)];obtain⟨n,hn⟩:∃ n,n=(r.getD 0 0).toNat+256*(r.getD 1 0).toNat:=⟨_,rfl⟩
 rw[←hn];by_cases c1:r.take 3≠hdB n
 ·rw[if_pos c1,if_pos c1]
 · rw[if_neg c1,if_neg c1]
   by_cases c2:128<n%32768∨(n%32768=0∧32768≤n)
   ·rw[if_pos c2,if_pos c2]
   · rw[if_neg c2,if_neg c2]
     by_cases c3:n%32768=0
     ·rw[if_pos c3,if_pos c3]
     · rw[if_neg c3,if_neg c3]
       by_cases c4:r.length<7+n%32768
       · rw[if_pos c4]
         constructor
         · intro h
           split at h
           ·cases h
           · rename_i c5
             rw[length_append] at c5;simp only[Option.some.injEq,Prod.mk.injEq] at h;exfalso;have hx:x.length=n%32768:=by rw[←h.1,length_take,length_drop,length_append];omega
             unfold eD at hl;rw[if_neg (by omega)] at hl;omega
         ·intro h;cases h
       · rw[if_neg c4,if_neg (by rw[length_append];omega)]
         have d7:((r++post).drop 7).take (n%32768)=(r.drop 7).take (n%32768):=by
          rw[List.drop_append_of_le_length (by omega),List.take_append_of_le_length (by rw[length_drop];omega)]
         have d3:((r++post).drop 3).take 4=(r.drop 3).take 4:=by
          rw[List.drop_append_of_le_length (by omega),List.take_append_of_le_length (by rw[length_drop];omega)]
         rw[d7,d3]
theorem yZ{x:By}{s:Nat}{st:Bool}(h:(cX (some (x,s,st))).2.2=0):(cX (some (x,s,st))).2.1=eD x:=by
 unfold cX at h ⊢;simp only at h ⊢;by_cases h0:x.length=0
 ·rw[if_pos h0];unfold eD;rw[if_pos h0]
 · rw[if_neg h0] at h ⊢
   by_cases h1:eO x≠s
   ·rw[if_pos h1] at h;simp at h
   · rw[if_neg h1] at h ⊢
     by_cases h2:st=true
     ·rw[if_pos h2]
     · rw[if_neg h2] at h ⊢
       split at h
       ·simp at h
       ·rename_i h3;rw[if_neg h3]
section
variable (pre X post:List UInt8)
theorem OP{a:Int}(h0:0≤a)(h:a≤X.length):cN (pre++(X++post)) ((pre.length:Int)+a)=jN (X.drop a.toNat++post):=by
 unfold cN;rw[if_neg (by simp only[length_append];omega)];obtain⟨n,rfl⟩:=Int.eq_ofNat_of_zero_le h0;rw[show ((pre.length:Int)+(n:Int)).toNat=pre.length+n by omega,←drop_drop,drop_left' rfl,List.drop_append_of_le_length (by omega),Int.toNat_natCast]
theorem OQ{a:Int}(h0:0≤a)(h:a≤X.length):cN X (0+a)=jN (X.drop a.toNat):=by
 unfold cN;rw[Int.zero_add,if_neg (by omega)]
theorem GL{a:Int}(h0:0≤a):bL (pre++(X++post)) pre.length ((pre.length:Int)+X.length) a=bL X 0 X.length a:=by
 unfold bL;by_cases hc:(X.length:Int)<a
 ·rw[if_pos (show (pre.length:Int)+X.length-pre.length<a by omega),if_pos (show (X.length:Int)-0<a by omega)]
 · rw[if_neg (show ¬ ((pre.length:Int)+X.length-pre.length<a) by omega),if_neg (show ¬ ((X.length:Int)-0<a) by omega)]
   have hle:a≤X.length:=by omega
   unfold bB;rw[OP pre X post h0 hle,OQ X h0 hle];obtain⟨r,hr⟩:∃ r,r=X.drop a.toNat:=⟨_,rfl⟩
   have hrl:(r.length:Int)=X.length-a:=by rw[hr,length_drop];omega
   rw[←hr];cases h1:jN (r++post) with
  |none=>
     have h2:jN r=none:=by
      cases h3:jN r with
     |none=>rfl
     |some y=>obtain⟨x,s,st⟩:=y;rw[(AK (Cu h3)).2 h3] at h1;cases h1
     rw[h2,if_pos (.inl (by simp[cX])),if_pos (.inl (by simp[cX]))]
  |some y=>
     obtain⟨x,s,st⟩:=y;by_cases hl:eD x≤r.length
     · rw[(AK hl).1 h1]
       by_cases he:(cX (some (x,s,st))).2.2=0
       · have hn:=yZ he
         simp only[if_pos he];by_cases hz:(cX (some (x,s,st))).1.length=0
         ·rw[if_pos (.inr (.inr hz)),if_pos (.inr (.inr hz))]
         · rw[if_neg (by rw[hn];rintro(h|h|h);exact h he;omega;exact hz h),if_neg (by rw[hn];rintro(h|h|h);exact h he;omega;exact hz h)]
           congr 2;omega
       ·rw[if_pos (.inl he),if_pos (.inl he)]
     · have h2:jN r=none:=by
        cases h3:jN r with
       |none=>rfl
       |some y=>
          obtain⟨x',s',st'⟩:=y;have h4:=Cu h3;rw[(AK h4).2 h3] at h1;simp only[Option.some.injEq,Prod.mk.injEq] at h1;rw[h1.1] at h4;exact absurd h4 hl
       rw[h2];refine Eq.trans (b:=none) ?_ ?_
       · by_cases he:(cX (some (x,s,st))).2.2=0
         · have hn:=yZ he
           simp only[if_pos he];rw[if_pos (.inr (.inl (by rw[hn];omega)))]
         ·rw[if_pos (.inl he)]
       ·rw[if_pos (.inl (by simp[cX]))]
end
theorem Jb{im im':By}{fr to fr' to':Int}(H:∀ a,0≤a→bL im fr to a=bL im' fr' to' a)(n m:Nat):∀ (at_:Int) (i:Nat) (out:By),n-out.length=m→0≤at_→rdL im fr to n at_ i out=rdL im' fr' to' n at_ i out:=by
 induction m using Nat.strongRecOn with
|ind m ih=>
   intro at_ i out hm h0;by_cases h:out.length<n
   · have hH:=H at_ h0
     cases hh:bL im fr to at_ with
    |none=>rw[iZ h hh,iZ h (hH.symm.trans hh)]
    |some p=>
       obtain⟨b,nx⟩:=p;have hh':=hH.symm.trans hh;by_cases hi:b.length≤i
       ·rw[kW h hh hi,kW h hh' hi]
       · obtain⟨s1,s2,s3,s4,s5,s6,s7,s8⟩:=dS hh
         obtain⟨x,hx⟩:∃ x,x=(b.drop i).take (n-out.length):=⟨_,rfl⟩
         have hxl:x.length=min (b.length-i) (n-out.length):=by rw[hx,length_take,length_drop];omega
         have hal:(out++x).length=out.length+x.length:=length_append;by_cases h1:i+x.length=128
         · rw[fO h hh hi (by rw[←hx];exact h1),fO h hh' hi (by rw[←hx];exact h1),←hx]
           exact ih (n-(out++x).length) (by omega) nx 0 (out++x) rfl (by omega)
         · by_cases h2:(out++x).length<n
           ·rw[kX h hh hi (by rw[←hx];exact h1) (by rw[←hx];exact h2),kX h hh' hi (by rw[←hx];exact h1) (by rw[←hx];exact h2)]
           · rw[lS h hh hi (by rw[←hx];exact h1) (by rw[←hx];exact h2),lS h hh' hi (by rw[←hx];exact h1) (by rw[←hx];exact h2),←hx]
             exact ih (n-(out++x).length) (by omega) at_ (i+x.length) (out++x) rfl h0
   ·rw[jA h,jA h]
theorem HN(pre X post:By):dV (pre++(X++post)) pre.length ((pre.length:Int)+X.length)=true:=by
 unfold dV;simp only[length_append,Bool.and_eq_true,decide_eq_true_eq];omega
theorem EP(X:By):dV X 0 X.length=true:=by
 unfold dV;simp only[Bool.and_eq_true,decide_eq_true_eq];omega
theorem I3(pre X post:By):aB (pre++(X++post)) pre.length ((pre.length:Int)+X.length)=aB X 0 X.length:=by
 funext ref n;unfold aB;by_cases h:ref<0∨n<0
 ·rw[if_pos h,if_pos h]
 · rw[if_neg h,if_neg h,if_neg (by rw[HN];simp),if_neg (by rw[EP];simp)]
   exact Jb (fun a ha=>GL pre X post ha) _ _ _ _ _ rfl (by omega)
section
variable {im im':List UInt8}{fr to fr' to':Int}
theorem yX(H:aB im fr to=aB im' fr' to')(w:Int):∀ (k:Nat) (ref:Int),mY im fr to w k ref=mY im' fr' to' w k ref
|0,_=>rfl
|k+1,ref=>by rw[nL,nL,H,yX H w k]
theorem Br(H:aB im fr to=aB im' fr' to')(M:dV im fr to=dV im' fr' to')(many w:Int):tnS im fr to many w=tnS im' fr' to' many w:=by
 unfold tnS;rw[H,M,yX H]
theorem Gb(H:aB im fr to=aB im' fr' to')(ref:Int):iW im fr to ref=iW im' fr' to' ref:=by unfold iW;rw[H]
theorem zJ(H:aB im fr to=aB im' fr' to'):∀ (k:Nat) (ref:Int),kU im fr to k ref=kU im' fr' to' k ref
|0,_=>rfl
|k+1,ref=>by rw[jV,jV,Gb H,zJ H k]
theorem Ga(H:aB im fr to=aB im' fr' to')(ref:Int):fD im fr to ref=fD im' fr' to' ref:=by
 unfold fD;rw[H,zJ H]
theorem GG(H:aB im fr to=aB im' fr' to')(ref:Int):bM im fr to ref=bM im' fr' to' ref:=by
 unfold bM;rw[H]
end
theorem HF{s:Int×By}{z n:Int}(h:s.1=0)(hb:¬ iJ z n):cH n s z=(0,s.2++le z n.toNat):=by
 have h1:iH s.1 z n=0:=by rw[dR hb,h]
 have h2:cH n s z=(iH s.1 z n,nB s.1 s.2 z n):=rfl;rw[h2,h1,lJ h1]
def enW(w:Nat)(l:List Int):By:=l.flatMap fun x=>le x w
def inW(w:Nat)(l:List Int):Prop:=∀ x∈l,0≤x∧x<256 ^ w
def w24(w:Nat):Prop:=w=2∨w=4
theorem Vv{w:Nat}(hw:w24 w){z:Int}(h0:0≤z)(h1:z<256 ^ w):¬ iJ z w:=by
 rcases hw with rfl|rfl
 ·exact gH (m:=65535) (by decide) (by decide) h0 (by have:z<65536:=h1;omega) (by decide)
 ·exact gH (m:=4294967295) (by decide) (by decide) h0 (by have:z<4294967296:=h1;omega) (by decide)
theorem uV(w:Nat)(l:List Int):(enW w l).length=w*l.length:=by
 induction l with
|nil=>rfl
|cons x r ih=>show (le x w++enW w r).length=_;rw[length_append,bA,ih,length_cons,Nat.mul_succ];omega
theorem B2{w:Nat}(hw:w24 w):∀ (l:List Int) (s:Int×By),s.1=0→inW w l→l.foldl (cH (w:Int)) s=(0,s.2++enW w l)
|[],s,h,_=>by show s=_;rw[show enW w []=[] from rfl,append_nil,←h]
|x::r,s,h,hl=>by
   have h1:=hl x (by simp);rw[foldl_cons,HF h (Vv hw h1.1 h1.2),B2 hw r _ rfl (fun y hy=>hl y (by simp[hy]))];show (0,s.2++le x (w:Int).toNat++enW w r)=(0,s.2++(le x w++enW w r))
   rw[append_assoc,Int.toNat_natCast]
theorem qH{w:Nat}(hw:w24 w){l:List Int}(h:inW w l):aL l (w:Int)=(enW w l,0):=by
 unfold aL;rw[if_pos (by rcases hw with rfl|rfl;exact .inl rfl;exact .inr rfl)];have:iO l (w:Int)=(0,enW w l):=by unfold iO;rw[B2 hw l _ rfl h];rfl
 rw[this];rfl
theorem MM(w:Nat)(l:List Int)(i:Nat)(h:i<l.length):∃ z,(enW w l).drop (w*i)=le (l.getD i 0) w++z:=by
 have e:l=l.take i++(l.getD i 0::l.drop (i+1)):=by
  rw[show l.getD i 0=l[i] by simp[List.getD,h],←drop_eq_getElem_cons h,take_append_drop]
 refine⟨enW w (l.drop (i+1)),?_⟩;have e2:enW w l=enW w (l.take i)++(le (l.getD i 0) w++enW w (l.drop (i+1))):=by
  conv=>lhs;rw[e]
  unfold enW;rw[List.flatMap_append];rfl
 rw[e2];have hl:(enW w (l.take i)).length=w*i:=by rw[uV,length_take,Nat.min_eq_left (by omega)]
 rw[drop_left' hl]
theorem P4(T:By):aQ T 0=0:=by simp[aQ,frW]
section
variable {T:List UInt8}
theorem Ep{o m:Nat}(h:o+m≤T.length):aB (frW T (nF T)) 0 (frW T (nF T)).length (aQ T o:Nat) (m:Nat)=((T.drop o).take m,((aQ T (o+m):Nat):Int),0):=by
 have:=Gm T [] [] h;rwa[yF,xS] at this
theorem NY{o m:Nat}(ho:o≤T.length)(h:T.length<o+m):aB (frW T (nF T)) 0 (frW T (nF T)).length (aQ T o:Nat) (m:Nat)=([],0,2):=by
 have:=I2 T [] [] ho h;rwa[yF,xS] at this
theorem Ql:dV (frW T (nF T)) 0 (frW T (nF T)).length=true:=by have:=LU T [] [];rwa[yF,xS] at this
end
section
variable {l:List Int}{w:Nat}
theorem Qj(hw:w24 w)(h16:inW w l){i:Nat}(h:i<l.length):aB (frW (enW w l) (nF (enW w l))) 0 (frW (enW w l) (nF (enW w l))).length (aQ (enW w l) (w*i):Nat) w=(le (l.getD i 0) w,((aQ (enW w l) (w*(i+1)):Nat):Int),0)∧((bQ (le (l.getD i 0) w):Nat):Int)=l.getD i 0:=by
 have hm:w*(i+1)≤w*l.length:=Nat.mul_le_mul_left w h;have h1:=Ep (T:=enW w l) (o:=w*i) (m:=w) (by rw[uV,←Nat.mul_succ];exact hm);obtain⟨z,hz⟩:=MM w l i h;rw[hz,take_left' (bA _ _),←Nat.mul_succ] at h1;have hx:=h16 (l.getD i 0) (by rw[List.getD,List.getElem?_eq_getElem h];exact List.getElem_mem _);exact⟨h1,rB w _ hx.1 hx.2⟩
theorem DH(hw:w24 w)(h16:inW w l):∀ (m i:Nat),i+m≤l.length→mY (frW (enW w l) (nF (enW w l))) 0 (frW (enW w l) (nF (enW w l))).length w m (aQ (enW w l) (w*i):Nat)=some ((l.drop i).take m,((aQ (enW w l) (w*(i+m)):Nat):Int))
|0,i,_=>by simp[mY]
|m+1,i,h=>by
   obtain⟨h1,h2⟩:=Qj hw h16 (i:=i) (by omega);rw[nL,h1];simp only;rw[if_neg (fun h=>h rfl),DH hw h16 m (i+1) (by omega),h2];rw[drop_eq_getElem_cons (by omega:i<l.length),List.take_succ_cons];simp only[map_some,show i+1+m=i+(m+1) by omega];simp[List.getD,show i<l.length by omega]
theorem He(hw:w24 w)(h16:inW w l):tnS (frW (enW w l) (nF (enW w l))) 0 (frW (enW w l) (nF (enW w l))).length l.length w=(l,0):=by
 have h1:=DH hw h16 l.length 0 (by omega);rw[Nat.mul_zero,P4,List.drop_zero,take_length,Nat.zero_add] at h1;refine nJ (by rcases hw with rfl|rfl<;>omega) Ql h1 ?_;have h2:=NY (T:=enW w l) (o:=w*l.length) (m:=1) (by rw[uV];omega) (by rw[uV];omega);have h2:aB (frW (enW w l) (nF (enW w l))) 0 (frW (enW w l) (nF (enW w l))).length (aQ (enW w l) (w*l.length):Nat) 1=([],0,2):=h2;rw[h2];decide
end
def rT(s:By):By:=UInt8.ofNat s.length::s
def kR(x:Xa):By:=rT x.1++rT x.2
def kG(X:List Xa):By:=UInt8.ofNat X.length::X.flatMap kR
theorem uT(s:By):(rT s).length=1+s.length:=by simp[rT];omega
theorem Hc{s:Int×By}{t:By}(h:s.1=0)(ht:t.length≤255):yW s t=(0,s.2++rT t):=by
 have h1:=(lD h ht).1;have h2:yW s t=(mX s.1 t,oP s.1 s.2 t):=rfl;have h3:mX s.1 t=0:=h1;rw[h2,h3];unfold oP rT;rw[if_neg (by omega)]
theorem G6{X:List Xa}(h:eY X):∀ k,k≤X.length→xSt X k=(0,UInt8.ofNat X.length::(X.take k).flatMap kR)
|0,_=>by
   have hb:=nM (n:=X.length) (by have:=h.2;omega);show cH 1 (0,[]) X.length=_;rw[HF rfl hb];have:=Am X.length;simp only[nil_append,take_zero,List.flatMap_nil];rw[show (1:Int).toNat=1 from rfl,this]
|k+1,hk=>by
   obtain⟨_,g2,_,g4⟩:=h.1 k (by omega);rw[yP X k (by omega),G6 h k (by omega)];unfold xF;have i1:=Hc (s:=(0,UInt8.ofNat X.length::(X.take k).flatMap kR)) (t:=(X.getD k x0).1) rfl (by omega);rw[i1,Hc rfl (by omega)];rw[List.take_succ_eq_append_getElem (by omega:k<X.length),List.flatMap_append];simp[kR,List.getD,show k<X.length by omega]
theorem Jj{X:List Xa}(h:eY X)(h0:0<X.length):kQ X=(kG X,0):=by
 unfold kQ;rw[if_neg (by rintro(h1|h1);omega;exact h1 h),G6 h _ (Nat.le_refl _),take_length];rfl
theorem Ks{T rest s:By}{o:Nat}(hd:T.drop o=rT s++rest)(hs:s.length≤255):iW (frW T (nF T)) 0 (frW T (nF T)).length (aQ T o:Nat)=(s,((aQ T (o+(rT s).length):Nat):Int),0):=by
 have hl:(rT s++rest).length=T.length-o:=by rw[←hd,length_drop]
 rw[length_append,uT] at hl;have h1:=Ep (T:=T) (o:=o) (m:=1) (by omega);have h1:aB (frW T (nF T)) 0 (frW T (nF T)).length (aQ T o:Nat) 1=_:=h1;rw[hd] at h1;have e1:(rT s++rest).take 1=[UInt8.ofNat s.length]:=rfl;rw[e1] at h1;have hn:(UInt8.ofNat s.length).toNat=s.length:=by rw[UInt8.toNat_ofNat'];omega
 rw[zL (by rw[h1]),h1];simp only[List.getD_cons_zero];rw[hn];have h2:=Ep (T:=T) (o:=o+1) (m:=s.length) (by omega);have e2:T.drop (o+1)=s++rest:=by rw[←drop_drop,hd];rfl
 rw[e2,take_left' rfl] at h2;rw[h2,uT,Nat.add_assoc]
def Cl(Y:List Xa):List By:=Y.flatMap fun x=>[x.1,x.2]
theorem EB(a b:By)(r:List By):bV (a::b::r)=(a,b)::bV r:=by
 unfold bV;rw[show (a::b::r).length/2=r.length/2+1 by simp only[length_cons];omega,List.range_succ_eq_map,map_cons,List.map_map];congr 1
theorem qP:∀ Y:List Xa,bV (Cl Y)=Y
|[]=>rfl
|x::r=>by
   have e:Cl (x::r)=x.1::x.2::Cl r:=rfl;rw[e,EB,qP r]
theorem Pa{T:By}:∀ (Y:List Xa) (o:Nat) (rest:By),(∀ x∈Y,x.1.length≤255∧x.2.length≤255)→T.drop o=Y.flatMap kR++rest →
 kU (frW T (nF T)) 0 (frW T (nF T)).length (2*Y.length) (aQ T o:Nat)=some (Cl Y,((aQ T (o+(Y.flatMap kR).length):Nat):Int))
|[],o,rest,_,_=>by simp[kU,Cl]
|x::r,o,rest,hb,hd=>by
   obtain⟨b1,b2⟩:=hb x (by simp);have hd1:T.drop o=rT x.1++(rT x.2++(r.flatMap kR++rest)):=by rw[hd];simp[kR]
   have h1:=Ks hd1 b1;have hd2:T.drop (o+(rT x.1).length)=rT x.2++(r.flatMap kR++rest):=by rw[←drop_drop,hd1,drop_left' rfl]
   have h2:=Ks hd2 b2;have hd3:T.drop (o+(rT x.1).length+(rT x.2).length)=r.flatMap kR++rest:=by rw[←drop_drop,hd2,drop_left' rfl]
   have h3:=Pa r _ rest (fun y hy=>hb y (by simp[hy])) hd3;rw[length_cons,show 2*(r.length+1)=2*r.length+1+1 by omega,jV,h1];simp only;rw[if_neg (fun h=>h rfl),jV,h2];simp only;rw[if_neg (fun h=>h rfl),h3];simp only[map_some];congr 1;refine Prod.ext rfl ?_;show ((aQ T _:Nat):Int)=((aQ T _:Nat):Int)
   congr 2;simp[kR];omega
theorem QU{T rest:By}{o:Nat}{X:List Xa}(hm:eY X)(h0:0<X.length)(hd:T.drop o=kG X++rest):fD (frW T (nF T)) 0 (frW T (nF T)).length (aQ T o:Nat)=(X,0):=by
 have hl:(kG X++rest).length=T.length-o:=by rw[←hd,length_drop]
 have hl1:1≤(kG X).length:=by simp[kG]
 rw[length_append] at hl;have h1:=Ep (T:=T) (o:=o) (m:=1) (by omega);have h1:aB (frW T (nF T)) 0 (frW T (nF T)).length (aQ T o:Nat) 1=_:=h1;rw[hd] at h1;have e1:(kG X++rest).take 1=[UInt8.ofNat X.length]:=rfl;rw[e1] at h1;have h8:=hm.2;have hn:(UInt8.ofNat X.length).toNat=X.length:=by rw[UInt8.toNat_ofNat'];omega
 have hd2:T.drop (o+1)=X.flatMap kR++rest:=by rw[←drop_drop,hd];rfl
 have hb:∀ x∈X,x.1.length≤255∧x.2.length≤255:=fun x hx=>by
  obtain⟨i,hi,rfl⟩:=List.getElem_of_mem hx;obtain⟨_,g2,_,g4⟩:=hm.1 i hi;have e:X.getD i x0=X[i]:=by simp[List.getD,hi]
  rw[e] at g2 g4;omega
 have h2:=Pa X (o+1) rest hb hd2;have hg:¬ ((aB (frW T (nF T)) 0 (frW T (nF T)).length (aQ T o:Nat) 1).2.2≠0∨((aB (frW T (nF T)) 0 (frW T (nF T)).length (aQ T o:Nat) 1).1.getD 0 0).toNat=0∨8<((aB (frW T (nF T)) 0 (frW T (nF T)).length (aQ T o:Nat) 1).1.getD 0 0).toNat):=by
  rw[h1];simp only[List.getD_cons_zero];rw[hn];rintro(h|h|h);exact h rfl;omega;omega
 have h3:=zI hg (l:=Cl X) (r:=((aQ T (o+1+(X.flatMap kR).length):Nat):Int)) (by rw[h1];simp only[List.getD_cons_zero];rw[hn];exact h2) (by rw[qP];exact hm);rw[h3,qP]
theorem vR(b:By)(i:Nat):∀ j,∃ r,gD b (i+j)=gD b i++r
|0=>⟨[],by simp⟩
|j+1=>by
   obtain⟨r,hr⟩:=vR b i j;exact⟨r++frB (chB b (i+j)),by rw[show i+(j+1)=(i+j)+1 by omega,lF,hr,append_assoc]⟩
theorem F9{b:By}{i n:Nat}(h:i<n):∃ r,gD b n=gD b i++(frB (chB b i)++r):=by
 obtain⟨r,hr⟩:=vR b (i+1) (n-(i+1));rw[show i+1+(n-(i+1))=n by omega,lF] at hr;exact⟨r,by rw[hr,append_assoc]⟩
theorem OD{x:By}(h:x.length=128):¬ ((hX x).length≠0∧(hX x).length≠128)∧Bj (hX x)=x:=by
 unfold hX
 split
 · rename_i hh
   refine⟨by simp,?_⟩;show List.replicate 128 0=x
   symm
   rw[List.eq_replicate_iff];refine⟨h,fun c hc=>?_⟩;obtain⟨i,hi,rfl⟩:=List.getElem_of_mem hc;have:=hh i hi;simpa[List.getD,hi] using this
 ·exact⟨by omega,by unfold Bj;rw[if_neg (by omega)]⟩
section
variable {im pre rest b:List UInt8}(him:im=pre++(dE b++rest))
include him
theorem DI{i:Nat}(h:i<b.length/128):bB im (pre.length+(gD b i).length:Nat)=(hX (chB b i),((pre.length+(gD b (i+1)).length:Nat):Int),0)∧dM im (pre.length+(gD b i).length:Nat)=(((pre.length+(gD b (i+1)).length:Nat):Int),0):=by
 obtain⟨r,hr⟩:=F9 (b:=b) h;have e:im=(pre++gD b i)++((cZ (hX (chB b i))).1++(r++rest)):=by
  rw[him,show dE b=gD b (b.length/128) from rfl,hr];show _=(pre++gD b i)++(frB (chB b i)++(r++rest))
  simp
 have hl:(hX (chB b i)).length≤128:=Nat.le_trans (Mg _) (Do _ _);have h1:=vJ hl (pre++gD b i) (r++rest);rw[←e,length_append] at h1;have hs:(gD b (i+1)).length=(gD b i).length+(cZ (hX (chB b i))).1.length:=by rw[lF,length_append];rfl
 refine⟨?_,?_⟩
 · rw[h1.1]
   refine Prod.ext rfl (Prod.ext ?_ rfl);show ((pre.length+(gD b i).length:Nat):Int)+_=((pre.length+(gD b (i+1)).length:Nat):Int)
   omega
 · rw[h1.2]
   refine Prod.ext ?_ rfl;show ((pre.length+(gD b i).length:Nat):Int)+_=((pre.length+(gD b (i+1)).length:Nat):Int)
   omega
end
theorem Em{im pre rest b:By}(him:im=pre++(dE b++rest))(n:Nat)(hn:b.length/128*128≤n):∀ k i,k=b.length/128-i→i≤b.length/128 →
 kY im 0 n k i (pre.length+(gD b i).length:Nat) (b.take (i*128))=(b.take (b.length/128*128),0)
|0,i,hk,hi=>by
   rw[show i=b.length/128 by omega];rfl
|k+1,i,hk,hi=>by
   have hN:b.length/128*128≤b.length:=Nat.div_mul_le_self _ _;have hi2:(i+1)*128≤b.length/128*128:=Nat.mul_le_mul_right 128 (show i+1≤b.length/128 by omega);obtain⟨h1,h2⟩:=DI him (i:=i) (by omega);obtain⟨g1,g2⟩:=OD (AQ (b:=b) (i:=i) (by omega));have hl:(b.take (i*128)).length=i*128:=by rw[length_take];omega
   rw[nT (by omega) (by omega) (by rw[h1];rintro(h|h);exact h rfl;exact g1 h),h1,g2];have e:b.take (i*128)++((chB b i).drop (0-i*128)).take (n-(b.take (i*128)).length)=b.take ((i+1)*128):=by
    have hc:=AQ (b:=b) (i:=i) (by omega);have e1:((chB b i).drop (0-i*128)).take (n-(b.take (i*128)).length)=chB b i:=by
     rw[show 0-i*128=0 by omega,List.drop_zero];exact take_of_length_le (by omega)
    rw[e1];unfold chB;rw[show (i+1)*128=i*128+128 by omega,List.take_add]
   rw[e];exact Em him n hn k (i+1) (by omega) (by omega)
theorem Gl{im pre rest b:By}(him:im=pre++(dE b++rest))(hb:b.length≤4096):gM im (pre.length:Nat) (b.length:Nat) 0 (b.length:Nat)=(b.take (b.length/128*128),0):=by
 by_cases h:b.length/128*128≤0
 · have:=nS (im:=im) (start:=(pre.length:Nat)) (off:=0) (n:=b.length) hb h
   rw[show b.length/128*128=0 by omega];exact this
 · have h1:=zS (im:=im) (start:=(pre.length:Nat)) (n:=b.length) hb h
   have h2:=Em him b.length (Nat.div_mul_le_self _ _) (b.length/128) 0 rfl (Nat.zero_le _);rw[Nat.zero_mul,take_zero] at h2;exact h1.trans h2
theorem Gk{im b:By}{start:Int}(hb:b.length/128=0):gM im start (b.length:Nat) 0 (b.length:Nat)=(b.take (b.length/128*128),0):=by
 have:=nS (im:=im) (start:=start) (size:=b.length) (off:=0) (n:=b.length) (by omega) (by omega);rw[hb];exact this
theorem Dz{im pre rest b:By}(him:im=pre++(dE b++rest)){e:Int}(he:((pre.length+(dE b).length:Nat):Int)≤e):∀ k i,k=b.length/128-i→i≤b.length/128 →
 vH im e k (pre.length+(gD b i).length:Nat)=(((pre.length+(dE b).length:Nat):Int),0)
|0,i,hk,hi=>by
   rw[show i=b.length/128 by omega];rfl
|k+1,i,hk,hi=>by
   obtain⟨h1,h2⟩:=DI him (i:=i) (by omega);obtain⟨r,hr⟩:=vR b (i+1) (b.length/128-(i+1));rw[show i+1+(b.length/128-(i+1))=b.length/128 by omega] at hr;have h4:(gD b (i+1)).length≤(dE b).length:=by show _≤(gD b (b.length/128)).length;rw[hr,length_append];omega
   rw[CG (by rw[h2];rintro(h|h);exact h rfl;have h:e<((pre.length+(gD b (i+1)).length:Nat):Int):=h;omega),h2];exact Dz him he k (i+1) (by omega) (by omega)
def FU(B b:By)(st:Nat):Prop:=(dE b=[]∧st=0)∨(dE b≠[]∧∃ pre rest,B=pre++(dE b++rest)∧st=64+pre.length)
def AZ(s:DS):Prop:=∀ a v,jH s.m a=some v→∃ pre rest,s.B=pre++(a.1++rest)∧64+pre.length=v
theorem AZ.zero:AZ ⟨[],[]⟩:=fun a v h=>by cases h
theorem Kd(s:DS)(b:By):∃ z,(jO 64 s b).1.B=s.B++z:=by
 unfold jO Kb
 split
 ·exact⟨[],by simp⟩
 · split
   ·exact⟨[],by simp⟩
   ·exact⟨_,rfl⟩
theorem Ke{s:DS}(h:AZ s)(b:By)(hb:(dE b).length≤maxLen):AZ (jO 64 s b).1∧FU (jO 64 s b).1.B b (jO 64 s b).2:=by
 by_cases hr:dE b=[]
 · have e:jO 64 s b=(s,0):=by unfold jO;rw[if_pos hr]
   rw[e];exact⟨h,.inl ⟨hr,rfl⟩⟩
 · cases hf:jH s.m (pL (dE b)) with
  |some k=>
     have e:jO 64 s b=(s,k):=FQ (fun e=>hr (length_eq_zero_iff.1 e)) hf;rw[e];obtain⟨pre,rest,h1,h2⟩:=h _ _ hf;rw[Hs hb] at h1;exact⟨h,.inr ⟨hr,pre,rest,h1,h2.symm⟩⟩
  |none=>
     have e:jO 64 s b=(⟨s.B++dE b,s.m++[(pL (dE b),64+s.B.length)]⟩,64+s.B.length):=FT (fun e=>hr (length_eq_zero_iff.1 e)) hf;rw[e];refine⟨fun a v hv=>?_,.inr ⟨hr,s.B,[],by simp,rfl⟩⟩;have hv:jH (s.m++[(pL (dE b),64+s.B.length)]) a=some v:=hv;rw[AE] at hv;show ∃ pre rest,s.B++dE b=pre++(a.1++rest)∧64+pre.length=v;cases ha:jH s.m a with
    |some k=>
       rw[ha] at hv;have hkv:k=v:=by simpa using hv
       subst hkv;obtain⟨pre,rest,h1,h2⟩:=h a k ha;exact⟨pre,rest++dE b,by rw[h1];simp,h2⟩
    |none=>
       rw[ha] at hv;by_cases hk:pL (dE b)=a
       · have hv:64+s.B.length=v:=by simpa[hk] using hv
         refine⟨s.B,[],?_,hv⟩;rw[←hk,Hs hb,append_nil]
       ·simp[hk] at hv
theorem FU.more{B b z:By}{st:Nat}(h:FU B b st):FU (B++z) b st:=by
 rcases h with h|⟨h,pre,rest,h1,h2⟩
 ·exact .inl h
 ·exact .inr ⟨h,pre,rest++z,by rw[h1];simp,h2⟩
def TlS(L:List By)(t:By)(fr off:Nat):Prop:=(t=[]∧fr=0∧off=0)∨(0<t.length∧∃ (n:Nat) (a z:By),n<L.length∧fr=n+1∧off=a.length∧L.getD n []=a++(t++z))
def ExL(A B:List By):Prop:=A.length≤B.length∧∀ q,q<A.length→∃ z,B.getD q []=A.getD q []++z
theorem TlS.ext{A B:List By}{t:By}{fr off:Nat}(h:TlS A t fr off)(k:ExL A B):TlS B t fr off:=by
 rcases h with h|⟨h,n,a,z,h1,h2,h3,h4⟩
 ·exact .inl h
 · obtain⟨y,hy⟩:=k.2 n h1
   exact .inr ⟨h,n,a,z++y,Nat.lt_of_lt_of_le h1 k.1,h2,h3,by rw[hy,h4];simp⟩
def FM(L:List By):Prop:=∀ b∈L,0<b.length∧b.length≤128
theorem Ni{L:List By}(hL:FM L){t:By}(ht:t.length<128):ExL L (fC L t).1∧FM (fC L t).1∧(fC L t).1.length≤L.length+1∧TlS (fC L t).1 t (fC L t).2.1 (fC L t).2.2:=by
 unfold fC;by_cases h0:t.length<1
 · rw[if_pos (AS (.inl h0))]
   exact⟨⟨Nat.le_refl _,fun q _=>⟨[],by simp⟩⟩,hL,Nat.le_succ _,.inl ⟨length_eq_zero_iff.1 (by omega),rfl,rfl⟩⟩
 · rw[if_neg (by rw[yO ⟨by omega,ht⟩];simp)]
   by_cases hn:L=[]∨128<(L.getD (L.length-1) []).length+t.length
   · rw[if_pos hn]
     refine⟨⟨by simp,fun q hq=>⟨[],by rw[List.getD,List.getD,List.getElem?_append_left hq];simp⟩⟩,fun b hb=>?_,by simp,.inr ⟨by omega,L.length,[],[],by simp,rfl,rfl,by simp[List.getD]⟩⟩;rcases mem_append.1 hb with hb|hb
     ·exact hL b hb
     ·rw[mem_singleton] at hb;subst hb;omega
   · rw[if_neg hn]
     have hne:L≠[]:=fun e=>hn (.inl e);have hl:=length_pos_iff.2 hne;have hlast:(L.set (L.length-1) (L.getD (L.length-1) []++t)).getD (L.length-1) []=L.getD (L.length-1) []++t:=by
      rw[List.getD,List.getElem?_set,if_pos rfl,if_pos (by omega)];rfl
     refine⟨⟨by simp,fun q hq=>?_⟩,fun b hb=>?_,by simp,.inr ⟨by omega,L.length-1,L.getD (L.length-1) [],[],by rw[length_set];omega,by show L.length=_;omega,rfl,by rw[hlast];simp⟩⟩
     · by_cases e:q=L.length-1
       ·subst e;exact⟨t,hlast⟩
       ·exact⟨[],by rw[List.getD,List.getElem?_set,if_neg (fun h=>e h.symm)];simp[List.getD]⟩
     · rcases List.mem_or_eq_of_mem_set hb with hb|hb
       ·exact hL b hb
       ·rw[hb,length_append];omega
def FOk(B:By)(L:List By)(d:By)(f:Ino):Prop:=
 ∃ st fr off:Nat,f=(fun j=>[2,0,0,0,0,0,(st:Int),(d.length:Int),(fr:Int),(off:Int)].getD j 0,[])∧FU B d st∧TlS L (fM d) fr off
structure FI (V:List Nd)(n:Nat)(s:FSt):Prop where
 g:AZ s.ds
 t:FM s.tails
 tn:s.tails.length≤V.length
 l:s.files.length=n
 b:s.ds.B.length≤4320*V.length
 f:∀ i f,s.files[i]?=some f→f=kF∨∃ x∈V,x.kind=2∧x.ino.toNat=i∧FOk s.ds.B s.tails x.data f
 a:∀ x∈V,x.kind=2→(s.files.getD x.ino.toNat kF).1 0=2
theorem ID(d:By):(fM d).length<128:=by unfold fM;rw[length_drop];omega
theorem P2(d:By)(h:d.length≤4096):(dE d).length≤maxLen:=by
 have:=nN d (d.length/128);have:(dE d).length≤135*(d.length/128):=this.1;unfold maxLen;omega
theorem QJ(s:DS)(b:By)(h:b.length≤4096):(jO 64 s b).1.B.length≤s.B.length+4320:=by
 have h1:(dE b).length≤135*(b.length/128):=(nN b (b.length/128)).1;unfold jO Kb
 split
 ·exact Nat.le_add_right _ _
 · split
   ·exact Nat.le_add_right _ _
   · show (s.B++dE b).length≤_
     rw[length_append];omega
theorem uR{V:List Nd}{n:Nat}{s:FSt}(h:FI V n s){x:Nd}(hx:0≤x.ino∧x.ino<n)(hd:x.data.length≤4096):FI (V++[x]) n (iP s x):=by
 unfold iP;by_cases hc:x.kind≠2∨(s.files.getD x.ino.toNat kF).1 0=2
 · rw[if_pos hc]
   refine⟨h.g,h.t,by rw[length_append];exact Nat.le_trans h.tn (Nat.le_add_right _ _),h.l,by rw[length_append];have:=h.b;omega,fun i f hf=>(h.f i f hf).imp id (fun⟨y,hy,r⟩=>⟨y,mem_append_left _ hy,r⟩),fun y hy hk=>?_⟩;rcases mem_append.1 hy with hy|hy
   ·exact h.a y hy hk
   · rw[mem_singleton] at hy;subst hy
     exact hc.resolve_left (fun h=>h hk)
 · rw[if_neg hc]
   have hk:x.kind=2:=byContradiction fun h=>hc (.inl h);obtain⟨g1,g2⟩:=Ke h.g x.data (P2 _ hd);obtain⟨a1,a2,a3,a4⟩:=Ni h.t (ID x.data);obtain⟨z,hz⟩:=Kd s.ds x.data;refine⟨g1,a2,by rw[length_append];exact Nat.le_trans a3 (Nat.add_le_add_right h.tn 1),by show (s.files.set _ _).length=n;rw[length_set];exact h.l,by
    have h1:=QJ s.ds x.data hd;have:=h.b;show (jO 64 s.ds x.data).1.B.length≤_;rw[length_append];simp only[length_singleton];omega,fun i f hf=>?_,fun y hy hk2=>?_⟩
   · have hf:(s.files.set x.ino.toNat _)[i]?=some f:=hf
     rw[List.getElem?_set] at hf;by_cases e:x.ino.toNat=i
     · rw[if_pos e] at hf
       split at hf
       · cases hf
         exact .inr ⟨x,by simp,hk,e,_,_,_,rfl,g2,a4⟩
       ·cases hf
     · rw[if_neg e] at hf
       rcases h.f i f hf with hf|⟨y,hy,k1,k2,st,fr,off,k3,k4,k5⟩
       ·exact .inl hf
       ·exact .inr ⟨y,mem_append_left _ hy,k1,k2,st,fr,off,k3,by show FU (jO 64 s.ds x.data).1.B _ _;rw[hz];exact k4.more,k5.ext a1⟩
   · show ((s.files.set x.ino.toNat _).getD y.ino.toNat kF).1 0=2
     rw[List.getD,List.getElem?_set];by_cases e:x.ino.toNat=y.ino.toNat
     ·rw[if_pos e,if_pos (by rw[h.l];omega)];rfl
     · rw[if_neg e]
       rcases mem_append.1 hy with hy|hy
       ·exact h.a y hy hk2
       ·rw[mem_singleton] at hy;subst hy;exact absurd rfl e
theorem Co{n:Nat}:∀ (L V:List Nd) (s:FSt),FI V n s→(∀ x∈L,(0≤x.ino∧x.ino<n)∧x.data.length≤4096)→FI (V++L) n (L.foldl iP s)
|[],V,s,h,_=>by rw[append_nil];exact h
|x::r,V,s,h,hL=>by
   have h1:=uR h (hL x (by simp)).1 (hL x (by simp)).2;have h2:=Co r (V++[x]) _ h1 (fun y hy=>hL y (by simp[hy]));rw[append_assoc] at h2;exact h2
theorem Di{qs:List (NdH×Nd)}(h:∀ q∈qs,(1≤q.2.ino∧q.2.ino≤qs.length)∧q.2.data.length≤4096):FI (nds qs) (qs.length+1) (bW qs):=by
 have h0:FI [] (qs.length+1) ⟨⟨[],[]⟩,[],List.replicate (qs.length+1) kF⟩:=⟨AZ.zero,(by intro b hb;cases hb),Nat.le_refl _,length_replicate,Nat.le_refl _,fun i f hf=>.inl (by
  have:=mem_of_getElem? hf;exact List.eq_of_mem_replicate this),(by intro x hx;cases hx)⟩
 have:=Co (nds qs) [] _ h0 (fun x hx=>by
  obtain⟨q,hq,rfl⟩:=mem_map.1 hx;have:=h q hq;omega)
 exact this
theorem nK:∀ (L:List By) (s:DS),(fV L s).2.length=L.length
|[],_=>rfl
|t::r,s=>by show ((_::(fV r (pO 64 s t).1).2).length=_);rw[length_cons,nK r,length_cons]
theorem rD:∀ (L:List By) (s:DS),∃ z,(fV L s).1.B=s.B++z∧z.length≤(L.map (fun t=>(cZ t).1.length)).sum
|[],s=>⟨[],by simp[fV],by simp⟩
|t::r,s=>by
   obtain⟨z,hz,hl⟩:=rD r (pO 64 s t).1;refine⟨(cZ t).1++z,?_,?_⟩
   · show (fV r (pO 64 s t).1).1.B=_
     rw[hz];show (s.B++(cZ t).1)++z=_;rw[append_assoc]
   ·rw[length_append,map_cons,List.sum_cons];omega
theorem xU:∀ (L:List By) (s:DS) (j:Nat),j<L.length→∃ pre rest,(fV L s).1.B=pre++((cZ (L.getD j [])).1++rest)∧(fV L s).2.getD j 0=64+(pre.length:Int)
|[],s,j,h=>absurd h (Nat.not_lt_zero _)
|t::r,s,0,_=>by
   obtain⟨z,hz,_⟩:=rD r (pO 64 s t).1;refine⟨s.B,z,?_,?_⟩
   · show (fV r (pO 64 s t).1).1.B=_
     rw[hz];show (s.B++(cZ t).1)++z=_;rw[append_assoc];rfl
   · show ((64+s.B.length:Nat):Int)=_
     omega
|t::r,s,j+1,h=>xU r (pO 64 s t).1 j (Nat.lt_of_succ_lt_succ h)
theorem H7{F:Nat→Int}:∀ (L:List Fd) (G:Nat→Int) (t:By),(∀ x∈L,(1≤x.b∧x.b≤4)∧0≤F x.o∧F x.o<256 ^ x.b.toNat)→L.foldl gF ((0,eW F L++t),G)=((0,t),fun o=>if o∈L.map (·.o) then F o else G o)
|[],G,t,_=>by simp[eW]
|x::r,G,t,h=>by
   obtain⟨⟨b1,b4⟩,h0,hx⟩:=h x (by simp);have e:eW F (x::r)++t=le (F x.o) x.b.toNat++(eW F r++t):=by simp[eW]
   obtain⟨g1,g2⟩:=Qu (n:=x.b.toNat) (x:=F x.o) (by omega) (by omega) h0 hx (eW F r++t);rw[show ((x.b.toNat:Nat):Int)=x.b by omega] at g1 g2;have hs:gF ((0,eW F (x::r)++t),G) x=((0,eW F r++t),upd G x.o (F x.o)):=by
    unfold gF;rw[e];simp only;rw[g1,g2]
   rw[foldl_cons,hs,H7 r _ t (fun y hy=>h y (by simp[hy]))];refine Prod.ext rfl (funext fun o=>?_);simp only[map_cons,mem_cons];by_cases ho:o∈r.map (·.o)
   ·rw[if_pos ho,if_pos (.inr ho)]
   · rw[if_neg ho]
     by_cases hx2:o=x.o
     ·rw[if_pos (.inl hx2)];subst hx2;simp[upd]
     ·rw[if_neg (fun h=>h.elim hx2 ho)];simp[upd,hx2]
theorem Ny{F:Nat→Int}(h:fX F):∀ x∈suL,(1≤x.b∧x.b≤4)∧0≤F x.o∧F x.o<256 ^ x.b.toNat:=by
 obtain⟨⟨a1,a2,a3,a4,a5,a6,a7⟩,b1,b2,b3,b4,b5,b6,b7,b8⟩:=h;intro x hx;simp only[suL,mem_cons,not_mem_nil,or_false] at hx;rcases hx with rfl|rfl|rfl|rfl|rfl|rfl|rfl|rfl|rfl|rfl
 ·exact⟨by decide,by show 0≤F 0;omega,by show F 0<4294967296;omega⟩
 ·exact⟨by decide,by show 0≤F 2;omega,by show F 2<4294967296;omega⟩
 ·exact⟨by decide,by show 0≤F 3;omega,by show F 3<4294967296;omega⟩
 ·exact⟨by decide,by show 0≤F 4;omega,by show F 4<4294967296;omega⟩
 ·exact⟨by decide,by show 0≤F 5;omega,by show F 5<4294967296;omega⟩
 ·exact⟨by decide,by show 0≤F 6;omega,by show F 6<4294967296;omega⟩
 ·exact⟨by decide,by show 0≤F 9;omega,by show F 9<4294967296;omega⟩
 ·exact⟨by decide,by show 0≤F 1;omega,by show F 1<65536;omega⟩
 ·exact⟨by decide,by show 0≤F 7;omega,by show F 7<65536;omega⟩
 ·exact⟨by decide,by show 0≤F 8;omega,by show F 8<65536;omega⟩
theorem KD(o:Nat):o∈suL.map (·.o)↔o<10:=by
 show o∈[0,2,3,4,5,6,9,1,7,8]↔_;simp only[mem_cons,not_mem_nil,or_false];omega
theorem Nz{F:Nat→Int}(h:fX F)(h0:∀ o,10≤o→F o=0)(rest:By):suF (suB F++rest)=F:=by
 have e:((suB F++rest).take 64).drop 4=eW F suL++(le (eO (suH F):Nat) 4++List.replicate 22 0):=by
  rw[take_left' (rG F)];unfold suB suH;rw[append_assoc];exact drop_left' (show suM.length=4 from rfl)
 unfold suF suQ;rw[e,H7 suL zF _ (Ny h)];funext o;show (if o∈suL.map (·.o) then F o else zF o)=F o;by_cases ho:o<10
 ·rw[if_pos ((KD o).2 ho)]
 ·rw[if_neg (fun h=>ho ((KD o).1 h)),h0 o (by omega)];rfl
theorem DM{F:Nat→Int}(h:fX F)(h0:∀ o,10≤o→F o=0)(rest:By)(hs:F 0=64+(rest.length:Int)):aI (suB F++rest)=(F,0):=by
 have hl:=rG F;have hF:=Nz h h0 rest;have hok:fY (suB F++rest):=by
  unfold fY;rw[hF];exact⟨by rw[length_append];omega,h,take_left' hl,by rw[length_append];omega⟩
 unfold aI;rw[if_pos hok,hF]
theorem Ft{L:List Ent}(h:aS [] L):iG L=(bC L,0)∧eX (bC L)=(L,0):=by
 refine⟨?_,uY h rfl⟩;unfold iG;rw[if_pos h]
section
open Go Go.RowKit Go.Maps
def At3(T X:By)(o:Nat):Prop:=∃ pre rest,T=pre++(X++rest)∧pre.length=o
theorem At3.more{T X z:By}{o:Nat}(h:At3 T X o):At3 (T++z) X o:=by
 obtain⟨pre,rest,h1,h2⟩:=h;exact⟨pre,rest++z,by rw[h1];simp,h2⟩
theorem At3.le{T X:By}{o:Nat}(h:At3 T X o):o+X.length≤T.length:=by
 obtain⟨pre,rest,h1,h2⟩:=h;rw[h1,length_append,length_append];omega
theorem At3.drop{T X:By}{o:Nat}(h:At3 T X o):∃ rest,T.drop o=X++rest:=by
 obtain⟨pre,rest,h1,h2⟩:=h;exact⟨rest,by rw[h1,←h2,drop_left' rfl]⟩
theorem At3.new(T X:By):At3 (T++X) X T.length:=⟨T,[],by simp,rfl⟩
theorem iL{T z:By}{o:Nat}(h:o≤T.length):aQ (T++z) o=aQ T o:=by
 rw[BN (T:=T++z) (by rw[length_append];omega),BN (T:=T) h,List.take_append_of_le_length h]
theorem NU(T:By){o p:Nat}(h:o<p):aQ T o<aQ T p:=by
 unfold aQ;by_cases e:o/128=p/128
 ·rw[e];omega
 · have h1:(frW T (o/128+1)).length≤(frW T (p/128)).length:=AC (by omega)
   have h2:=Qw (T:=T) (o/128);omega
structure Ex (s t:BSt):Prop where
 i:∃ z,t.ino=s.ino++z
 l:∃ z,t.lst=s.lst++z
 f:∃ z,t.fur=s.fur++z
 r:∀ m,0<s.refs.getD m 0→t.refs.getD m 0=s.refs.getD m 0
theorem Ex.rfl{s:BSt}:Ex s s:=⟨⟨[],by simp⟩,⟨[],by simp⟩,⟨[],by simp⟩,fun _ _=>Eq.refl _⟩
theorem Ex.trans{s t u:BSt}(h:Ex s t)(k:Ex t u):Ex s u:=by
 obtain⟨⟨a,ha⟩,⟨b,hb⟩,⟨c,hc⟩,hr⟩:=h;obtain⟨⟨a',ha'⟩,⟨b',hb'⟩,⟨c',hc'⟩,hr'⟩:=k;exact⟨⟨a++a',by rw[ha',ha,append_assoc]⟩,⟨b++b',by rw[hb',hb,append_assoc]⟩,⟨c++c',by rw[hc',hc,append_assoc]⟩,fun m hm=>by rw[hr' m (by rw[hr m hm];exact hm),hr m hm]⟩
def XrI(s:BSt)(X:List Xa)(xr:Int):Prop:=(X=[]∧xr=0)∨(X≠[]∧∃ o,xr=((aQ s.fur o:Nat):Int)+1∧At3 s.fur (kG X) o)
theorem XrI.ex{s t:BSt}{X:List Xa}{xr:Int}(h:XrI s X xr)(e:Ex s t):XrI t X xr:=by
 rcases h with h|⟨h,o,h1,h2⟩
 ·exact .inl h
 · obtain⟨z,hz⟩:=e.f
   have:=h2.le;exact .inr ⟨h,o,by rw[hz,iL (by omega)];exact h1,by rw[hz];exact h2.more⟩
def jI(qs:List (NdH×Nd))(s:BSt)(ys:List Int):List Ent:=ys.map fun j=>(aZ (ndB qs j).names,(ndB qs j).kind,s.refs.getD (ndB qs j).ino.toNat 0-1)
def DY(qs:List (NdH×Nd))(s:BSt)(ys:List Int):Prop:=∀ j∈ys,0<s.refs.getD (ndB qs j).ino.toNat 0
theorem DY.ex{qs:List (NdH×Nd)}{s t:BSt}{ys:List Int}(h:DY qs s ys)(e:Ex s t):DY qs t ys:=fun j hj=>by rw[e.r _ (h j hj)];exact h j hj
theorem Dj{qs:List (NdH×Nd)}{s t:BSt}{ys:List Int}(h:DY qs s ys)(e:Ex s t):jI qs t ys=jI qs s ys:=by
 unfold jI;apply List.map_congr_left;intro j hj;rw[e.r _ (h j hj)]
def OO(s:BSt)(o n:Nat):Ino:=(fun j=>if j=6 then ((aQ s.lst o:Nat):Int) else if j=7 then (n:Int) else 0,[])
def KiI(qs:List (NdH×Nd))(files:List Ino)(s:BSt)(q:Nd)(i:Ino):Prop:=
 (q.kind=2→i=files.getD q.ino.toNat kF)∧(q.kind=3→i=(zF,q.tgt)) ∧
 (q.kind=1→DY qs s (bY qs q.names qs.length)∧∃ o,i=OO s o (bC (jI qs s (bY qs q.names qs.length))).length∧At3 s.lst (bC (jI qs s (bY qs q.names qs.length))) o)
theorem KiI.ex{qs:List (NdH×Nd)}{files:List Ino}{s t:BSt}{q:Nd}{i:Ino}(h:KiI qs files s q i)(e:Ex s t):KiI qs files t q i:=by
 obtain⟨h1,h2,h3⟩:=h;refine⟨h1,h2,fun hk=>?_⟩;obtain⟨a,o,b,c⟩:=h3 hk;obtain⟨z,hz⟩:=e.l;have hl:=c.le;have he:=Dj a e;refine⟨a.ex e,o,?_,?_⟩
 ·rw[he,b];unfold OO;rw[hz,iL (by omega)]
 ·rw[he,hz];exact c.more
def O6(qs:List (NdH×Nd))(ids:List Int)(files:List Ino)(s:BSt)(m:Nat):Prop:=
 ∃ (k:Nat) (q:NdH×Nd) (i:Ino) (xr:Int) (o:Nat),qs[k]?=some q∧q.2.ino=(m:Int)∧s.refs.getD m 0=((aQ s.ino o:Nat):Int)+1∧fF (inB qs ids k i xr).1 (inB qs ids k i xr).2∧At3 s.ino (iI (inB qs ids k i xr)) o∧XrI s q.2.xs xr∧KiI qs files s q.2 i
theorem O6.ex{qs:List (NdH×Nd)}{ids:List Int}{files:List Ino}{s t:BSt}{m:Nat}(h:O6 qs ids files s m)(h0:0<s.refs.getD m 0)(e:Ex s t):O6 qs ids files t m:=by
 obtain⟨k,q,i,xr,o,h1,h2,h3,h4,h5,h6,h7⟩:=h;obtain⟨z,hz⟩:=e.i;have hl:=h5.le;exact⟨k,q,i,xr,o,h1,h2,by rw[e.r m h0,hz,iL (by omega)];exact h3,h4,by rw[hz];exact h5.more,h6.ex e,h7.ex e⟩
def uB(s:BSt):List Int:=s.refs.filter (fun r=>decide (0<r))
structure pC (qs:List (NdH×Nd))(ids:List Int)(files:List Ino)(s:BSt):Prop where
 std:∀ m,0<s.refs.getD m 0→O6 qs ids files s m
 rl:s.refs.length=qs.length+1
 rn:∀ m,0≤s.refs.getD m 0
 sets:∀ y∈s.sets,∃ o,y.2=((aQ s.fur o:Nat):Int)∧At3 s.fur (kG y.1) o
 many:s.many=(uB s).length
 dist:∀ m n,0<s.refs.getD m 0→s.refs.getD m 0=s.refs.getD n 0→m=n
 bi:s.ino.length≤214*s.many
 bf:s.fur.length≤4200*s.many
 sn:s.sets.length≤s.many
 sh:shS s
theorem GR{l:List Int}{m:Nat}{v:Int}(h:m<l.length)(h0:l.getD m 0≤0)(hv:0<v):((l.set m v).filter (fun r=>decide (0<r))).length=(l.filter (fun r=>decide (0<r))).length+1:=by
 have e:l=l.take m++l.getD m 0::l.drop (m+1):=by
  rw[show l.getD m 0=l[m] by simp[List.getD,h],←drop_eq_getElem_cons h,take_append_drop]
 have e2:l.set m v=l.take m++v::l.drop (m+1):=List.set_eq_take_append_cons_drop .. |>.trans (by rw[if_pos h]);rw[e2]
 conv=>rhs;rw[e]
 rw[List.filter_append,List.filter_append,List.filter_cons_of_pos (by simpa using hv),List.filter_cons_of_neg (by simp only[decide_eq_true_eq];omega)];simp;omega
theorem Rl{l:List Int}{m n:Nat}{v:Int}(h:m<l.length):(l.set m v).getD n 0=if n=m then v else l.getD n 0:=by
 rw[List.getD,List.getElem?_set];by_cases e:m=n
 ·subst e;rw[if_pos rfl,if_pos h,if_pos rfl];rfl
 ·rw[if_neg e,if_neg (fun h=>e h.symm)];rfl
theorem JX{X:List Xa}(h:eY X):(kG X).length≤4200:=by
 have hb:∀ x∈X,x.1.length≤255∧x.2.length≤255:=fun x hx=>by
  obtain⟨i,hi,rfl⟩:=List.getElem_of_mem hx;obtain⟨_,g2,_,g4⟩:=h.1 i hi;have e:X.getD i x0=X[i]:=by simp[List.getD,hi]
  rw[e] at g2 g4;omega
 have key:∀ Y:List Xa,(∀ x∈Y,x.1.length≤255∧x.2.length≤255)→(Y.flatMap kR).length≤512*Y.length:=by
  intro Y
  induction Y with
 |nil=>intro _;exact Nat.le_refl _
 |cons x r ih=>
    intro hy;have h1:=hy x (by simp);have h2:=ih (fun y h=>hy y (by simp[h]));have e:(kR x).length=(1+x.1.length)+(1+x.2.length):=by unfold kR;rw[length_append,uT,uT]
    rw[flatMap_cons,length_append,length_cons,e];omega
 have h1:=key X hb;have h2:=h.2;unfold kG;rw[length_cons];omega
section
variable {qs:List (NdH×Nd)}{ids:List Int}{files:List Ino}
theorem Mn{s:BSt}(h:pC qs ids files s){X:List Xa}(hX:eY X) :
 XrI (dW s X).2 X (dW s X).1∧Ex s (dW s X).2∧(dW s X).2.refs=s.refs∧(dW s X).2.many=s.many∧(dW s X).2.ino=s.ino∧(dW s X).2.lst=s.lst∧(dW s X).2.fur.length≤s.fur.length+4200 ∧
 (∀ y∈(dW s X).2.sets,∃ o,y.2=((aQ (dW s X).2.fur o:Nat):Int)∧At3 (dW s X).2.fur (kG y.1) o)∧0≤(dW s X).1∧shS (dW s X).2∧(dW s X).2.sets.length≤s.sets.length+1:=by
 have hsh:shS (dW s X).2:=H8 h.sh (fun x hx=>by
  obtain⟨i,hi,rfl⟩:=List.getElem_of_mem hx;obtain⟨_,g2,_,_⟩:=hX.1 i hi;have e:X.getD i x0=X[i]:=by simp[List.getD,hi]
  rw[e] at g2;omega)
 by_cases h0:X.length=0
 · have e:dW s X=(0,s):=by unfold dW;rw[if_pos h0]
   rw[e] at hsh ⊢;exact⟨.inl ⟨length_eq_zero_iff.1 h0,rfl⟩,.rfl,rfl,rfl,rfl,rfl,Nat.le_add_right _ _,h.sets,Int.le_refl _,hsh,Nat.le_succ _⟩
 · have hne:X≠[]:=fun e=>h0 (by rw[e];rfl)
   cases hf:s.sets.find? (fun y=>decide (y.1=X)) with
  |some y=>
     have e:dW s X=(y.2+1,s):=by unfold dW;rw[if_neg h0,hf]
     rw[e] at hsh ⊢;obtain⟨o,h1,h2⟩:=h.sets y (List.mem_of_find?_eq_some hf);have h3:y.1=X:=by simpa using List.find?_some hf
     exact⟨.inr ⟨hne,o,by rw[h1],by rw[←h3];exact h2⟩,.rfl,rfl,rfl,rfl,rfl,Nat.le_add_right _ _,h.sets,by show 0≤y.2+1;omega,hsh,Nat.le_succ _⟩
  |none=>
     have e:dW s X=(((aQ s.fur s.fur.length:Nat):Int)+1,{ s with fur:=s.fur++(kQ X).1,sets:=s.sets++[(X,((aQ s.fur s.fur.length:Nat):Int))] }):=by unfold dW;rw[if_neg h0,hf]
     have hp:(kQ X).1=kG X:=by rw[Jj hX (by omega)]
     rw[hp] at e;rw[e] at hsh ⊢;have hl:=JX hX;refine⟨.inr ⟨hne,s.fur.length,by show _=((aQ (s.fur++kG X) s.fur.length:Nat):Int)+1;rw[iL (Nat.le_refl _)],.new _ _⟩,⟨⟨[],by simp⟩,⟨[],by simp⟩,⟨_,rfl⟩,fun _ _=>rfl⟩,rfl,rfl,rfl,rfl,by show (s.fur++kG X).length≤_;rw[length_append];omega,fun y hy=>?_,by show (0:Int)≤((aQ _ _:Nat):Int)+1;omega,hsh,by show (s.sets++_).length≤_;rw[length_append];exact Nat.le_refl _⟩;show ∃ o,y.2=((aQ (s.fur++kG X) o:Nat):Int)∧At3 (s.fur++kG X) (kG y.1) o;rcases mem_append.1 hy with hy|hy
     · obtain⟨o,h1,h2⟩:=h.sets y hy
       have:=h2.le;exact⟨o,by rw[iL (by omega)];exact h1,h2.more⟩
     · rw[mem_singleton] at hy;subst hy
       exact⟨s.fur.length,by rw[iL (Nat.le_refl _)],.new _ _⟩
theorem MB{s:BSt}(h:pC qs ids files s){k m:Nat}{q:NdH×Nd}(hq:qs[k]?=some q)(hm:q.2.ino=(m:Int))(hml:m≤qs.length)(h0:s.refs.getD m 0=0)(hX:eY q.2.xs){i:Ino}(hk:KiI qs files s q.2 i)
 (hmay:∀ xr,0≤xr→xr≤4294967295→fF (inB qs ids k i xr).1 (inB qs ids k i xr).2)(hn:qs.length≤40) :
 pC qs ids files (lB qs ids k i s)∧Ex s (lB qs ids k i s)∧0<(lB qs ids k i s).refs.getD m 0∧(∀ n,n≠m→(lB qs ids k i s).refs.getD n 0=s.refs.getD n 0)∧(lB qs ids k i s).lst=s.lst∧(lB qs ids k i s).many=s.many+1:=by
 have hmn:s.many≤41:=by
  have h1:=List.length_filter_le (fun r:Int=>decide (0<r)) s.refs;rw[h.many];unfold uB;rw[h.rl] at h1;omega
 obtain⟨x1,x2,x3,x4,x5,x6,x7,x8,x9,x10,x11⟩:=Mn h hX;have hnd:=bS hq;obtain⟨R,hR⟩:∃ R,R=dW s q.2.xs:=⟨_,rfl⟩
 rw[←hR] at x1 x2 x3 x4 x5 x6 x7 x8 x9 x10 x11;have hxr:R.1≤4294967295:=by
  rcases x1 with⟨_,e⟩|⟨_,o,e,ha⟩
  ·rw[e];decide
  · have h1:=ha.le
    have h2:=h.bf;have h3:=wH R.2.fur (o/128);rw[e];unfold aQ;omega
 have hmy:=hmay R.1 x9 hxr;obtain⟨I,hI⟩:∃ I,I=inB qs ids k i R.1:=⟨_,rfl⟩
 rw[←hI] at hmy;have hput:(nV I.1 I.2).1=iI I:=by unfold nV iI;rw[if_pos hmy]
 have hlen:=uU hmy;have hfix:lB qs ids (k:Int) i s = { R.2 with ino:=R.2.ino++iI I,refs:=R.2.refs.set m ((aQ R.2.ino R.2.ino.length:Nat)+1),many:=R.2.many+1 }:=by
  unfold lB;rw[hnd,←hR,hm,Int.toNat_natCast,←hI,hput]
 obtain⟨t,ht⟩:∃ t,t=lB qs ids (k:Int) i s:=⟨_,rfl⟩
 rw[←ht];have t1:t.ino=R.2.ino++iI I:=by rw[ht,hfix]
 have t2:t.refs=R.2.refs.set m ((aQ R.2.ino R.2.ino.length:Nat)+1):=by rw[ht,hfix]
 have t3:t.many=R.2.many+1:=by rw[ht,hfix]
 have t4:t.fur=R.2.fur:=by rw[ht,hfix]
 have t5:t.lst=R.2.lst:=by rw[ht,hfix]
 have t6:t.sets=R.2.sets:=by rw[ht,hfix]
 have hrl:m<R.2.refs.length:=by rw[x3,h.rl];omega
 have hgd:∀ n,t.refs.getD n 0=if n=m then ((aQ s.ino s.ino.length:Nat):Int)+1 else s.refs.getD n 0:=fun n=>by rw[t2,Rl hrl,x3,x5]
 have hex2:Ex R.2 t:=⟨⟨_,t1⟩,⟨[],by rw[t5];simp⟩,⟨[],by rw[t4];simp⟩,fun n hn=>by
  rw[hgd n,x3];by_cases e:n=m
  ·subst e;rw[x3,h0] at hn;exact absurd hn (by decide)
  ·rw[if_neg e]⟩
 have hex:=x2.trans hex2;have hpos:0<t.refs.getD m 0:=by rw[hgd m,if_pos rfl];omega
 have hmt:At3 t.ino (iI I) s.ino.length:=by rw[t1,x5];exact .new _ _
 have hrt:aQ t.ino s.ino.length=aQ s.ino s.ino.length:=by rw[t1,x5];exact iL (Nat.le_refl _)
 refine⟨⟨fun n hn=>?_,by rw[t2,length_set,x3];exact h.rl,fun n=>?_,fun y hy=>?_,?_,fun a b ha hab=>?_,by rw[t1,t3,x5,x4,length_append];have:=h.bi;omega,by rw[t4,t3,x4];have:=h.bf;omega,by rw[t6,t3,x4];have:=h.sn;omega,fun y hy=>x10 y (by rw[←t6];exact hy)⟩,hex,hpos,fun n hn=>by rw[hgd n,if_neg hn],by rw[t5,x6],by rw[t3,x4]⟩
 · by_cases e:n=m
   · subst e
     refine⟨k,q,i,R.1,s.ino.length,hq,hm,?_,by rw[←hI];exact hmy,by rw[←hI];exact hmt,x1.ex hex2,hk.ex hex⟩;rw[hgd n,if_pos rfl,hrt]
   · have hn':0<s.refs.getD n 0:=by rw[hgd n,if_neg e] at hn;exact hn
     exact(h.std n hn').ex hn' hex
 · rw[hgd n]
   split
   ·omega
   ·exact h.rn n
 · rw[t6] at hy
   rw[t4];exact x8 y hy
 · rw[t3,x4,h.many]
   unfold uB;rw[t2,GR hrl (by rw[x3,h0];exact Int.le_refl _) (by omega),x3]
 · have old:∀ c,c≠m→0<s.refs.getD c 0→s.refs.getD c 0<((aQ s.ino s.ino.length:Nat):Int)+1:=fun c hc hp=>by
    obtain⟨_,_,_,_,o,_,_,e,hmy2,ha,_⟩:=h.std c hp;have h1:=ha.le;have h2:=uU hmy2;have h3:=NU s.ino (show o<s.ino.length by omega);rw[e];omega
   rw[hgd a] at ha hab;rw[hgd b] at hab;by_cases ea:a=m
   · by_cases eb:b=m
     ·rw[ea,eb]
     · rw[if_pos ea,if_neg eb] at hab
       have:=old b eb (by omega);omega
   · rw[if_neg ea] at ha hab
     by_cases eb:b=m
     · rw[if_pos eb] at hab
       have:=old a ea ha;omega
     · rw[if_neg eb] at hab
       exact h.dist a b ha hab
end
end
section
open Go Go.RowKit Go.Maps
theorem vX{α:Type}[DecidableEq α]:∀ (l m:List α),l.Nodup→(∀ x∈l,x∈m)→l.length≤m.length
|[],_,_,_=>Nat.zero_le _
|x::r,m,hn,h=>by
   have hx:=h x (by simp);have h1:=List.nodup_cons.1 hn;have h2:=vX r (m.erase x) h1.2 (fun y hy=>(List.mem_erase_of_ne (fun e=>h1.1 (by rw[←e];exact hy))).2 (h y (by simp[hy])));rw[List.length_erase_of_mem hx] at h2;have:=List.length_pos_of_mem hx;rw[length_cons];omega
theorem yG{qs:List (NdH×Nd)}{ids:List Int}(h:Dv qs ids):ids.length≤2*qs.length:=by
 have:=vX ids (rS qs) (h.1.imp (fun h=>by omega)) (fun x hx=>(h.2 x).1 hx);rw[uC] at this;exact this
theorem yA{ids:List Int}{z:Int}(h:z∈ids):0≤pM ids z∧pM ids z<ids.length∧ids.getD (pM ids z).toNat 0=z:=by
 unfold pM;cases hf:ids.findIdx? (fun x=>decide (x=z)) with
|none=>
   rw[List.findIdx?_eq_none_iff] at hf;have:=hf z h;simp at this
|some i=>
   rw[List.findIdx?_eq_some_iff_getElem] at hf;obtain⟨hi,h1,_⟩:=hf;have h1:ids[i]=z:=by simpa using h1
   refine⟨Int.natCast_nonneg _,by show (i:Int)<_;omega,?_⟩;show ids.getD ((i:Int)).toNat 0=z;rw[Int.toNat_natCast,List.getD,List.getElem?_eq_getElem hi];exact h1
theorem CZ{qs:List (NdH×Nd)}{q:NdH×Nd}(h:q∈qs):q.2.ud∈rS qs∧q.2.gd∈rS qs:=by
 obtain⟨i,hi⟩:=List.getElem?_of_mem h;have hl:=(List.getElem?_eq_some_iff.1 hi).1;have hz:=uC qs;have g:∀ j,j<2*qs.length→(rS qs).getD j 0∈rS qs:=fun j hj=>by
  rw[List.getD,List.getElem?_eq_getElem (by omega)];exact List.getElem_mem _
 obtain⟨k0,k1⟩:=C0 qs i q hi;refine⟨?_,?_⟩
 · have:=g (2*i) (by omega)
   rw[k0] at this;exact this
 · have:=g (2*i+1) (by omega)
   rw[k1] at this;exact this
theorem OU{qs:List (NdH×Nd)}{q:NdH×Nd}(h:q∈qs):1≤kM qs q.2.ino:=by
 unfold kM;have:0<qs.countP (fun p=>decide (p.2.ino=q.2.ino)):=List.countP_pos_iff.2 ⟨q,h,by simp⟩;omega
section
variable {qs:List (NdH×Nd)}{ids:List Int}{fs:FSt}(G:GdT qs)(I:Dv qs ids)(F:FI (nds qs) (qs.length+1) fs)
include G
theorem GdT.one{k:Nat}{q:NdH×Nd}(hq:qs[k]?=some q)(hk:q.2.kind=1):kM qs q.2.ino=1:=by
 have hz:∀ L:List (NdH×Nd),(∀ p∈L,p.2.ino≠q.2.ino)→L.countP (fun p=>decide (p.2.ino=q.2.ino))=0:=fun L h=>List.countP_eq_zero.2 (fun p hp=>by simpa using h p hp);have e:qs=qs.take k++q::qs.drop (k+1):=by rw[←(List.getElem?_eq_some_iff.1 hq).2,List.getElem_cons_drop,take_append_drop]
 unfold kM;have h1:(qs.take k).countP (fun p=>decide (p.2.ino=q.2.ino))=0:=hz _ (fun p hp he=>by
  obtain⟨j,hj⟩:=List.getElem?_of_mem hp;rw[List.getElem?_take] at hj
  split at hj
  · rename_i hlt
    exact(G.lnk k j q p (by omega) hq hj he.symm).1 hk
  ·cases hj)
 have h2:(qs.drop (k+1)).countP (fun p=>decide (p.2.ino=q.2.ino))=0:=hz _ (fun p hp he=>by
  obtain⟨j,hj⟩:=List.getElem?_of_mem hp;rw[List.getElem?_drop] at hj;exact(G.lnk k (k+1+j) q p (by omega) hq hj he.symm).1 hk)
 have h3:qs.countP (fun p=>decide (p.2.ino=q.2.ino))=(qs.take k).countP (fun p=>decide (p.2.ino=q.2.ino))+(1+(qs.drop (k+1)).countP (fun p=>decide (p.2.ino=q.2.ino))):=by
  conv=>lhs;rw[e]
  rw[List.countP_append,List.countP_cons_of_pos (by simp)];omega
 rw[h3,h1,h2];rfl
theorem GdT.same{q x:NdH×Nd}(hq:q∈qs)(hx:x∈qs)(e:x.2.ino=q.2.ino):Alk x.2 q.2:=by
 obtain⟨i,hi⟩:=List.getElem?_of_mem hx;obtain⟨j,hj⟩:=List.getElem?_of_mem hq;by_cases h:i=j
 ·subst h;rw[hi] at hj;cases hj;exact Y3 _
 ·exact(G.lnk i j x q h hi hj e).2
include F in
theorem Ii {q:NdH×Nd} (hq:q∈qs) (hk:q.2.kind=2):FOk fs.ds.B fs.tails q.2.data (fs.files.getD q.2.ino.toNat kF):=by
 have hi:=G.ino q hq;have hl:=F.l;obtain⟨f,hf⟩:∃ f,fs.files[q.2.ino.toNat]?=some f:=⟨_,List.getElem?_eq_getElem (by omega)⟩
 have hd:fs.files.getD q.2.ino.toNat kF=f:=by rw[List.getD,hf];rfl
 have ha:=F.a q.2 (mem_map.2 ⟨q,hq,rfl⟩) hk;rw[hd] at ha ⊢;rcases F.f _ f hf with e|⟨x,hx,h1,h2,h3⟩
 ·rw[e] at ha;exact absurd (show (0:Int)=2 from ha) (by decide)
 · obtain⟨p,hp,rfl⟩:=mem_map.1 hx
   have:=G.ino p hp;have e:=G.same hq hp (by omega);rw[←e.2.2.2.2.1];exact h3
omit G in
theorem Ir {B:By} {L:List By} {d:By} {f:Ino} (h:FOk B L d f) (hL:FM L):∃ st fr off:Nat,f=(fun j=>[2,0,0,0,0,0,(st:Int),(d.length:Int),(fr:Int),(off:Int)].getD j 0,[])∧st≤64+B.length∧fr≤L.length∧(0<fr↔0<d.length%128)∧off<128∧(0<fr∨off=0)∧FU B d st∧TlS L (fM d) fr off:=by
 obtain⟨st,fr,off,h1,h2,h3⟩:=h;have ht:(fM d).length=d.length%128:=by unfold fM;rw[length_drop];omega
 have hs:st≤64+B.length:=by
  rcases h2 with⟨_,e⟩|⟨_,pre,rest,e1,e2⟩
  ·omega
  ·rw[e1,e2,length_append];omega
 refine⟨st,fr,off,h1,hs,?_⟩;have h3':=h3;rcases h3 with⟨e1,e2,e3⟩|⟨e0,n,a,z,e1,e2,e3,e4⟩
 · rw[e1] at ht
   have ht:0=d.length%128:=ht;exact⟨by omega,by omega,by omega,.inr e3,h2,h3'⟩
 · have hb:=hL (L.getD n []) (by rw[List.getD,List.getElem?_eq_getElem e1];exact List.getElem_mem _)
   rw[e4,length_append,length_append] at hb;exact⟨by omega,by omega,by omega,.inl (by omega),h2,h3'⟩
include I F in
theorem C4 {k:Nat} {q:NdH×Nd} (hq:qs[k]?=some q) {i:Ino} {xr:Int} (hx:0≤xr∧xr≤4294967295)
 (h2:q.2.kind=2→i=fs.files.getD q.2.ino.toNat kF) (h3:q.2.kind=3→i=(zF,q.2.tgt)) (h1:q.2.kind=1→∃ a n:Nat,i=(fun j=>if j=6 then (a:Int) else if j=7 then (n:Int) else 0,[])∧a≤4294967295∧n≤1048576) :
 fF (inB qs ids k i xr).1 (inB qs ids k i xr).2:=by
 have hm:=mem_of_getElem? hq;have hkl:=(List.getElem?_eq_some_iff.1 hq).1;obtain⟨⟨k1,k3⟩,_,m1,m2,m3,m4,m5,m6,_⟩:=G.may q hm;have hn:=G.n;have hil:=yG I;obtain⟨o1,o2⟩:=CZ hm;obtain⟨u1,u2,_⟩:=yA ((I.2 _).2 o1);obtain⟨g1,g2,_⟩:=yA ((I.2 _).2 o2);have hl:Ai qs (k:Int)=kM qs q.2.ino:=HO ⟨by omega,by omega⟩ (by rw[Int.toNat_natCast];exact hq);have hc:=MT qs q.2.ino;have hc1:=OU hm;have hnd:=bS hq;have f0:(inB qs ids k i xr).1 0=q.2.kind:=by unfold inB;rw[hnd];rfl
 have f1:(inB qs ids k i xr).1 1=q.2.md:=by unfold inB;rw[hnd];rfl
 have f2:(inB qs ids k i xr).1 2=pM ids q.2.ud:=by unfold inB;rw[hnd];rfl
 have f3:(inB qs ids k i xr).1 3=pM ids q.2.gd:=by unfold inB;rw[hnd];rfl
 have f4:(inB qs ids k i xr).1 4=kM qs q.2.ino:=by rw[←hl];rfl
 have f5:(inB qs ids k i xr).1 5=xr:=rfl;have f6:(inB qs ids k i xr).1 6=i.1 6:=rfl;have f7:(inB qs ids k i xr).1 7=i.1 7:=rfl;have f8:(inB qs ids k i xr).1 8=i.1 8:=rfl;have f9:(inB qs ids k i xr).1 9=i.1 9:=rfl;have ft:(inB qs ids k i xr).2=i.2:=rfl;unfold fF bE;rw[f0,f1,f2,f3,f4,f5,f6,f7,f8,f9,ft];by_cases c2:q.2.kind=2
 · have hf:=Ii G F hm c2
   rw[←h2 c2] at hf;obtain⟨st,fr,off,rfl,a1,a2,a3,a4,a5,_,_⟩:=Ir hf F.t;have hB:=F.b;have hT:=F.tn;rw[length_map] at hB hT;refine⟨⟨by omega,by omega,by omega,by omega,by omega,by omega,by omega,by omega,by omega,by omega,.inl ⟨c2,?_⟩⟩,fun h=>by omega⟩;show 0≤((q.2.data.length:Nat):Int)∧((q.2.data.length:Nat):Int)≤4096∧0≤((fr:Nat):Int)∧((fr:Nat):Int)≤1024∧(0<((fr:Nat):Int)↔0<((q.2.data.length:Nat):Int)%128)∧0≤((st:Nat):Int)∧((st:Nat):Int)≤4294967295∧0≤((off:Nat):Int)∧((off:Nat):Int)<128∧(0<((fr:Nat):Int)∨((off:Nat):Int)=0)∧([]:By).length=0;refine⟨by omega,by omega,by omega,by omega,by omega,by omega,by omega,by omega,by omega,by omega,rfl⟩
 · by_cases c3:q.2.kind=3
   · unfold okT at m6
     rw[if_pos c3] at m6;have hp:=length_pos_iff.2 m6.1;rw[h3 c3];refine⟨⟨by omega,by omega,by omega,by omega,by omega,by omega,by omega,by omega,by omega,by omega,.inr (.inr ⟨c3,by show 1≤q.2.tgt.length;omega,m6.2.1,rfl,rfl,rfl,rfl⟩)⟩,fun _=>m6.2.2⟩
   · have c1:q.2.kind=1:=by omega
     obtain⟨a,n,rfl,ha,hn2⟩:=h1 c1;have h11:=G.one hq c1;refine⟨⟨by omega,by omega,by omega,by omega,by omega,by omega,by omega,by omega,by omega,by omega,.inr (.inl ⟨c1,?_⟩)⟩,fun h=>by omega⟩;show 0≤((a:Nat):Int)∧((a:Nat):Int)≤4294967295∧0≤((n:Nat):Int)∧((n:Nat):Int)≤1048576∧kM qs q.2.ino=1∧(0:Int)=0∧(0:Int)=0∧([]:By).length=0;exact⟨by omega,by omega,by omega,by omega,h11,rfl,rfl,rfl⟩
end
theorem pC.many41{qs:List (NdH×Nd)}{ids:List Int}{files:List Ino}{s:BSt}(h:pC qs ids files s)(hn:qs.length≤40):s.many≤41:=by
 have h1:=List.length_filter_le (fun r:Int=>decide (0<r)) s.refs;rw[h.many];unfold uB;rw[h.rl] at h1;omega
theorem pC.ref_le{qs:List (NdH×Nd)}{ids:List Int}{files:List Ino}{s:BSt}(h:pC qs ids files s)(hn:qs.length≤40){m:Nat}(hm:0<s.refs.getD m 0):s.refs.getD m 0-1≤4294967295:=by
 obtain⟨_,_,_,_,o,_,_,e,_,ha,_⟩:=h.std m hm;have h1:=ha.le;have h2:=h.bi;have h3:=h.many41 hn;have h4:=wH s.ino (o/128);rw[e];unfold aQ;omega
section
variable {qs:List (NdH×Nd)}{ids:List Int}{files:List Ino}(G:GdT qs)
include G
theorem wJ{s:BSt}(h:pC qs ids files s){S:List By}:∀ (ys:List Int) (last:By),(∀ z∈ys,z∈bY qs S qs.length)→ys.Pairwise (· < ·)→DY qs s ys→(∀ z∈ys,Op.bytesLess last (aZ (ndB qs z).names)=true)→aS last (jI qs s ys)
|[],_,_,_,_,_=>trivial
|z::r,last,hk,hp,hs,hl=>by
   obtain⟨k,q,rfl,hq,hn⟩:=jF (hk z (by simp));have hnd:=bS hq;have hm:=mem_of_getElem? hq;obtain⟨⟨k1,k3⟩,_⟩:=G.may q hm;have hpos:=hs (k:Int) (by simp);have hrl:=h.ref_le G.n.2 hpos;have hp2:=List.pairwise_cons.1 hp;refine⟨⟨?_,hl _ (by simp),?_,?_,?_,?_⟩,?_⟩
   · show fL (aZ (ndB qs k).names)=0
     rw[hnd];refine G.nmv q hm _ ?_;rw[hn];simp[aZ]
   ·show 1≤(ndB qs k).kind;rw[hnd];exact k1
   ·show (ndB qs k).kind≤3;rw[hnd];exact k3
   ·show 0≤s.refs.getD _ 0-1;omega
   ·show s.refs.getD _ 0-1≤4294967295;exact hrl
   · refine wJ h r _ (fun z hz=>hk z (by simp[hz])) hp2.2 (fun z hz=>hs z (by simp[hz])) (fun z hz=>?_)
     obtain⟨j,p,rfl,hj,hnj⟩:=jF (hk z (by simp[hz]));have hlt:=hp2.1 _ hz;have hless:=G.lt k j q p (by omega) hq hj;rw[bS hj];show Op.bytesLess (aZ (ndB qs k).names) _=true;rw[hnd];have hkq:mH q.2.names S:=oB.2 ⟨by rw[hn];simp,by rw[hn];simp⟩;have hkp:mH p.2.names S:=oB.2 ⟨by rw[hnj];simp,by rw[hnj];simp⟩;unfold cP at hless;have h5:=of_decide_eq_true hless;rw[C6 hkq hkp] at h5;exact Dm.1 h5
theorem MD{s:BSt}{S:List By}:(bC (jI qs s (bY qs S qs.length))).length≤10440:=by
 have key:∀ ys:List Int,(∀ z∈ys,z∈bY qs S qs.length)→(bC (jI qs s ys)).length≤261*ys.length:=by
  intro ys
  induction ys with
 |nil=>intro _;exact Nat.le_refl _
 |cons z r ih=>
    intro h;obtain⟨k,q,rfl,hq,hn⟩:=jF (h z (by simp));have h2:=ih (fun y hy=>h y (by simp[hy]));have h3:(aZ (ndB qs k).names).length≤255:=by
     rw[bS hq];refine(oO (G.nmv q (mem_of_getElem? hq) _ ?_)).1;rw[hn];simp[aZ]
    have e:bC (jI qs s ((k:Int)::r))=nE (aZ (ndB qs k).names,(ndB qs k).kind,s.refs.getD (ndB qs k).ino.toNat 0-1)++bC (jI qs s r):=rfl;rw[e,length_append,oG,length_cons];show (aZ (ndB qs k).names).length+6+_≤_;omega
 have h1:=key _ (fun z hz=>hz);have h2:=Ar (ps:=qs) (s:=S) qs.length;have h3:=G.n.2;omega
end
end
section
open Go Go.RowKit Go.Maps
def BlI(s:BSt):Prop:=s.lst.length≤10440*s.many
structure GdW (qs:List (NdH×Nd))(ids:List Int)(files:List Ino)(s t:BSt)(q:Nd):Prop where
 inv:pC qs ids files t
 bl:BlI t
 ex:Ex s t
 set:0<t.refs.getD q.ino.toNat 0
 ch:∀ m,t.refs.getD m 0≠s.refs.getD m 0→∃ x∈qs,x.2.ino=(m:Int)∧∃ r,x.2.names=q.names++r
section
variable {qs:List (NdH×Nd)}{ids:List Int}{fs:FSt}(G:GdT qs)(I:Dv qs ids)(F:FI (nds qs) (qs.length+1) fs)
include G
theorem G8{wr:Int→BSt→BSt}{S:List By}(IH:∀ (k:Nat) (q:NdH×Nd) (s:BSt),qs[k]?=some q→q.2.names.length=S.length+1→pC qs ids fs.files s→BlI s→GdW qs ids fs.files s (wr k s) q.2) :
 ∀ (ys:List Int) (s:BSt),(∀ z∈ys,z∈bY qs S qs.length)→pC qs ids fs.files s→BlI s→∃ t,wrK wr qs ys s=(t,jI qs t ys)∧pC qs ids fs.files t∧BlI t∧Ex s t∧DY qs t ys ∧
  ∀ m,t.refs.getD m 0≠s.refs.getD m 0→∃ x∈qs,x.2.ino=(m:Int)∧∃ a r,x.2.names=S++a::r
|[],s,_,h,hb=>⟨s,rfl,h,hb,.rfl,(by intro j hj;cases hj),fun m hm=>absurd rfl hm⟩
|z::r,s,hk,h,hb=>by
   obtain⟨k,q,rfl,hq,hn⟩:=jF (hk z (by simp));have g:=IH k q s hq (by rw[hn];simp) h hb;obtain⟨t,e,i1,i2,i3,i4,i5⟩:=G8 IH r (wr k s) (fun y hy=>hk y (by simp[hy])) g.inv g.bl;have hnd:=bS hq;have hset:0<t.refs.getD q.2.ino.toNat 0:=by rw[i3.r _ g.set];exact g.set
   refine⟨t,?_,i1,i2,g.ex.trans i3,?_,fun m hm=>?_⟩
   · show ((wrK wr qs r (wr k s)).1,(aZ (ndB qs k).names,(ndB qs k).kind,(wr k s).refs.getD (ndB qs k).ino.toNat 0-1)::(wrK wr qs r (wr k s)).2)=_
     rw[e];refine Prod.ext rfl ?_;show _::jI qs t r=(aZ (ndB qs k).names,(ndB qs k).kind,t.refs.getD (ndB qs k).ino.toNat 0-1)::jI qs t r;rw[hnd,i3.r _ g.set]
   · intro j hj
     rcases mem_cons.1 hj with rfl|hj
     ·rw[hnd];exact hset
     ·exact i4 j hj
   · by_cases hc:t.refs.getD m 0=(wr k s).refs.getD m 0
     · obtain⟨x,hx,h1,y,h2⟩:=g.ch m (by rw[←hc];exact hm)
       obtain⟨a,ha⟩:∃ a,a=aZ q.2.names:=⟨_,rfl⟩
       rw[←ha] at hn;exact⟨x,hx,h1,a,y,by rw[h2,hn];simp⟩
     ·exact i5 m hc
include I F in
theorem G9:∀ (n:Nat) (k:Nat) (q:NdH×Nd) (s:BSt),qs[k]?=some q→17≤q.2.names.length+n→pC qs ids fs.files s→BlI s→GdW qs ids fs.files s (wrB qs ids fs.files n k s) q.2
|0,k,q,s,hq,hd,h,hb=>by
   have:=G.dep q (mem_of_getElem? hq);omega
|n+1,k,q,s,hq,hd,h,hb=>by
   have hqm:=mem_of_getElem? hq;have hi:=G.ino q hqm;have hn40:=G.n.2;obtain⟨m,hm⟩:=Int.eq_ofNat_of_zero_le (show 0≤q.2.ino by omega);have hmt:q.2.ino.toNat=m:=by omega
   have hX:=(G.may q hqm).2.2.2.2.2.2.2.2;obtain⟨k1,k3⟩:=(G.may q hqm).1;rw[Kn n s hq hm];have one:∀ (s':BSt) (i:Ino),pC qs ids fs.files s'→s'.lst.length≤10440*(s'.many+1)→s'.refs.getD m 0=0→Ex s s'→KiI qs fs.files s' q.2 i →
    (∀ xr,0≤xr→xr≤4294967295→fF (inB qs ids k i xr).1 (inB qs ids k i xr).2)→(∀ a,s'.refs.getD a 0≠s.refs.getD a 0→∃ x∈qs,x.2.ino=(a:Int)∧∃ r,x.2.names=q.2.names++r)→GdW qs ids fs.files s (lB qs ids k i s') q.2:=by
    intro s' i hI hl h0 he hk hmay hch;obtain⟨f1,f2,f3,f4,f5,f6⟩:=MB hI hq hm (by omega) h0 hX hk hmay hn40;refine⟨f1,by unfold BlI;rw[f5,f6];exact hl,he.trans f2,by rw[hmt];exact f3,fun a ha=>?_⟩;by_cases e:a=m
    ·exact⟨q,hqm,by rw[e];exact hm,[],by simp⟩
    ·rw[f4 a e] at ha;exact hch a ha
   by_cases c0:0<s.refs.getD m 0
   · rw[if_pos c0]
     exact⟨h,hb,.rfl,by rw[hmt];exact c0,fun a ha=>absurd rfl ha⟩
   · rw[if_neg c0]
     have h0:s.refs.getD m 0=0:=by have:=h.rn m;omega
     have hbl:s.lst.length≤10440*(s.many+1):=by have:s.lst.length≤10440*s.many:=hb;omega
     have hno:∀ a,s.refs.getD a 0≠s.refs.getD a 0→∃ x∈qs,x.2.ino=(a:Int)∧∃ r,x.2.names=q.2.names++r:=fun a ha=>absurd rfl ha;by_cases c2:q.2.kind=2
     · rw[if_pos c2]
       have e:fs.files.getD m kF=fs.files.getD q.2.ino.toNat kF:=by rw[hmt]
       exact one s _ h hbl h0 .rfl ⟨fun _=>e,fun h=>by omega,fun h=>by omega⟩ (fun xr a b=>C4 G I F hq ⟨a,b⟩ (fun _=>e) (fun h=>by omega) (fun h=>by omega)) hno
     · rw[if_neg c2]
       by_cases c3:q.2.kind=3
       · rw[if_pos c3]
         exact one s _ h hbl h0 .rfl ⟨fun h=>by omega,fun _=>rfl,fun h=>by omega⟩ (fun xr a b=>C4 G I F hq ⟨a,b⟩ (fun h=>by omega) (fun _=>rfl) (fun h=>by omega)) hno
       · rw[if_neg c3,if_pos (by omega)]
         have c1:q.2.kind=1:=by omega
         obtain⟨t,e,i1,i2,i3,i4,i5⟩:=G8 (S:=q.2.names) (ids:=ids) (fs:=fs) G (wr:=wrB qs ids fs.files n) (fun k' q' s' hq' hl h' hb'=>G9 n k' q' s' hq' (by omega) h' hb') (bY qs q.2.names qs.length) s (fun _ hz=>hz) h hb;rw[e];have hch:aS [] (jI qs t (bY qs q.2.names qs.length)):=wJ G i1 _ _ (fun _ hz=>hz) (oC _) i4 (fun z hz=>by
          obtain⟨k',q',rfl,hq',hn'⟩:=jF hz;rw[bS hq'];have hv:=(oO (G.nmv q' (mem_of_getElem? hq') (aZ q'.2.names) (by rw[hn'];simp[aZ]))).2.1;cases hc:aZ q'.2.names with
         |nil=>exact absurd hc hv
         |cons a r=>rfl)
         have hp:=(Ft hch).1;have hlen:=MD (s:=t) G (S:=q.2.names);simp only;rw[hp];simp only;obtain⟨B,hB⟩:∃ B,B=bC (jI qs t (bY qs q.2.names qs.length)):=⟨_,rfl⟩
         rw[←hB] at hlen ⊢;have hex:Ex t { t with lst:=t.lst++B }:=⟨⟨[],by simp⟩,⟨_,rfl⟩,⟨[],by simp⟩,fun _ _=>rfl⟩
         obtain⟨u,hu⟩:∃ u,u = { t with lst:=t.lst++B }:=⟨_,rfl⟩
         rw[←hu] at hex ⊢;have u1:u.ino=t.ino:=by rw[hu]
         have u2:u.refs=t.refs:=by rw[hu]
         have u3:u.fur=t.fur:=by rw[hu]
         have u4:u.sets=t.sets:=by rw[hu]
         have u5:u.many=t.many:=by rw[hu]
         have u6:u.lst=t.lst++B:=by rw[hu]
         have hIu:pC qs ids fs.files u:=⟨fun a ha=>by rw[u2] at ha;exact(i1.std a ha).ex ha hex,by rw[u2];exact i1.rl,fun a=>by rw[u2];exact i1.rn a,fun y hy=>by rw[u4] at hy;rw[u3];exact i1.sets y hy,by rw[u5,i1.many];unfold uB;rw[u2],fun a b=>by rw[u2];exact i1.dist a b,by rw[u1,u5];exact i1.bi,by rw[u3,u5];exact i1.bf,by rw[u4,u5];exact i1.sn,fun y hy=>i1.sh y (by rw[←u4];exact hy)⟩
         have ht0:u.refs.getD m 0=0:=by
          rw[u2];apply byContradiction;intro hne;obtain⟨x,hx,hxi,a,r,hxn⟩:=i5 m (by rw[h0];exact hne);obtain⟨j,hj⟩:=List.getElem?_of_mem hx;by_cases ej:k=j
          · subst ej;rw[hq] at hj;cases hj
            have:=congrArg List.length hxn;simp at this
          ·exact(G.lnk k j q x ej hq hj (by omega)).1 c1
         have hd1:J0 t B=OO u t.lst.length (bC (jI qs u (bY qs q.2.names qs.length))).length:=by
          have e1:jI qs u (bY qs q.2.names qs.length)=jI qs t (bY qs q.2.names qs.length):=Dj i4 hex;rw[e1,←hB];unfold J0 OO;rw[u6,iL (Nat.le_refl _)]
         have hki:KiI qs fs.files u q.2 (J0 t B):=⟨fun h=>by omega,fun h=>by omega,fun _=>⟨i4.ex hex,t.lst.length,hd1,by
          rw[Dj i4 hex,←hB,u6];exact .new _ _⟩⟩
         have hm41:=i1.many41 hn40;have hlt:t.lst.length≤10440*t.many:=i2;refine one u _ hIu (by rw[u6,u5,length_append];omega) ht0 (i3.trans hex) hki (fun xr a b=>C4 G I F hq ⟨a,b⟩ (fun h=>by omega) (fun h=>by omega) (fun _=>⟨aQ t.lst t.lst.length,B.length,rfl,?_,by omega⟩)) (fun a ha=>?_)
         · have:=wH t.lst (t.lst.length/128)
           unfold aQ;omega
         · rw[u2] at ha
           obtain⟨x,hx,h1,b,r,h2⟩:=i5 a ha;exact⟨x,hx,h1,b::r,h2⟩
omit G in
theorem UJ:pC qs ids fs.files (vE (qs.length+1))∧BlI (vE (qs.length+1)):=by
 have hz:∀ m,(vE (qs.length+1)).refs.getD m 0=0:=fun m=>by
  show (List.replicate (qs.length+1) (0:Int)).getD m 0=0;rw[List.getD,List.getElem?_replicate]
  split<;>rfl
 refine⟨⟨fun m hm=>?_,length_replicate,fun m=>by rw[hz];exact Int.le_refl _,(by intro y hy;cases hy),?_,fun m n hm=>?_,Nat.zero_le _,Nat.zero_le _,Nat.zero_le _,(by intro y hy;cases hy)⟩,Nat.zero_le _⟩
 ·rw[hz] at hm;exact absurd hm (by decide)
 · show 0=(List.filter _ (List.replicate (qs.length+1) (0:Int))).length
   rw[List.filter_replicate];simp
 ·rw[hz] at hm;exact absurd hm (by decide)
include I F in
theorem wM:∃ S,wrB qs ids fs.files 17 0 (vE (qs.length+1))=S∧pC qs ids fs.files S∧BlI S∧∀ q∈qs,0<S.refs.getD q.2.ino.toNat 0:=by
 obtain⟨r,hr,hr1,hr2⟩:=G.root;obtain⟨a,b⟩:=UJ (qs:=qs) (ids:=ids) (fs:=fs);have g:=G9 G I F 17 0 r (vE (qs.length+1)) hr (by omega) a b;refine⟨_,rfl,g.inv,g.bl,?_⟩;obtain⟨S,hS⟩:∃ S,S=wrB qs ids fs.files 17 (0:Nat) (vE (qs.length+1)):=⟨_,rfl⟩
 rw[←hS] at g;show ∀ q∈qs,0<(wrB qs ids fs.files 17 ((0:Nat):Int) (vE (qs.length+1))).refs.getD q.2.ino.toNat 0;rw[←hS];have key:∀ (d:Nat) (q:NdH×Nd),q∈qs→q.2.names.length=d→0<S.refs.getD q.2.ino.toNat 0:=by
  intro d
  induction d with
 |zero=>
    intro q hq hl;obtain⟨j,hj⟩:=List.getElem?_of_mem hq;have e:=G.inj hr hj (by rw[hr1,length_eq_zero_iff.1 hl]);subst e;rw[hr] at hj;cases hj;exact g.set
 |succ d ih=>
    intro q hq hl;obtain⟨j,hj⟩:=List.getElem?_of_mem hq;have hne:q.2.names≠[]:=fun e=>by rw[e] at hl;cases hl
    obtain⟨p,hp,hpn,hpk⟩:=G.up q hq hne;have hpos:=ih p hp (by rw[hpn,List.length_dropLast];omega);obtain⟨k',q',i,xr,o,h1,h2,h3,h4,h5,h6,h7⟩:=g.inv.std _ hpos;obtain⟨jp,hjp⟩:=List.getElem?_of_mem hp;have hpi:=G.ino p hp;have e:k'=jp:=byContradiction fun hne=>(G.lnk jp k' p q' (fun h=>hne h.symm) hjp h1 (by omega)).1 hpk;subst e;rw[h1] at hjp;cases hjp;have hk:=(h7.2.2 hpk).1 (j:Int) (L3 hj hne hpn.symm);rw[bS hj] at hk;exact hk
 exact fun q hq=>key _ q hq rfl
end
end
section
open Go Go.RowKit Go.Maps
structure ImB (qs:List (NdH×Nd))(ids:List Int) where
 G:GdT qs
 I:Dv qs ids
 sz:64+((gZ (aH qs ids) ids).length:Int)≤1048576
section
variable {qs:List (NdH×Nd)}{ids:List Int}(M:ImB qs ids)
def stB(qs:List (NdH×Nd))(ids:List Int):BSt:=(aH qs ids).s
def plB(qs:List (NdH×Nd))(ids:List Int):List Int:=(aH qs ids).pl
def imB(qs:List (NdH×Nd))(ids:List Int):By:=suB (cC qs ids (aH qs ids))++gZ (aH qs ids) ids
include M
theorem ImB.fi:FI (nds qs) (qs.length+1) (bW qs):=Di (fun q hq=>⟨M.G.ino q hq,(M.G.may q hq).2.2.2.2.2.2.1⟩)
theorem ImB.st:pC qs ids (bW qs).files (stB qs ids)∧(∀ q∈qs,0<(stB qs ids).refs.getD q.2.ino.toNat 0):=by
 obtain⟨S,e,h1,_,h2⟩:=wM M.G M.I M.fi;have e2:stB qs ids=S:=e;rw[e2];exact⟨h1,h2⟩
theorem ImB.pln:(plB qs ids).length=(bW qs).tails.length∧(plB qs ids).length≤40:=by
 have h:=nK (bW qs).tails (bW qs).ds;have h2:=M.fi.tn;have h3:=M.G.n.2;rw[length_map] at h2;have e:(plB qs ids).length=(bW qs).tails.length:=h;exact⟨e,by omega⟩
theorem ImB.ids0:1≤ids.length∧ids.length≤80:=by
 obtain⟨r,hr,_⟩:=M.G.root;have h:=(M.I.2 _).2 (CZ (mem_of_getElem? hr)).1;have h2:=List.length_pos_of_mem h;have h3:=yG M.I;have h4:=M.G.n.2;omega
theorem ImB.many:1≤(stB qs ids).many∧(stB qs ids).many≤41:=by
 obtain⟨h,h2⟩:=M.st;refine⟨?_,h.many41 M.G.n.2⟩;obtain⟨r,hr,_⟩:=M.G.root;have h3:=h2 r (mem_of_getElem? hr);have h4:=M.G.ino r (mem_of_getElem? hr);rw[h.many];have hm:(stB qs ids).refs.getD r.2.ino.toNat 0∈uB (stB qs ids):=by
  unfold uB;rw[mem_filter];have hl:r.2.ino.toNat<(stB qs ids).refs.length:=by rw[h.rl];omega
  exact⟨by rw[List.getD,List.getElem?_eq_getElem hl];exact List.getElem_mem _,by simpa using h3⟩
 exact List.length_pos_of_mem hm
theorem ImB.may:fX (cC qs ids (aH qs ids)):=by
 obtain⟨a1,a2⟩:=M.many;obtain⟨b1,b2⟩:=M.ids0;obtain⟨c1,c2⟩:=M.pln;obtain⟨h,h2⟩:=M.st;obtain⟨r,hr,_⟩:=M.G.root;have h3:=h2 r (mem_of_getElem? hr);have h4:=h.ref_le M.G.n.2 h3;have hs:=M.sz;have nd:=bS hr;have l2:(jP (aH qs ids)).length=(mR (aH qs ids)).length+(dnW (aH qs ids).s.ino).length:=length_append;have l3:(jD (aH qs ids)).length=(jP (aH qs ids)).length+(dnW (aH qs ids).s.lst).length:=length_append;have l4:(iN (aH qs ids)).length=(jD (aH qs ids)).length+(dnW (aL (aH qs ids).pl 4).1).length:=length_append;have l5:(iA (aH qs ids) ids).length=(iN (aH qs ids)).length+(dnW (aL ids 2).1).length:=length_append;have l6:(gZ (aH qs ids) ids).length=(iA (aH qs ids) ids).length+(dnW (aH qs ids).s.fur).length:=length_append;refine⟨⟨?_,?_,?_,?_,?_,?_,?_⟩,?_,?_,?_,?_,?_,?_,?_,?_⟩
 ·show (64:Int)≤64+((mR (aH qs ids)).length:Int);omega
 ·show 64+((mR (aH qs ids)).length:Int)≤64+((jP (aH qs ids)).length:Int);omega
 ·show 64+((jP (aH qs ids)).length:Int)≤64+((jD (aH qs ids)).length:Int);omega
 ·show 64+((jD (aH qs ids)).length:Int)≤64+((iN (aH qs ids)).length:Int);omega
 ·show 64+((iN (aH qs ids)).length:Int)≤64+((iA (aH qs ids) ids).length:Int);omega
 ·show 64+((iA (aH qs ids) ids).length:Int)≤64+((gZ (aH qs ids) ids).length:Int);omega
 ·exact hs
 ·show 1≤((stB qs ids).many:Int);omega
 ·show ((stB qs ids).many:Int)≤1024;omega
 ·show 1≤(ids.length:Int);omega
 ·show (ids.length:Int)≤2048;omega
 ·show 0≤((plB qs ids).length:Int);omega
 ·show ((plB qs ids).length:Int)≤1024;omega
 · show 0≤(stB qs ids).refs.getD (ndB qs ((0:Nat):Int)).ino.toNat 0-1
   rw[nd];omega
 · show (stB qs ids).refs.getD (ndB qs ((0:Nat):Int)).ino.toNat 0-1≤4294967295
   rw[nd];exact h4
theorem ImB.img:C9 qs ids=(imB qs ids,0):=by
 unfold C9;rw[if_neg (by have:=M.sz;omega)];have:(jC (cC qs ids (aH qs ids))).1=suB (cC qs ids (aH qs ids)):=by unfold jC;rw[if_pos M.may]
 rw[this];rfl
theorem ImB.sup:aI (imB qs ids)=(cC qs ids (aH qs ids),0):=by
 refine DM M.may (fun o ho=>?_) _ rfl;show List.getD [_,_,_,_,_,_,_,_,_,_] o (0:Int)=0;rw[List.getD,List.getElem?_eq_none (by simp only[length_cons,length_nil];omega)];rfl
omit M in
theorem zP {im:By} {fr to:Int} (pre X post:By) (h:im=pre++(X++post)) (hf:fr=pre.length) (ht:to=(pre.length:Int)+X.length):aB im fr to=aB X 0 X.length∧dV im fr to=dV X 0 X.length:=by
 subst h hf ht;exact⟨I3 pre X post,by rw[HN,EP]⟩
omit M in
theorem rV (F:Nat→Int) (Z:By):(64:Int)+(Z.length:Int)=((suB F++Z).length:Nat):=by rw[length_append,rG];omega
theorem ImB.r1:aB (imB qs ids) ((cC qs ids (aH qs ids)) 2) ((cC qs ids (aH qs ids)) 3)=aB (dnW (stB qs ids).ino) 0 (dnW (stB qs ids).ino).length:=by
 obtain⟨F,hF⟩:∃ F,F=cC qs ids (aH qs ids):=⟨_,rfl⟩
 refine(zP (suB F++mR (aH qs ids)) (dnW (stB qs ids).ino) (dnW (aH qs ids).s.lst++(dnW (aL (aH qs ids).pl 4).1++(dnW (aL ids 2).1++dnW (aH qs ids).s.fur))) ?_ ?_ ?_).1
 ·unfold imB gZ iA iN jD jP;rw[←hF];simp only[append_assoc];rfl
 ·rw[←rV];rfl
 · rw[←rV]
   show 64+((mR (aH qs ids)++dnW (stB qs ids).ino).length:Int)=_;rw[length_append];omega
theorem ImB.r2:aB (imB qs ids) ((cC qs ids (aH qs ids)) 3) ((cC qs ids (aH qs ids)) 4)=aB (dnW (stB qs ids).lst) 0 (dnW (stB qs ids).lst).length:=by
 obtain⟨F,hF⟩:∃ F,F=cC qs ids (aH qs ids):=⟨_,rfl⟩
 refine(zP (suB F++jP (aH qs ids)) (dnW (stB qs ids).lst) (dnW (aL (aH qs ids).pl 4).1++(dnW (aL ids 2).1++dnW (aH qs ids).s.fur)) ?_ ?_ ?_).1
 ·unfold imB gZ iA iN jD;rw[←hF];simp only[append_assoc];rfl
 ·rw[←rV];rfl
 · rw[←rV]
   show 64+((jP (aH qs ids)++dnW (stB qs ids).lst).length:Int)=_;rw[length_append];omega
theorem ImB.r5:aB (imB qs ids) ((cC qs ids (aH qs ids)) 6) ((cC qs ids (aH qs ids)) 0)=aB (dnW (stB qs ids).fur) 0 (dnW (stB qs ids).fur).length:=by
 obtain⟨F,hF⟩:∃ F,F=cC qs ids (aH qs ids):=⟨_,rfl⟩
 refine(zP (suB F++iA (aH qs ids) ids) (dnW (stB qs ids).fur) [] ?_ ?_ ?_).1
 ·unfold imB gZ;rw[←hF];simp only[append_assoc,append_nil];rfl
 ·rw[←rV];rfl
 · rw[←rV]
   show 64+((iA (aH qs ids) ids++dnW (stB qs ids).fur).length:Int)=_;rw[length_append];omega
theorem ImB.pl_in:inW 4 (plB qs ids):=by
 intro x hx;obtain⟨j,hj,rfl⟩:=List.getElem_of_mem hx;have hl:=M.pln.1;obtain⟨pre,rest,h1,h2⟩:=xU (bW qs).tails (bW qs).ds j (by omega);have e:(plB qs ids)[j]=(fV (bW qs).tails (bW qs).ds).2.getD j 0:=by
  have e2:plB qs ids=(fV (bW qs).tails (bW qs).ds).2:=rfl;rw[List.getD,←e2,List.getElem?_eq_getElem hj];rfl
 rw[e,h2];have h3:=M.sz;have h4:=congrArg List.length h1;rw[length_append] at h4;have l6:(gZ (aH qs ids) ids).length=(fV (bW qs).tails (bW qs).ds).1.B.length+(dnW (aH qs ids).s.ino++(dnW (aH qs ids).s.lst++(dnW (aL (aH qs ids).pl 4).1++(dnW (aL ids 2).1++dnW (aH qs ids).s.fur)))).length:=by
  rw[←length_append];unfold gZ iA iN jD jP;simp only[append_assoc];rfl
 refine⟨by omega,?_⟩;show (64:Int)+pre.length<4294967296;omega
theorem ImB.pl:tnS (imB qs ids) ((cC qs ids (aH qs ids)) 4) ((cC qs ids (aH qs ids)) 5) ((cC qs ids (aH qs ids)) 8) 4=(plB qs ids,0):=by
 obtain⟨F,hF⟩:∃ F,F=cC qs ids (aH qs ids):=⟨_,rfl⟩
 have he:(aL (plB qs ids) 4).1=enW 4 (plB qs ids):=by
  have h:=qH (w:=4) (.inr rfl) M.pl_in;have h:aL (plB qs ids) 4=(enW 4 (plB qs ids),0):=h;rw[h]
 obtain⟨a,b⟩:=zP (im:=imB qs ids) (fr:=(cC qs ids (aH qs ids)) 4) (to:=(cC qs ids (aH qs ids)) 5) (suB F++jD (aH qs ids)) (dnW (enW 4 (plB qs ids))) (dnW (aL ids 2).1++dnW (aH qs ids).s.fur) (by
  rw[←he];unfold imB gZ iA iN;rw[←hF];simp only[append_assoc];rfl) (by rw[←rV];rfl) (by
  rw[←rV,←he];show 64+((jD (aH qs ids)++dnW (aL (plB qs ids) 4).1).length:Int)=_;rw[length_append];omega)
 rw[Br a b];exact He (w:=4) (.inr rfl) M.pl_in
theorem ImB.ids_in:inW 2 ids:=by
 intro x hx;have h:=(M.I.2 x).1 hx;unfold rS at h;obtain⟨q,hq,h1⟩:=mem_flatMap.1 h;obtain⟨_,_,_,m2,m3,_⟩:=M.G.may q hq;simp only[mem_cons,not_mem_nil,or_false] at h1;refine⟨by rcases h1 with rfl|rfl<;>omega,?_⟩;show x<65536;rcases h1 with rfl|rfl<;>omega
theorem ImB.id:tnS (imB qs ids) ((cC qs ids (aH qs ids)) 5) ((cC qs ids (aH qs ids)) 6) ((cC qs ids (aH qs ids)) 7) 2=(ids,0):=by
 obtain⟨F,hF⟩:∃ F,F=cC qs ids (aH qs ids):=⟨_,rfl⟩
 have he:(aL ids 2).1=enW 2 ids:=by
  have h:=qH (w:=2) (.inl rfl) M.ids_in;have h:aL ids 2=(enW 2 ids,0):=h;rw[h]
 obtain⟨a,b⟩:=zP (im:=imB qs ids) (fr:=(cC qs ids (aH qs ids)) 5) (to:=(cC qs ids (aH qs ids)) 6) (suB F++iN (aH qs ids)) (dnW (enW 2 ids)) (dnW (aH qs ids).s.fur) (by
  rw[←he];unfold imB gZ iA;rw[←hF];simp only[append_assoc]) (by rw[←rV];rfl) (by
  rw[←rV,←he];show 64+((iN (aH qs ids)++dnW (aL ids 2).1).length:Int)=_;rw[length_append];omega)
 rw[Br a b];exact He (w:=2) (.inl rfl) M.ids_in
theorem ImB.blk:∃ rest,imB qs ids=suB (cC qs ids (aH qs ids))++((fV (bW qs).tails (bW qs).ds).1.B++rest)∧(cC qs ids (aH qs ids)) 2=64+((fV (bW qs).tails (bW qs).ds).1.B.length:Int):=by
 refine⟨dnW (aH qs ids).s.ino++(dnW (aH qs ids).s.lst++(dnW (aL (aH qs ids).pl 4).1++(dnW (aL ids 2).1++dnW (aH qs ids).s.fur))),?_,rfl⟩;unfold imB gZ iA iN jD jP;simp only[append_assoc];rfl
end
theorem JU{sup rest im:By}(hs:sup.length=64){L:List By}(hL:FM L){ds:DS}(him:im=sup++((fV L ds).1.B++rest)){d:By}{st fr off:Nat}(hd:d.length≤4096)(h1:FU ds.B d st)(h2:TlS L (fM d) fr off){e:Int}(he:64+((fV L ds).1.B.length:Int)≤e){g:Img}(hg:g.im=im)(hp:g.places=(fV L ds).2){x:Rec}(x6:x.ino.1 6=st)(x7:x.ino.1 7=d.length)(x8:x.ino.1 8=fr)(x9:x.ino.1 9=off) :
 Bd g x 0 d.length=(d,0)∧(128≤d.length→(pF im st d.length e).2=0∧64≤st):=by
 obtain⟨z,hz,_⟩:=rD L ds
 have hrd:gM im st d.length 0 d.length=(d.take (d.length/128*128),0)∧(128≤d.length→(pF im st d.length e).2=0∧64≤st):=by
  rcases h1 with⟨a,b⟩|⟨a,pre,r2,b,c⟩
  · have h128:d.length/128=0:=by
     have h3:=(nN d (d.length/128)).2;have h3:3*(d.length/128)≤(dE d).length:=h3;rw[a] at h3;simp at h3;omega
    exact⟨Gk h128,fun h=>by omega⟩
  · have hi:im=(sup++pre)++(dE d++(r2++(z++rest))):=by rw[him,hz,b];simp only[append_assoc]
    have hl:(sup++pre).length=st:=by rw[length_append,hs,c]
    have h3:=Gl hi hd;rw[hl] at h3;refine⟨h3,fun h=>⟨?_,by omega⟩⟩;have h4:=congrArg List.length hz;rw[b] at h4;simp only[length_append] at h4;have h5:=Dz hi (e:=e) (by rw[hl];omega) (d.length/128) 0 rfl (Nat.zero_le _);rw[hl] at h5;have h6:pF im (st:Nat) (d.length:Nat) e=vH im e (d.length/128) st:=yS hd;rw[h6];have h5:vH im e (d.length/128) ((st+(gD d 0).length:Nat):Int)=_:=h5;rw[show (gD d 0).length=0 from rfl,Nat.add_zero] at h5;rw[h5]
 refine⟨?_,hrd.2⟩;have hw:d.length/128*128≤d.length:=Nat.div_mul_le_self _ _;unfold Bd;rw[x6,x7,x8,x9,hg,hrd.1,if_neg (fun h=>h rfl)];have htl:(d.take (d.length/128*128)).length=d.length/128*128:=by rw[length_take];omega
 by_cases hc:d.length/128*128=d.length
 · rw[if_pos (by show ((d.take (d.length/128*128)).length:Int)=d.length;omega)]
   show (d.take (d.length/128*128),(0:Int))=(d,0)
   rw[hc,take_length]
 · rw[if_neg (by show ¬ ((d.take (d.length/128*128)).length:Int)=d.length;omega)]
   have e1:(if (0:Int)-(d.length:Int)/128*128<0 then (0:Int) else 0-(d.length:Int)/128*128)=0:=by split<;>omega
   rw[e1,Int.add_zero];show (if (dU im g.places fr off ((d.length:Int)-(d.take (d.length/128*128)).length)).2≠0 then _ else (d.take (d.length/128*128)++(dU im g.places fr off ((d.length:Int)-(d.take (d.length/128*128)).length)).1,(0:Int)))=(d,0)
   have ht:(fM d).length=d.length-d.length/128*128:=by unfold fM;rw[length_drop]
   have e2:(d.length:Int)-((d.take (d.length/128*128)).length:Int)=((fM d).length:Nat):=by omega
   rw[e2];have hf:dU im g.places fr off ((fM d).length:Nat)=(fM d,0):=by
    rcases h2 with⟨a,_⟩|⟨a,n,p,q,b1,b2,b3,b4⟩
    ·rw[a] at ht;simp at ht;omega
    · obtain⟨pre,r2,c1,c2⟩:=xU L ds n b1
      have hbl:=nK L ds;have hbn:=(hL (L.getD n []) (by rw[List.getD,List.getElem?_eq_getElem b1];exact List.getElem_mem _)).2;have hi:im=(sup++pre)++((cZ (L.getD n [])).1++(r2++rest)):=by rw[him,c1];simp only[append_assoc]
      have ht2:=(vJ hbn (sup++pre) (r2++rest)).1;rw[←hi] at ht2;have hal:(L.getD n []).length=p.length+((fM d).length+q.length):=by rw[b4];simp
      unfold dU;rw[hp,if_neg (by omega),b2,show (((n+1:Nat):Int)-1).toNat=n by omega,c2,show (64:Int)+pre.length=((sup++pre).length:Nat) by rw[length_append];omega,ht2];unfold fP;rw[if_neg (by simp only;rintro(h|h|h|h);exact h rfl;omega;omega;omega)];simp only;rw[b4,b3,Int.toNat_natCast,Int.toNat_natCast,drop_left' rfl,take_left' rfl]
   rw[hf,if_neg (fun h=>h rfl)];show (d.take (d.length/128*128)++d.drop (d.length/128*128),(0:Int))=(d,0)
   rw[take_append_drop]
end
section
open Go Go.RowKit Go.Maps
def rfB(qs:List (NdH×Nd))(ids:List Int)(q:Nd):Int:=(stB qs ids).refs.getD q.ino.toNat 0-1
structure ROk (qs:List (NdH×Nd))(ids:List Int)(q:Nd)(x:Rec):Prop where
 ref:x.ref=rfB qs ids q
 kd:x.ino.1 0=q.kind
 md:x.ino.1 1=q.md
 ud:ids.getD (x.ino.1 2).toNat 0=q.ud
 gd:ids.getD (x.ino.1 3).toNat 0=q.gd
 ln:x.ino.1 4=kM qs q.ino
 tg:q.kind=3→x.ino.2=q.tgt
 ls:x.list=jI qs (stB qs ids) (bY qs q.names qs.length)
 xs:x.xs=q.xs
 fl:q.kind=2→x.ino.1 7=q.data.length∧∀ g:Img,g.im=imB qs ids→g.places=plB qs ids→Bd g x 0 q.data.length=(q.data,0)
theorem GU{qs:List (NdH×Nd)}{ids:List Int}{files:List Ino}(G:GdT qs){s:BSt}(h:pC qs ids files s){S:List By}(hs:DY qs s (bY qs S qs.length)):aS [] (jI qs s (bY qs S qs.length)):=
 wJ G h _ _ (fun _ hz=>hz) (oC _) hs (fun z hz=>by
  obtain⟨k',q',rfl,hq',hn'⟩:=jF hz;rw[bS hq'];have hv:=(oO (G.nmv q' (mem_of_getElem? hq') (aZ q'.2.names) (by rw[hn'];simp[aZ]))).2.1;cases hc:aZ q'.2.names with
 |nil=>exact absurd hc hv
 |cons a r=>rfl)
section
variable {qs:List (NdH×Nd)}{ids:List Int}(M:ImB qs ids)
include M
theorem ImB.rcd{q:NdH×Nd}(hq:q∈qs):∃ x,eQ (imB qs ids) (cC qs ids (aH qs ids)) ids (rfB qs ids q.2) q.2.kind=some x∧ROk qs ids q.2 x:=by
 have G:=M.G;have F:=M.fi;obtain⟨hinv,hpos⟩:=M.st;have hqi:=G.ino q hq;obtain⟨k,p,i,xr,o,hk,hpi,href,hmay,hat,hxr,hki⟩:=hinv.std _ (hpos q hq);have hpm:=mem_of_getElem? hk;have hkl:=(List.getElem?_eq_some_iff.1 hk).1;have hal:=G.same hq hpm (by omega);obtain⟨j,hj⟩:=List.getElem?_of_mem hq;have hkids:bY qs p.2.names qs.length=bY qs q.2.names qs.length:=by
  by_cases e:k=j
  ·subst e;rw[hk] at hj;cases hj;rfl
  · have h1:=(G.lnk k j p q e hk hj (by omega)).1
    rw[G.nodir hk h1,G.nodir hj (by rw[←hal.1];exact h1)]
 obtain⟨ka,⟨kb1,kb2,kb3⟩,kc,kd,ke,kf⟩:=hal;have hmp:=G.may p hpm;obtain⟨o1,o2⟩:=CZ hpm;obtain⟨u1,u2,u3⟩:=yA ((M.I.2 _).2 o1);obtain⟨g1,g2,g3⟩:=yA ((M.I.2 _).2 o2);have hl:Ai qs (k:Int)=kM qs p.2.ino:=HO ⟨by omega,by omega⟩ (by rw[Int.toNat_natCast];exact hk);have hnd:=bS hk;obtain⟨x0,hx0⟩:∃ x:Ino,x=inB qs ids k i xr:=⟨_,rfl⟩
 have f0:x0.1 0=p.2.kind:=by rw[hx0];unfold inB;rw[hnd];rfl
 have f1:x0.1 1=p.2.md:=by rw[hx0];unfold inB;rw[hnd];rfl
 have f2:x0.1 2=pM ids p.2.ud:=by rw[hx0];unfold inB;rw[hnd];rfl
 have f3:x0.1 3=pM ids p.2.gd:=by rw[hx0];unfold inB;rw[hnd];rfl
 have f4:x0.1 4=kM qs p.2.ino:=by rw[hx0,←hl];rfl
 have f5:x0.1 5=xr:=by rw[hx0];rfl
 have f6:x0.1 6=i.1 6:=by rw[hx0];rfl
 have f7:x0.1 7=i.1 7:=by rw[hx0];rfl
 have f8:x0.1 8=i.1 8:=by rw[hx0];rfl
 have f9:x0.1 9=i.1 9:=by rw[hx0];rfl
 have ft:x0.2=i.2:=by rw[hx0];rfl
 rw[←hx0] at hmay hat;obtain⟨rest,hdr⟩:=hat.drop;have hle:=hat.le;have hR:bM (imB qs ids) (cC qs ids (aH qs ids) 2) (cC qs ids (aH qs ids) 3) (rfB qs ids q.2)=((gFn (iI x0),gT (iI x0)),((aQ (stB qs ids).ino (o+(iI x0).length):Nat):Int),0):=by
  rw[GG M.r1];have e:rfB qs ids q.2=((aQ (stB qs ids).ino o:Nat):Int):=by unfold rfB;rw[href];omega
  rw[e];exact Qp hmay hdr hle
 obtain⟨hs,hst⟩:=JL hmay;have s0:=hs 0 (by decide);have s1:=hs 1 (by decide);have s2:=hs 2 (by decide);have s3:=hs 3 (by decide);have s4:=hs 4 (by decide);have s5:=hs 5 (by decide);have s6:=hs 6 (by decide);have s7:=hs 7 (by decide);have s8:=hs 8 (by decide);have s9:=hs 9 (by decide);obtain⟨E,hE⟩:∃ E:Ino,E=(gFn (iI x0),gT (iI x0)):=⟨_,rfl⟩
 have E0:E.1 0=p.2.kind:=by rw[hE];exact s0.trans f0
 have E1:E.1 1=p.2.md:=by rw[hE];exact s1.trans f1
 have E2:E.1 2=pM ids p.2.ud:=by rw[hE];exact s2.trans f2
 have E3:E.1 3=pM ids p.2.gd:=by rw[hE];exact s3.trans f3
 have E4:E.1 4=kM qs p.2.ino:=by rw[hE];exact s4.trans f4
 have E5:E.1 5=xr:=by rw[hE];exact s5.trans f5
 have E6:E.1 6=i.1 6:=by rw[hE];exact s6.trans f6
 have E7:E.1 7=i.1 7:=by rw[hE];exact s7.trans f7
 have E8:E.1 8=i.1 8:=by rw[hE];exact s8.trans f8
 have E9:E.1 9=i.1 9:=by rw[hE];exact s9.trans f9
 have ET:E.2=i.2:=by rw[hE];exact hst.trans ft
 rw[←hE] at hR;have hX:cM (imB qs ids) (cC qs ids (aH qs ids)) (E.1 5)=(p.2.xs,0):=by
  rw[E5];unfold cM;rcases hxr with⟨e1,e2⟩|⟨e1,o2,e2,e3⟩
  ·rw[e2,if_neg (by decide),e1]
  · obtain⟨r2,hr2⟩:=e3.drop
    rw[if_pos (by omega),Ga M.r5,e2,show ((aQ (stB qs ids).fur o2:Nat):Int)+1-1=((aQ (stB qs ids).fur o2:Nat):Int) by omega];exact QU hmp.2.2.2.2.2.2.2.2 (length_pos_iff.2 e1) hr2
 have hF8:(cC qs ids (aH qs ids)) 8=((plB qs ids).length:Int):=rfl;have hpl:=M.pln;have hbad:i.1 8≤(plB qs ids).length→¬ kI (cC qs ids (aH qs ids)) ids (E,((aQ (stB qs ids).ino (o+(iI x0).length):Nat):Int),0) q.2.kind:=fun h8=>by
  unfold kI;show ¬ ((0:Int)≠0∨E.1 0≠q.2.kind∨(ids.length:Int)≤E.1 2∨(ids.length:Int)≤E.1 3∨cC qs ids (aH qs ids) 8<E.1 8);rw[E0,E2,E3,E8,hF8];rintro(h|h|h|h|h)
  ·exact h rfl
  ·exact h ka
  ·omega
  ·omega
  ·omega
 have hcnt:kM qs p.2.ino=kM qs q.2.ino:=by rw[show p.2.ino=q.2.ino by omega]
 have fin:∀ L:List Ent,L=jI qs (stB qs ids) (bY qs q.2.names qs.length)→(q.2.kind=3→E.2=q.2.tgt)→(q.2.kind=2→E.1 7=q.2.data.length∧∀ g:Img,g.im=imB qs ids→g.places=plB qs ids→Bd g ⟨rfB qs ids q.2,E,L,p.2.xs⟩ 0 q.2.data.length=(q.2.data,0))→ROk qs ids q.2 ⟨rfB qs ids q.2,E,L,p.2.xs⟩:=fun L hL h3 h2=>
  ⟨rfl,E0.trans ka,E1.trans kb1,by show ids.getD (E.1 2).toNat 0=q.2.ud;rw[E2,u3,kb2],by show ids.getD (E.1 3).toNat 0=q.2.gd;rw[E3,g3,kb3],by show E.1 4=_;rw[E4,hcnt],h3,hL,kf,h2⟩
 obtain⟨⟨k1,k3⟩,_⟩:=G.may q hq;by_cases c2:q.2.kind=2
 · have hi:=hki.1 (ka.trans c2)
   have hf:=Ii G F hpm (ka.trans c2);rw[←hi] at hf;obtain⟨st,fr,off,rfl,a1,a2,a3,a4,a5,a6,a7⟩:=Ir hf F.t;obtain⟨rst,hb1,hb2⟩:=M.blk;have hd:p.2.data.length≤4096:=hmp.2.2.2.2.2.2.1;have hb:=hbad (by show ((fr:Nat):Int)≤_;omega);have key:∀ (g:Img) (L:List Ent) (X:List Xa),g.im=imB qs ids→g.places=plB qs ids→Bd g ⟨rfB qs ids q.2,E,L,X⟩ 0 p.2.data.length=(p.2.data,0)∧(128≤p.2.data.length→(pF (imB qs ids) st p.2.data.length (cC qs ids (aH qs ids) 2)).2=0∧64≤st):=fun g L X hg hp=>
    JU (rG _) F.t hb1 hd a6 a7 (by rw[hb2];exact Int.le_refl _) hg hp (by show E.1 6=_;rw[E6];rfl) (by show E.1 7=_;rw[E7];rfl) (by show E.1 8=_;rw[E8];rfl) (by show E.1 9=_;rw[E9];rfl)
   have h7:E.1 7=((p.2.data.length:Nat):Int):=by rw[E7];rfl
   have h6:E.1 6=((st:Nat):Int):=by rw[E6];rfl
   have hnb:¬ xP (imB qs ids) (cC qs ids (aH qs ids)) E.1:=by
    unfold xP;rw[h7,h6];rintro⟨h,h2⟩;obtain⟨w1,w2⟩:=(key ⟨imB qs ids,zF,plB qs ids,[],[]⟩ [] [] rfl rfl).2 (by omega);rcases h2 with h2|h2
    ·exact h2 w1
    ·omega
   refine⟨⟨rfB qs ids q.2,E,[],p.2.xs⟩,?_,fin [] ?_ (fun h=>by omega) (fun _=>⟨by rw[h7,ke],fun g hg hp=>?_⟩)⟩
   · unfold eQ
     rw[hR,if_neg hb];show (if (cM (imB qs ids) (cC qs ids (aH qs ids)) (E.1 5)).2≠0 then _ else _)=_;rw[hX,if_neg (fun h=>h rfl),if_pos c2];show (if xP (imB qs ids) (cC qs ids (aH qs ids)) E.1 then none else some _)=_;rw[if_neg hnb]
   ·rw[G.nodir hj (by omega)];rfl
   · have:=(key g [] p.2.xs hg hp).1
     rw[ke] at this;exact this
 · by_cases c1:q.2.kind=1
   · obtain⟨ks,o2,hi,hat2⟩:=hki.2.2 (ka.trans c1)
     have hch:=GU G hinv ks;have hL:=(Ft hch).2;obtain⟨r2,hr2⟩:=hat2.drop;have hle2:=hat2.le;have hb:=hbad (by rw[hi];exact Int.natCast_nonneg _);have h6:E.1 6=((aQ (stB qs ids).lst o2:Nat):Int):=by rw[E6,hi];rfl
     have h7:E.1 7=(((bC (jI qs (stB qs ids) (bY qs p.2.names qs.length))).length:Nat):Int):=by rw[E7,hi];rfl
     have hlis:nC (imB qs ids) (cC qs ids (aH qs ids)) E.1=(jI qs (stB qs ids) (bY qs p.2.names qs.length),0):=by
      unfold nC;rw[M.r2,h6,h7];have h8:=Ep hle2;have h8:aB (dnW (stB qs ids).lst) 0 (dnW (stB qs ids).lst).length ((aQ (stB qs ids).lst o2:Nat):Int) (((bC (jI qs (stB qs ids) (bY qs p.2.names qs.length))).length:Nat):Int)=_:=h8;rw[h8,if_neg (fun h=>h rfl)];show eX (((stB qs ids).lst.drop o2).take _)=_;rw[hr2,take_left' rfl,hL]
     refine⟨⟨rfB qs ids q.2,E,jI qs (stB qs ids) (bY qs p.2.names qs.length),p.2.xs⟩,?_,fin _ (by rw[hkids]) (fun h=>by omega) (fun h=>by omega)⟩;unfold eQ;rw[hR,if_neg hb];show (if (cM (imB qs ids) (cC qs ids (aH qs ids)) (E.1 5)).2≠0 then _ else _)=_;rw[hX,if_neg (fun h=>h rfl),if_neg c2,if_pos c1];show (if (nC (imB qs ids) (cC qs ids (aH qs ids)) E.1).2≠0 then none else some _)=_;rw[hlis,if_neg (fun h=>h rfl)]
   · have c3:q.2.kind=3:=by omega
     have hi:=hki.2.1 (ka.trans c3);have hb:=hbad (by rw[hi];exact Int.natCast_nonneg _);refine⟨⟨rfB qs ids q.2,E,[],p.2.xs⟩,?_,fin [] ?_ (fun _=>by rw[ET,hi];exact kc) (fun h=>by omega)⟩
     · unfold eQ
       rw[hR,if_neg hb];show (if (cM (imB qs ids) (cC qs ids (aH qs ids)) (E.1 5)).2≠0 then _ else _)=_;rw[hX,if_neg (fun h=>h rfl),if_neg c2,if_neg c1]
     ·rw[G.nodir hj (by omega)];rfl
end
end
section
open Go Go.RowKit Go.Maps
def kD(qs:List (NdH×Nd)):Nat→Int→List Int
|0,_=>[]
|n+1,k=>k::(bY qs (ndB qs k).names qs.length).flatMap (kD qs n)
def vld(qs:List (NdH×Nd))(V:List Int):Prop:=∀ k∈V,∃ (i:Nat) (q:NdH×Nd),k=(i:Int)∧qs[i]?=some q
def cV(qs:List (NdH×Nd))(V:List Int)(z:Int):Nat:=V.countP (fun j=>decide ((ndB qs j).ino=z))
def Rk(qs:List (NdH×Nd))(ids:List Int)(k:Int):Rec:=(eQ (imB qs ids) (cC qs ids (aH qs ids)) ids (rfB qs ids (ndB qs k)) (ndB qs k).kind).getD qE
structure MI (qs:List (NdH×Nd))(ids:List Int)(V:List Int)(s:MSt):Prop where
 cnt:s.2=V.length
 nd:(s.1.map (·.1.ref)).Nodup
 mem:∀ r∈s.1,∃ k∈V,r.1=Rk qs ids k∧r.2=(cV qs V (ndB qs k).ino:Int)
 all:∀ k∈V,∃ r∈s.1,r.1.ref=rfB qs ids (ndB qs k)
section
variable {qs:List (NdH×Nd)}
theorem yM(V:List Int)(k z:Int):cV qs (V++[k]) z=cV qs V z+if (ndB qs k).ino=z then 1 else 0:=by
 unfold cV;rw[List.countP_append,List.countP_singleton];by_cases h:(ndB qs k).ino=z
 ·simp[h]
 ·simp[h]
theorem Ce{l:List (Rec×Int)}{ref:Int}(h:fH l ref=none):∀ r∈l,r.1.ref≠ref:=by
 unfold fH at h;rw[List.findIdx?_eq_none_iff] at h;intro r hr e;have:=h r hr;simp[e] at this
theorem wF{l:List (Rec×Int)}{ref:Int}{i:Nat}(h:fH l ref=some i):∃ r,l[i]?=some r∧r.1.ref=ref:=by
 unfold fH at h;rw[List.findIdx?_eq_some_iff_getElem] at h;obtain⟨hi,h1,_⟩:=h;exact⟨l[i],List.getElem?_eq_getElem hi,by simpa using h1⟩
theorem qJ:∀ (n k:Nat) (q:NdH×Nd),qs[k]?=some q→∀ z∈kD qs n k,∃ (i:Nat) (p:NdH×Nd) (r:List By),z=(i:Int)∧qs[i]?=some p∧p.2.names=q.2.names++r
|0,k,q,hq,z,hz=>by cases hz
|n+1,k,q,hq,z,hz=>by
   have hz:z∈(k:Int)::(bY qs (ndB qs k).names qs.length).flatMap (kD qs n):=hz;rcases mem_cons.1 hz with rfl|hz
   ·exact⟨k,q,[],rfl,hq,by simp⟩
   · obtain⟨y,hy,hz⟩:=mem_flatMap.1 hz
     rw[bS hq] at hy;obtain⟨j,p,rfl,hj,hn⟩:=jF hy;obtain⟨i,x,r,h1,h2,h3⟩:=qJ n j p hj z hz;obtain⟨a,ha⟩:∃ a,a=aZ p.2.names:=⟨_,rfl⟩
     rw[←ha] at hn;exact⟨i,x,a::r,h1,h2,by rw[h3,hn];simp⟩
theorem qI(n:Nat){k:Nat}{q:NdH×Nd}(hq:qs[k]?=some q):vld qs (kD qs n k):=fun z hz=>by
 obtain⟨i,p,_,h1,h2,_⟩:=qJ n k q hq z hz;exact⟨i,p,h1,h2⟩
variable (G:GdT qs)
include G
theorem oT:∀ (n k:Nat) (q:NdH×Nd),qs[k]?=some q→(kD qs n k).Nodup
|0,_,_,_=>List.Pairwise.nil
|n+1,k,q,hq=>by
   show ((k:Int)::(bY qs (ndB qs k).names qs.length).flatMap (kD qs n)).Nodup;rw[bS hq];refine List.nodup_cons.2 ⟨fun hm=>?_,?_⟩
   · obtain⟨y,hy,hz⟩:=mem_flatMap.1 hm
     obtain⟨j,p,rfl,hj,hn⟩:=jF hy;obtain⟨i,x,r,h1,h2,h3⟩:=qJ n j p hj _ hz;have e:i=k:=by omega
     subst e;rw[hq] at h2;cases h2;have:=congrArg List.length h3;rw[hn] at this;simp at this
   · unfold List.Nodup
     rw[List.pairwise_flatMap];refine⟨fun y hy=>?_,?_⟩
     · obtain⟨j,p,rfl,hj,_⟩:=jF hy
       exact oT n j p hj
     · refine(oC qs.length).imp_of_mem (fun {a b} ha hb hab=>?_)
       obtain⟨i,p,rfl,hi,hn⟩:=jF ha;obtain⟨j,r,rfl,hj,hm⟩:=jF hb;intro x hx y hy e;subst e;obtain⟨i1,x1,r1,a1,a2,a3⟩:=qJ n i p hi x hx;obtain⟨i2,x2,r2,b1,b2,b3⟩:=qJ n j r hj x hy;have e:i1=i2:=by omega
       subst e;rw[a2] at b2;cases b2;have hlen:p.2.names.length=r.2.names.length:=by rw[hn,hm];simp
       have h2:=a3.symm.trans b3;have h3:=(List.append_inj h2 hlen).1;have:=G.inj hi hj h3;omega
theorem Ey:∀ (n k:Nat) (q:NdH×Nd),qs[k]?=some q→17≤q.2.names.length+n→∀ (i:Nat) (p:NdH×Nd) (r:List By),qs[i]?=some p→p.2.names=q.2.names++r→(i:Int)∈kD qs n k
|0,k,q,hq,hd,i,p,r,hp,hr=>by have:=G.dep q (mem_of_getElem? hq);omega
|n+1,k,q,hq,hd,i,p,r,hp,hr=>by
   show (i:Int)∈(k:Int)::(bY qs (ndB qs k).names qs.length).flatMap (kD qs n);rw[bS hq];by_cases h0:r=[]
   · subst h0
     have e:=G.inj hp hq (by rw[hr];simp);rw[e];exact List.mem_cons_self
   · refine List.mem_cons_of_mem _ (mem_flatMap.2 ?_)
     have hl:p.2.names.length=q.2.names.length+r.length:=by rw[hr,length_append]
     have hr0:=length_pos_iff.2 h0;obtain⟨j,y,hj,hy,_⟩:=G.above (mem_of_getElem? hp) (r.length-1) (q.2.names.length+1) (by omega);have hyl:y.2.names=q.2.names++r.take 1:=by
      rw[hy,hr,take_append,take_of_length_le (by omega)];congr 2;omega
     have hne:y.2.names≠[]:=fun e=>by
      have:=congrArg List.length (hyl.symm.trans e);simp only[length_append,length_take,length_nil] at this;omega
     have hdl:y.2.names.dropLast=q.2.names:=by
      rw[hyl];cases r with
     |nil=>exact absurd rfl h0
     |cons a b=>simp
     refine⟨(j:Int),L3 hj hne hdl,?_⟩;have hyn:y.2.names.length=q.2.names.length+1:=by rw[hyl,length_append,length_take];omega
     refine Ey n j y hj (by omega) i p (r.drop 1) hp ?_;rw[hyl,hr,append_assoc,take_append_drop]
theorem Lq{n k:Nat}{q:NdH×Nd}(hq:qs[k]?=some q):(kD qs n k).length≤qs.length:=by
 have h:=vX (kD qs n k) ((List.range qs.length).map (fun(i:Nat)=>(i:Int))) (oT G n k q hq) (fun x hx=>by
  obtain⟨i,p,h1,h2⟩:=qI n hq x hx;exact mem_map.2 ⟨i,mem_range.2 (List.getElem?_eq_some_iff.1 h2).1,h1.symm⟩)
 simpa using h
omit G in
theorem Es (n:Nat):((List.range n).map (fun(i:Nat)=>(i:Int))).Nodup:=by
 unfold List.Nodup;rw[pairwise_map];exact(List.nodup_range (n:=n)).imp (fun h e=>h (by omega))
theorem BX:(kD qs 17 0).Perm ((List.range qs.length).map (fun(i:Nat)=>(i:Int))):=by
 obtain⟨r,hr,hrn,_⟩:=G.root;refine(List.perm_ext_iff_of_nodup (oT G 17 0 r hr) (Es _)).2 (fun x=>⟨fun hx=>?_,fun hx=>?_⟩)
 · obtain⟨i,p,h1,h2⟩:=qI 17 hr x hx
   exact mem_map.2 ⟨i,mem_range.2 (List.getElem?_eq_some_iff.1 h2).1,h1.symm⟩
 · obtain⟨i,hi,rfl⟩:=mem_map.1 hx
   have hi:=mem_range.1 hi;exact Ey G 17 0 r hr (by omega) i _ _ (List.getElem?_eq_getElem hi) (by rw[hrn];simp;rfl)
omit G in
theorem O0 {V U:List Int} (h:V.Perm U) (z:Int):cV qs V z=cV qs U z:=h.countP_eq _
omit G in
theorem M5 (z:Int):(cV qs ((List.range qs.length).map (fun(i:Nat)=>(i:Int))) z:Int)=kM qs z:=by
 unfold cV kM;congr 1;rw[List.countP_map];have e:qs=(List.range qs.length).map (fun i=>qs.getD i (EJ,nd0)):=by
  apply ext_getElem?;intro i;rw[List.getElem?_map];by_cases hi:i<qs.length
  ·rw[List.getElem?_range hi,List.getElem?_eq_getElem hi];simp[List.getD,hi]
  ·rw[List.getElem?_eq_none (by omega),List.getElem?_eq_none (by rw[List.length_range];omega)];rfl
 conv=>rhs;rw[e]
 rw[List.countP_map];congr 1
end
section
variable {qs:List (NdH×Nd)}{ids:List Int}(M:ImB qs ids)
include M
theorem ImB.rk{k:Nat}{q:NdH×Nd}(hq:qs[k]?=some q):eQ (imB qs ids) (cC qs ids (aH qs ids)) ids (rfB qs ids q.2) q.2.kind=some (Rk qs ids k)∧ROk qs ids q.2 (Rk qs ids k):=by
 obtain⟨x,h1,h2⟩:=M.rcd (mem_of_getElem? hq);have e:Rk qs ids k=x:=by unfold Rk;rw[bS hq,h1];rfl
 rw[e];exact⟨h1,h2⟩
theorem ImB.rf_ino{p q:NdH×Nd}(hp:p∈qs)(hq:q∈qs):rfB qs ids p.2=rfB qs ids q.2↔p.2.ino=q.2.ino:=by
 obtain⟨h,hpos⟩:=M.st;have h1:=hpos p hp;have i1:=M.G.ino p hp;have i2:=M.G.ino q hq;unfold rfB;constructor
 · intro e
   have:=h.dist p.2.ino.toNat q.2.ino.toNat h1 (by omega);omega
 ·intro e;rw[e]
theorem ImB.rk_same{j k:Nat}{p q:NdH×Nd}(hp:qs[j]?=some p)(hq:qs[k]?=some q)(e:p.2.ino=q.2.ino):Rk qs ids j=Rk qs ids k:=by
 have h:=M.G.same (mem_of_getElem? hq) (mem_of_getElem? hp) e;unfold Rk rfB;rw[bS hp,bS hq,e,h.1]
theorem MI.new{V:List Int}{s:MSt}(h:MI qs ids V s)(hV:vld qs V){k:Nat}{q:NdH×Nd}(hq:qs[k]?=some q)(hn:fH s.1 (rfB qs ids q.2)=none):MI qs ids (V++[(k:Int)]) (s.1++[(Rk qs ids k,1)],s.2+1):=by
 have hno:=Ce hn;have hR:=(M.rk hq).2;have hnd:=bS hq;refine⟨by show s.2+1=_;rw[h.cnt,length_append];rfl,?_,fun r hr=>?_,fun j hj=>?_⟩
 · show ((s.1++[(Rk qs ids k,1)]).map (fun r:Rec×Int=>r.1.ref)).Nodup
   rw[map_append,nodup_append];refine⟨h.nd,by simp,fun a ha b hb e=>?_⟩;obtain⟨r,hr,rfl⟩:=mem_map.1 ha;simp only[map_cons,List.map_nil,mem_singleton] at hb;subst hb;exact hno r hr (e.trans hR.ref)
 · rcases mem_append.1 hr with hr|hr
   · obtain⟨j,hj,h1,h2⟩:=h.mem r hr
     obtain⟨i,p,rfl,hp⟩:=hV j hj;refine⟨(i:Int),mem_append_left _ hj,h1,?_⟩;rw[yM,if_neg (fun e=>?_),h2,Nat.add_zero];rw[hnd,bS hp] at e;have h3:=(M.rk hp).2.ref;rw[←h1,(M.rf_ino (mem_of_getElem? hp) (mem_of_getElem? hq)).2 e.symm] at h3;exact hno r hr h3
   · rw[mem_singleton] at hr;subst hr
     refine⟨(k:Int),by simp,rfl,?_⟩;rw[yM,if_pos rfl];have h0:cV qs V (ndB qs k).ino=0:=List.countP_eq_zero.2 (fun j hj=>by
      obtain⟨i,p,rfl,hp⟩:=hV j hj;obtain⟨r,hr,h1⟩:=h.all _ hj;rw[bS hp] at h1 ⊢;rw[hnd];simp only[decide_eq_true_eq];intro e;rw[(M.rf_ino (mem_of_getElem? hp) (mem_of_getElem? hq)).2 e] at h1;exact hno r hr h1)
     rw[h0];rfl
 · rcases mem_append.1 hj with hj|hj
   · obtain⟨r,hr,h1⟩:=h.all j hj
     exact⟨r,mem_append_left _ hr,h1⟩
   · rw[mem_singleton] at hj;subst hj
     exact⟨(Rk qs ids k,1),by simp,by rw[hnd];exact hR.ref⟩
theorem MI.old{V:List Int}{s:MSt}(h:MI qs ids V s)(hV:vld qs V){k i:Nat}{q:NdH×Nd}(hq:qs[k]?=some q)(hi:fH s.1 (rfB qs ids q.2)=some i):MI qs ids (V++[(k:Int)]) (eH s.1 i,s.2+1):=by
 obtain⟨r0,hr0,hrf⟩:=wF hi;have hil:=(List.getElem?_eq_some_iff.1 hr0).1;have hnd:=bS hq;have hb:eH s.1 i=s.1.set i (r0.1,r0.2+1):=by unfold eH;rw[List.getD,hr0];rfl
 have hmap:(eH s.1 i).map (·.1.ref)=s.1.map (·.1.ref):=by
  rw[hb,map_set];apply ext_getElem?;intro j;rw[List.getElem?_set];by_cases e:i=j
  · subst e
    rw[if_pos rfl,length_map,if_pos hil,List.getElem?_map,hr0];rfl
  ·rw[if_neg e]
 have at_:∀ (j:Nat) (r:Rec×Int),s.1[j]?=some r→r.1.ref=rfB qs ids q.2→j=i:=fun j r hr e=>by
  have hjl:=(List.getElem?_eq_some_iff.1 hr).1;apply byContradiction;intro hne;have hn:=pairwise_iff_getElem.1 h.nd;have e1:(s.1.map (·.1.ref))[j]'(by rw[length_map];exact hjl)=rfB qs ids q.2:=by rw[List.getElem_map,(List.getElem?_eq_some_iff.1 hr).2];exact e
  have e2:(s.1.map (·.1.ref))[i]'(by rw[length_map];exact hil)=rfB qs ids q.2:=by rw[List.getElem_map,(List.getElem?_eq_some_iff.1 hr0).2];exact hrf
  rcases Nat.lt_or_gt_of_ne hne with c|c
  ·exact hn j i (by rw[length_map];exact hjl) (by rw[length_map];exact hil) c (e1.trans e2.symm)
  ·exact hn i j (by rw[length_map];exact hil) (by rw[length_map];exact hjl) c (e2.trans e1.symm)
 refine⟨by show s.2+1=_;rw[h.cnt,length_append];rfl,by rw[hmap];exact h.nd,fun r hr=>?_,fun j hj=>?_⟩
 · obtain⟨j,hj⟩:=List.getElem?_of_mem hr
   have hj:(eH s.1 i)[j]?=some r:=hj;rw[hb,List.getElem?_set] at hj;by_cases e:i=j
   · rw[if_pos e,if_pos hil] at hj
     cases hj;obtain⟨k',hk',h1,h2⟩:=h.mem r0 (mem_of_getElem? hr0);obtain⟨i',p,rfl,hp⟩:=hV k' hk';have h3:=(M.rk hp).2.ref;rw[←h1,hrf] at h3;have h4:=(M.rf_ino (mem_of_getElem? hq) (mem_of_getElem? hp)).1 h3;refine⟨(i':Int),mem_append_left _ hk',h1,?_⟩;rw[yM,if_pos (by rw[hnd,bS hp];exact h4)];show r0.2+1=_;rw[h2];rfl
   · rw[if_neg e] at hj
     obtain⟨k',hk',h1,h2⟩:=h.mem r (mem_of_getElem? hj);obtain⟨i',p,rfl,hp⟩:=hV k' hk';refine⟨(i':Int),mem_append_left _ hk',h1,?_⟩;rw[yM,if_neg (fun e2=>?_),h2,Nat.add_zero];rw[hnd,bS hp] at e2;have h3:=(M.rk hp).2.ref;rw[←h1,(M.rf_ino (mem_of_getElem? hp) (mem_of_getElem? hq)).2 e2.symm] at h3;exact e (at_ j r hj h3).symm
 · rcases mem_append.1 hj with hj|hj
   · obtain⟨r,hr,h1⟩:=h.all j hj
     have h2:r.1.ref∈(eH s.1 i).map (·.1.ref):=by rw[hmap];exact mem_map.2 ⟨r,hr,rfl⟩
     obtain⟨r',hr',h3⟩:=mem_map.1 h2;exact⟨r',hr',h3.trans h1⟩
   · rw[mem_singleton] at hj;subst hj
     have h2:r0.1.ref∈(eH s.1 i).map (·.1.ref):=by rw[hmap];exact mem_map.2 ⟨r0,mem_of_getElem? hr0,rfl⟩
     obtain⟨r',hr',h3⟩:=mem_map.1 h2;exact⟨r',hr',by rw[h3,hnd];exact hrf⟩
omit M in
theorem Ha {V U:List Int} (h:vld qs V) (g:vld qs U):vld qs (V++U):=fun k hk=>(mem_append.1 hk).elim (h k) (g k)
theorem HY{f:Int→Int→MSt→Option MSt}{P:Int→List Int}{S:List By}
 (IH:∀ (k:Nat) (q:NdH×Nd) (V:List Int) (s:MSt),qs[k]?=some q→q.2.names.length=S.length+1→MI qs ids V s→vld qs V→(V++P k).Nodup→(V++P k).length≤1024→∃ s',f (rfB qs ids q.2) q.2.kind s=some s'∧MI qs ids (V++P k) s')
 (hP:∀ z∈bY qs S qs.length,vld qs (P z)):∀ (ys:List Int) (V:List Int) (s:MSt),(∀ z∈ys,z∈bY qs S qs.length)→MI qs ids V s→vld qs V→(V++ys.flatMap P).Nodup→(V++ys.flatMap P).length≤1024→∃ s',goL f (jI qs (stB qs ids) ys) s=some s'∧MI qs ids (V++ys.flatMap P) s'
|[],V,s,_,h,_,_,_=>⟨s,rfl,by simpa using h⟩
|z::r,V,s,hk,h,hV,hn,hl=>by
   obtain⟨k,q,rfl,hq,hnm⟩:=jF (hk z (by simp));rw[flatMap_cons,←append_assoc] at hn hl;have hn1:=(nodup_append.1 hn).1;obtain⟨s1,e1,h1⟩:=IH k q V s hq (by rw[hnm];simp) h hV hn1 (by rw[length_append] at hl;omega);obtain⟨s2,e2,h2⟩:=HY IH hP r (V++P k) s1 (fun y hy=>hk y (by simp[hy])) h1 (Ha hV (hP _ (hk _ (by simp)))) hn hl;refine⟨s2,?_,by rw[flatMap_cons,←append_assoc];exact h2⟩;have e:jI qs (stB qs ids) ((k:Int)::r)=(aZ (ndB qs k).names,(ndB qs k).kind,rfB qs ids (ndB qs k))::jI qs (stB qs ids) r:=rfl;rw[e,bS hq];show (match f (rfB qs ids q.2) q.2.kind s with|none=>none|some s'=>goL f (jI qs (stB qs ids) r) s')=_;rw[e1];exact e2
theorem HX:∀ (n k:Nat) (q:NdH×Nd) (V:List Int) (s:MSt),qs[k]?=some q→17≤q.2.names.length+n→MI qs ids V s→vld qs V→(V++kD qs n k).Nodup→(V++kD qs n k).length≤1024 →
 ∃ s',goM (imB qs ids) (cC qs ids (aH qs ids)) ids n (rfB qs ids q.2) q.2.kind s=some s'∧MI qs ids (V++kD qs n k) s'
|0,k,q,V,s,hq,hd,_,_,_,_=>by have:=M.G.dep q (mem_of_getElem? hq);omega
|n+1,k,q,V,s,hq,hd,h,hV,hn,hl=>by
   have e:kD qs (n+1) k=(k:Int)::(bY qs q.2.names qs.length).flatMap (kD qs n):=by show (k:Int)::_=_;rw[bS hq]
   rw[e] at hn hl ⊢;have hkV:(k:Int)∉V:=fun hm=>(nodup_append.1 hn).2.2 _ hm _ (by simp) rfl;have hc:=h.cnt;have hlen:V.length+1≤1024:=by rw[length_append,length_cons] at hl;omega
   unfold goM;rw[if_neg (by omega)];cases hi:fH s.1 (rfB qs ids q.2) with
  |some i=>
     obtain⟨r0,hr0,hrf⟩:=wF hi;obtain⟨k',hk',h1,h2⟩:=h.mem r0 (mem_of_getElem? hr0);obtain⟨i',p,rfl,hp⟩:=hV k' hk';have hpR:=(M.rk hp).2;have h3:=hpR.ref;rw[←h1,hrf] at h3;have h4:=(M.rf_ino (mem_of_getElem? hq) (mem_of_getElem? hp)).1 h3;have hne:k≠i':=fun e=>hkV (by rw[e];exact hk');obtain⟨g1,g2⟩:=M.G.lnk k i' q p hne hq hp h4;have hkids:=M.G.nodir hq g1;have hkd:(s.1.getD i (qE,0)).1.ino.1 0=q.2.kind:=by rw[List.getD,hr0];show r0.1.ino.1 0=_;rw[h1,hpR.kd,g2.1]
     simp only;rw[if_pos ⟨g1,hkd⟩,hkids];exact⟨_,rfl,MI.old M h hV hq hi⟩
  |none=>
     simp only;rw[(M.rk hq).1];simp only;rw[(M.rk hq).2.ls];have hnew:=MI.new M h hV hq hi;rw[show V++(k:Int)::(bY qs q.2.names qs.length).flatMap (kD qs n)=(V++[(k:Int)])++(bY qs q.2.names qs.length).flatMap (kD qs n) by simp] at hn hl ⊢;exact HY M (S:=q.2.names) (fun k' q' V' s' hq' hnl h' hV' hn' hl'=>HX n k' q' V' s' hq' (by omega) h' hV' hn' hl') (fun z hz=>by
      obtain⟨j,p,rfl,hj,_⟩:=jF hz;exact qI n hj) _ (V++[(k:Int)]) _ (fun _ hz=>hz) hnew (Ha hV (fun z hz=>by rw[mem_singleton] at hz;exact⟨k,q,hz,hq⟩)) hn hl
theorem ImB.mnt:∃ s:MSt,mnt (imB qs ids)=some ⟨imB qs ids,cC qs ids (aH qs ids),plB qs ids,ids,s.1⟩∧MI qs ids (kD qs 17 0) s:=by
 obtain⟨r,hr,hrn,hrk⟩:=M.G.root;have h0:MI qs ids [] ([],0):=⟨rfl,List.Pairwise.nil,by intro r hr;(cases hr),by intro k hk;(cases hk)⟩
 have hlen:=Lq M.G (n:=17) hr;obtain⟨s,e,hs⟩:=HX M 17 0 r [] ([],0) hr (by omega) h0 (by intro k hk;cases hk) (by rw[nil_append];exact oT M.G 17 0 r hr) (by rw[nil_append];have:=M.G.n.2;have:(kD qs 17 ((0:Nat):Int)).length≤qs.length:=hlen;omega);rw[nil_append] at hs;have hs:MI qs ids (kD qs 17 0) s:=hs;have hperm:=BX M.G;obtain⟨hinv,hpos⟩:=M.st;have hF9:(cC qs ids (aH qs ids)) 9=rfB qs ids r.2:=by
  show (stB qs ids).refs.getD (ndB qs ((0:Nat):Int)).ino.toNat 0-1=_;rw[bS hr];rfl
 have hrise:kP ids:=fun i hi=>by
  have h:=pairwise_iff_getElem.1 M.I.1 i (i+1) (by omega) hi (by omega);rw[List.getD,List.getD,List.getElem?_eq_getElem (by omega),List.getElem?_eq_getElem hi];exact h
 have hvl:vld qs (kD qs 17 0):=qI 17 hr
 have hcount:(s.1.length:Int)=(cC qs ids (aH qs ids)) 1:=by
  show (s.1.length:Int)=((stB qs ids).many:Int)
  rw[hinv.many];have h1:((uB (stB qs ids)).map (fun z=>z-1)).Nodup:=by
   have hp:(uB (stB qs ids)).Nodup:=by
    have hr2:(stB qs ids).refs.Pairwise (fun a b=>0<a→a≠b):=pairwise_iff_getElem.2 (fun i j hi hj hij h0 e=>by
     have e1:(stB qs ids).refs.getD i 0=(stB qs ids).refs[i]:=by simp[List.getD,hi]
     have e2:(stB qs ids).refs.getD j 0=(stB qs ids).refs[j]:=by simp[List.getD,hj]
     have:=hinv.dist i j (by rw[e1];exact h0) (by rw[e1,e2];exact e);omega)
    unfold uB List.Nodup;rw[List.pairwise_filter];exact hr2.imp (fun h a _=>h (by simpa using a))
   unfold List.Nodup;rw[pairwise_map];exact hp.imp (fun h e=>h (by omega))
  have h2:(s.1.map (·.1.ref)).Perm ((uB (stB qs ids)).map (fun z=>z-1)):=(List.perm_ext_iff_of_nodup hs.nd h1).2 (fun z=>by
   constructor
   · intro hz
     obtain⟨x,hx,rfl⟩:=mem_map.1 hz;obtain⟨k,hk,e1,_⟩:=hs.mem x hx;obtain⟨i,p,rfl,hp⟩:=hvl k hk;have hpm:=mem_of_getElem? hp;have hpi:=M.G.ino p hpm;refine mem_map.2 ⟨(stB qs ids).refs.getD p.2.ino.toNat 0,?_,by rw[e1,(M.rk hp).2.ref];rfl⟩;unfold uB;rw[mem_filter];have hl:p.2.ino.toNat<(stB qs ids).refs.length:=by rw[hinv.rl];omega
     exact⟨by rw[List.getD,List.getElem?_eq_getElem hl];exact List.getElem_mem _,by simpa using hpos p hpm⟩
   · intro hz
     obtain⟨y,hy,rfl⟩:=mem_map.1 hz;unfold uB at hy;rw[mem_filter] at hy;obtain⟨m,hm⟩:=List.getElem?_of_mem hy.1;have e1:(stB qs ids).refs.getD m 0=y:=by rw[List.getD,hm];rfl
     obtain⟨k,p,_,_,_,hk,hpi,_⟩:=hinv.std m (by rw[e1];simpa using hy.2);have hmem:(k:Int)∈kD qs 17 0:=hperm.mem_iff.2 (mem_map.2 ⟨k,mem_range.2 (List.getElem?_eq_some_iff.1 hk).1,rfl⟩);obtain⟨x,hx,e2⟩:=hs.all _ hmem;refine mem_map.2 ⟨x,hx,?_⟩;rw[e2,bS hk];unfold rfB;rw[hpi,Int.toNat_natCast,e1])
  have h3:=h2.length_eq;rw[length_map,length_map] at h3;omega
 have hlinks:∀ x∈s.1,x.2=x.1.ino.1 4:=fun x hx=>by
  obtain⟨k,hk,e1,e2⟩:=hs.mem x hx;obtain⟨i,p,rfl,hp⟩:=hvl k hk;rw[e2,e1,(M.rk hp).2.ln,bS hp,O0 hperm,M5]
 refine⟨s,?_,hs⟩;unfold Go.Proofs.YthdecfkdgdagcaaGreat.mnt;rw[M.sup];simp only;rw[if_neg (fun h=>h rfl),M.pl];simp only;rw[if_neg (fun h=>h rfl),M.id];simp only;rw[if_neg (fun h=>h rfl),if_neg (fun h=>h hrise),hF9];have e:goM (imB qs ids) (cC qs ids (aH qs ids)) ids 17 (rfB qs ids r.2) 1 ([],0)=some s:=by rw[←hrk];exact e
 rw[e];simp only;rw[if_neg (fun h=>h.elim (fun h=>h hcount) (fun h=>h hlinks))]
theorem ImB.known{s:MSt}(hs:MI qs ids (kD qs 17 0) s){k:Nat}{q:NdH×Nd}(hq:qs[k]?=some q):knM ⟨imB qs ids,cC qs ids (aH qs ids),plB qs ids,ids,s.1⟩ (rfB qs ids q.2)=some (Rk qs ids k):=by
 obtain⟨r,hr,_⟩:=M.G.root;have hmem:(k:Int)∈kD qs 17 0:=(BX M.G).mem_iff.2 (mem_map.2 ⟨k,mem_range.2 (List.getElem?_eq_some_iff.1 hq).1,rfl⟩);unfold knM;show (fH s.1 (rfB qs ids q.2)).map (fun i=>(s.1.getD i (qE,0)).1)=_;cases hi:fH s.1 (rfB qs ids q.2) with
|none=>
   obtain⟨x,hx,e⟩:=hs.all _ hmem;rw[bS hq] at e;exact absurd e (Ce hi x hx)
|some i=>
   obtain⟨r0,hr0,hrf⟩:=wF hi;obtain⟨k',hk',h1,_⟩:=hs.mem r0 (mem_of_getElem? hr0);obtain⟨i',p,rfl,hp⟩:=qI 17 hr k' hk';have h3:=(M.rk hp).2.ref;rw[←h1,hrf] at h3;have h4:=(M.rf_ino (mem_of_getElem? hq) (mem_of_getElem? hp)).1 h3;rw[map_some,List.getD,hr0];show some r0.1=_;rw[h1,M.rk_same hp hq h4.symm]
end
end
theorem uP{α:Type}{K:Nat}{enc:α→List Value}(hk:∀ x,(enc x).length=K):∀ (xs:List α) (i:Nat) (u:α),i<xs.length→(xs.set i u).flatMap enc=(xs.flatMap enc).take (i*K)++(enc u++(xs.flatMap enc).drop (i*K+K))
|[],i,u,h=>absurd h (Nat.not_lt_zero _)
|x::r,0,u,h=>by
   rw[List.set_cons_zero,flatMap_cons,flatMap_cons,Nat.zero_mul,Nat.zero_add,take_zero,nil_append,drop_left' (hk x)]
|x::r,i+1,u,h=>by
   rw[List.set_cons_succ,flatMap_cons,flatMap_cons,uP hk r i u (Nat.lt_of_succ_lt_succ h)];have e1:((i+1)*K)=(enc x).length+i*K:=by rw[hk x,Nat.add_mul,Nat.one_mul];omega
   rw[e1,take_append,take_of_length_le (l:=enc x) (by omega),Nat.add_sub_cancel_left,Nat.add_assoc,List.drop_append,List.drop_of_length_le (l:=enc x) (by omega),nil_append,Nat.add_sub_cancel_left,append_assoc]
theorem PX{α:Type}(cur v:List α){o L:Nat}(h:o+v.length≤L)(hL:L≤cur.length):((cur.take o++v)++cur.drop (o+v.length)).take L=(cur.take L).take o++(v++(cur.take L).drop (o+v.length)):=by
 have e1:(cur.take o++v).length=o+v.length:=by rw[length_append,length_take];omega
 rw[take_append,e1,take_of_length_le (l:=cur.take o++v) (by omega),List.take_take,Nat.min_eq_left (by omega),List.drop_take,append_assoc]
section
variable {P:Program}{N:Nt}{Q:Exit→Act→World→Prop}{l:SF}{w:World}{ops:Array Oper}{rest:List Oper}{ty:TypeId}{pos:String}{aft:Array Edge}{x y:Operand}{t:TypeId}{d:Nat}
theorem X2{α:Type}{K:Nat}{enc:α→List Value}(henc:iK K enc){T:TypeId}{ao:Option Addr}{cap:Nat}{xs:List α}{i:Nat}{u:α}{ad:Addr}(hi:i<xs.length)
 (ht:gI P t (enc u).length=true)(hx:evL l x=some (.pointer (some ad)))(had:ad=adr ao (i*K))(hy:evL l y=some (.agg (enc u).toArray))(ho:bN K enc T w.heap ao cap xs)
 (h:∀ w',bN K enc T w'.heap ao cap (xs.set i u)→w'.heap.size=w.heap.size→aA (blk ao) w w'→Sl P N ops Q rest l w') :
 Sl P N ops Q (⟨none,.store t x y,ty,pos,aft,none⟩::rest) l w:=by
 have hil:=hi;rcases ho with⟨rfl,rfl,rfl⟩|⟨g,cur,rfl,hg,g1,g2,g3,g4⟩
 ·simp at hil
 · have hK:xs.length*K≤cap*K:=Nat.mul_le_mul_right K g1
   have hiK:(i+1)*K≤xs.length*K:=Nat.mul_le_mul_right K (by omega);rw[Nat.add_mul,Nat.one_mul] at hiK;have hel:(enc u).length=K:=(henc u).1;have hcl:cur.toList.length=cap*K:=by rw[Array.length_toList,g3]
   have hadr:ad=⟨g,i*K,none⟩:=by
    rw[had];show (⟨g,0,none⟩:Addr).add (i*K)=_;rw[Addr.add_lit,Nat.zero_add]
   subst hadr;refine Xi (cur:=cur.toList) ht hx hy (henc u).2 (by simpa using hg) (by omega) (fun w' q1 q2 q3=>h w' ?_ q2 ?_)
   · refine .inr ⟨g,_,rfl,q1,by simpa using g1,g2,?_,?_⟩
     ·simp only[size_toArray,length_append,length_take,length_drop];omega
     · rw[length_set,uP (fun x=>(henc x).1) xs i u hi,←g4]
       have:=PX cur.toList (enc u) (o:=i*K) (L:=xs.length*K) (by omega) (by omega);rw[hel] at this;rw[hel];exact this
   ·exact q3.mono (fun k e=>⟨⟨g,0,none⟩,rfl,e.symm⟩)
theorem WZ{α:Type}{K:Nat}{enc:α→List Value}(henc:iK K enc)(hK:0<K){e:TypeId}(z0:α){bytes:Nat}(ht:aY P t e K bytes)(hz:(P.info? e).map (fun i=>i.zero.map (·.cells))=some (some (enc z0).toArray)){k k':IntKind}{n m:Int}
 (hx:evL l x=some (.int k n))(hy:evL l y=some (.int k' m))(h0:0≤n)(hnm:n≤m)(hn:(bytes:Int)*m≤281474976710656)(hm:m≤9223372036854775807)(hd:Nat.blt d N.n=true)
 (h:∀ w',bN K enc e w'.heap (some ⟨w.heap.size,0,none⟩) m.toNat (List.replicate n.toNat z0)→w'.heap.size=w.heap.size+1→aA nob w w'→Sl P N ops Q rest ((d,.slice (some ⟨w.heap.size,0,none⟩) n.toNat m.toNat)::l) w') :
 Sl P N ops Q (⟨some d,.makeSlice t x y,ty,pos,aft,none⟩::rest) l w:=by
 obtain⟨i,z,hi,hz1,hzc,h2,h3⟩:=ht.parts;have hc:z.cells=(enc z0).toArray:=by rw[hi] at hz;simp[hz1] at hz;exact hz
 have hr:=run_make (P:=P) w t e i z ht.und hi hz1 k k' n m h0 hnm (by rw[h3];exact hn) hm;have hel:(enc z0).length=K:=(henc z0).1;rw[hc,h2] at hr;refine Wn (w':=w.alloc (.cells (madeCells (enc z0).toArray (m.toNat*K)) e)) (fun a ha=>?_) hd (h _ ?_ (by simp) (aA.alloc _ _ _))
 ·simp only[execOp,ha.ev hx,ha.ev hy,Sem.run_bind,hr,Result.andThen_ok,Sem.run_pure]
 · refine .inr ⟨w.heap.size,_,rfl,heap_alloc_new w _,by simp;omega,by unfold maxLen;omega,size_madeCells _ _,?_⟩
   apply ext_getElem?;intro q;rw[length_replicate];have hle:n.toNat*K≤m.toNat*K:=Nat.mul_le_mul_right K (by omega);by_cases hq:q<n.toNat*K
   · have h1:q/K<n.toNat:=(Nat.div_lt_iff_lt_mul hK).2 hq
     have h4:q%K<K:=Nat.mod_lt _ hK;have e1:(List.replicate n.toNat z0)[q/K]?=some z0:=by rw[List.getElem?_replicate,if_pos h1]
     have e2:(enc z0)[q%K]?=some ((enc z0).toArray[q%K]!):=by
      rw[getElem!_pos (enc z0).toArray (q%K) (by rw[size_toArray];omega)];rw[List.getElem?_eq_getElem (by omega)];rfl
     have e3:=sQ (fun x=>(henc x).1) (List.replicate n.toNat z0) (q/K) z0 e1 (q%K) _ e2;rw[Nat.div_add_mod'] at e3;rw[e3,List.getElem?_take,if_pos hq];unfold madeCells;rw[Array.getElem?_toList,Array.getElem?_map,Array.getElem?_range,if_pos (by omega)];simp only[map_some,size_toArray,hel]
   ·rw[List.getElem?_eq_none (by rw[length_take];omega),List.getElem?_eq_none (by rw[dJ (fun x=>(henc x).1),length_replicate];omega)]
end
section
open Go Go.RowKit Go.Maps
theorem Bs:∀ (L:List By) (t:By) (s:DS),fV (L++[t]) s=((pO 64 (fV L s).1 t).1,(fV L s).2++[((pO 64 (fV L s).1 t).2:Int)])
|[],t,s=>rfl
|x::r,t,s=>by
   show ((fV (r++[t]) (pO 64 s x).1).1,_::(fV (r++[t]) (pO 64 s x).1).2)=_;rw[Bs r t];rfl
theorem Kv{L:List By}(h:FM L)(s:DS):(fV L s).1.B.length≤s.B.length+135*L.length:=by
 obtain⟨z,hz,hl⟩:=rD L s;have key:∀ M:List By,FM M→(M.map (fun t=>(cZ t).1.length)).sum≤135*M.length:=by
  intro M
  induction M with
 |nil=>intro _;exact Nat.le_refl _
 |cons x r ih=>
    intro hb;have h1:=ih (fun y hy=>hb y (by simp[hy]));have h2:=hb x (by simp);have h3:=gY (b:=x) h2.2;rw[map_cons,List.sum_cons,length_cons];omega
 have:=key L h;rw[hz,length_append];omega
theorem sC(T:By):(dnW T).length≤135*((T.length+127)/128):=wH T (nF T)
theorem Pk(n:Nat):∀ (L:List Nd) (s:FSt),(L.foldl iP s).ds.m.length≤s.ds.m.length+L.length
|[],s=>Nat.le_refl _
|x::r,s=>by
   have h:=Pk n r (iP s x)
   have h2:(iP s x).ds.m.length≤s.ds.m.length+1:=by
    unfold iP
    split
    ·exact Nat.le_succ _
    · show (jO 64 s.ds x.data).1.m.length≤_
      unfold jO Kb
      split
      ·exact Nat.le_succ _
      · split
        ·exact Nat.le_succ _
        · show (s.ds.m++_).length≤_
          rw[length_append];exact Nat.le_refl _
   rw[foldl_cons,length_cons];omega
structure VC (qs:List (NdH×Nd))(ids:List Int):Prop where
 B:(fV (bW qs).tails (bW qs).ds).1.B.length≤200000
 i:(aH qs ids).s.ino.length≤10000
 l:(aH qs ids).s.lst.length≤500000
 f:(aH qs ids).s.fur.length≤200000
 b:bdB (aH qs ids).s
 m:(aH qs ids).s.many≤41
 d:ids.length≤80
 n4:(aL (aH qs ids).pl 4).1.length≤160
 n2:(aL ids 2).1.length≤160
 o1:(mR (aH qs ids)).length≤200000
 o2:(jP (aH qs ids)).length≤400000
 o3:(jD (aH qs ids)).length≤1000000
 o4:(iN (aH qs ids)).length≤1100000
 o5:(iA (aH qs ids) ids).length≤1200000
 o6:(gZ (aH qs ids) ids).length≤1500000
theorem BW(l:List Int)(w:Nat)(hw:w24 w)(h:inW w l):(aL l w).1.length=w*l.length:=by rw[qH hw h,uV]
theorem Io{qs:List (NdH×Nd)}{ids:List Int}(G:GdT qs)(I:Dv qs ids):VC qs ids:=by
 have F:=Di (qs:=qs) (fun q hq=>⟨G.ino q hq,(G.may q hq).2.2.2.2.2.2.1⟩);obtain⟨S,e,hI,hB,_⟩:=wM G I F;have e:(aH qs ids).s=S:=e;have hn:=G.n.2;have h41:=hI.many41 hn;have hid:=yG I;have h1:=hI.bi;have h2:S.lst.length≤10440*S.many:=hB;have h3:=hI.bf;have h4:=hI.sn;have hT:=F.tn;have hFB:=F.b;rw[length_map] at hT hFB;have hb:=Kv F.t (bW qs).ds;have hpl:=nK (bW qs).tails (bW qs).ds;have hpi:inW 4 (aH qs ids).pl:=by
  intro x hx;obtain⟨j,hj,rfl⟩:=List.getElem_of_mem hx;have hj2:j<(bW qs).tails.length:=by have:j<(fV (bW qs).tails (bW qs).ds).2.length:=hj;omega
  obtain⟨pre,rest,a1,a2⟩:=xU (bW qs).tails (bW qs).ds j hj2;have e:(aH qs ids).pl[j]=(fV (bW qs).tails (bW qs).ds).2.getD j 0:=by
   have e2:(aH qs ids).pl=(fV (bW qs).tails (bW qs).ds).2:=rfl;rw[List.getD,←e2,List.getElem?_eq_getElem hj];rfl
  have a3:=congrArg List.length a1;rw[length_append] at a3;rw[e,a2];refine⟨by omega,?_⟩;show (64:Int)+pre.length<4294967296;omega
 have hii:inW 2 ids:=by
  intro x hx;have h:=(I.2 x).1 hx;unfold rS at h;obtain⟨q,hq,h1⟩:=mem_flatMap.1 h;obtain⟨_,_,_,m2,m3,_⟩:=G.may q hq;simp only[mem_cons,not_mem_nil,or_false] at h1;refine⟨by rcases h1 with rfl|rfl<;>omega,?_⟩;show x<65536;rcases h1 with rfl|rfl<;>omega
 have hp4:(aL (aH qs ids).pl 4).1.length=4*(aH qs ids).pl.length:=BW _ 4 (.inr rfl) hpi;have hp2:(aL ids 2).1.length=2*ids.length:=BW _ 2 (.inl rfl) hii;have hpl2:(aH qs ids).pl.length=(bW qs).tails.length:=hpl;have d1:=sC (aH qs ids).s.ino;have d2:=sC (aH qs ids).s.lst;have d3:=sC (aL (aH qs ids).pl 4).1;have d4:=sC (aL ids 2).1;have d5:=sC (aH qs ids).s.fur;rw[e] at d1 d2 d5;rw[hp4] at d3;rw[hp2] at d4;have l1:(mR (aH qs ids)).length=(fV (bW qs).tails (bW qs).ds).1.B.length:=rfl;have l2:(jP (aH qs ids)).length=(mR (aH qs ids)).length+(dnW (aH qs ids).s.ino).length:=length_append;have l3:(jD (aH qs ids)).length=(jP (aH qs ids)).length+(dnW (aH qs ids).s.lst).length:=length_append;have l4:(iN (aH qs ids)).length=(jD (aH qs ids)).length+(dnW (aL (aH qs ids).pl 4).1).length:=length_append;have l5:(iA (aH qs ids) ids).length=(iN (aH qs ids)).length+(dnW (aL ids 2).1).length:=length_append;have l6:(gZ (aH qs ids) ids).length=(iA (aH qs ids) ids).length+(dnW (aH qs ids).s.fur).length:=length_append;rw[e] at l2 l3 l6;refine⟨by omega,by rw[e];omega,by rw[e];omega,by rw[e];omega,by rw[e];exact⟨by omega,by omega,by omega,by omega,by omega⟩,by rw[e];omega,by omega,by omega,by omega,by omega,by omega,by omega,by omega,by omega,by omega⟩
theorem RyO.tight{D B:Nat→Prop}{w:World}{g first:Nat}{s:DS}(h:RyO D w.heap g first s)(hB:∀ k,k<w.heap.size→D k→B k):RyO B w.heap g first s:=h.keepTo (YI nob _) (fun _ _ _=>id) hB
theorem Ja(A:Nat→Prop)(g first:Nat)(s:DS)(bo:Option Addr)(bc:Nat)(b:By)(W:World)(hM:RyO A W.heap g first s)(hv:Vw b8 W.heap bo bc b)(hfi:first≤1000)(hb:s.B.length≤1099511627776)(hbl:b.length≤1048576)(hml:s.m.length≤1048576) :
 CA 24 [pT g,.slice bo b.length bc] W fun v w'=>∃ o c,v=.tuple #[iV ((jO first s b).2:Nat),.slice o (fM b).length c]∧Own b8 5 w'.heap o c (fM b)∧Fr W.heap.size o∧RyO (fun k=>Nx A W w' k∧¬ blk o k) w'.heap g first (jO first s b).1∧aA A W w':=by
 refine(Li (fun k=>A k∨W.heap.size≤k) g first s bo bc b W (hM.tight (fun k _ h=>.inl h)) (fun k h=>.inr h) hv hfi hb hbl hml).mono ?_;rintro e w' ⟨v,rfl,o,c,rfl,h1,h2,h3,h4⟩;exact⟨_,rfl,o,c,rfl,h1,h2,h3.tight (fun k hk h=>⟨h.1.imp id (fun h=>⟨h,hk⟩),h.2⟩),h4.nx⟩
theorem Eo(A:Nat→Prop)(g first:Nat)(s:DS)(bo:Option Addr)(bc:Nat)(b:By)(W:World)(hM:RyO A W.heap g first s)(hv:Vw b8 W.heap bo bc b)(hfi:first≤1000)(hb:s.B.length≤1099511627776)(hbl:b.length≤128) :
 CA 26 [pT g,.slice bo b.length bc] W fun v w'=>v=iV ((pO first s b).2:Nat)∧RyO (Nx A W w') w'.heap g first (pO first s b).1∧aA A W w':=by
 refine(Gr (fun k=>A k∨W.heap.size≤k) g first s bo bc b W (hM.tight (fun k _ h=>.inl h)) (fun k h=>.inr h) hv hfi hb hbl).mono ?_;rintro e w' ⟨v,rfl,rfl,h3,h4⟩;exact⟨_,rfl,rfl,h3.tight (fun k hk h=>h.imp id (fun h=>⟨h,hk⟩)),h4.nx⟩
theorem RyO.zero{H:Array Obj}{h f:Nat}(hg:H[h]?=some (.cells (rdC f none 0 0 none 0 0).toArray 79 (0,0))):RyO (· = h) H h f ⟨[],[]⟩:=
 ⟨none,0,none,0,[],hg,YP,.inl ⟨rfl,rfl,rfl⟩,⟨rfl,fun i x y hx=>by cases hx⟩,fun⟨a,ha,_⟩=>(by cases ha),fun⟨a,ha,_⟩=>(by cases ha),YL,rfl,fun k ⟨a,ha,_⟩=>(by cases ha),fun k ⟨a,ha,_⟩=>(by cases ha)⟩
theorem xQ.zero{H:Array Obj}{p:Nat}(hg:H[p]?=some (.cells #[sN] 82 (0,0))):xQ (· = p) H p []:=
 ⟨fun _=>False,none,0,[],hg,YP,⟨rfl,fun i x y hx=>by cases hx⟩,fun⟨a,ha,_⟩=>(by cases ha),rfl,fun k ⟨a,ha,_⟩=>(by cases ha),fun k h=>h.elim⟩
def fs0(n:Nat):FSt:=⟨⟨[],[]⟩,[],List.replicate n kF⟩
theorem fi0(n:Nat):FI [] n (fs0 n):=⟨AZ.zero,(by intro b hb;cases hb),Nat.le_refl _,length_replicate,Nat.le_refl _,fun i f hf=>.inl (List.eq_of_mem_replicate (mem_of_getElem? hf)),(by intro x hx;cases hx)⟩
theorem MC{V:List Nd}{n:Nat}{s:FSt}(h:FI V n s):∀ f∈s.files,f.2.length≤200:=by
 intro f hf;obtain⟨i,hi⟩:=List.getElem?_of_mem hf;rcases h.f i f hi with e|⟨x,_,_,_,st,fr,off,e,_⟩
 ·rw[e];exact Nat.zero_le _
 ·rw[e];exact Nat.zero_le _
theorem C2{qs:List (NdH×Nd)}{k:Nat}{q:NdH×Nd}(h:qs[k]?=some q):nds (qs.take (k+1))=nds (qs.take k)++[q.2]:=by rw[tkL h];simp[nds]
theorem AG{qs:List (NdH×Nd)}{k:Nat}{q:NdH×Nd}(h:qs[k]?=some q)(s:FSt):(nds (qs.take (k+1))).foldl iP s=iP ((nds (qs.take k)).foldl iP s) q.2:=by rw[C2 h,List.foldl_append];rfl
theorem Fs{s:FSt}{x:Nd}(h:x.kind≠2∨(s.files.getD x.ino.toNat kF).1 0=2):iP s x=s:=by unfold iP;rw[if_pos h]
def sU(z0 mn z2 z3 z4 z5 z6 nid nfr root:Int):List Value:=[iV z0,iV mn,iV z2,iV z3,iV z4,iV z5,iV z6,iV nid,iV nfr,iV root]
theorem P0(z0 mn z2 z3 z4 z5 z6 nid nfr root:Int):∀ v∈sU z0 mn z2 z3 z4 z5 z6 nid nfr root,v.oneCell'=true:=by
 intro v hv;simp only[sU,mem_cons,not_mem_nil,or_false] at hv;rcases hv with rfl|rfl|rfl|rfl|rfl|rfl|rfl|rfl|rfl|rfl<;>rfl
def BuP(W:World)(ps:List (NdH×Nd)):Value→World→Prop:=fun v w'=>
 (chk (nds ps)≠0∧v=.tuple #[sN,iV (chk (nds ps))]∧aA nob W w') ∨
 (chk (nds ps)=0∧∃ ids o c,Dv (jJ ps) ids∧v=.tuple #[.slice o (C9 (jJ ps) ids).1.length c,iV (C9 (jJ ps) ids).2]∧Own b8 5 w'.heap o c (C9 (jJ ps) ids).1∧Fr W.heap.size o∧aA nob W w')
end
section
open Go Go.RowKit Go.Maps
theorem Je(lo0:Option Addr)(lc0:Nat)(ps:List (NdH×Nd))(W:World)(hv:dZ (fun k=>k<W.heap.size) W.heap lo0 lc0 ps)(hsm:∀ p∈ps,smN p.2)(hl:ps.length≤40) :
 CA 9 [.slice lo0 ps.length lc0] W (BuP W ps):=by
 refine cS 221 [(0,_)] Tryz.func9 ?_;refine cA 9 Vs (Jd lo0 lc0 ps W hv hsm) ?_;rintro _ w1 ⟨lo,lc,qs,rfl,hqs,hvq,hf1⟩;refine fK 11 ?_ ?_<;>intro h30
 ·refine Gz 13 ?_;exact⟨_,rfl,.inl ⟨h30,rfl,hf1⟩⟩
 have hz:chk (nds ps)=0:=not_not.1 h30;rw[if_pos hz] at hqs;have G:=Mh hz hl;rw[←hqs] at G;have hq40:=G.n.2;have hq0:=G.n.1;have hqne:qs≠[]:=fun e=>by rw[e] at hq0;exact absurd hq0 (by decide)
 have hlo1:∀ k,blk lo k→k<w1.heap.size:=fun k ⟨a,ha,e⟩=>by have:=hvq.1.lt hqne (fun x e=>by cases e) a ha;omega
 have hz1:=hf1.size;have hq1n:((qs.length:Int)+1).toNat=qs.length+1:=by omega
 refine Gz 5 ?_;refine V6 (β:=(List Int×(Option Addr×Nat))×(Nat×(Nat×Nat))) (fun⟨⟨ids,⟨io,ic⟩⟩,⟨gr,⟨gf,gm⟩⟩⟩=>[(0,.slice lo qs.length lc),(5,pT gm)]) (fun⟨⟨ids,⟨io,ic⟩⟩,⟨gr,⟨gf,gm⟩⟩⟩ w=>Dv qs ids∧Own i64 3 w.heap io ic ids∧Own i64 3 w.heap (some ⟨gr,0,none⟩) (qs.length+1) (List.replicate (qs.length+1) 0)∧bN 11 Be 84 w.heap (some ⟨gf,0,none⟩) (qs.length+1) (List.replicate (qs.length+1) kF)∧w.heap[gm]?=some (.cells (biC (.slice lo qs.length lc) (.slice io ids.length ic) sN sN sN sN sN sN (.slice (some ⟨gr,0,none⟩) (qs.length+1) (qs.length+1)) (.slice (some ⟨gf,0,none⟩) (qs.length+1) (qs.length+1)) sN sN 0).toArray 76 (0,0))∧(w1.heap.size≤gr∧w1.heap.size≤gf∧gr<gm∧gf<gm∧gf≠gr∧w.heap.size=gm+1)∧(∀ a,io=some a→a.block<gm)∧(∀ a,io=some a→a.block≠gr)∧(∀ a,io=some a→a.block≠gf)∧aA nob w1 w) ?_ ?_
 ·refine XH (fun _=>True) [2,6,10,12] [0,1,3,4,5,7,8,9] (.alt 2 [] (.alt 6 [] (.alt 10 [11] (.alt 12 [13] .fin .stop) .stop) (.alt 10 [] (.alt 6 [11] (.alt 12 [13] .fin .stop) .stop) .stop)) (.alt 6 [] (.alt 2 [] (.alt 10 [11] (.alt 12 [13] .fin .stop) .stop) (.alt 10 [] (.alt 2 [11] (.alt 12 [13] .fin .stop) .stop) .stop)) (.alt 10 [] (.alt 2 [] (.alt 6 [11] (.alt 12 [13] .fin .stop) .stop) (.alt 6 [] (.alt 2 [11] (.alt 12 [13] .fin .stop) .stop) .stop)) .stop))) aK (by kernel_rfl) (trivial) ?_;have hG0:aA nob w1 (w1.drewN 1):=YJ 1;generalize w1.drewN 1=v0 at hG0 ⊢;refine VY rfl rfl (Wh rfl) rfl ?_;refine VY rfl rfl (Wh rfl) rfl ?_;refine VY rfl rfl (Wh rfl) rfl ?_;refine VY rfl rfl (XJ cY rfl) rfl ?_;refine VY rfl rfl (Wr rfl rfl (by omega)) rfl ?_;refine VY rfl rfl (Wh rfl) rfl ?_;refine VY rfl rfl (XJ cY rfl) rfl ?_;refine VY rfl rfl (Wr rfl rfl (by omega)) rfl ?_;refine V4 ?_ ?_
  ·refine V3 rfl rfl (VE Mx rfl (tT lo lc qs v0 (hvq.1.keep' hG0 (fun _ _ _=>id)) (by omega)) rfl ?_);rintro _ v1 ⟨io,ic,ids,rfl,hI1,hfI,hIds,hfx⟩;have hG1:=hG0.trans hfx;refine Wg (by exact trivial) ?_;refine V4 ?_ ?_
   ·refine V3 rfl rfl (WK i64 0 bO z3 rfl rfl rfl (by omega) (by omega) (by omega) (by omega) rfl ?_);intro v2 hR2 hsx hfx;rw[hq1n] at hR2 ⊢;obtain⟨gr,hgre⟩:∃ x,x=v1.heap.size:=⟨_,rfl⟩
    rw[←hgre] at hR2 ⊢;have hG2:=hG1.trans hfx;have hgrW:w1.heap.size≤gr:=by rw[hgre];exact hG1.size
    have hI2:=hI1.Y7 hfx;have hnI:∀ a,io=some a→a.block≠gr:=fun a ha=>by have:=hI1.lt a ha;omega
    refine Wg (by exact trivial) ?_;refine V4 ?_ ?_
    ·refine V3 rfl rfl (WZ gG (by decide) kF CO (by kernel_rfl) rfl rfl (by omega) (by omega) (by omega) (by omega) rfl ?_);intro v3 hF3 hsx hfx;rw[hq1n] at hF3 ⊢;obtain⟨gf,hgfe⟩:∃ x,x=v2.heap.size:=⟨_,rfl⟩
     rw[←hgfe] at hF3 ⊢;have hG3:=hG2.trans hfx;have hgfW:w1.heap.size≤gf:=by rw[hgfe];exact hG2.size
     have hI3:=hI2.Y7 hfx;have hR3:=hR2.Y7 hfx;have hnF:∀ a,io=some a→a.block≠gf:=fun a ha=>by have:=hI2.lt a ha;omega
     have hrf:gf≠gr:=by omega
     refine Wg (by exact trivial) ?_;refine VY rfl rfl (bU (biC (.slice lo qs.length lc) (.slice io ids.length ic) sN sN sN sN sN sN (.slice (some ⟨gr,0,none⟩) (qs.length+1) (qs.length+1)) (.slice (some ⟨gf,0,none⟩) (qs.length+1) (qs.length+1)) sN sN 0) BY Is) rfl ?_;refine V4 ?_ ?_
     ·refine V3 rfl rfl (V9 rfl rfl ?_);intro v4 hgm hsx hfx;obtain⟨gm,hgme⟩:∃ x,x=v3.heap.size:=⟨_,rfl⟩
      rw[←hgme] at hgm ⊢;have hG4:=hG3.trans hfx;have hI4:=hI3.Y7 hfx;have hR4:=hR3.Y7 hfx;have hF4:=hF3.Y7 hfx;refine Wg (by exact trivial) ?_;have hgr4:gr<gm:=by rw[hgme];exact hR3.lt _ rfl
      have hgf4:gf<gm:=by rw[hgme];exact hF3.lt _ rfl
      have hI3l:∀ a,io=some a→a.block<gm:=fun a ha=>by rw[hgme];exact hI3.lt a ha
      refine VY rfl rfl (Wp rfl) rfl ?_;refine WU ?_;exact aC ⟨⟨ids,⟨io,ic⟩⟩,⟨gr,⟨gf,gm⟩⟩⟩ ⟨hIds,hI4,hR4,hF4,hgm,⟨hgrW,hgfW,hgr4,hgf4,hrf,by omega⟩,hI3l,hnI,hnF,hG4⟩
     exact V2
    exact V2
   refine V4 ?_ ?_
   ·refine V3 rfl rfl (WZ gG (by decide) kF CO (by kernel_rfl) rfl rfl (by omega) (by omega) (by omega) (by omega) rfl ?_);intro v2 hF2 hsx hfx;rw[hq1n] at hF2 ⊢;obtain⟨gf,hgfe⟩:∃ x,x=v1.heap.size:=⟨_,rfl⟩
    rw[←hgfe] at hF2 ⊢;have hG2:=hG1.trans hfx;have hgfW:w1.heap.size≤gf:=by rw[hgfe];exact hG1.size
    have hI2:=hI1.Y7 hfx;have hnF:∀ a,io=some a→a.block≠gf:=fun a ha=>by have:=hI1.lt a ha;omega
    refine Wg (by exact trivial) ?_;refine V4 ?_ ?_
    ·refine V3 rfl rfl (WK i64 0 bO z3 rfl rfl rfl (by omega) (by omega) (by omega) (by omega) rfl ?_);intro v3 hR3 hsx hfx;rw[hq1n] at hR3 ⊢;obtain⟨gr,hgre⟩:∃ x,x=v2.heap.size:=⟨_,rfl⟩
     rw[←hgre] at hR3 ⊢;have hG3:=hG2.trans hfx;have hgrW:w1.heap.size≤gr:=by rw[hgre];exact hG2.size
     have hI3:=hI2.Y7 hfx;have hF3:=hF2.Y7 hfx;have hnI:∀ a,io=some a→a.block≠gr:=fun a ha=>by have:=hI2.lt a ha;omega
     have hrf:gf≠gr:=by omega
     refine Wg (by exact trivial) ?_;refine VY rfl rfl (bU (biC (.slice lo qs.length lc) (.slice io ids.length ic) sN sN sN sN sN sN (.slice (some ⟨gr,0,none⟩) (qs.length+1) (qs.length+1)) (.slice (some ⟨gf,0,none⟩) (qs.length+1) (qs.length+1)) sN sN 0) BY Is) rfl ?_;refine V4 ?_ ?_
     ·refine V3 rfl rfl (V9 rfl rfl ?_);intro v4 hgm hsx hfx;obtain⟨gm,hgme⟩:∃ x,x=v3.heap.size:=⟨_,rfl⟩
      rw[←hgme] at hgm ⊢;have hG4:=hG3.trans hfx;have hI4:=hI3.Y7 hfx;have hR4:=hR3.Y7 hfx;have hF4:=hF3.Y7 hfx;refine Wg (by exact trivial) ?_;have hgr4:gr<gm:=by rw[hgme];exact hR3.lt _ rfl
      have hgf4:gf<gm:=by rw[hgme];exact hF3.lt _ rfl
      have hI3l:∀ a,io=some a→a.block<gm:=fun a ha=>by rw[hgme];exact hI3.lt a ha
      refine VY rfl rfl (Wp rfl) rfl ?_;refine WU ?_;exact aC ⟨⟨ids,⟨io,ic⟩⟩,⟨gr,⟨gf,gm⟩⟩⟩ ⟨hIds,hI4,hR4,hF4,hgm,⟨hgrW,hgfW,hgr4,hgf4,hrf,by omega⟩,hI3l,hnI,hnF,hG4⟩
     exact V2
    exact V2
   exact V2
  refine V4 ?_ ?_
  ·refine V3 rfl rfl (WK i64 0 bO z3 rfl rfl rfl (by omega) (by omega) (by omega) (by omega) rfl ?_);intro v1 hR1 hsx hfx;rw[hq1n] at hR1 ⊢;obtain⟨gr,hgre⟩:∃ x,x=v0.heap.size:=⟨_,rfl⟩
   rw[←hgre] at hR1 ⊢;have hG1:=hG0.trans hfx;have hgrW:w1.heap.size≤gr:=by rw[hgre];exact hG0.size
   refine Wg (by exact trivial) ?_;refine V4 ?_ ?_
   ·refine V3 rfl rfl (VE Mx rfl (tT lo lc qs v1 (hvq.1.keep' hG1 (fun _ _ _=>id)) (by omega)) rfl ?_);rintro _ v2 ⟨io,ic,ids,rfl,hI2,hfI,hIds,hfx⟩;have hG2:=hG1.trans hfx;have hR2:=hR1.Y7 hfx;have hgr2:gr<v2.heap.size:=hR2.lt _ rfl;have hnI:∀ a,io=some a→a.block≠gr:=fun a ha=>by have:=hfI a ha;omega
    refine Wg (by exact trivial) ?_;refine V4 ?_ ?_
    ·refine V3 rfl rfl (WZ gG (by decide) kF CO (by kernel_rfl) rfl rfl (by omega) (by omega) (by omega) (by omega) rfl ?_);intro v3 hF3 hsx hfx;rw[hq1n] at hF3 ⊢;obtain⟨gf,hgfe⟩:∃ x,x=v2.heap.size:=⟨_,rfl⟩
     rw[←hgfe] at hF3 ⊢;have hG3:=hG2.trans hfx;have hgfW:w1.heap.size≤gf:=by rw[hgfe];exact hG2.size
     have hI3:=hI2.Y7 hfx;have hR3:=hR2.Y7 hfx;have hnF:∀ a,io=some a→a.block≠gf:=fun a ha=>by have:=hI2.lt a ha;omega
     have hrf:gf≠gr:=by omega
     refine Wg (by exact trivial) ?_;refine VY rfl rfl (bU (biC (.slice lo qs.length lc) (.slice io ids.length ic) sN sN sN sN sN sN (.slice (some ⟨gr,0,none⟩) (qs.length+1) (qs.length+1)) (.slice (some ⟨gf,0,none⟩) (qs.length+1) (qs.length+1)) sN sN 0) BY Is) rfl ?_;refine V4 ?_ ?_
     ·refine V3 rfl rfl (V9 rfl rfl ?_);intro v4 hgm hsx hfx;obtain⟨gm,hgme⟩:∃ x,x=v3.heap.size:=⟨_,rfl⟩
      rw[←hgme] at hgm ⊢;have hG4:=hG3.trans hfx;have hI4:=hI3.Y7 hfx;have hR4:=hR3.Y7 hfx;have hF4:=hF3.Y7 hfx;refine Wg (by exact trivial) ?_;have hgr4:gr<gm:=by rw[hgme];exact hR3.lt _ rfl
      have hgf4:gf<gm:=by rw[hgme];exact hF3.lt _ rfl
      have hI3l:∀ a,io=some a→a.block<gm:=fun a ha=>by rw[hgme];exact hI3.lt a ha
      refine VY rfl rfl (Wp rfl) rfl ?_;refine WU ?_;exact aC ⟨⟨ids,⟨io,ic⟩⟩,⟨gr,⟨gf,gm⟩⟩⟩ ⟨hIds,hI4,hR4,hF4,hgm,⟨hgrW,hgfW,hgr4,hgf4,hrf,by omega⟩,hI3l,hnI,hnF,hG4⟩
     exact V2
    exact V2
   refine V4 ?_ ?_
   ·refine V3 rfl rfl (WZ gG (by decide) kF CO (by kernel_rfl) rfl rfl (by omega) (by omega) (by omega) (by omega) rfl ?_);intro v2 hF2 hsx hfx;rw[hq1n] at hF2 ⊢;obtain⟨gf,hgfe⟩:∃ x,x=v1.heap.size:=⟨_,rfl⟩
    rw[←hgfe] at hF2 ⊢;have hG2:=hG1.trans hfx;have hgfW:w1.heap.size≤gf:=by rw[hgfe];exact hG1.size
    have hR2:=hR1.Y7 hfx;have hrf:gf≠gr:=by omega
    refine Wg (by exact trivial) ?_;refine V4 ?_ ?_
    ·refine V3 rfl rfl (VE Mx rfl (tT lo lc qs v2 (hvq.1.keep' hG2 (fun _ _ _=>id)) (by omega)) rfl ?_);rintro _ v3 ⟨io,ic,ids,rfl,hI3,hfI,hIds,hfx⟩;have hG3:=hG2.trans hfx;have hR3:=hR2.Y7 hfx;have hF3:=hF2.Y7 hfx;have hnI:∀ a,io=some a→a.block≠gr:=fun a ha=>by have:=hfI a ha;omega
     have hnF:∀ a,io=some a→a.block≠gf:=fun a ha=>by have:=hfI a ha;omega
     refine Wg (by exact trivial) ?_;refine VY rfl rfl (bU (biC (.slice lo qs.length lc) (.slice io ids.length ic) sN sN sN sN sN sN (.slice (some ⟨gr,0,none⟩) (qs.length+1) (qs.length+1)) (.slice (some ⟨gf,0,none⟩) (qs.length+1) (qs.length+1)) sN sN 0) BY Is) rfl ?_;refine V4 ?_ ?_
     ·refine V3 rfl rfl (V9 rfl rfl ?_);intro v4 hgm hsx hfx;obtain⟨gm,hgme⟩:∃ x,x=v3.heap.size:=⟨_,rfl⟩
      rw[←hgme] at hgm ⊢;have hG4:=hG3.trans hfx;have hI4:=hI3.Y7 hfx;have hR4:=hR3.Y7 hfx;have hF4:=hF3.Y7 hfx;refine Wg (by exact trivial) ?_;have hgr4:gr<gm:=by rw[hgme];exact hR3.lt _ rfl
      have hgf4:gf<gm:=by rw[hgme];exact hF3.lt _ rfl
      have hI3l:∀ a,io=some a→a.block<gm:=fun a ha=>by rw[hgme];exact hI3.lt a ha
      refine VY rfl rfl (Wp rfl) rfl ?_;refine WU ?_;exact aC ⟨⟨ids,⟨io,ic⟩⟩,⟨gr,⟨gf,gm⟩⟩⟩ ⟨hIds,hI4,hR4,hF4,hgm,⟨hgrW,hgfW,hgr4,hgf4,hrf,by omega⟩,hI3l,hnI,hnF,hG4⟩
     exact V2
    exact V2
   exact V2
  refine V4 ?_ ?_
  ·refine V3 rfl rfl (WZ gG (by decide) kF CO (by kernel_rfl) rfl rfl (by omega) (by omega) (by omega) (by omega) rfl ?_);intro v1 hF1 hsx hfx;rw[hq1n] at hF1 ⊢;obtain⟨gf,hgfe⟩:∃ x,x=v0.heap.size:=⟨_,rfl⟩
   rw[←hgfe] at hF1 ⊢;have hG1:=hG0.trans hfx;have hgfW:w1.heap.size≤gf:=by rw[hgfe];exact hG0.size
   refine Wg (by exact trivial) ?_;refine V4 ?_ ?_
   ·refine V3 rfl rfl (VE Mx rfl (tT lo lc qs v1 (hvq.1.keep' hG1 (fun _ _ _=>id)) (by omega)) rfl ?_);rintro _ v2 ⟨io,ic,ids,rfl,hI2,hfI,hIds,hfx⟩;have hG2:=hG1.trans hfx;have hF2:=hF1.Y7 hfx;have hgf2:gf<v2.heap.size:=hF2.lt _ rfl;have hnF:∀ a,io=some a→a.block≠gf:=fun a ha=>by have:=hfI a ha;omega
    refine Wg (by exact trivial) ?_;refine V4 ?_ ?_
    ·refine V3 rfl rfl (WK i64 0 bO z3 rfl rfl rfl (by omega) (by omega) (by omega) (by omega) rfl ?_);intro v3 hR3 hsx hfx;rw[hq1n] at hR3 ⊢;obtain⟨gr,hgre⟩:∃ x,x=v2.heap.size:=⟨_,rfl⟩
     rw[←hgre] at hR3 ⊢;have hG3:=hG2.trans hfx;have hgrW:w1.heap.size≤gr:=by rw[hgre];exact hG2.size
     have hI3:=hI2.Y7 hfx;have hF3:=hF2.Y7 hfx;have hnI:∀ a,io=some a→a.block≠gr:=fun a ha=>by have:=hI2.lt a ha;omega
     have hrf:gf≠gr:=by omega
     refine Wg (by exact trivial) ?_;refine VY rfl rfl (bU (biC (.slice lo qs.length lc) (.slice io ids.length ic) sN sN sN sN sN sN (.slice (some ⟨gr,0,none⟩) (qs.length+1) (qs.length+1)) (.slice (some ⟨gf,0,none⟩) (qs.length+1) (qs.length+1)) sN sN 0) BY Is) rfl ?_;refine V4 ?_ ?_
     ·refine V3 rfl rfl (V9 rfl rfl ?_);intro v4 hgm hsx hfx;obtain⟨gm,hgme⟩:∃ x,x=v3.heap.size:=⟨_,rfl⟩
      rw[←hgme] at hgm ⊢;have hG4:=hG3.trans hfx;have hI4:=hI3.Y7 hfx;have hR4:=hR3.Y7 hfx;have hF4:=hF3.Y7 hfx;refine Wg (by exact trivial) ?_;have hgr4:gr<gm:=by rw[hgme];exact hR3.lt _ rfl
      have hgf4:gf<gm:=by rw[hgme];exact hF3.lt _ rfl
      have hI3l:∀ a,io=some a→a.block<gm:=fun a ha=>by rw[hgme];exact hI3.lt a ha
      refine VY rfl rfl (Wp rfl) rfl ?_;refine WU ?_;exact aC ⟨⟨ids,⟨io,ic⟩⟩,⟨gr,⟨gf,gm⟩⟩⟩ ⟨hIds,hI4,hR4,hF4,hgm,⟨hgrW,hgfW,hgr4,hgf4,hrf,by omega⟩,hI3l,hnI,hnF,hG4⟩
     exact V2
    exact V2
   refine V4 ?_ ?_
   ·refine V3 rfl rfl (WK i64 0 bO z3 rfl rfl rfl (by omega) (by omega) (by omega) (by omega) rfl ?_);intro v2 hR2 hsx hfx;rw[hq1n] at hR2 ⊢;obtain⟨gr,hgre⟩:∃ x,x=v1.heap.size:=⟨_,rfl⟩
    rw[←hgre] at hR2 ⊢;have hG2:=hG1.trans hfx;have hgrW:w1.heap.size≤gr:=by rw[hgre];exact hG1.size
    have hF2:=hF1.Y7 hfx;have hrf:gf≠gr:=by omega
    refine Wg (by exact trivial) ?_;refine V4 ?_ ?_
    ·refine V3 rfl rfl (VE Mx rfl (tT lo lc qs v2 (hvq.1.keep' hG2 (fun _ _ _=>id)) (by omega)) rfl ?_);rintro _ v3 ⟨io,ic,ids,rfl,hI3,hfI,hIds,hfx⟩;have hG3:=hG2.trans hfx;have hR3:=hR2.Y7 hfx;have hF3:=hF2.Y7 hfx;have hnI:∀ a,io=some a→a.block≠gr:=fun a ha=>by have:=hfI a ha;omega
     have hnF:∀ a,io=some a→a.block≠gf:=fun a ha=>by have:=hfI a ha;omega
     refine Wg (by exact trivial) ?_;refine VY rfl rfl (bU (biC (.slice lo qs.length lc) (.slice io ids.length ic) sN sN sN sN sN sN (.slice (some ⟨gr,0,none⟩) (qs.length+1) (qs.length+1)) (.slice (some ⟨gf,0,none⟩) (qs.length+1) (qs.length+1)) sN sN 0) BY Is) rfl ?_;refine V4 ?_ ?_
     ·refine V3 rfl rfl (V9 rfl rfl ?_);intro v4 hgm hsx hfx;obtain⟨gm,hgme⟩:∃ x,x=v3.heap.size:=⟨_,rfl⟩
      rw[←hgme] at hgm ⊢;have hG4:=hG3.trans hfx;have hI4:=hI3.Y7 hfx;have hR4:=hR3.Y7 hfx;have hF4:=hF3.Y7 hfx;refine Wg (by exact trivial) ?_;have hgr4:gr<gm:=by rw[hgme];exact hR3.lt _ rfl
      have hgf4:gf<gm:=by rw[hgme];exact hF3.lt _ rfl
      have hI3l:∀ a,io=some a→a.block<gm:=fun a ha=>by rw[hgme];exact hI3.lt a ha
      refine VY rfl rfl (Wp rfl) rfl ?_;refine WU ?_;exact aC ⟨⟨ids,⟨io,ic⟩⟩,⟨gr,⟨gf,gm⟩⟩⟩ ⟨hIds,hI4,hR4,hF4,hgm,⟨hgrW,hgfW,hgr4,hgf4,hrf,by omega⟩,hI3l,hnI,hnF,hG4⟩
     exact V2
    exact V2
   exact V2
  exact V2
 rintro⟨⟨ids,⟨io,ic⟩⟩,⟨gr,⟨gf,gm⟩⟩⟩ v4 ⟨hIds,hI4,hR4,hF4,hgm,⟨hgrW,hgfW,hgr4,hgf4,hrf,hsx⟩,hI3l,hnI,hnF,hG4⟩;have hz4:=hG4.size;have hvq4:dZ (fun k=>k<W.heap.size) v4.heap lo lc qs:=eC hvq hG4 (fun _ _=>id) (fun _ _ _=>id) (fun _=>id);have hid80:=yG hIds;have hrep:∀ z∈List.replicate (qs.length+1) (0:Int),z=0:=fun z hz=>List.eq_of_mem_replicate hz;refine Gz 2 ?_;refine cL (VX (cs:=#[iV 64,sN,sN]) Q4 QN rfl (by kernel_rfl)) ?_;refine VJ QN rfl ?_;intro w5 hg5 hs5 hf5;obtain⟨g7,hg7e⟩:∃ x,x=v4.heap.size:=⟨_,rfl⟩
 rw[←hg7e] at hg5 ⊢;refine sA rfl TI (by simp[Value.oneCell']) hg5 ?_;intro w6 hg6 hs6 hf6;have hF46:aA nob v4 w6:=hf5.tw hf6;have hR6:RyO (· = g7) w6.heap g7 64 ⟨[],[]⟩:=RyO.zero hg6;refine Gz 4 ?_;refine cL (VX (cs:=#[sN]) Q3 QM rfl (by kernel_rfl)) ?_;refine VJ QM rfl ?_;intro w7 hg7 hs7 hf7;obtain⟨g8,hg8e⟩:∃ x,x=w6.heap.size:=⟨_,rfl⟩
 rw[←hg8e] at hg7 ⊢;refine sA rfl TH (by simp[Value.oneCell']) hg7 ?_;intro w8 hg8 hs8 hf8;have hF68:aA nob w6 w8:=hf7.tw hf8;have hP8:xQ (· = g8) w8.heap g8 []:=xQ.zero hg8;have hR8:=hR6.Y8 hF68 (fun _ _ _=>id);have hF48:=hF46.trans hF68;refine Gz 9 ?_;refine VM (β:=(Nat×FSt)×((Nat→Prop)×(Nat→Prop))) (fun⟨⟨k,s⟩,⟨D7,D8⟩⟩=>[(0,.slice lo qs.length lc),(5,pT gm),(6,pT g7),(7,pT g8),(8,iV k)]) (fun⟨⟨k,s⟩,⟨D7,D8⟩⟩ w=>k≤qs.length∧s=(nds (qs.take k)).foldl iP (fs0 (qs.length+1))∧s.ds.m.length≤k∧FI (nds (qs.take k)) (qs.length+1) s∧RyO D7 w.heap g7 64 s.ds∧xQ D8 w.heap g8 s.tails∧(∀ k,D7 k→v4.heap.size≤k∧k<w.heap.size)∧(∀ k,D8 k→v4.heap.size≤k∧k<w.heap.size)∧(∀ k,D7 k→¬ D8 k)∧bN 11 Be 84 w.heap (some ⟨gf,0,none⟩) (qs.length+1) s.files∧aA (· = gf) v4 w) (fun⟨⟨k,s⟩,⟨D7,D8⟩⟩=>qs.length-k) ⟨⟨0,fs0 (qs.length+1)⟩,⟨(· = g7),(· = g8)⟩⟩ ⟨rfl,rfl,rfl,rfl,rfl,trivial⟩ ⟨Nat.zero_le _,rfl,Nat.zero_le _,fi0 _,hR8,hP8,fun k h=>by have h:k=g7:=h;omega,fun k h=>by have h:k=g8:=h;omega,fun k h h2=>by have h:k=g7:=h;have h2:k=g8:=h2;omega,hF4.Y7 hF48,hF48.any⟩ ?_;rintro⟨⟨k,s⟩,⟨D7,D8⟩⟩ w9 ⟨hk,hs,hmc,hFI,hM,hP,hd7,hd8,hd78,hFf,hF9⟩;refine fK 6 ?_ ?_<;>intro h50
 ·have hkl:k<qs.length:=by omega
  obtain⟨q,hq⟩:∃ q,qs[k]?=some q:=⟨_,List.getElem?_eq_getElem hkl⟩
  have hqm:=mem_of_getElem? hq;have hqi:=G.ino q hqm;obtain⟨m,hm⟩:=Int.eq_ofNat_of_zero_le (show 0≤q.2.ino by omega);have hml:m<s.files.length:=by rw[hFI.l];omega
  obtain⟨f,hf⟩:∃ f,s.files[m]?=some f:=⟨_,List.getElem?_eq_getElem hml⟩
  have hfd:s.files.getD q.2.ino.toNat kF=f:=by rw[show q.2.ino.toNat=m by omega,List.getD,hf];rfl
  have hdat:q.2.data.length≤4096:=(G.may q hqm).2.2.2.2.2.2.1;have hnd:dZ (fun k=>k<W.heap.size) w9.heap lo lc qs:=eC hvq4 hF9 (fun k hk h=>by have h:k=gf:=h;have hk:k<W.heap.size:=hk;omega) (fun _ k hk h=>by have h:k=gf:=h;have:=hlo1 k hk;omega) (fun _=>id);have hgm9:=hF9.obj hgm (fun h=>by have h:gm=gf:=h;omega);have hz9:=hF9.size;obtain⟨hqv1,hqv2,hqv3⟩:=hnd.2 q hqm;have hFl:=hFI.l;refine Gz 1 ?_;refine aW [(0,_),(5,_),(6,_),(7,_),(8,_),(50,_)] ?_;refine Gz 4 ?_;refine V6 (β:=FSt×((Nat→Prop)×(Nat→Prop))) (fun⟨s,⟨D7,D8⟩⟩=>[(0,.slice lo qs.length lc),(5,pT gm),(6,pT g7),(7,pT g8),(8,iV k)]) (fun⟨s,⟨D7,D8⟩⟩ w=>s=(nds (qs.take (k+1))).foldl iP (fs0 (qs.length+1))∧s.ds.m.length≤k+1∧FI (nds (qs.take (k+1))) (qs.length+1) s∧RyO D7 w.heap g7 64 s.ds∧xQ D8 w.heap g8 s.tails∧(∀ k,D7 k→v4.heap.size≤k∧k<w.heap.size)∧(∀ k,D8 k→v4.heap.size≤k∧k<w.heap.size)∧(∀ k,D7 k→¬ D8 k)∧bN 11 Be 84 w.heap (some ⟨gf,0,none⟩) (qs.length+1) s.files∧aA (· = gf) v4 w) ?_ ?_
  ·refine Gz 5 ?_;refine cL (VG cY rfl rfl hnd.1.non (by omega)) ?_;refine cL (VR (cs:=cT q) oK rfl (fun j v hj=>hnd.1.rowZ k rfl hq j v hj)) ?_;refine VJ A0 rfl ?_;intro w10 hg10 hs10 hf10;obtain⟨gn,hgne⟩:∃ x,x=w9.heap.size:=⟨_,rfl⟩
   rw[←hgne] at hg10 ⊢;refine Wf (vs:=cT q) oK rfl rfl (aJ q).2 hg10 rfl ?_;intro w11 hgn hs11 hf11;have hf911:aA nob w9 w11:=hf10.tw hf11;have hgm11:=hf911.obj hgm9 id;have hFf11:=hFf.Y7 hf911;have hM11:=hM.Y8 hf911 (fun _ _ _=>id);have hP11:=hP.Y8 hf911 (fun _ _=>id);have hFv:=hFf11.vw gG;have hF11:aA (· = gf) v4 w11:=hF9.trans hf911.any;refine Gz 4 ?_;refine VT 15 [0,1,2,3,4,5,6,7,8,9,10,11,12,13,14] aK (by kernel_rfl) ?_;refine Gz 1 ?_;refine xC rfl (VH aE rfl (aD hgn rfl)) ?_;refine xK 0 ?_ ?_<;>intro h59
   ·have hsk:iP s q.2=s:=Fs (.inl h59);refine Gz 18 ?_;have hs2:=AG hq (fs0 (qs.length+1));rw[←hs] at hs2;have hFI2:=uR hFI (x:=q.2) ⟨by omega,by omega⟩ hdat;rw[←C2 hq] at hFI2;rw[hsk] at hs2 hFI2;exact aC ⟨s,⟨D7,D8⟩⟩ ⟨hs2.symm,by omega,hFI2,hM11,hP11,fun k hk=>by have:=hd7 k hk;exact⟨by omega,by show k<w11.heap.size;omega⟩,fun k hk=>by have:=hd8 k hk;exact⟨by omega,by show k<w11.heap.size;omega⟩,hd78,hFf11,hF11.draws 1⟩
   have hk2:q.2.kind=2:=not_not.1 h59;have hf11d:aA nob w11 (w11.drewN 1):=YJ 1;refine Gz 4 ?_;refine xV rfl (VH Pc rfl (aD hgm11 rfl)) ?_;refine Gz 1 ?_;refine xV rfl (VH aE rfl (aD hgn rfl)) ?_;refine xV rfl (VG CO rfl rfl (by simp) (by omega)) ?_;refine Gz 1 ?_;refine xV rfl (VH aE rfl (hFv.rowZ m hm hf 0 _ rfl)) ?_;refine xW 0 ?_ ?_<;>intro h70
   ·have hsk:iP s q.2=s:=Fs (.inr (by rw[hfd];exact h70));refine Gz 7 ?_;have hs2:=AG hq (fs0 (qs.length+1));rw[←hs] at hs2;have hFI2:=uR hFI (x:=q.2) ⟨by omega,by omega⟩ hdat;rw[←C2 hq] at hFI2;rw[hsk] at hs2 hFI2;exact aC ⟨s,⟨D7,D8⟩⟩ ⟨hs2.symm,by omega,hFI2,hM11,hP11,fun k hk=>by have:=hd7 k hk;exact⟨by omega,by show k<w11.heap.size;omega⟩,fun k hk=>by have:=hd8 k hk;exact⟨by omega,by show k<w11.heap.size;omega⟩,hd78,hFf11,hF11.draws 1⟩
   have hnf:¬ (q.2.kind≠2∨(s.files.getD q.2.ino.toNat kF).1 0=2):=by rw[hfd];rintro(h|h);exact h hk2;exact h70 h
   obtain⟨R1,hR1⟩:∃ R,R=jO 64 s.ds q.2.data:=⟨_,rfl⟩
   obtain⟨R2,hR2⟩:∃ R,R=fC s.tails (fM q.2.data):=⟨_,rfl⟩
   obtain⟨fN,hfN⟩:∃ f:Ino,f=(fun j=>[2,0,0,0,0,0,(R1.2:Int),q.2.data.length,(R2.2.1:Int),(R2.2.2:Int)].getD j 0,[]):=⟨_,rfl⟩
   have hsn:iP s q.2=⟨R1.1,R2.1,s.files.set m fN⟩:=by unfold iP;rw[if_neg hnf,←hR1,←hR2,hfN,show q.2.ino.toNat=m by omega]
   refine Gz 9 ?_;refine cL (VK (u:=.slice q.1.data.a q.2.data.length q.1.data.c) (VH bD rfl (aD hgn rfl)) (by rw[←hqv2.1];rfl)) ?_;refine VE Vn rfl (Ja D7 g7 64 s.ds q.1.data.a q.1.data.c q.2.data (w11.drewN 1) (hM11.Y8 hf11d (fun _ _ _=>id)) ((hqv2.2.1.Y7 hf911).Y7 hf11d) (by decide) (by have:=hFI.b;rw[length_map,length_take] at this;omega) (by omega) (by omega)) rfl ?_;rw[←hR1];rintro _ w12 ⟨o12,c12,rfl,ho12,hfr12,hM12,hf12⟩;have hf12:=hf12.Y5;have hM12:RyO (fun k=>Nx D7 w11 w12 k∧¬ blk o12 k) w12.heap g7 64 R1.1:=hM12;have hz12:=hf12.size;have hP12:=hP11.Y8 hf12 (fun k hk h=>hd78 k h hk);refine Gz 10 ?_;refine VE Vm rfl (N0 D8 g8 s.tails o12 c12 (fM q.2.data) w12 hP12 (fun k hk=>by have:=hd8 k hk;omega) ho12.vw (by have:=hFI.tn;rw[length_map,length_take] at this;omega) (fun x hx=>by have:=hFI.t x hx;omega)) rfl ?_;rw[←hR2];rintro _ w13 ⟨rfl,D8b,hP13,hD8a,hD8b,hf13⟩;have hz13:=hf13.size;have hgm13:=hf13.obj (hf12.obj hgm11 (fun h=>by have:=hd7 gm h;omega)) (fun h=>by have:=hd8 gm h;omega);have hgn13:=hf13.obj (hf12.obj hgn (fun h=>by have:=hd7 gn h;omega)) (fun h=>by have:=hd8 gn h;omega);have hFf13:=(hFf11.Y8 hf12 (fun a ha h=>by cases ha;have:=hd7 gf h;omega)).Y8 hf13 (fun a ha h=>by cases ha;have:=hd8 gf h;omega);have hM13:=hM12.Y8 hf13 (fun k _ hk h=>by rcases hk.1 with h2|h2;exact hd78 k h2 h;have:=hd8 k h;omega);have hF13:aA (· = gf) v4 w13:=(hF11.Y4 hf12 (fun k h=>.inr (hd7 k h).1)).Y4 hf13 (fun k h=>.inr (hd8 k h).1);refine Gz 7 ?_;refine VS 14 (fun H=>H[gm]?=some (.cells (biC (.slice lo qs.length lc) (.slice io ids.length ic) sN sN sN sN sN sN (.slice (some ⟨gr,0,none⟩) (qs.length+1) (qs.length+1)) (.slice (some ⟨gf,0,none⟩) (qs.length+1) (qs.length+1)) sN sN 0).toArray 76 (0,0))∧H[gn]?=some (.cells (cT q).toArray 68 (0,0))) [14] [0,1,2,3,4,5,6,7,8,9,10,11,12,13,14] aK (by kernel_rfl) (⟨hgm13,hgn13⟩) ?_;refine Gz 8 ?_;refine xC rfl (VK (u:=.slice q.1.data.a q.2.data.length q.1.data.c) (VP bD rfl (fun H hH=>aD hH.2 rfl)) (by rw[←hqv2.1];rfl)) ?_;refine Gz 3 ?_;refine xC rfl (bU (Be (fun j=>[2,0,0,0,0,0,(R1.2:Int),q.2.data.length,(R2.2.1:Int),(R2.2.2:Int)].getD j 0,[])) qK mG) ?_;rw[←hfN];refine xC rfl (VG CO rfl rfl (by simp) (by omega)) ?_;refine VL rfl rfl (X2 gG (u:=fN) (i:=m) hml bJ rfl (by rw[hm,Int.toNat_natCast]) rfl hFf13 ?_);intro w14 ho14 hs14 hf14;refine Wl rfl ?_;have hs14b:w14.heap.size=w13.heap.size:=hs14;have hgb:∀ k,blk (some (⟨gf,0,none⟩:Addr)) k→k=gf:=fun k ⟨a,ha,e⟩=>by cases ha;exact e.symm
   have hf14:=hf14.Y5;have hM14:=hM13.Y8 (hf14.mono hgb) (fun k _ hk h=>by rw[h] at hk;rcases hk.1 with h2|h2;have:=hd7 gf h2;omega;omega);have hP14:=hP13.Y8 (hf14.mono hgb) (fun k hk h=>by have h:k=gf:=h;rw[h] at hk;rcases hD8a gf hk with h2|h2;have:=hd8 gf h2;omega;omega);have hF14:aA (· = gf) v4 w14:=hF13.trans (hf14.mono hgb);refine Gz 2 ?_;have hs2:=AG hq (fs0 (qs.length+1));rw[←hs] at hs2;have hFI2:=uR hFI (x:=q.2) ⟨by omega,by omega⟩ hdat;rw[←C2 hq] at hFI2;have hmm:=Pk 0 [q.2] s;have hmm:(iP s q.2).ds.m.length≤s.ds.m.length+1:=hmm;rw[hsn] at hs2 hFI2 hmm;exact aC ⟨⟨R1.1,R2.1,s.files.set m fN⟩,⟨(fun k=>Nx D7 w11 w12 k∧¬ blk o12 k),D8b⟩⟩ ⟨hs2.symm,by omega,hFI2,hM14,hP14,fun k hk=>by rcases hk.1 with h|h;have:=hd7 k h;omega;omega,fun k hk=>by have:=hD8b k hk;rcases hD8a k hk with h|h;have:=hd8 k h;omega;omega,fun k hk h=>by rcases hD8a k h with h2|h2;rcases hk.1 with h3|h3;exact hd78 k h3 h2;have:=hd8 k h2;omega;rcases hk.1 with h3|h3;have:=hd7 k h3;omega;omega,ho14,hF14⟩
  rintro⟨s,⟨D7,D8⟩⟩ w15 ⟨hs,hmc,hFI,hM,hP,hd7,hd8,hd78,hFf,hF9⟩;refine Gz 5 ?_;exact aG ⟨⟨k+1,s⟩,⟨D7,D8⟩⟩ ⟨by omega,hs,hmc,hFI,hM,hP,hd7,hd8,hd78,hFf,hF9⟩ (by show qs.length-(k+1)<qs.length-k;omega)
 have hke:k=qs.length:=by omega
 subst hke;rw[take_length] at hs hFI;have hs:s=bW qs:=hs;subst hs;have hz9:=hF9.size;refine Gz 1 ?_;refine aW [(0,_),(5,_),(6,_),(7,_),(8,_),(50,_)] ?_;refine Gz 9 ?_;refine VZ i64 bO rfl ?_;intro w10 ho10 hs10 hf10;obtain⟨pb,hpb⟩:∃ x,x=w9.heap.size:=⟨_,rfl⟩
 rw[←hpb] at ho10 ⊢;obtain⟨L,hL⟩:∃ L,L=(bW qs).tails:=⟨_,rfl⟩
 have hLn:L.length≤40:=by have:=hFI.tn;rw[length_map] at this;rw[hL];omega
 have hLb:FM L:=by rw[hL];exact hFI.t
 have hdB:(bW qs).ds.B.length≤172800:=by have:=hFI.b;rw[length_map] at this;omega
 rw[←hL] at hP;refine Gz 10 ?_;refine VM (β:=(Nat×(DS×List Int))×((Nat→Prop)×(Option Addr×Nat))) (fun⟨⟨j,⟨d9,pl9⟩⟩,⟨D9,⟨po,pc⟩⟩⟩=>[(0,.slice lo qs.length lc),(5,pT gm),(6,pT g7),(7,pT g8),(14,.slice po pl9.length pc),(15,iV j)]) (fun⟨⟨j,⟨d9,pl9⟩⟩,⟨D9,⟨po,pc⟩⟩⟩ w=>j≤L.length∧fV (L.take j) (bW qs).ds=(d9,pl9)∧w9.heap.size≤w.heap.size∧RyO D9 w.heap g7 64 d9∧xQ D8 w.heap g8 L∧(∀ k,D9 k→v4.heap.size≤k∧k<w.heap.size)∧(∀ k,D9 k→¬ D8 k)∧Own i64 3 w.heap po pc pl9∧(∀ k,blk po k→v4.heap.size≤k∧¬ D9 k∧¬ D8 k)∧bN 11 Be 84 w.heap (some ⟨gf,0,none⟩) (qs.length+1) (bW qs).files∧aA (· = gf) v4 w) (fun⟨⟨j,⟨d9,pl9⟩⟩,⟨D9,⟨po,pc⟩⟩⟩=>L.length-j) ⟨⟨0,⟨(bW qs).ds,[]⟩⟩,⟨D7,⟨some ⟨pb,0,none⟩,0⟩⟩⟩ ⟨rfl,rfl,rfl,rfl,rfl,rfl,trivial⟩ ⟨Nat.zero_le _,rfl,by omega,hM.Y8 hf10 (fun _ _ _=>id),hP.Y8 hf10 (fun _ _=>id),fun k h=>by have:=hd7 k h;omega,hd78,ho10,fun k ⟨a,ha,e⟩=>by cases ha;have e:pb=k:=e;exact⟨by omega,fun h=>by have:=hd7 k h;omega,fun h=>by have:=hd8 k h;omega⟩,hFf.Y7 hf10,hF9.trans hf10.any⟩ ?_;rintro⟨⟨j,⟨d9,pl9⟩⟩,⟨D9,⟨po,pc⟩⟩⟩ w11 ⟨hj,htl,hz911,hM9,hPr,hd9,hd98,hpo,hpd,hFl,hF11⟩;obtain⟨Din,ao,ac,gs,hgT,hgo,hrw,_⟩:=id hPr;have hgl:=hrw.1;refine fK 7 ?_ ?_<;>intro h102
 ·have hjl:j<L.length:=by omega
  have hjg:j<gs.length:=by omega
  obtain⟨t,ht⟩:∃ t,L[j]?=some t:=⟨_,List.getElem?_eq_getElem hjl⟩
  obtain⟨g,hg⟩:∃ g,gs[j]?=some g:=⟨_,List.getElem?_eq_getElem hjg⟩
  obtain⟨hgn,hgv,_⟩:=hrw.2 j g t hg ht;have htb:=hLb t (mem_of_getElem? ht);have htk:L.take (j+1)=L.take j++[t]:=tkL ht;have hsn:=Bs (L.take j) t (bW qs).ds;rw[←htk,htl] at hsn;have hdb9:d9.B.length≤200000:=by have h:=Kv (L:=L.take j) (fun b hb=>hLb b (List.mem_of_mem_take hb)) (bW qs).ds;rw[htl,length_take] at h;have h:d9.B.length≤_:=h;omega
  have hplj:pl9.length=j:=by have h:=nK (L.take j) (bW qs).ds;rw[htl,length_take] at h;have h:pl9.length=_:=h;omega
  refine Gz 1 ?_;refine aW [(0,_),(5,_),(6,_),(7,_),(14,_),(15,_),(102,_)] ?_;refine Gz 11 ?_;refine cL (VF rR rfl rfl hgo.vw.non (by omega)) ?_;refine cL (VK (u:=.slice g.a t.length g.c) (VH bD rfl (by rw[Int.toNat_natCast];exact hgo.vw.get j g hg)) (by rw[←hgn];rfl)) ?_;refine VE Vl rfl (Eo D9 g7 64 d9 g.a g.c t w11 hM9 hgv (by decide) (by omega) htb.2) rfl ?_;obtain⟨R,hR⟩:∃ R,R=pO 64 d9 t:=⟨_,rfl⟩
  rw[←hR] at hsn ⊢;rintro _ w12 ⟨rfl,hM12,hf12⟩;have hz12:=hf12.size;have hpo12:=hpo.Y8 hf12 (fun a ha h=>(hpd _ ⟨a,ha,rfl⟩).2.1 h);have hP12:=hPr.Y8 hf12 (fun k hk h=>hd98 k h hk);refine Wd (enc:=i64) (u:=(R.2:Int)) bO rfl rfl rfl ?_;intro w13 ho13 hs13 hf13;refine VN lZ bO rfl rfl (hpo12.Y7 hf13) ho13.vw (by simp only[length_singleton];omega) (by simp only[length_singleton];unfold maxLen;omega) rfl ?_;intro po14 pc14 w14 ho14 hf14 hr14 hn14;have hz14:=hf14.size;have hnx:∀ k,Nx D9 w11 w12 k→v4.heap.size≤k∧k<w14.heap.size∧¬ D8 k∧¬ blk po k:=fun k hk=>by
   rcases hk with h|h
   ·have:=hd9 k h;exact⟨by omega,by omega,hd98 k h,fun hb=>(hpd k hb).2.1 h⟩
   ·exact⟨by omega,by omega,fun h2=>by have:=hd8 k h2;omega,fun⟨a,ha,e⟩=>by have:=hpo.lt a ha;omega⟩
  have hM14:=(hM12.Y8 hf13 (fun _ _ _=>id)).Y8 hf14 (fun k _ hk=>(hnx k hk).2.2.2);have hP14:=(hP12.Y8 hf13 (fun _ _=>id)).Y8 hf14 (fun k hk hb=>(hpd k hb).2.2 hk);have hF14:aA (· = gf) v4 w14:=((hF11.Y4 hf12 (fun k h=>.inr (hd9 k h).1)).trans hf13.any).Y4 hf14 (fun k h=>.inr (hpd k h).1);have hpd14:∀ k,blk po14 k→v4.heap.size≤k∧¬ Nx D9 w11 w12 k∧¬ D8 k:=fun k ⟨a,ha,e⟩=>by
   rcases hr14 a ha with h|h
   ·have:=hpd k ⟨a,h,e⟩;exact⟨this.1,fun h2=>(hnx k h2).2.2.2 ⟨a,h,e⟩,this.2.2⟩
   ·exact⟨by omega,fun h2=>by rcases h2 with h2|h2;have:=hd9 k h2;omega;omega,fun h2=>by have:=hd8 k h2;omega⟩
  refine Gz 9 ?_;exact aG ⟨⟨j+1,⟨R.1,pl9++[(R.2:Int)]⟩⟩,⟨Nx D9 w11 w12,⟨po14,pc14⟩⟩⟩ ⟨by omega,hsn,by omega,hM14,hP14,fun k hk=>by have:=hnx k hk;omega,fun k hk=>(hnx k hk).2.2.1,ho14,hpd14,((hFl.Y8 hf12 (fun a ha h=>by cases ha;have:=hd9 gf h;omega)).Y7 hf13).Y8 hf14 (fun a ha h=>by cases ha;have:=(hpd gf h).1;omega),hF14⟩ (by show L.length-(j+1)<L.length-j;omega)
 have hje:j=L.length:=by omega
 subst hje;rw[take_length] at htl;refine Gz 1 ?_;refine aW [(0,_),(5,_),(6,_),(7,_),(14,_),(15,_),(102,_)] ?_;refine Gz 10 ?_;have hz11:=hF11.size;have hAll:=Io G hIds;have hGd:=G.gdB hFI.l (MC hFI);have htl2:fV (bW qs).tails (bW qs).ds=(d9,pl9):=by rw[←hL];exact htl
 have hpl9:pl9.length=L.length:=by have h:=nK L (bW qs).ds;rw[htl] at h;exact h
 obtain⟨ow0,how⟩:∃ f:Nat→Nat,f=fun k=>if k=gm then 6 else if k=gr then 5 else if k<v4.heap.size then 4 else 0:=⟨_,rfl⟩
 have o6:ow0 gm=6:=by rw[how];exact if_pos rfl
 have o4:∀ k,k<v4.heap.size→k≠gm→k≠gr→ow0 k=4:=fun k h1 h2 h3=>by rw[how];show (if k=gm then 6 else if k=gr then 5 else if k<v4.heap.size then 4 else 0)=4;rw[if_neg h2,if_neg h3,if_pos h1]
 have o0:∀ k,v4.heap.size≤k→ow0 k=0:=fun k h=>by rw[how];show (if k=gm then 6 else if k=gr then 5 else if k<v4.heap.size then 4 else 0)=0;rw[if_neg (by omega),if_neg (by omega),if_neg (by omega)]
 have o5:ow0 gr=5:=by rw[how];show (if gr=gm then 6 else if gr=gr then 5 else if gr<v4.heap.size then 4 else 0)=5;rw[if_neg (by omega),if_pos rfl]
 have hn0:∀ k,w11.heap.size≤k→ow0 k=0:=fun k hk=>o0 k (by omega);have hnd11:dZ (fun k=>ow0 k=4) w11.heap lo lc qs:=eC hvq4 hF11 (fun k hk h=>by have h:k=gf:=h;have hk:k<W.heap.size:=hk;omega) (fun _ k hk h=>by have h:k=gf:=h;have:=hlo1 k hk;omega) (fun k hk=>o4 k (by omega) (by omega) (by omega));have hI11:=hI4.Y8 hF11 (fun a ha h=>by have h:a.block=gf:=h;exact absurd h (hnF a ha));have hR11:=hR4.Y8 hF11 (fun a ha h=>by cases ha;exact hrf h.symm);have hgm11:=hF11.obj hgm (fun h=>by have h:gm=gf:=h;omega);obtain⟨a0,ha0⟩:∃ a:BiA,a=⟨lo,lc,io,ic,none,0,none,0,none,0,none,0,none,0,none,0,some ⟨gr,0,none⟩,qs.length+1,some ⟨gf,0,none⟩,qs.length+1,none,0,none,0,[]⟩:=⟨_,rfl⟩
 have hW0:∀ z,WrM ow0 z w11.heap [] none 0 none 0:=fun z=>by
  have e:bF [] []=(([]:By),([]:By)):=dX (by decide);unfold WrM;rw[e];exact⟨YP,YP,YL,fun k ⟨a,ha,_⟩=>(by cases ha),fun k ⟨a,ha,_⟩=>(by cases ha)⟩
 have hBi:BiW a0 ow0 w11.heap gm qs ids (bW qs).files (vE (qs.length+1)):=by
  have e:bF [] []=(([]:By),([]:By)):=dX (by decide);subst ha0;refine⟨?_,o6,⟨hnd11,fun _ k hk=>o4 k (by have:=hlo1 k hk;omega) (by have:=hlo1 k hk;omega) (by have:=hlo1 k hk;omega)⟩,⟨hI11.vw,fun k ⟨a,ha,e⟩=>o4 k (by have:=hI3l a ha;omega) (by have:=hI3l a ha;omega) (by have:=hnI a ha;omega)⟩,⟨hFl.vw gG,fun k ⟨a,ha,e⟩=>by cases ha;have e:gf=k:=e;rw[←e];exact o4 gf (by omega) (by omega) hrf⟩,hW0 1,hW0 2,hW0 3,⟨hR11,fun k ⟨a,ha,e⟩=>by cases ha;have e:gr=k:=e;rw[←e];exact o5⟩,⟨YP,fun k ⟨a,ha,_⟩=>(by cases ha)⟩,⟨rfl,fun i h y hh _=>(by cases hh)⟩,YP,fun k ⟨a,ha,_⟩=>(by cases ha)⟩;unfold biK;rw[hFI.l];have e1:(vE (qs.length+1)).refs.length=qs.length+1:=length_replicate;rw[e1];show w11.heap[gm]?=some (.cells (biC _ _ (.slice none (bF [] []).1.length 0) (.slice none (bF [] []).2.length 0) (.slice none (bF [] []).1.length 0) (.slice none (bF [] []).2.length 0) (.slice none (bF [] []).1.length 0) (.slice none (bF [] []).2.length 0) _ _ _ _ _).toArray _ _);rw[e];exact hgm11
 have hok0:okS qs (vE (qs.length+1)):=⟨length_replicate,⟨fun z hz=>by rw[hrep z hz];decide,fun y hy=>(by cases hy)⟩,fun y hy=>(by cases hy)⟩
 refine VE RE rfl (BD gm qs ids (bW qs).files hGd 17 a0 ow0 (vE (qs.length+1)) ((0:Nat):Int) w11 hBi hn0 ⟨by omega,by omega⟩ (by omega) hok0 hAll.b) rfl ?_;rintro _ w15 hP15;obtain⟨S,hS⟩:∃ S,S=wrB qs ids (bW qs).files 17 ((0:Nat):Int) (vE (qs.length+1)):=⟨_,rfl⟩
 rw[←hS] at hP15;obtain⟨hf15,a15,ow15,hM15,hl15,hn15,hbr15⟩:=hP15;have hz15:=hf15.size;have hAs:(aH qs ids).s=S:=hS.symm;have hAd:(aH qs ids).d=d9:=by show (fV (bW qs).tails (bW qs).ds).1=d9;rw[htl2]
 have hAp:(aH qs ids).pl=pl9:=by show (fV (bW qs).tails (bW qs).ds).2=pl9;rw[htl2]
 have hAm:=hAll.m;have hAi:=hAll.i;have hAl:=hAll.l;have hAf:=hAll.f;rw[hAs] at hAm hAi hAl hAf;have hAn4:=hAll.n4;have hAn2:=hAll.n2;rw[hAp] at hAn4;have hv15:=hnd11.1.keep' hf15 (fun hne a ha h=>h.2 (o4 a.block (by have:=hlo1 _ ⟨a,ha,rfl⟩;omega) (by have:=hlo1 _ ⟨a,ha,rfl⟩;omega) (by have:=hlo1 _ ⟨a,ha,rfl⟩;omega)));have hd9o:∀ k,D9 k→¬ Lb ow0 k:=fun k hk h=>h.1 (o0 k (hd9 k hk).1);have hM15b:=hM9.Y8 hf15 (fun k _ hk=>hd9o k hk);have hpo15:=hpo.Y8 hf15 (fun a ha h=>h.1 (o0 _ (hpd _ ⟨a,ha,rfl⟩).1));have hFw:aA nob w1 w15:=(hG4.any (S:=nob)).Y4 ((hF11.mono (S':=fun k=>k=gf∨Lb ow0 k) (fun k h=>.inl h)).Y4 hf15 (fun k h=>.inl (.inr h))) (fun k h=>.inr (by rcases h with h|h;omega;have h2:=h.1;have h3:=h.2;by_cases hk:k<w1.heap.size;exact absurd (o4 k (by omega) (by omega) (by omega)) h3;omega));refine Gz 4 ?_;refine cL (VX (cs:=#[sN,sN]) Pf Nn rfl (by kernel_rfl)) ?_;refine VJ Nn rfl ?_;intro w16 hg16 hs16 hf16;obtain⟨gA,hgA⟩:∃ x,x=w15.heap.size:=⟨_,rfl⟩
 rw[←hgA] at hg16 ⊢;refine sA rfl PK (by simp[Value.oneCell']) hg16 ?_;intro w17 hg17 hs17 hf17;have hf1517:aA nob w15 w17:=hf16.tw hf17;have hA17:=RwO.zero hg17;refine Gz 5 ?_;refine VE RD rfl (wW po pc pl9 4 w17 (hpo15.Y7 hf1517).vw (by omega)) rfl ?_;rintro _ w18 ⟨o18,c18,rfl,ho18,hfr18,hf18⟩;have hz18:=hf18.size;refine Gz 10 ?_;refine VE Mw rfl (BK (· = gA) gA [] o18 c18 (aL pl9 4).1 w18 (hA17.Y8 hf18 (fun _ _=>id)) ho18.vw (fun _ k ⟨a,ha,e⟩ h=>by have:=hfr18 a ha;have h:k=gA:=h;omega) (by simp only[length_nil];omega)) rfl ?_;rw[nil_append];rintro _ w19 ⟨_,hA19,hf19⟩;have hz19:=hf19.size;refine Gz 4 ?_;refine cL (VX (cs:=#[sN,sN]) Pf Nn rfl (by kernel_rfl)) ?_;refine VJ Nn rfl ?_;intro w20 hg20 hs20 hf20;obtain⟨gB,hgB⟩:∃ x,x=w19.heap.size:=⟨_,rfl⟩
 rw[←hgB] at hg20 ⊢;refine sA rfl PK (by simp[Value.oneCell']) hg20 ?_;intro w21 hg21 hs21 hf21;have hf1921:aA nob w19 w21:=hf20.tw hf21;have hB21:=RwO.zero hg21;have hA21:=hA19.Y8 hf1921 (fun _ _=>id);have hf1519:aA (· = gA) w15 w19:=(((hf1517.trans hf18).any)).trans hf19;have hf1521:aA (· = gA) w15 w21:=hf1519.trans hf1921.any;have hM21:=hM15.Y8 hf1521 (fun k hk h=>hk (by have h:k=gA:=h;exact hn15 k (by omega))) (fun _ _=>rfl);refine Gz 7 ?_;refine cL (VH mL rfl (aD hM21.1 rfl)) ?_;refine VE RD rfl (wW a15.io a15.ic ids 2 w21 hM21.2.2.2.1.1 (by omega)) rfl ?_;rintro _ w22 ⟨o22,c22,rfl,ho22,hfr22,hf22⟩;have hz22:=hf22.size;refine Gz 9 ?_;refine VE Mw rfl (BK (· = gB) gB [] o22 c22 (aL ids 2).1 w22 (hB21.Y8 hf22 (fun _ _=>id)) ho22.vw (fun _ k ⟨a,ha,e⟩ h=>by have:=hfr22 a ha;have h:k=gB:=h;omega) (by simp only[length_nil];omega)) rfl ?_;rw[nil_append];rintro _ w23 ⟨_,hB23,hf23⟩;have hz23:=hf23.size;have hnB:∀ k,ow15 k≠0→¬ k=gB:=fun k hk h=>hk (hn15 k (by omega));have hM23:=(hM21.Y7 hf22).Y8 hf23 (fun k hk h=>hnB k hk h) (fun _ _=>rfl);have hA23:=(hA21.Y8 hf22 (fun _ _=>id)).Y8 hf23 (fun k hk h=>by have h:k=gB:=h;rcases hk with h2|h2;have h2:k=gA:=h2;omega;omega);have hf1523:aA (fun k=>k=gA∨k=gB) w15 w23:=((hf1521.mono (fun k h=>.inl h)).trans hf22.any).trans (hf23.mono (fun k h=>.inr h));have hM23b:=hM15b.Y8 hf1523 (fun k hk _ h=>by rcases h with h|h<;>omega);have hv23:=hv15.keep' hf1523 (fun hne a ha h=>by have:=hlo1 _ ⟨a,ha,rfl⟩;rcases h with h|h<;>omega);obtain⟨r0,hr0,hr0n,hr0k⟩:=G.root;have hi0:=G.ino r0 (mem_of_getElem? hr0);obtain⟨m0,hm0⟩:=Int.eq_ofNat_of_zero_le (show 0≤r0.2.ino by omega);have hrl:S.refs.length=qs.length+1:=by have h:=(CF (qs:=qs) (ids:=ids) (files:=(bW qs).files) 17 ((0:Nat):Int) (vE (qs.length+1))).r;rw[←hS] at h;rw[h];exact length_replicate
 have hz0:0≤S.refs.getD m0 0∧S.refs.getD m0 0≤1152921504606846977:=hbr15.1 _ (by rw[List.getD,List.getElem?_eq_getElem (by omega)];exact List.getElem_mem _);refine Gz 3 ?_;refine VS 24 (fun H=>H[gm]?=some (.cells (biK a15 qs ids (bW qs).files S).toArray 76 (0,0))∧VwM 10 cT H lo lc qs∧Vw i64 H a15.ro a15.rc S.refs) [23,24] [0,1,2,3,4,5,6,7,8,9,10,11,12,13,14,15,16,17,18,19,20,21,22,23,24] aK (by kernel_rfl) (⟨hM23.1,hv23,hM23.2.2.2.2.2.2.2.2.1.1.vw⟩) ?_;refine Gz 16 ?_;refine xC rfl (VG cY rfl rfl hv23.non (by omega)) ?_;refine Gz 1 ?_;refine xC rfl (VP aE rfl (fun H hH=>hH.2.1.rowZ 0 rfl hr0 1 _ rfl)) ?_;refine xC rfl (VF bO rfl rfl hM23.2.2.2.2.2.2.2.2.1.1.vw.non (by omega)) ?_;refine xC rfl (VP aE rfl (fun H hH=>hH.2.2.gz 0 m0 hm0 (by omega))) ?_;refine Gz 1 ?_;refine xC rfl (bU (sU 0 S.many 0 0 0 0 0 ids.length pl9.length (S.refs.getD m0 0-1)) nW mW) ?_;refine VL rfl rfl (VJ mW rfl ?_);intro w24 hg24 hs24 hf24;have hf24:=hf24.Y5;obtain⟨gS,hgS⟩:∃ x,x=w23.heap.size:=⟨_,rfl⟩
 rw[show (w23.drewN 1).heap.size=gS from hgS.symm] at hg24 ⊢;refine VQ (by exact⟨(hM23.Y7 hf24).1,hv23.Y7 hf24,(hM23.Y7 hf24).2.2.2.2.2.2.2.2.1.1.vw⟩) ?_;refine VL rfl rfl (Wf (vs:=sU 0 S.many 0 0 0 0 0 ids.length pl9.length (S.refs.getD m0 0-1)) cD rfl rfl (P0 _ _ _ _ _ _ _ _ _ _) hg24 rfl ?_);intro w25 hg25 hs25 hf25;refine Wl rfl ?_;have hf2325:aA nob w23 w25:=hf24.tw hf25;have hM25:=hM23.Y7 hf2325;have hA25:=hA23.Y8 hf2325 (fun _ _=>id);have hB25:=hB23.Y8 hf2325 (fun _ _=>id);have hM25b:=hM23b.Y8 hf2325 (fun _ _ _=>id);have hs24b:w24.heap.size=w23.heap.size+1:=hs24;obtain⟨bo,bc,ro,rc,ys,hg7c,hB7,_⟩:=hM25b;have hg7c25:=hg7c;obtain⟨dI,hdI⟩:∃ d,d=dnW S.ino:=⟨_,rfl⟩
 obtain⟨dL,hdL⟩:∃ d,d=dnW S.lst:=⟨_,rfl⟩
 obtain⟨dP,hdP⟩:∃ d,d=dnW (aL pl9 4).1:=⟨_,rfl⟩
 obtain⟨dD,hdD⟩:∃ d,d=dnW (aL ids 2).1:=⟨_,rfl⟩
 obtain⟨dF,hdF⟩:∃ d,d=dnW S.fur:=⟨_,rfl⟩
 have q1:mR (aH qs ids)=d9.B:=by unfold mR;rw[hAd]
 have q2:jP (aH qs ids)=d9.B++dI:=by unfold jP;rw[q1,hAs,←hdI]
 have q3:jD (aH qs ids)=d9.B++dI++dL:=by unfold jD;rw[q2,hAs,←hdL]
 have q4:iN (aH qs ids)=d9.B++dI++dL++dP:=by unfold iN;rw[q3,hAp,←hdP]
 have q5:iA (aH qs ids) ids=d9.B++dI++dL++dP++dD:=by unfold iA;rw[q4,←hdD]
 have q6:gZ (aH qs ids) ids=d9.B++dI++dL++dP++dD++dF:=by unfold gZ;rw[q5,hAs,←hdF]
 have p1:=hAll.o1;have p2:=hAll.o2;have p3:=hAll.o3;have p4:=hAll.o4;have p5:=hAll.o5;have p6:=hAll.o6;rw[q1] at p1;rw[q2] at p2;rw[q3] at p3;rw[q4] at p4;rw[q5] at p5;rw[q6] at p6;have hsup:cC qs ids (aH qs ids)=fun j=>[64+(((d9.B++dI++dL++dP++dD++dF).length:Nat):Int),S.many,64+((d9.B.length:Nat):Int),64+(((d9.B++dI).length:Nat):Int),64+(((d9.B++dI++dL).length:Nat):Int),64+(((d9.B++dI++dL++dP).length:Nat):Int),64+(((d9.B++dI++dL++dP++dD).length:Nat):Int),ids.length,pl9.length,S.refs.getD m0 0-1].getD j 0:=by
  have hnd0:(ndB qs 0).ino.toNat=m0:=by rw[show ndB qs 0=ndB qs ((0:Nat):Int) from rfl,bS hr0];omega
  unfold cC;rw[q1,q2,q3,q4,q5,q6,hAs,hAp,hnd0]
 obtain⟨A1,hA1⟩:∃ x,x=d9.B:=⟨_,rfl⟩
 obtain⟨A2,hA2⟩:∃ x,x=A1++dI:=⟨_,rfl⟩
 obtain⟨A3,hA3⟩:∃ x,x=A2++dL:=⟨_,rfl⟩
 obtain⟨A4,hA4⟩:∃ x,x=A3++dP:=⟨_,rfl⟩
 obtain⟨A5,hA5⟩:∃ x,x=A4++dD:=⟨_,rfl⟩
 obtain⟨A6,hA6⟩:∃ x,x=A5++dF:=⟨_,rfl⟩
 rw[←hA1,←hA2,←hA3,←hA4,←hA5,←hA6] at hsup;rw[←hA1,←hA2,←hA3,←hA4,←hA5,←hA6] at p6 q6;rw[←hA1,←hA2,←hA3,←hA4,←hA5] at p5;rw[←hA1,←hA2,←hA3,←hA4] at p4;rw[←hA1,←hA2,←hA3] at p3;rw[←hA1,←hA2] at p2;rw[←hA1] at p1 hg7c25 hB7;have hW25:aA nob w1 w25:=(hFw.Y4 hf1523 (fun k h=>.inr (by have:=hFw.size;rcases h with h|h<;>omega))).trans hf2325;refine Gz 4 ?_;refine VZ b8 aF rfl ?_;intro w26 ho26 hs26 hf26;obtain⟨gO,hgO⟩:∃ x,x=w25.heap.size:=⟨_,rfl⟩
 rw[←hgO] at ho26 ⊢;refine Gz 1 ?_;refine cL (VH bD rfl (aD (hf26.obj hg7c25 id) rfl)) ?_;refine VN aP aF rfl rfl ho26 (hB7.Y7 hf26).vw (by simp only[length_nil];omega) (by simp only[length_nil];unfold maxLen;omega) rfl ?_;intro o27 c27 w27 ho27 hf27 hr27 hn27;rw[nil_append] at ho27 ⊢;have hfr27:Fr w25.heap.size o27:=fun a ha=>by rcases hr27 a ha with h|h;cases h;exact Nat.le_of_eq hgO.symm;exact Nat.le_trans hf26.size h
 have hf2527:aA nob w25 w27:=hf26.Y4 hf27 (fun k ⟨a,ha,e⟩=>.inr (by cases ha;have e:gO=k:=e;omega));have hgS27:=hf2527.obj hg25 id;have hn27:∀ a,o27=some a→a.block≠gS:=fun a ha=>by have:=hfr27 a ha;omega
 refine Gz 9 ?_;refine VI aE rfl rfl rfl hgS27 rfl ?_;intro w28 hgS28 hs28 hf28;have ho28:=ho27.Y8 hf28 (fun a ha h=>hn27 a ha h);have hf2528:aA (· = gS) w25 w28:=hf2527.any.trans hf28;have hz27:=hf2527.size;have hM28:=hM25.Y8 hf2528 (fun k hk h=>hk (by have h:k=gS:=h;exact hn15 k (by omega))) (fun _ _=>rfl);refine Gz 8 ?_;refine VE Mv rfl (pZ (HR a15 qs ids (bW qs).files S) _ gm S.ino w28 hM28.rwi1 (by omega)) rfl ?_;rintro _ w29 ⟨o29,c29,rfl,ho29,hfr29,hf29⟩;have ho29:Own b8 5 w29.heap o29 c29 dI:=by rw[hdI];exact ho29
 have h29:(frW S.ino (nF S.ino))=dI:=hdI.symm;rw[h29];refine VN aP aF rfl rfl (ho28.Y7 hf29) ho29.vw (by rw[hA2,length_append] at p2;omega) (by rw[hA2,length_append] at p2;unfold maxLen;omega) rfl ?_;intro o30 c30 w30 ho30 hf30 hr30 hn30;rw[←hA2] at ho30 ⊢;have hfr30:Fr w25.heap.size o30:=fun a ha=>by rcases hr30 a ha with h|h;exact hfr27 a h;have:=hf29.size;omega
 have hnS30:∀ a,o30=some a→a.block≠gS:=fun a ha=>by rcases hr30 a ha with h|h;exact hn27 a h;have:=hf29.size;omega
 have hgS30:=hf30.obj (hf29.obj hgS28 id) (fun⟨a,ha,e⟩=>hn27 a ha e);have hf2530:aA (· = gS) w25 w30:=(hf2528.trans hf29.any).Y4 hf30 (fun k ⟨a,ha,e⟩=>.inr (by have:=hfr27 a ha;omega));have hz30:=hf2530.size;refine Gz 9 ?_;refine VI aE rfl rfl rfl hgS30 rfl ?_;intro w31 hgS31 hs31 hf31;have ho31:=ho30.Y8 hf31 (fun a ha h=>hnS30 a ha h);have hf2531:aA (· = gS) w25 w31:=hf2530.trans hf31;have hM31:=hM25.Y8 hf2531 (fun k hk h=>hk (by have h:k=gS:=h;exact hn15 k (by omega))) (fun _ _=>rfl);refine Gz 8 ?_;refine VE Mv rfl (pZ (HQ a15 qs ids (bW qs).files S) _ gm S.lst w31 hM31.rwi2 (by omega)) rfl ?_;rintro _ w32 ⟨o32,c32,rfl,ho32,hfr32,hf32⟩;have ho32:Own b8 5 w32.heap o32 c32 dL:=by rw[hdL];exact ho32
 have h32:(frW S.lst (nF S.lst))=dL:=hdL.symm;rw[h32];refine VN aP aF rfl rfl (ho31.Y7 hf32) ho32.vw (by rw[hA3,length_append] at p3;omega) (by rw[hA3,length_append] at p3;unfold maxLen;omega) rfl ?_;intro o33 c33 w33 ho33 hf33 hr33 hn33;rw[←hA3] at ho33 ⊢;have hfr33:Fr w25.heap.size o33:=fun a ha=>by rcases hr33 a ha with h|h;exact hfr30 a h;have:=hf32.size;omega
 have hnS33:∀ a,o33=some a→a.block≠gS:=fun a ha=>by rcases hr33 a ha with h|h;exact hnS30 a h;have:=hf32.size;omega
 have hgS33:=hf33.obj (hf32.obj hgS31 id) (fun⟨a,ha,e⟩=>hnS30 a ha e);have hf2533:aA (· = gS) w25 w33:=(hf2531.trans hf32.any).Y4 hf33 (fun k ⟨a,ha,e⟩=>.inr (by have:=hfr30 a ha;omega));have hz33:=hf2533.size;refine Gz 9 ?_;refine VI aE rfl rfl rfl hgS33 rfl ?_;intro w34 hgS34 hs34 hf34;have ho34:=ho33.Y8 hf34 (fun a ha h=>hnS33 a ha h);have hf2534:aA (· = gS) w25 w34:=hf2533.trans hf34;have hA34:=hA25.Y8 hf2534 (fun k hk h=>by have h:k=gS:=h;rcases hk with h2|h2;have h2:k=gA:=h2;omega;omega);refine Gz 5 ?_;refine VE Mv rfl (zN _ gA (aL pl9 4).1 w34 hA34 (by omega)) rfl ?_;rintro _ w35 ⟨o35,c35,rfl,ho35,hfr35,hf35⟩;have ho35:Own b8 5 w35.heap o35 c35 dP:=by rw[hdP];exact ho35
 have h35:(frW (aL pl9 4).1 (nF (aL pl9 4).1))=dP:=hdP.symm;rw[h35];refine VN aP aF rfl rfl (ho34.Y7 hf35) ho35.vw (by rw[hA4,length_append] at p4;omega) (by rw[hA4,length_append] at p4;unfold maxLen;omega) rfl ?_;intro o36 c36 w36 ho36 hf36 hr36 hn36;rw[←hA4] at ho36 ⊢;have hfr36:Fr w25.heap.size o36:=fun a ha=>by rcases hr36 a ha with h|h;exact hfr33 a h;have:=hf35.size;omega
 have hnS36:∀ a,o36=some a→a.block≠gS:=fun a ha=>by rcases hr36 a ha with h|h;exact hnS33 a h;have:=hf35.size;omega
 have hgS36:=hf36.obj (hf35.obj hgS34 id) (fun⟨a,ha,e⟩=>hnS33 a ha e);have hf2536:aA (· = gS) w25 w36:=(hf2534.trans hf35.any).Y4 hf36 (fun k ⟨a,ha,e⟩=>.inr (by have:=hfr33 a ha;omega));have hz36:=hf2536.size;refine Gz 9 ?_;refine VI aE rfl rfl rfl hgS36 rfl ?_;intro w37 hgS37 hs37 hf37;have ho37:=ho36.Y8 hf37 (fun a ha h=>hnS36 a ha h);have hf2537:aA (· = gS) w25 w37:=hf2536.trans hf37;have hB37:=hB25.Y8 hf2537 (fun k hk h=>by have h:k=gS:=h;rcases hk with h2|h2;have h2:k=gB:=h2;omega;omega);refine Gz 5 ?_;refine VE Mv rfl (zN _ gB (aL ids 2).1 w37 hB37 (by omega)) rfl ?_;rintro _ w38 ⟨o38,c38,rfl,ho38,hfr38,hf38⟩;have ho38:Own b8 5 w38.heap o38 c38 dD:=by rw[hdD];exact ho38
 have h38:(frW (aL ids 2).1 (nF (aL ids 2).1))=dD:=hdD.symm;rw[h38];refine VN aP aF rfl rfl (ho37.Y7 hf38) ho38.vw (by rw[hA5,length_append] at p5;omega) (by rw[hA5,length_append] at p5;unfold maxLen;omega) rfl ?_;intro o39 c39 w39 ho39 hf39 hr39 hn39;rw[←hA5] at ho39 ⊢;have hfr39:Fr w25.heap.size o39:=fun a ha=>by rcases hr39 a ha with h|h;exact hfr36 a h;have:=hf38.size;omega
 have hnS39:∀ a,o39=some a→a.block≠gS:=fun a ha=>by rcases hr39 a ha with h|h;exact hnS36 a h;have:=hf38.size;omega
 have hgS39:=hf39.obj (hf38.obj hgS37 id) (fun⟨a,ha,e⟩=>hnS36 a ha e);have hf2539:aA (· = gS) w25 w39:=(hf2537.trans hf38.any).Y4 hf39 (fun k ⟨a,ha,e⟩=>.inr (by have:=hfr36 a ha;omega));have hz39:=hf2539.size;refine Gz 9 ?_;refine VI aE rfl rfl rfl hgS39 rfl ?_;intro w40 hgS40 hs40 hf40;have ho40:=ho39.Y8 hf40 (fun a ha h=>hnS39 a ha h);have hf2540:aA (· = gS) w25 w40:=hf2539.trans hf40;have hM40:=hM25.Y8 hf2540 (fun k hk h=>hk (by have h:k=gS:=h;exact hn15 k (by omega))) (fun _ _=>rfl);refine Gz 8 ?_;refine VE Mv rfl (pZ (HP a15 qs ids (bW qs).files S) _ gm S.fur w40 hM40.rwi3 (by omega)) rfl ?_;rintro _ w41 ⟨o41,c41,rfl,ho41,hfr41,hf41⟩;have ho41:Own b8 5 w41.heap o41 c41 dF:=by rw[hdF];exact ho41
 have h41:(frW S.fur (nF S.fur))=dF:=hdF.symm;rw[h41];refine VN aP aF rfl rfl (ho40.Y7 hf41) ho41.vw (by rw[hA6,length_append] at p6;omega) (by rw[hA6,length_append] at p6;unfold maxLen;omega) rfl ?_;intro o42 c42 w42 ho42 hf42 hr42 hn42;rw[←hA6] at ho42 ⊢;have hnS42:∀ a,o42=some a→a.block≠gS:=fun a ha=>by rcases hr42 a ha with h|h;exact hnS39 a h;have:=hf41.size;omega
 have hgS42:=hf42.obj (hf41.obj hgS40 id) (fun⟨a,ha,e⟩=>hnS39 a ha e);have hf2542:aA (· = gS) w25 w42:=(hf2540.trans hf41.any).Y4 hf42 (fun k ⟨a,ha,e⟩=>.inr (by have:=hfr39 a ha;omega));have hz42:=hf2542.size;refine Gz 9 ?_;refine VI aE rfl rfl rfl hgS42 rfl ?_;intro w43 hgS43 hs43 hf43;have ho43:=ho42.Y8 hf43 (fun a ha h=>hnS42 a ha h);have hf2543:aA (· = gS) w25 w43:=hf2542.trans hf43;have hW43:aA nob w1 w43:=hW25.tw hf2543;have hgS43:w43.heap[gS]?=some (.cells (bR (cC qs ids (aH qs ids))).toArray 93 (0,0)):=by rw[hsup];exact hgS43
 refine Gz 6 ?_;refine cL (VK (u:=iV (64+(A6.length:Int))) (VH aE rfl (aD (i:=0) hgS43 rfl)) (by rw[hsup];rfl)) ?_;refine fK 0 ?_ ?_<;>intro h212
 ·have hib:C9 qs ids=([],3):=by unfold C9;rw[q6,if_pos h212]
  refine Gz 12 ?_;refine⟨_,rfl,.inr ⟨hz,?_⟩⟩;rw[←hqs];exact⟨ids,none,0,hIds,by rw[hib];rfl,by rw[hib];exact YP,YN,hf1.trans hW43⟩
 have hib:C9 qs ids=((jC (cC qs ids (aH qs ids))).1++A6,0):=by unfold C9;rw[q6,if_neg h212]
 refine Gz 7 ?_;refine cL (VR (cs:=bR (cC qs ids (aH qs ids))) cD rfl (aX hgS43 0 rfl)) ?_;refine cA 0 RC (Ed (cC qs ids (aH qs ids)) w43) ?_;rintro _ w44 ⟨o44,c44,rfl,ho44,hfr44,hf44⟩;have hpsl:(jC (cC qs ids (aH qs ids))).1.length≤64:=by unfold jC;split;exact Nat.le_of_eq (rG _);exact Nat.zero_le _
 refine Gz 11 ?_;refine VN aP aF rfl rfl ho44 (ho43.Y7 hf44).vw (by omega) (by unfold maxLen;omega) rfl ?_;intro o45 c45 w45 ho45 hf45 hr45 hn45;refine Gz 6 ?_;have hfin:aA nob W w45:=((hf1.trans hW43).trans hf44).Y4 hf45 (fun k ⟨a,ha,e⟩=>.inr (by have:=hfr44 a ha;have:=(hf1.trans hW43).size;omega));refine⟨_,rfl,.inr ⟨hz,?_⟩⟩;rw[←hqs];exact⟨ids,o45,c45,hIds,by rw[hib],by rw[hib];exact ho45,fun a ha=>by have:=(hf1.trans hW43).size;rcases hr45 a ha with h|h;have:=hfr44 a h;omega;have:=hf44.size;omega,hfin⟩
end
end Go.Proofs.YthdecfkdgdagcaaGreat
