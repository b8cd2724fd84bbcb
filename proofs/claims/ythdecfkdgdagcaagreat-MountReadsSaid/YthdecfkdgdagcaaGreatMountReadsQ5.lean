/- lamella: what the law needs. No condition beyond the bounds that each states. -/
import Derived.Test.YthdecfkdgdagcaaGreatMountReadsQ4
namespace Go.Proofs.YthdecfkdgdagcaaGreat
open Go Go.RowKit
set_option linter.unusedVariables false
set_option linter.unusedSectionVars false
set_option maxHeartbeats 64000000
open List (mem_filter pairwise_map)
open List renaming getElem?_eq_getElem → ZQ, length_append → ZR, getElem?_eq_some_iff → ZS, length_take → ZT, length_singleton → ZU, mem_of_getElem? → ZW, length_drop → ZX, getD → Z2, take_of_length_le → Z4, append_assoc → Z6, length_nil → Z7, length_map → aa, getElem?_of_mem → ab, mem_singleton → ai, length_cons → al, mem_append → an, nil_append → aq, getElem?_take → ar, getElem?_append_left → au, mem_map → av, mem_cons → aw, getElem?_map → ax, take_append_drop → ay, take_length → be, replicate → bg, pairwise_iff_getElem → bj, getElem_mem → bm, append_nil → bp, getElem?_eq_none → bq, mem_range → bt, range → bu, not_mem_nil → bv, length_pos_iff → bw, drop_eq_getElem_cons → bz, drop_drop → ca, ext_getElem? → cd, getElem_of_mem → cf, getElem?_set → cg, length_replicate → cj, length_set → cm, flatMap_cons → cq, drop_left' → ct, take_append_of_le_length → cu, length → cv, findIdx?_eq_some_iff_getElem → cw, take_left' → cz, map_cons → db, drop_of_length_le → de, length_eq_zero_iff → dh, mem_of_mem_take → dj, findIdx?_eq_none_iff → dk, take_zero → dm, take_take → dq, map_append → dr, foldl_cons → dt, mem_flatMap → dz, mem_or_eq_of_mem_set → eu, size_toArray → fe, nodup_append → fg, mem_append_left → fh, flatMap_append → fk, take_append → fq, drop_append_of_le_length → fw, nodup_cons → ie, drop_zero → ix, idxOf_lt_length_iff → jb, eq_of_mem_replicate → jd
open Classical renaming byContradiction → ZY, not_not → br
open _root_.Nat renaming zero_le → ZZ, le_refl → Z0, le_trans → aj, min_eq_left → cn, zero_add → cx, mul_le_mul_right → di, add_mul → dy, add_sub_cancel_left → fp, add_zero → gp, add_assoc → gu, le_add_right → gy, le_succ → ia, zero_mul → ii
open _root_.Array renaming getElem?_eq_some_iff → Z1
open Decidable renaming not_not → Z5
open Go.Op renaming bytesLess → Z8, equalIn → gi, eqFields → iz
open UInt8 renaming ofNat → af, toNat_ofNat' → ck
open _root_.Bool renaming and_eq_true → ag
open _root_.Int renaming toNat_natCast → ak, eq_ofNat_of_zero_le → az, le_refl → fx, natCast_nonneg → fy
open _root_.Option renaming map_some → dp, some → dx
open Prod renaming ext → fm
def mrO(g z:Nat):Nat→Nat:=fun k=>if k=g then 6 else if k<z then 4 else 0
theorem RP{g z:Nat}:mrO g z g=6:=ZP rfl
theorem Mf{g z k:Nat}(h:k≠g)(hk:k<z):mrO g z k=4:=by unfold mrO;rw[ZO h,ZP hk]
theorem OK{g z k:Nat}(hg:g<z)(hk:z≤k):mrO g z k=0:=by unfold mrO;rw[ZO (by omega),ZO (by omega)]
theorem Me{g z k:Nat}(h:LbR (mrO g z) k):k=g:=by
 have h:mrO g z k=5∨mrO g z k=6:=h;unfold mrO at h
 split at h
 ·assumption
 ·split at h<;>omega
theorem Fc(g:Nat)(im:By)(F:Nat→Int)(P ids:List Int)(hb:im.length≤1073741824)(ow:Nat→Nat)(s:MSt)(ref kind:Int)(W:World)(hM:MrV ow W.heap g im F P ids s)(hn:∀ k,W.heap.size≤k→ow k=0)(hp:PlM s)(hr:0≤ref∧ref≤4294967295) :
 CA 92 [pT g,iV ref,iV kind,iV 0] W (NO ow W g im F P ids (goM im F ids 17 ref kind s)):=
 Cg g im F P ids hb 17 (by omega) ow s ref kind W hM hn hp hr
def ImR(H:Array Obj)(g:Nat)(x:Img):Prop:=∃ ow n,MrV ow H g x.im x.F x.places x.ids (x.recs,n)∧PlM (x.recs,n)∧gD x.F∧x.im.length≤1048576∧Gb x∧∀ k,H.size≤k→ow k=0
theorem ImR.ZM{w w':World}{g:Nat}{x:Img}(h:ImR w.heap g x)(f:aA nob w w'):ImR w'.heap g x:=by
 obtain⟨ow,n,h1,h2,h3,h4,h5,h6⟩:=h;exact⟨ow,n,h1.ZM f,h2,h3,h4,h5,fun k hk=>h6 k (aj f.size hk)⟩
def We(W:World)(im:By)(v:Value)(w':World):Prop:=aA nob W w'∧((v=.tuple #[.pointer none,iV 2]∧mnt im=none)∨∃ (x:Img) (g:Nat),v=.tuple #[pT g,iV 0]∧mnt im=some x∧x.im=im∧W.heap.size≤g∧ImR w'.heap g x)
theorem BU(io:Option Addr)(ic:Nat)(im:By)(W:World)(hv:Vw b8 W.heap io ic im)(hb:im.length≤1073741824) :
 CA 50 [.slice io im.length ic] W (We W im):=by
 obtain⟨T,hT⟩:∃ T,T=aJ im:=⟨_,rfl⟩
 refine cS 139 [(0,_)] Tryz.func50 ?_;refine Gz 9 ?_;refine Wh Vq rfl (Jg io ic im W hv (by omega)) rfl ?_;rw[←hT];rintro _ w1 ⟨rfl,hf1⟩;refine Gz 3 ?_;refine Wn nD rfl ?_;intro w2 hg2 hs2 hf2;obtain⟨b,eb⟩:∃ b,b=w1.heap.size:=⟨_,rfl⟩
 rw[←eb] at hg2 ⊢;refine sA rfl cH (by exact dH _) hg2 ?_;intro w3 hg3 hs3 hf3;have hF3:aA nob W w3:=(hf1.trans hf2).ZJ hf3 (fun k hk=>.inr (by have h:k=b:=hk;have:=hf1.size;omega));have hz3:=hF3.size;refine fK 7 ?_ ?_<;>intro h18
 ·have hno:mnt im=none:=Dl (by rw[←hT];exact h18);refine Gz 12 ?_;exact⟨_,rfl,hF3,.inl ⟨rfl,hno⟩⟩
 have hok:gE im:=ZY fun h=>h18 (by rw[hT];show (aJ im).2≠0;unfold aJ;rw[ZO h];decide);have eT:aJ im=(suF im,0):=ZP hok;obtain⟨F,hFF⟩:∃ F,F=suF im:=⟨_,rfl⟩
 rw[←hFF] at eT;have eT1:T.1=F:=by rw[hT,eT]
 rw[eT1] at hg3;obtain⟨q64,qm,_,q0⟩:=hok;rw[←hFF] at qm q0;have hlb0:=hv.lt (fun e=>by rw[e] at q64;exact absurd q64 (by decide));have qm2:=qm;obtain⟨⟨s1,s2,s3,s4,s5,s6,s7⟩,u1,u2,u3,u4,u5,u6,u7,u8⟩:=qm2;refine Gz 8 ?_;refine cL (Ws (cs:=bW F) cH rfl (aQ hg3 0 rfl)) ?_;refine Gz 5 ?_;refine cL (bU (rrC io im.length ic (F 2) (F 3)) Aj DL) ?_;refine Gz 5 ?_;refine cL (bU (rrC io im.length ic (F 3) (F 4)) Aj DL) ?_;refine Gz 5 ?_;refine cL (bU (rrC io im.length ic (F 6) (F 0)) Aj DL) ?_;refine cL (bU (miC io im.length ic F sN sN sN 0) QJ Ru) ?_;refine WO rfl rfl ?_;intro w4 hg4 hs4 hf4;obtain⟨g,eg⟩:∃ g,g=w3.heap.size:=⟨_,rfl⟩
 have hg4:w4.heap[w3.heap.size]?=some (.cells (miC io im.length ic F sN sN sN 0).toArray 134 (0,0)):=hg4;rw[←eg] at hg4 ⊢;have hb4:=hf4.obj hg3 id;have hF4:=hF3.trans hf4;have hbg:b≠g:=by omega
 refine Gz 10 ?_;refine cL (bU (rrC io im.length ic (F 4) (F 5)) Aj DL) ?_;refine WO rfl rfl ?_;intro w5 hg5 hs5 hf5;obtain⟨r,er⟩:∃ r,r=w4.heap.size:=⟨_,rfl⟩
 rw[←er] at hg5 ⊢;have hb5:=hf5.obj hb4 id;refine Gz 2 ?_;refine Wh RX rfl (BR r io ic im (F 4) (F 5) (F 8) 4 w5 ⟨hg5,hv.ZM (hF4.trans hf5)⟩ hb (by omega)) rfl ?_;rintro _ w6 ⟨po,pc,rfl,hpo,hpf,hf6⟩;have hf46:=hf5.trans hf6;have hF6:=hF4.trans hf46;have hz6:=hf46.size;have hlP:=hpo.lt;refine fK 11 ?_ ?_<;>intro h55
 ·have hno:mnt im=none:=uP eT (fun h=>h55 h.1);refine Gz 12 ?_;exact⟨_,rfl,hF6,.inl ⟨rfl,hno⟩⟩
 have eP:(mtP im F).2=0:=Z5.1 h55;refine Gz 11 ?_;refine Wl mU rfl rfl rfl (hf46.obj hg4 id) rfl ?_;intro w7 hg7 hs7 hf7;have hg7:w7.heap[g]?=some (.cells (miC io im.length ic F (.slice po (mtP im F).1.length pc) sN sN 0).toArray 134 (0,0)):=hg7;have hb7:=hf7.obj (hf46.obj hb4 id) hbg;have hF7:aA nob W w7:=hF6.tw hf7;have hpo7:Own i64 3 w7.heap po pc (mtP im F).1:=hpo.ZN hf7 (fun a ha e=>by have:=hpf a ha;have e:a.block=g:=e;omega);refine Gz 9 ?_;refine cL (bU (rrC io im.length ic (F 5) (F 6)) Aj DL) ?_;refine WO rfl rfl ?_;intro w8 hg8 hs8 hf8;obtain⟨r2,er2⟩:∃ r,r=w7.heap.size:=⟨_,rfl⟩
 rw[←er2] at hg8 ⊢;have hb8:=hf8.obj hb7 id;refine Gz 2 ?_;refine Wh RX rfl (BR r2 io ic im (F 5) (F 6) (F 7) 2 w8 ⟨hg8,hv.ZM (hF7.trans hf8)⟩ hb (by omega)) rfl ?_;rintro _ w9 ⟨io2,ic2,rfl,hio,hif,hf9⟩;have hf79:=hf8.trans hf9;have hF9:=hF7.trans hf79;have hz9:=hf79.size;have hlI:=hio.lt;refine fK 11 ?_ ?_<;>intro h74
 ·have hno:mnt im=none:=uP eT (fun h=>h74 h.2.1);refine Gz 12 ?_;exact⟨_,rfl,hF9,.inl ⟨rfl,hno⟩⟩
 have eI:(mtI im F).2=0:=Z5.1 h74;refine Gz 11 ?_;refine Wl mU rfl rfl rfl (hf79.obj hg7 id) rfl ?_;intro w10 hg10 hs10 hf10;have hg10:w10.heap[g]?=some (.cells (miC io im.length ic F (.slice po (mtP im F).1.length pc) (.slice io2 (mtI im F).1.length ic2) sN 0).toArray 134 (0,0)):=hg10;have hb10:=hf10.obj (hf79.obj hb7 id) hbg;have hF10:aA nob W w10:=hF9.tw hf10;have hpo10:=(hpo7.ZM hf79).ZN hf10 (fun a ha e=>by have:=hpf a ha;have e:a.block=g:=e;omega);have hio10:Own i64 3 w10.heap io2 ic2 (mtI im F).1:=hio.ZN hf10 (fun a ha e=>by have:=hif a ha;have e:a.block=g:=e;omega);have hvi:=hio10.vw;have h63:=hvi.ZL;refine Gz 9 ?_;refine Wp (β:=Nat) (fun k=>[(4,pT b),(6,pT g),(8,.slice io2 (mtI im F).1.length ic2),(9,iV k)]) (fun k w=>1≤k∧(k≤(mtI im F).1.length∨k=1)∧(∀ i,i+1<k→(mtI im F).1.getD i 0<(mtI im F).1.getD (i+1) 0)∧aA nob w10 w) (fun k=>(mtI im F).1.length-k) 1 ⟨rfl,rfl,rfl,rfl,trivial⟩ ⟨Z0 _,.inr rfl,fun i hi=>by omega,Zn _ _⟩ ?_;rintro k w11 ⟨hk1,hkn,hris,hF11⟩;refine fK 6 ?_ ?_<;>intro h82
 ·have hkl:k<(mtI im F).1.length:=by have h:(k:Int)<(((mtI im F).1.length:Nat):Int):=h82;omega
  obtain⟨k1,rfl⟩:∃ k1,k=k1+1:=⟨k-1,by omega⟩
  have hv12:=hvi.ZM hF11;refine Gz 8 ?_;refine Ww 10 [0,1,2,3,4,5,6,7,8,9] aK (by kernel_rfl) ?_;refine Gz 2 ?_;refine xC rfl (Wm (u:=iV (k1:Int)) (XH rfl rfl (by omega)) (by congr 1;omega)) ?_;refine xC rfl (Wi bP rfl rfl hv12.non (by omega)) ?_;refine xC rfl (Wk aF rfl (hv12.gz 0 k1 rfl (by omega))) ?_;refine Gz 2 ?_;refine xC rfl (Wi bP rfl rfl hv12.non (by omega)) ?_;refine xC rfl (Wk aF rfl (hv12.gz 0 (k1+1) rfl (by omega))) ?_;refine xK 0 ?_ ?_<;>intro h94
  ·have hno:mnt im=none:=uP eT (fun h=>by have:=h.2.2 k1 hkl;omega);refine Gz 16 ?_;exact⟨_,rfl,(hF10.trans hF11).draws 1,.inl ⟨rfl,hno⟩⟩
  refine Gz 11 ?_;refine aG (k1+1+1) ⟨by omega,.inl (by omega),fun i hi=>?_,hF11.draws 1⟩ (by show (mtI im F).1.length-(k1+1+1)<(mtI im F).1.length-(k1+1);omega);by_cases e:i=k1
  ·subst e;omega
  ·exact hris i (by omega)
 have hkl:(mtI im F).1.length≤k:=by have h:¬ (k:Int)<(((mtI im F).1.length:Nat):Int):=h82;omega
 have hrise:kW (mtI im F).1:=fun i hi=>hris i (by omega);have hgo:=GW eT ⟨eP,eI,hrise⟩;have hF11w:=hF10.trans hF11;have hz11:=hF11.size;have hg11:=hF11.obj hg10 id;have hb11:=hF11.obj hb10 id;have hM11:MrV (mrO g w11.heap.size) w11.heap g im F (mtP im F).1 (mtI im F).1 ([],0):=by
  refine⟨io,ic,po,pc,io2,ic2,none,0,[],hg11,⟨hv.ZM hF11w,fun k ⟨a,ha,e⟩=>Mf (by have:=hlb0 a ha;omega) (by have:=hlb0 a ha;omega)⟩,⟨(hpo10.ZM hF11).vw,fun k ⟨a,ha,e⟩=>Mf (by have:=hpf a ha;omega) (by have:=hlP a ha;omega)⟩,⟨(hio10.ZM hF11).vw,fun k ⟨a,ha,e⟩=>Mf (by have:=hif a ha;omega) (by have:=hlI a ha;omega)⟩,.inl ⟨rfl,rfl,rfl⟩,(fun k ⟨a,ha,_⟩=>by cases ha),rfl,fun q hq=>by simp at hq,RP⟩
 refine Gz 13 ?_;refine Wh RW rfl (Fc g im F _ _ hb (mrO g w11.heap.size) ([],0) (F 9) 1 w11 hM11 (fun k hk=>OK (by omega) hk) ⟨by decide,by simp,by simp,by decide⟩ ⟨by omega,by omega⟩) rfl ?_;rintro _ w12 ⟨hF12,bb,rfl,hW12⟩;have hb12:=hF12.obj hb11 (fun h=>hbg (Me h));have hFw:aA nob W w12:=hF11w.ZJ hF12 (fun k h=>.inr (by have:=Me h;have:=hF3.size;omega));refine Gz 5 ?_;refine Ww 12 [0,1,2,3,4,5,6,7,8,9,10,11] aK (by kernel_rfl) ?_;refine Gz 1 ?_;refine X3 rfl rfl (WX rfl) rfl (fun h100=>?_) (fun h100=>?_)
 ·have hno:mnt im=none:=by
   rw[hgo];have h:=(hW12.resolve_right (fun⟨s9,ow9,h,_⟩=>by rw[h100] at h;cases h)).2;rw[h]
  refine Gz 22 ?_;exact⟨_,rfl,hFw.draws 1,.inl ⟨rfl,hno⟩⟩
 obtain⟨sf,owf,_,hgs,hMf,_,hnf,hpf2⟩:=hW12.resolve_left (fun h=>h100 h.1);rw[hgs] at hgo;have hMf2:=hMf;obtain⟨bo2,bc2,po2,pc2,io3,ic3,lo,lc,qs,hgf,_,_,_,hoq,_,hqq,hqs,_⟩:=hMf2;have hql:qs.length=sf.1.length:=by rw[←hqq,aa]
 have hgo2:mnt im=if (sf.1.length:Int)≠F 1∨¬ (∀ r∈sf.1,r.2=r.1.ino.1 4) then none else some ⟨im,F,(mtP im F).1,(mtI im F).1,sf.1⟩:=hgo
 have hvq:=hoq.vw eJ;refine Gz 4 ?_;refine xV rfl (Wk oZ rfl (aB hgf rfl)) ?_;refine Gz 2 ?_;refine xV rfl (Wk aF rfl (aB hb12 rfl)) ?_;refine xW 0 ?_ ?_<;>intro h109
 ·have hno:mnt im=none:=by
   rw[hgo2,ZP (.inl (by rw[←hql];exact h109))]
  refine Gz 13 ?_;exact⟨_,rfl,hFw.draws 1,.inl ⟨rfl,hno⟩⟩
 have hcnt:(sf.1.length:Int)=F 1:=by rw[←hql];exact Z5.1 h109
 refine Gz 13 ?_;refine Wp (β:=Nat) (fun k=>[(6,pT g),(11,iV k)]) (fun k w=>k≤qs.length∧(∀ (j:Nat) (x:Rec×Int),j<k→sf.1[j]?=some x→x.2=x.1.ino.1 4)∧aA nob w12 w) (fun k=>qs.length-k) 0 ⟨rfl,rfl,trivial⟩ ⟨ZZ _,fun j x hj=>by omega,Zo 1⟩ ?_;rintro k w13 ⟨hk,hsn,hF13⟩;have hgf2:=hF13.obj hgf id;refine fK 9 ?_ ?_<;>intro h117
 ·have hkl:k<qs.length:=by have h:(k:Int)<((qs.length:Nat):Int):=h117;omega
  obtain⟨q,hqk⟩:∃ q,qs[k]?=some q:=⟨_,ZQ hkl⟩
  have hrk:sf.1[k]?=some q.1:=by rw[←hqq,ax,hqk];rfl
  have hv13:=hvq.ZM hF13;refine Gz 8 ?_;refine Ww 18 [0,1,2,3,4,5,6,7,8,9,10,11,12,13,14,15,16,17] aK (by kernel_rfl) ?_;refine Gz 3 ?_;refine xC rfl (Wk oZ rfl (aB hgf2 rfl)) ?_;refine Gz 1 ?_;refine xC rfl (Wj qF rfl rfl hv13.non (by omega)) ?_;refine Gz 1 ?_;refine xC rfl (Wk aF rfl (hv13.rowZ k rfl hqk 1 _ rfl)) ?_;refine Gz 3 ?_;refine xC rfl (Wk oZ rfl (aB hgf2 rfl)) ?_;refine Gz 1 ?_;refine xC rfl (Wj qF rfl rfl hv13.non (by omega)) ?_;refine Gz 2 ?_;refine xC rfl (Wk aF rfl (hv13.rowZ k rfl hqk 6 _ rfl)) ?_;refine xK 0 ?_ ?_<;>intro h137
  ·have hno:mnt im=none:=by
    rw[hgo2,ZP (.inr (fun h=>h137 (h q.1 (ZW hrk))))]
   refine Gz 16 ?_;exact⟨_,rfl,(hFw.trans hF13).draws 1,.inl ⟨rfl,hno⟩⟩
  have hqe:q.1.2=q.1.1.ino.1 4:=Z5.1 h137;refine Gz 11 ?_;refine aG (k+1) ⟨by omega,fun j x hj hx=>?_,hF13.draws 1⟩ (by show qs.length-(k+1)<qs.length-k;omega);by_cases e:j=k
  ·subst e;rw[hrk] at hx;cases hx;exact hqe
  ·exact hsn j x (by omega) hx
 refine Gz 17 ?_;have hall:∀ r∈sf.1,r.2=r.1.ino.1 4:=fun x hx=>by
  obtain⟨j,hj⟩:=ab hx;exact hsn j x (by have:=(ZS.1 hj).1;omega) hj
 have hms:mnt im=some ⟨im,F,(mtP im F).1,(mtI im F).1,sf.1⟩:=by rw[hgo2,ZO (by rintro(h|h);exact h hcnt;exact h hall)]
 exact⟨_,rfl,hFw.trans hF13,.inr ⟨_,g,rfl,hms,rfl,by omega,owf,sf.2,hMf.ZM hF13,hpf2,qm,by show im.length≤1048576;omega,(Mk hms).1,fun k hk=>hnf k (aj hF13.size hk)⟩⟩
abbrev q0T:QT:=((qN,0),hd0,hd0)
def KnR(W:World)(x:Img)(ref:Int)(v:Value)(w':World):Prop:=aA nob W w'∧∃ (q:QT) (e:Int),v=.tuple #[.agg (eO q).toArray,iV e]∧((knM x ref=none∧q=q0T∧e=1)∨(knM x ref=some q.1.1∧e=0∧(∃ E,QV E w'.heap q)∧vQ x.im x.F x.ids q.1.1))
theorem mE(g:Nat)(x:Img)(ref:Int)(W:World)(hx:ImR W.heap g x) :
 CA 129 [pT g,iV ref] W (KnR W x ref):=by
 obtain⟨ow,n,hM,hp,hmq,hl8,hio,hnw⟩:=hx;have hM2:=hM;obtain⟨bo,bc,po,pc,io,ic,lo,lc,qs,hg,_,_,_,ho,hl,hq,hqs,o1⟩:=hM2;obtain⟨z,ez⟩:∃ z,z=W.heap.size:=⟨_,rfl⟩
 refine cS 20 [(0,_),(1,_)] Tryz.func129 ?_;refine Gz 2 ?_;refine Wn pL rfl ?_;intro w1 hg1 hs1 hf1;have hg1:w1.heap[W.heap.size]?=some (.cells (eO q0T).toArray 137 (0,0)):=hg1;rw[←ez] at hg1 ⊢;have hv1:=(ho.ZM hf1).vw eJ;refine cA 7 Qc (H7 ow g x.im x.F x.places x.ids (x.recs,n) ref w1 (hM.ZM hf1)) ?_;rintro _ w2 ⟨rfl,hw⟩;subst w2;refine fK 7 ?_ ?_<;>intro h11
 ·have hkn:knM x ref=none:=by unfold knM;rw[show fL x.recs ref=none from F6 (by have h:atZ x.recs ref<0:=h11;omega)];rfl
  refine Gz 5 ?_;refine cL (bU (eO q0T) LS pL) ?_;refine sA rfl aM (by exact bL _) hg1 ?_;intro w9 hg9 hs9 hf9;have hFw:aA nob W w9:=hf1.tw hf9;refine Gz 5 ?_;refine rC hg9 aM ?_;exact⟨_,rfl,hFw,_,_,rfl,.inl ⟨hkn,rfl,rfl⟩⟩
 obtain⟨i,hi,hat⟩:=F5 (l:=x.recs) (ref:=ref) (by have h:¬ atZ x.recs ref<0:=h11;omega);obtain⟨r,hri,hrr⟩:=qX hi;have hil:=(ZS.1 hri).1;have hql:qs.length=x.recs.length:=by have hq:qs.map (·.1)=x.recs:=hq;rw[←hq,aa]
 obtain⟨q,hqi⟩:∃ q,qs[i]?=some q:=⟨_,ZQ (by omega)⟩
 have hqr:q.1=r:=by have h:x.recs[i]?=some r:=hri;have hq:qs.map (·.1)=x.recs:=hq;rw[←hq,ax,hqi] at h;exact dx.inj h
 have hkn:knM x ref=some q.1.1:=by unfold knM;rw[hi,dp,Z2,hri,hqr];rfl
 have hok:=hio.1 r (ZW hri);rw[←hqr] at hok;have hqv:=(hqs q (ZW hqi)).ZN hf1 (fun _ _=>id);rw[hat];refine Gz 10 ?_;refine cL (Wk oZ rfl (aB (hf1.obj hg id) rfl)) ?_;refine Gz 1 ?_;refine cL (Wj qF rfl rfl hv1.non (by omega)) ?_;refine cL (Ws (cs:=eO q) aM rfl (fun a v ha=>hv1.rowZ i rfl hqi a v ha)) ?_;refine sA rfl aM (by exact bL _) hg1 ?_;intro w9 hg9 hs9 hf9;have hFw:aA nob W w9:=hf1.tw hf9;have hqv9:QV (fun k=>k<z∧ow k=4) w9.heap q:=(hqv.mono (E':=fun k=>k<z∧ow k=4) (fun k hk=>⟨ZY fun hc=>by have:=hnw k (by omega);omega,hk⟩)).ZN hf9 (fun k hk e=>by have e:k=z:=e;omega);refine Gz 4 ?_;refine rC hg9 aM ?_;exact⟨_,rfl,hFw,_,_,rfl,.inr ⟨hkn,rfl,⟨_,hqv9⟩,hok⟩⟩
theorem Ch(g:Nat)(x:Img)(ref:Int)(W:World)(hx:ImR W.heap g x) :
 CA 94 [pT g,iV ref] W fun v w'=>∃ o c,v=.tuple #[.slice o (fE x ref).1.length c,iV (fE x ref).2]∧VwM 3 bH w'.heap o c (fE x ref).1∧aA nob W w':=by
 refine cS 23 [(0,_),(1,_)] Tryz.func94 ?_;refine cA 10 FE (mE g x ref W hx) ?_;rintro _ w1 ⟨hf1,q,e,rfl,hk⟩;refine Gz 3 ?_;refine Wn pL rfl ?_;intro w2 hg2 hs2 hf2;obtain⟨y,ey⟩:∃ y,y=w1.heap.size:=⟨_,rfl⟩
 rw[←ey] at hg2 ⊢;refine sA rfl aM (by exact bL _) hg2 ?_;intro w3 hg3 hs3 hf3;have hf13:aA nob w1 w3:=hf2.tw hf3;have hF3:aA nob W w3:=hf1.trans hf13;refine fK 7 ?_ ?_<;>intro h15
 ·obtain⟨hkn,rfl,rfl⟩:=hk.resolve_right (fun h=>h15 h.2.1);have hli:fE x ref=([],1):=by unfold fE;rw[hkn]
  refine Gz 13 ?_;rw[hli];exact⟨_,rfl,none,0,rfl,Zx 0 (ZZ _),hF3⟩
 obtain⟨hkn,rfl,⟨E,hqv⟩,hrok⟩:=hk.resolve_left (fun h=>by have h:=h.2.2;omega);have hql:=hqv.1.1;have hqv3:=hqv.1.2.1.ZM hf13;refine Gz 10 ?_;refine cL (Wk aF rfl (aB (i:=2) hg3 rfl)) ?_;refine fK 0 ?_ ?_<;>intro h20
 ·have hli:fE x ref=([],24):=by unfold fE;rw[hkn];exact ZP h20
  refine Gz 12 ?_;rw[hli];exact⟨_,rfl,none,0,rfl,Zx 0 (ZZ _),hF3⟩
 have hli:fE x ref=(q.1.1.list,0):=by unfold fE;rw[hkn];exact ZO h20
 refine Gz 15 ?_;rw[hli];exact⟨_,rfl,q.2.1.a,q.2.1.c,by rw[←hql];rfl,hqv3,hF3⟩
theorem Mb(g:Nat)(x:Img)(ref:Int)(W:World)(hx:ImR W.heap g x) :
 CA 95 [pT g,iV ref] W fun v w'=>v=.tuple #[.string (bs (sB x ref).1),iV (sB x ref).2]∧aA nob W w':=by
 refine cS 25 [(0,_),(1,_)] Tryz.func95 ?_;refine cA 10 FE (mE g x ref W hx) ?_;rintro _ w1 ⟨hf1,q,e,rfl,hk⟩;refine Gz 3 ?_;refine Wn pL rfl ?_;intro w2 hg2 hs2 hf2;obtain⟨y,ey⟩:∃ y,y=w1.heap.size:=⟨_,rfl⟩
 rw[←ey] at hg2 ⊢;refine sA rfl aM (by exact bL _) hg2 ?_;intro w3 hg3 hs3 hf3;have hf13:aA nob w1 w3:=hf2.tw hf3;have hF3:aA nob W w3:=hf1.trans hf13;refine fK 7 ?_ ?_<;>intro h15
 ·obtain⟨hkn,rfl,rfl⟩:=hk.resolve_right (fun h=>h15 h.2.1);have hli:sB x ref=([],1):=by unfold sB;rw[hkn]
  refine Gz 18 ?_;rw[hli];exact⟨_,rfl,rfl,hF3⟩
 obtain⟨hkn,rfl,⟨E,hqv⟩,hrok⟩:=hk.resolve_left (fun h=>by have h:=h.2.2;omega);refine Gz 3 ?_;refine cW (Wk aF rfl (aB (i:=2) hg3 rfl)) ?_;refine fW 0 ?_ ?_<;>intro h20
 ·have hli:sB x ref=([],1):=by unfold sB;rw[hkn];exact ZP h20
  refine Gz 13 ?_;rw[hli];exact⟨_,rfl,rfl,hF3⟩
 have hli:sB x ref=(q.1.1.ino.2,0):=by unfold sB;rw[hkn];exact ZO h20
 refine Gz 10 ?_;refine cL (Wk gH rfl (aB (i:=12) hg3 rfl)) ?_;refine Gz 6 ?_;rw[hli];exact⟨_,rfl,rfl,hF3⟩
theorem Ma(g:Nat)(x:Img)(ref:Int)(W:World)(hx:ImR W.heap g x) :
 CA 96 [pT g,iV ref] W fun v w'=>∃ o c,v=.tuple #[.slice o (pS x ref).1.length c,iV (pS x ref).2]∧(∃ E,XsV E w'.heap ⟨o,(pS x ref).1.length,c⟩ (pS x ref).1)∧aA nob W w':=by
 refine cS 17 [(0,_),(1,_)] Tryz.func96 ?_;refine cA 10 FE (mE g x ref W hx) ?_;rintro _ w1 ⟨hf1,q,e,rfl,hk⟩;refine Gz 3 ?_;refine Wn pL rfl ?_;intro w2 hg2 hs2 hf2;obtain⟨y,ey⟩:∃ y,y=w1.heap.size:=⟨_,rfl⟩
 rw[←ey] at hg2 ⊢;refine sA rfl aM (by exact bL _) hg2 ?_;intro w3 hg3 hs3 hf3;have hf13:aA nob w1 w3:=hf2.tw hf3;have hF3:aA nob W w3:=hf1.trans hf13;refine Gz 14 ?_;rcases hk with⟨hkn,rfl,rfl⟩|⟨hkn,rfl,⟨E,hqv⟩,hrok⟩
 · have hli:pS x ref=([],1):=by unfold pS;rw[hkn]
   rw[hli];exact⟨_,rfl,none,0,rfl,⟨fun _=>True,XsV.zero⟩,hF3⟩
 · have hli:pS x ref=(q.1.1.xs,0):=by unfold pS;rw[hkn]
   rw[hli];obtain⟨⟨ref0,nm⟩,hl,⟨xa,xn,xc⟩⟩:=q;have hql:=hqv.2.1;have hql:xn=ref0.xs.length:=hql;subst hql;exact⟨_,rfl,xa,xc,rfl,⟨E,hqv.2.ZN hf13 (fun _ _=>id)⟩,hF3⟩
theorem JU(g:Nat)(x:Img)(ref:Int)(s:By)(W:World)(hx:ImR W.heap g x) :
 CA 99 [pT g,iV ref,.string (bs s)] W fun v w'=>v=.tuple #[.agg (bH (nA x ref s).1).toArray,iV (nA x ref s).2]∧aA nob W w':=by
 obtain⟨z,ez⟩:∃ z,z=W.heap.size:=⟨_,rfl⟩
 obtain⟨L,hL⟩:∃ L,L=fE x ref:=⟨_,rfl⟩
 refine cS 25 [(0,_),(1,_),(2,_)] Tryz.func99 ?_;refine Gz 2 ?_;refine Wn pR rfl ?_;intro w1 hg1 hs1 hf1;have hg1:w1.heap[W.heap.size]?=some (.cells (bH lJ).toArray 39 (0,0)):=hg1;rw[←ez] at hg1 ⊢;refine cA 7 RV (Ch g x ref w1 (hx.ZM hf1)) ?_;rw[←hL];rintro _ w2 ⟨o,c,rfl,ho,hf2⟩;have hg2:=hf2.obj hg1 id;have hF2:=hf1.trans hf2;refine fK 11 ?_ ?_<;>intro h17
 ·have hlk:nA x ref s=(lJ,L.2):=by unfold nA;rw[←hL];exact ZP h17
  refine Gz 5 ?_;refine cL (bU (bH lJ) Ah pR) ?_;refine Gz 1 ?_;refine sA rfl eA (by exact fT _) hg2 ?_;intro w9 hg9 hs9 hf9;have hFw:aA nob W w9:=hF2.tw hf9;refine Gz 5 ?_;refine rC hg9 eA ?_;exact⟨_,rfl,by rw[hlk],hFw⟩
 have hlk:nA x ref s=oF L.1 s:=by unfold nA;rw[←hL];exact ZO h17
 refine cA 9 SW (Jv o c L.1 s w2 ho) ?_;rintro _ w3 ⟨rfl,hf3⟩;have hg3:=hf3.obj hg2 id;have hF3:=hF2.trans hf3;refine Gz 2 ?_;refine sA rfl eA (by exact fT _) hg3 ?_;intro w9 hg9 hs9 hf9;have hFw:aA nob W w9:=hF3.tw hf9;refine Gz 4 ?_;refine rC hg9 eA ?_;exact⟨_,rfl,by rw[hlk],hFw⟩
theorem ImR.ids{H:Array Obj}{g:Nat}{x:Img}(h:ImR H g x):∃ (bo po io:Option Addr) (bc pc ic n:Nat) (lv:Value),H[g]?=some (.cells (miC bo x.im.length bc x.F (.slice po x.places.length pc) (.slice io x.ids.length ic) lv n).toArray 134 (0,0))∧Vw b8 H bo bc x.im∧Vw i64 H po pc x.places∧Vw i64 H io ic x.ids∧gD x.F∧x.im.length≤1048576∧Gb x:=by
 obtain⟨ow,n,hM,hp,hmq,hl8,hio,hnw⟩:=h;obtain⟨bo,bc,po,pc,io,ic,lo,lc,qs,hg,⟨v1,_⟩,⟨v2,_⟩,⟨v3,_⟩,_⟩:=hM;exact⟨bo,po,io,bc,pc,ic,n,_,hg,v1,v2,v3,hmq,hl8,hio⟩
theorem JT(g:Nat)(x:Img)(ref:Int)(W:World)(hx:ImR W.heap g x) :
 CA 93 [pT g,iV ref] W fun v w'=>v=.tuple #[.agg (stC (mT x ref).1).toArray,iV (mT x ref).2]∧aA nob W w':=by
 obtain⟨z,ez⟩:∃ z,z=W.heap.size:=⟨_,rfl⟩
 refine cS 71 [(0,_),(1,_)] Tryz.func93 ?_;refine Gz 2 ?_;refine Wn Bi rfl ?_;intro w0 hg0 hs0 hf0;have hg0:w0.heap[W.heap.size]?=some (.cells (stC [0,0,0,0,0,0]).toArray 45 (0,0)):=hg0;rw[←ez] at hg0 ⊢;have hx0:=hx.ZM hf0;refine cA 7 FE (mE g x ref w0 hx0) ?_;rintro _ w1 ⟨hf1,q,e,rfl,hk⟩;refine Gz 3 ?_;refine Wn pL rfl ?_;intro w2 hg2 hs2 hf2;obtain⟨y,ey⟩:∃ y,y=w1.heap.size:=⟨_,rfl⟩
 rw[←ey] at hg2 ⊢;have hz01:=hf1.size;refine sA rfl aM (by exact bL _) hg2 ?_;intro w3 hg3 hs3 hf3;have hf13:aA nob w1 w3:=hf2.tw hf3;have hf03:=hf1.trans hf13;have hF3:aA nob W w3:=hf0.trans hf03;have hz3:=hf03.obj hg0 id;refine fK 7 ?_ ?_<;>intro h16
 ·obtain⟨hkn,rfl,rfl⟩:=hk.resolve_right (fun h=>h16 h.2.1);have hst:mT x ref=([0,0,0,0,0,0],1):=by unfold mT;rw[hkn]
  refine Gz 5 ?_;refine cL (bU (stC [0,0,0,0,0,0]) H1 Bi) ?_;refine Gz 1 ?_;refine sA rfl eM (by exact iL _) hz3 ?_;intro w9 hg9 hs9 hf9;have hFw:aA nob W w9:=hF3.tw hf9;refine Gz 5 ?_;refine rC hg9 eM ?_;exact⟨_,rfl,by rw[hst],hFw⟩
 obtain⟨hkn,rfl,⟨E,hqv⟩,hrok⟩:=hk.resolve_left (fun h=>by have h:=h.2.2;omega);have hst:mT x ref=(stM x q.1.1,0):=by unfold mT;rw[hkn]
 have hql:=hqv.1.1;obtain⟨hmay,hu1,hu2,_⟩:=hrok;have hma:=hmay.1;unfold bG at hma;obtain⟨bo,po,io,bc,pc,ic,n,lv,hgc,v1,v2,v3,hmq,hl8,hio⟩:=(hx0.ZM hf03).ids;refine Gz 6 ?_;refine Wv 31 (fun H=>H[y]?=some (.cells (eO q).toArray 137 (0,0))∧H[g]?=some (.cells (miC bo x.im.length bc x.F (.slice po x.places.length pc) (.slice io x.ids.length ic) lv n).toArray 134 (0,0))∧Vw i64 H io ic x.ids) [29,30] [0,1,2,3,4,5,6,7,8,9,10,11,12,13,14,15,16,17,18,19,20,21,22,23,24,25,26,27,28,29,30] aK (by kernel_rfl) (⟨hg3,hgc,v3⟩) ?_;refine Gz 2 ?_;refine xC rfl (Wt aF rfl (fun H hH=>aB (i:=2) hH.1 rfl)) ?_;refine Gz 2 ?_;refine xC rfl (Wt aF rfl (fun H hH=>aB (i:=3) hH.1 rfl)) ?_;refine Gz 6 ?_;refine xC rfl (Wt aF rfl (fun H hH=>aB (i:=4) hH.1 rfl)) ?_;refine xC rfl (Wi bP rfl rfl v3.non (by omega)) ?_;refine xC rfl (Wt aF rfl (fun H hH=>hH.2.2.gz 0 (q.1.1.ino.1 2).toNat (by omega) (by omega))) ?_;refine Gz 6 ?_;refine xC rfl (Wt aF rfl (fun H hH=>aB (i:=5) hH.1 rfl)) ?_;refine xC rfl (Wi bP rfl rfl v3.non (by omega)) ?_;refine xC rfl (Wt aF rfl (fun H hH=>hH.2.2.gz 0 (q.1.1.ino.1 3).toNat (by omega) (by omega))) ?_;refine xC rfl (bU (stC [q.1.1.ino.1 1,x.ids.getD (q.1.1.ino.1 2).toNat 0,x.ids.getD (q.1.1.ino.1 3).toNat 0]) PM Qm) ?_;refine Gz 2 ?_;refine xC rfl (Wt aF rfl (fun H hH=>aB (i:=6) hH.1 rfl)) ?_;refine xC rfl (bU (stC [q.1.1.ino.1 0,q.1.1.ino.1 1,x.ids.getD (q.1.1.ino.1 2).toNat 0,x.ids.getD (q.1.1.ino.1 3).toNat 0,q.1.1.ino.1 4,0]) H1 Bi) ?_;refine Wo rfl rfl (Wn Bi rfl ?_);intro w4 hg4 hs4 hf4;have hf4:=hf4.ZK;refine Wu (by exact⟨hf4.obj hg3 id,hf4.obj hgc id,v3.ZM hf4⟩) ?_;refine Wo rfl rfl (WP (vs:=stC [q.1.1.ino.1 0,q.1.1.ino.1 1,x.ids.getD (q.1.1.ino.1 2).toNat 0,x.ids.getD (q.1.1.ino.1 3).toNat 0,q.1.1.ino.1 4,0]) eM rfl rfl (by exact iL _) hg4 rfl ?_);intro w5 hg5 hs5 hf5;obtain⟨p,ep⟩:∃ y,y=w3.heap.size:=⟨_,rfl⟩
 have hf5:aA (· = w3.heap.size) w4 w5:=hf5;have hg5:w5.heap[w3.heap.size]?=some (.cells (stC [q.1.1.ino.1 0,q.1.1.ino.1 1,x.ids.getD (q.1.1.ino.1 2).toNat 0,x.ids.getD (q.1.1.ino.1 3).toNat 0,q.1.1.ino.1 4,0]).toArray 45 (0,0)):=hg5;rw[show (w3.drewN 1).heap.size=p from ep.symm];rw[←ep] at hg5 hf5;have hf35:aA nob w3 w5:=hf4.tw hf5;refine Wu (by exact⟨hf35.obj hg3 id,hf35.obj hgc id,v3.ZM hf35⟩) ?_;have hy5:=hf35.obj hg3 id;have hz5:=hf35.obj hz3 id;have hzp:¬ z=p:=by omega
 have hF5:=hF3.trans hf35;refine Gz 7 ?_;refine cL (Wk aF rfl (aB (i:=2) hy5 rfl)) ?_;refine fK 5 ?_ ?_<;>intro h52
 ·have hsz:vY q.1.1=q.1.1.ino.1 7:=by unfold vY;rw[ZO (by omega),ZO (by omega)]
  refine Gz 7 ?_;refine cL (Wk aF rfl (aB (i:=9) hy5 rfl)) ?_;refine Gz 1 ?_;refine Wl aF rfl rfl rfl hg5 rfl ?_;intro w6 hg6 hs6 hf6;have hg6:w6.heap[p]?=some (.cells (stC (stM x q.1.1)).toArray 45 (0,0)):=by unfold stM;rw[hsz];exact hg6
  have hF6:aA nob W w6:=hF5.tw hf6;have hz6:=hf6.obj hz5 hzp;refine Gz 5 ?_;refine cL (Ws (cs:=stC (stM x q.1.1)) eM rfl (aQ hg6 0 rfl)) ?_;refine sA rfl eM (by exact iL _) hz6 ?_;intro w9 hg9 hs9 hf9;have hFw:aA nob W w9:=hF6.tw hf9;refine Gz 4 ?_;refine rC hg9 eM ?_;exact⟨_,rfl,by rw[hst],hFw⟩
 refine fK 6 ?_ ?_<;>intro h58
 ·have hsz:vY q.1.1=q.2.1.n:=by unfold vY;rw[ZP h58,hql]
  refine Gz 9 ?_;refine Wl aF rfl rfl rfl hg5 rfl ?_;intro w6 hg6 hs6 hf6;have hg6:w6.heap[p]?=some (.cells (stC (stM x q.1.1)).toArray 45 (0,0)):=by unfold stM;rw[hsz];exact hg6
  have hF6:aA nob W w6:=hF5.tw hf6;have hz6:=hf6.obj hz5 hzp;refine Gz 5 ?_;refine cL (Ws (cs:=stC (stM x q.1.1)) eM rfl (aQ hg6 0 rfl)) ?_;refine sA rfl eM (by exact iL _) hz6 ?_;intro w9 hg9 hs9 hf9;have hFw:aA nob W w9:=hF6.tw hf9;refine Gz 4 ?_;refine rC hg9 eM ?_;exact⟨_,rfl,by rw[hst],hFw⟩
 refine Gz 6 ?_;refine cL (Xo (Xn rfl rfl) (by omega)) ?_;have hsz:vY q.1.1=q.1.1.ino.2.length:=by unfold vY;rw[ZO h58,ZP (by omega)]
 refine Gz 7 ?_;refine cL (Wk gH rfl (aB (i:=12) hy5 rfl)) ?_;refine cL (WM ty9 rfl) ?_;refine Gz 1 ?_;refine Wl aF rfl rfl rfl hg5 rfl ?_;intro w6 hg6 hs6 hf6;have hg6:w6.heap[p]?=some (.cells (stC (stM x q.1.1)).toArray 45 (0,0)):=by unfold stM;rw[hsz];exact hg6
 have hF6:aA nob W w6:=hF5.tw hf6;have hz6:=hf6.obj hz5 hzp;refine Gz 5 ?_;refine cL (Ws (cs:=stC (stM x q.1.1)) eM rfl (aQ hg6 0 rfl)) ?_;refine sA rfl eM (by exact iL _) hz6 ?_;intro w9 hg9 hs9 hf9;have hFw:aA nob W w9:=hF6.tw hf9;refine Gz 4 ?_;refine rC hg9 eM ?_;exact⟨_,rfl,by rw[hst],hFw⟩
theorem JV(g:Nat)(x:Img)(ref off n:Int)(W:World)(hx:ImR W.heap g x)(hob : -9223372036854775808≤off∧off≤9223372036854775807)(hnb : -9223372036854775808≤n∧n≤9223372036854775807) :
 CA 100 [pT g,iV ref,iV off,iV n] W (xB W (jS x ref off n)):=by
 refine cS 122 [(0,_),(1,_),(2,_),(3,_)] Tryz.func100 ?_;refine cA 10 FE (mE g x ref W hx) ?_;rintro _ w1 ⟨hf1,q,e,rfl,hk⟩;refine Gz 3 ?_;refine Wn pL rfl ?_;intro w2 hg2 hs2 hf2;obtain⟨y,ey⟩:∃ y,y=w1.heap.size:=⟨_,rfl⟩
 rw[←ey] at hg2 ⊢;refine sA rfl aM (by exact bL _) hg2 ?_;intro w3 hg3 hs3 hf3;have hf13:aA nob w1 w3:=hf2.tw hf3;have hF3:aA nob W w3:=hf1.trans hf13;refine fK 7 ?_ ?_<;>intro h25
 ·obtain⟨hkn,rfl,rfl⟩:=hk.resolve_right (fun h=>h25 h.2.1);have hli:jS x ref off n=([],1):=by unfold jS;rw[hkn]
  refine Gz 13 ?_;rw[hli];exact⟨_,rfl,none,0,rfl,Zu,Zs,hF3⟩
 obtain⟨hkn,rfl,⟨E,hqv⟩,hrok⟩:=hk.resolve_left (fun h=>by have h:=h.2.2;omega);obtain⟨r,er⟩:∃ r,r=q.1.1:=⟨_,rfl⟩
 have hma:=hrok.1.1;rw[←er] at hma hkn;unfold bG at hma;obtain⟨bo,po,io,bc,pc,ic,nn,lv,hgc,v1,v2,v3,hmq,hl8,hio⟩:=(hx.ZM hF3).ids;have hrd:jS x ref off n=if r.ino.1 0=1 then ([],25) else if r.ino.1 0=3∨off<0∨n<0 then ([],1) else if r.ino.1 7≤off then ([],0) else Bm x r off (if r.ino.1 7-off<n then r.ino.1 7-off else n):=by unfold jS;rw[hkn]
 have hgC:∀ i v,([iV (r.ino.1 0),iV (r.ino.1 1),iV (r.ino.1 2),iV (r.ino.1 3),iV (r.ino.1 4),iV (r.ino.1 5),iV (r.ino.1 6),iV (r.ino.1 7),iV (r.ino.1 8),iV (r.ino.1 9)]:List Value)[i]?=some v→(eO q)[i+2]?=some v:=fun i v hv=>by
  rw[er] at hv
  match i,hv with
 |0,h=>exact h
 |1,h=>exact h
 |2,h=>exact h
 |3,h=>exact h
 |4,h=>exact h
 |5,h=>exact h
 |6,h=>exact h
 |7,h=>exact h
 |8,h=>exact h
 |9,h=>exact h
 |i+10,h=>cases h
 refine Gz 10 ?_;refine cL (Wk aF rfl (aB (i:=2) hg3 (hgC 0 _ rfl))) ?_;refine fK 0 ?_ ?_<;>intro h30
 ·have hli:jS x ref off n=([],25):=by rw[hrd,ZP h30]
  refine Gz 12 ?_;rw[hli];exact⟨_,rfl,none,0,rfl,Zu,Zs,hF3⟩
 rw[ZO h30] at hrd;refine Gz 10 ?_;refine cL (Wk aF rfl (aB (i:=2) hg3 (hgC 0 _ rfl))) ?_;refine fK 0 ?_ ?_<;>intro h34
 ·have hli:jS x ref off n=([],1):=by rw[hrd,ZP (.inl h34)]
  refine Gz 20 ?_;rw[hli];exact⟨_,rfl,none,0,rfl,Zu,Zs,hF3⟩
 refine fW 2 ?_ ?_<;>intro h37
 ·have hli:jS x ref off n=([],1):=by rw[hrd,ZP (.inr (.inl h37))]
  refine Gz 17 ?_;rw[hli];exact⟨_,rfl,none,0,rfl,Zu,Zs,hF3⟩
 refine fW 3 ?_ ?_<;>intro h41
 ·have hli:jS x ref off n=([],1):=by rw[hrd,ZP (.inr (.inr h41))]
  refine Gz 13 ?_;rw[hli];exact⟨_,rfl,none,0,rfl,Zu,Zs,hF3⟩
 rw[ZO (by rintro(h|h|h);exact h34 h;exact h37 h;exact h41 h)] at hrd;refine Gz 12 ?_;refine cL (Wk aF rfl (aB (i:=9) hg3 (hgC 7 _ rfl))) ?_;refine fK 0 ?_ ?_<;>intro h47
 ·have hli:jS x ref off n=([],0):=by rw[hrd,ZP h47]
  refine Gz 12 ?_;rw[hli];exact⟨_,rfl,none,0,rfl,Zu,Zs,hF3⟩
 rw[ZO h47] at hrd;obtain⟨m,hm⟩:∃ m,m=(if r.ino.1 7-off<n then r.ino.1 7-off else n):=⟨_,rfl⟩
 have hmb:0≤m∧m≤4096∧off+m≤r.ino.1 7:=by rw[hm];split<;>omega
 rw[←hm] at hrd;obtain⟨D,hD⟩:∃ D,D=gX x.im (r.ino.1 6) (r.ino.1 7) off m:=⟨_,rfl⟩
 have hDl:=B2 x.im (r.ino.1 6) (r.ino.1 7) off m hmb.1;rw[←hD] at hDl;unfold Bm at hrd;rw[←hD] at hrd;refine Gz 10 ?_;refine cL (Wk aF rfl (aB (i:=9) hg3 (hgC 7 _ rfl))) ?_;refine Gz 2 ?_;refine cL (Wm (u:=iV m) (Xh rfl rfl) (by rw[hm])) ?_;refine Gz 7 ?_;refine cL (Wk aF rfl (aB (i:=9) hg3 (hgC 7 _ rfl))) ?_;refine cL (W6 rfl rfl (by omega) (by decide)) ?_;refine cL (WN rfl rfl (by omega)) ?_;refine Gz 5 ?_;refine WC b8 aH rfl ?_;intro w4 ho4 hs4 hf4;obtain⟨a4,ea⟩:∃ a,a=w3.heap.size:=⟨_,rfl⟩
 rw[←ea] at ho4 ⊢;have hy4:=hf4.obj hg3 id;have hgc4:=hf4.obj hgc id;refine Gz 3 ?_;refine WL (β:=Option Addr×Nat) (fun⟨oo,oc⟩=>[(0,pT g),(2,iV off),(3,iV m),(10,pT y),(12,iV (r.ino.1 7/128*128)),(13,.slice oo D.1.length oc)]) (fun⟨oo,oc⟩ w=>Own b8 5 w.heap oo oc D.1∧Fr w3.heap.size oo∧D.2=0∧aA nob w3 w) ?_ ?_
 ·refine fK 4 ?_ ?_<;>intro h63
  ·refine Gz 4 ?_;refine Wv 18 (fun H=>H[y]?=some (.cells (eO q).toArray 137 (0,0))∧H[g]?=some (.cells (miC bo x.im.length bc x.F (.slice po x.places.length pc) (.slice io x.ids.length ic) lv nn).toArray 134 (0,0))) [12] [0,1,2,3,4,5,6,7,8,9,10,11,12,13,14,15,16,17] aK (by kernel_rfl) (⟨hy4,hgc4⟩) ?_;refine Gz 6 ?_;refine xC rfl (Wt aF rfl (fun H hH=>aB (i:=8) hH.1 (hgC 6 _ rfl))) ?_;refine Gz 2 ?_;refine xC rfl (Wt aF rfl (fun H hH=>aB (i:=9) hH.1 (hgC 7 _ rfl))) ?_;refine Gz 2 ?_;refine Wo rfl rfl (Wh SV rfl (Ju bo bc x.im (r.ino.1 6) (r.ino.1 7) off m (w4.drewN 1) ((v1.ZM hf4).ZM (Zo 1)) (by omega) (by omega) (by omega) (by omega)) rfl ?_);rw[←hD];rintro _ w5 ⟨o5,c5,rfl,ho5,hfr5,hf5⟩;have hf5:=hf5.ZK;refine Wu (by exact⟨hf5.obj hy4 id,hf5.obj hgc4 id⟩) ?_;have hD63:=ho5.vw.ZL;refine fK 11 ?_ ?_<;>intro h81
   ·have hli:jS x ref off n=([],35):=by rw[hrd,ZP h81]
    refine Gz 13 ?_;rw[hli];exact⟨_,rfl,none,0,rfl,Zu,Zs,(hF3.trans hf4).trans hf5⟩
   have hD0:D.2=0:=Z5.1 h81;refine Gz 8 ?_;refine Wq aP aH rfl rfl (ho4.ZM hf5) ho5.vw (by simp only[Z7];omega) (by simp only[Z7];unfold maxLen;omega) rfl ?_;intro o6 c6 w6 ho6 hf6 hr6 hn6;have ho6:Own b8 5 w6.heap o6 c6 D.1:=ho6;have hf46:aA (· = a4) w4 w6:=hf5.any.trans (hf6.mono (fun k hk=>by obtain⟨a,ha,e⟩:=hk;cases ha;exact e.symm));have hf36:aA nob w3 w6:=hf4.tw hf46;refine Gz 2 ?_;exact aC ⟨o6,c6⟩ ⟨ho6,(fun a ha=>(hr6 a ha).elim (fun h=>by cases h;show w3.heap.size≤a4;omega) (fun h=>by have h1:=hf5.size;omega)),hD0,hf36⟩
  have hDn:D=([],0):=by
   obtain⟨S,hS⟩:=az (show 0≤r.ino.1 7 by omega);obtain⟨O,hO⟩:=az (show 0≤off by omega);obtain⟨M,hM⟩:=az hmb.1;rw[hD,hS,hO,hM];exact nZ (by omega) (by omega)
  refine Gz 4 ?_;have hD0l:D.1.length=0:=by rw[hDn];rfl
  exact WY ⟨some ⟨a4,0,none⟩,0⟩ ⟨rfl,rfl,rfl,rfl,rfl,by rw[hD0l];rfl,trivial⟩ ⟨by rw[hDn];exact ho4,(fun a ha=>by cases ha;show w3.heap.size≤a4;omega),by rw[hDn],hf4⟩
 rintro⟨oo,oc⟩ w7 ⟨ho7,hfr7,hD0,hF7⟩;have hy7:=hF7.obj hg3 id;have hgc7:=hF7.obj hgc id;refine fK 6 ?_ ?_<;>intro h88
 ·have hli0:¬ (D.1.length:Int)=m:=by omega
  rw[ZO (show ¬ D.2≠0 from fun h=>h hD0),ZO hli0] at hrd;refine Gz 4 ?_;refine Wv 29 (fun H=>H[y]?=some (.cells (eO q).toArray 137 (0,0))∧H[g]?=some (.cells (miC bo x.im.length bc x.F (.slice po x.places.length pc) (.slice io x.ids.length ic) lv nn).toArray 134 (0,0))) [23] [0,1,2,3,4,5,6,7,8,9,10,11,12,13,14,15,16,17,18,19,20,21,22,23,24,25,26,27,28] aK (by kernel_rfl) (⟨hy7,hgc7⟩) ?_;refine Gz 10 ?_;refine xC rfl (Wt aF rfl (fun H hH=>aB (i:=10) hH.1 (hgC 8 _ rfl))) ?_;refine Gz 2 ?_;refine xC rfl (Wt aF rfl (fun H hH=>aB (i:=11) hH.1 (hgC 9 _ rfl))) ?_;refine Gz 3 ?_;obtain⟨mx,hmx⟩:∃ mx,mx=(if off-r.ino.1 7/128*128<0 then 0 else off-r.ino.1 7/128*128):=⟨_,rfl⟩
  rw[←hmx] at hrd;refine xC rfl (Wm (u:=iV mx) (XI rfl rfl) (by rw[hmx])) ?_;refine Gz 5 ?_;refine Wo rfl rfl (Wh SU rfl (Jo bo bc x.im po pc x.places (r.ino.1 8) (r.ino.1 9+mx) (m-D.1.length) (w7.drewN 1) ((v1.ZM hF7).ZM (Zo 1)) (by omega) ((v2.ZM hF7).ZM (Zo 1)) (fun z hz=>by have:=hio.2.1 z hz;unfold bd;omega) (by unfold bd;omega) (by unfold bd;omega) (by unfold bd;omega)) rfl ?_);obtain⟨T,hT⟩:∃ T,T=dW x.im x.places (r.ino.1 8) (r.ino.1 9+mx) (m-D.1.length):=⟨_,rfl⟩
  rw[←hT] at hrd ⊢;rintro _ w8 ⟨o8,c8,rfl,ho8,hfr8,hf8⟩;have hf8:=hf8.ZK;refine Wu (by exact⟨hf8.obj hy7 id,hf8.obj hgc7 id⟩) ?_;have hT63:=Cx x.im x.places (r.ino.1 8) (r.ino.1 9+mx) (m-D.1.length);rw[←hT] at hT63;refine fK 11 ?_ ?_<;>intro h117
  ·have hli:jS x ref off n=([],35):=by rw[hrd,ZP h117]
   refine Gz 13 ?_;rw[hli];exact⟨_,rfl,none,0,rfl,Zu,Zs,(hF3.trans hF7).trans hf8⟩
  have hli:jS x ref off n=(D.1++T.1,0):=by rw[hrd,ZO h117]
  refine Gz 8 ?_;refine Wq aP aH rfl rfl (ho7.ZM hf8) ho8.vw (by omega) (by unfold maxLen;omega) rfl ?_;intro o9 c9 w9 ho9 hf9 hr9 hn9;refine Gz 12 ?_;rw[hli];have hF3s:=hF3.size;exact⟨_,rfl,o9,c9,rfl,ho9,(aS hfr7 hr9 (hF7.trans hf8).size).mono hF3s,hF3.trans ((hF7.trans hf8).ZJ hf9 hfr7.step)⟩
 have hli:jS x ref off n=(D.1,0):=by rw[hrd,ZO (show ¬ D.2≠0 from fun h=>h hD0),ZP (show (D.1.length:Int)=m by omega)]
 refine Gz 14 ?_;rw[hli];have hF3s:=hF3.size;exact⟨_,rfl,oo,oc,rfl,ho7,hfr7.mono hF3s,hF3.trans hF7⟩
theorem Lm{P:Program}{t e:TypeId}(m:Nat)(h:I8 P t e=true)(he:P.underlying e=some (.int .i64))(hs:P.stoodInHeld t=false)(w:World)(a b c:Int) :
 (gi (m+2) t (.agg #[iV a,iV b,iV c]) (.agg #[iV a,iV b,iV c])).run P w=.ok true w:=by
 unfold I8 at h
 split at h
 · rename_i fs hu
   split at h
   · rename_i f0 f1 f2 hl
     simp only[ag,decide_eq_true_eq] at h;obtain⟨⟨⟨t0,o0,n0⟩,⟨t1,o1,n1⟩⟩,⟨t2,o2,n2⟩⟩:=h;have hf:P.fieldsOf t=fs:=by unfold Program.fieldsOf;rw[hu]
     rw[run_equalIn_struct w (m+1) t _ _ (by rw[hf];exact hu) hs,hf,hl];have hp:∀ (cs:Array Value) (o:Nat) (v:Value),cs[o]?=some v→(part e cs o).run P w=.ok v w:=fun cs o v hv=>by
      simp[part,isAgg,run_underlying he,hv]
     have hq:∀ (x y:Int),(gi (m+1) e (iV x) (iV y)).run P w=.ok (x == y) w:=fun x y=>run_equalIn_int w m e .i64 .i64 x y he;have p0:=hp #[iV a,iV b,iV c] 0 (iV a) rfl;have p1:=hp #[iV a,iV b,iV c] 1 (iV b) rfl;have p2:=hp #[iV a,iV b,iV c] 2 (iV c) rfl;simp[iz,n0,n1,n2,t0,o0,t1,o1,t2,o2,Sem.run_bind,p0,p1,p2,hq,Result.andThen_ok]
   ·cases h
 ·cases h
theorem N8(a b c d e f:Int)(w:World):(part 3 (stC [a,b,c,d,e,f]).toArray 0).run Tryz.prog w=.ok (iV a) w:=by kernel_rfl
theorem N7(a b c d e f:Int)(w:World):(part 43 (stC [a,b,c,d,e,f]).toArray 1).run Tryz.prog w=.ok (.agg #[iV b,iV c,iV d]) w:=by kernel_rfl
theorem N6(a b c d e f:Int)(w:World):(part 3 (stC [a,b,c,d,e,f]).toArray 4).run Tryz.prog w=.ok (iV e) w:=by kernel_rfl
theorem N5(a b c d e f:Int)(w:World):(part 3 (stC [a,b,c,d,e,f]).toArray 5).run Tryz.prog w=.ok (iV f) w:=by kernel_rfl
theorem Oa(a b c d e f:Int)(w:World):(gi 10000 45 (.agg (stC [a,b,c,d,e,f]).toArray) (.agg (stC [a,b,c,d,e,f]).toArray)).run Tryz.prog w=.ok true w:=by
 have h0:=run_equalIn_struct (P:=Tryz.prog) w 9999 45 (stC [a,b,c,d,e,f]).toArray (stC [a,b,c,d,e,f]).toArray (by kernel_rfl) (by kernel_rfl);refine h0.trans ?_;unfold Program.fieldsOf;rw[Tryz.underlying45];have hq:∀ (x:Int),(gi 9999 3 (iV x) (iV x)).run Tryz.prog w=.ok (x == x) w:=fun x=>run_equalIn_int w 9998 3 .i64 .i64 x x Qt;have h3:=Lm (P:=Tryz.prog) 9997 stA Qt RB w b c d;have g0:=N8 a b c d e f w;have g1:=N7 a b c d e f w;have g4:=N6 a b c d e f w;have g5:=N5 a b c d e f w;simp[iz,Sem.run_bind,g0,g1,g4,g5,hq,h3,Result.andThen_ok]
section
variable {N:Nt}{l:SF}{ty:TypeId}{pos:String}{aft:Array Edge}{CH:Array Obj→Prop}{x y:Operand}{t':TypeId}{g:Option (Nat×Bool)}{dd:Option Nat}
theorem Yq{L:List Int}(hL:L.length=6)(hx:evL l x=some (.agg (stC L).toArray))(hy:evL l y=some (.agg (stC L).toArray)):Cm Tryz.prog N CH l ⟨dd,.binOp .neq 45 x y t',ty,pos,aft,g⟩ (.bool false):=fun k w ha _=>by
 match L,hL with
|[a,b,c,d,e,f],_=>
   have h1:=run_eqGuard_agg (P:=Tryz.prog) w .neq 45 x y (stC [a,b,c,d,e,f]).toArray (stC [a,b,c,d,e,f]).toArray (by kernel_rfl);have h2:=run_neq_struct (P:=Tryz.prog) w 45 (stC [a,b,c,d,e,f]).toArray (stC [a,b,c,d,e,f]).toArray;rw[Oa] at h2;simp only[execOp,ha.ev hx,ha.ev hy,Sem.run_bind,h1,Result.andThen_ok,h2];simp
end
theorem I7(x:Img)(ref:Int):∃ a b c d e f,(mT x ref).1=[a,b,c,d,e,f]:=by unfold mT;split<;>exact⟨_,_,_,_,_,_,rfl⟩
theorem GI(ao bo:Option Addr)(ac bc:Nat)(a:List Ent)(W:World)(ha:VwM 3 bH W.heap ao ac a)(hb:VwM 3 bH W.heap bo bc a) :
 CA 97 [.slice ao a.length ac,.slice bo a.length bc] W fun v w'=>v=.bool true∧aA nob W w':=by
 have h:=Jt ao bo ac bc a a W ha hb;rwa[Z3 rfl] at h
theorem Aq{X:List Xa}(h:fB X):∀ x∈X,x.1.length≤255:=fun x hx=>by
 obtain⟨i,hi⟩:=ab hx;have:=(h.1 i (ZS.1 hi).1).2.1;rw[show X.getD i x0=x by rw[Z2,hi];rfl] at this;omega
theorem Ff(g y:Nat)(x:Img)(ref:Int)(lo:Option Addr)(lc:Nat)(L:List Ent)(W:World)(hx:ImV W.heap g x)(hy:ImR W.heap y x)(hl:VwM 3 bH W.heap lo lc L)(href : -9223372036854775808≤ref∧ref≤9223372036854775807)
 (hL:∀ q∈L,(-9223372036854775808≤q.2.1∧q.2.1≤9223372036854775807)∧(-9223372036854775808≤q.2.2∧q.2.2≤9223372036854775807)) :
 CA 51 [pT g,pT y,iV ref,.slice lo L.length lc] W fun v w'=>v=.bool true∧aA nob W w':=by
 obtain⟨p0,p1,p2,p3,p4,p5,hst⟩:=I7 x ref;refine cS 210 [(0,_),(1,_),(2,_),(3,_)] Tryz.func51 ?_;refine cA 9 V6 (JW g x ref W hx href) ?_;rw[hst];rintro _ w1 ⟨rfl,hf1⟩;refine Gz 3 ?_;refine Wn Bi rfl ?_;intro w2 hg2 hs2 hf2;obtain⟨a,ea⟩:∃ a,a=w1.heap.size:=⟨_,rfl⟩
 rw[←ea] at hg2 ⊢;refine sA rfl eM (by exact iL _) hg2 ?_;intro w3 hg3 hs3 hf3;have hF3:aA nob W w3:=(hf1.trans hf2).ZJ hf3 (fun k hk=>.inr (by have h:k=a:=hk;have:=hf1.size;omega));refine cA 7 Vp (JT y x ref w3 (hy.ZM hF3)) ?_;rw[hst];rintro _ w4 ⟨rfl,hf4⟩;refine Gz 3 ?_;refine Wn Bi rfl ?_;intro w5 hg5 hs5 hf5;obtain⟨b,eb⟩:∃ a,a=w4.heap.size:=⟨_,rfl⟩
 rw[←eb] at hg5 ⊢;refine sA rfl eM (by exact iL _) hg5 ?_;intro w6 hg6 hs6 hf6;have hf36:aA nob w3 w6:=(hf4.trans hf5).ZJ hf6 (fun k hk=>.inr (by have h:k=b:=hk;have:=hf4.size;omega));have hF6:=hF3.trans hf36;have ha6:=hf36.obj hg3 id;refine cA 7 Rb (wN g x ref w6 (hx.ZM hF6) href) ?_;rintro _ w7 ⟨⟨o1,c1,rfl,ho1,hfr1,hf7⟩,hch,hll⟩;have hF7:=hF6.trans hf7;refine cA 11 RV (Ch y x ref w7 (hy.ZM hF7)) ?_;rintro _ w8 ⟨o2,c2,rfl,hv2,hf8⟩;have hF8:=hF7.trans hf8;refine cA 11 VP (Mh g x ref w8 (hx.ZM hF8) href) ?_;rintro _ w9 ⟨rfl,hf9⟩;have hF9:=hF8.trans hf9;refine cA 11 Vo (Mb y x ref w9 (hy.ZM hF9)) ?_;rintro _ w10 ⟨rfl,hf10⟩;have hF10:=hF9.trans hf10;refine cA 11 VR (Mg g x ref w10 (hx.ZM hF10) href) ?_;rintro _ w11 ⟨o3,c3,rfl,hX3,hmx,hf11⟩;have hF11:=hF10.trans hf11;refine cA 11 Vn (Ma y x ref w11 (hy.ZM hF11)) ?_;rintro _ w12 ⟨o4,c4,rfl,⟨E,hX4⟩,hf12⟩;refine cA 11 Vm (GI o1 o2 c1 c2 (fE x ref).1 w12 ((ho1.vw bA).ZM ((((hf8.trans hf9).trans hf10).trans hf11).trans hf12)) (hv2.ZM (((hf9.trans hf10).trans hf11).trans hf12))) ?_;rintro _ w13 ⟨rfl,hf13⟩;refine cA 7 RU (Li (pS x ref).1 o3 o4 c3 c4 w13 ((hX3.xa (Aq hmx)).ZM (hf12.trans hf13)) ((hX4.xa (Aq hmx)).ZM hf13)) ?_;rintro _ w14 ⟨rfl,hf14⟩;have hf614:aA nob w6 w14:=((((((hf7.trans hf8).trans hf9).trans hf10).trans hf11).trans hf12).trans hf13).trans hf14;have hF14:=hF6.trans hf614;have ha14:=hf614.obj ha6 id;have hb14:=hf614.obj hg6 id;refine Gz 6 ?_;refine cL (Ws (cs:=stC [p0,p1,p2,p3,p4,p5]) eM rfl (aQ ha14 0 rfl)) ?_;refine cL (Ws (cs:=stC [p0,p1,p2,p3,p4,p5]) eM rfl (aQ hb14 0 rfl)) ?_;refine cL (Yq (L:=[p0,p1,p2,p3,p4,p5]) rfl rfl rfl) ?_;refine Gz 3 ?_;refine cW (W8 (W4 rfl rfl) (fun h=>h rfl)) ?_;refine Gz 3 ?_;refine cW (WQ rfl) ?_;refine Gz 4 ?_;refine cW (W8 (W4 rfl rfl) (fun h=>h rfl)) ?_;refine Gz 4 ?_;refine cW (W8 (Xj rfl rfl) (fun h=>h rfl)) ?_;refine Gz 4 ?_;refine cW (W8 (W4 rfl rfl) (fun h=>h rfl)) ?_;refine Gz 3 ?_;refine cW (WQ rfl) ?_;refine Gz 4 ?_;refine cW (W8 (W4 rfl rfl) (fun h=>h rfl)) ?_;refine Gz 13 ?_;refine Wp (β:=Nat) (fun j=>[(0,pT g),(1,pT y),(2,iV ref),(3,.slice lo L.length lc),(27,iV j)]) (fun j w=>j≤L.length∧aA nob w14 w) (fun j=>L.length-j) 0 ⟨rfl,rfl,rfl,rfl,rfl,trivial⟩ ⟨ZZ _,Zn _ _⟩ ?_;rintro j w ⟨hj,hF⟩;refine fK 6 ?_ ?_<;>intro h129
 ·have hjl:j<L.length:=by omega
  obtain⟨q,hq⟩:∃ q,L[j]?=some q:=⟨_,ZQ hjl⟩
  have hqb:=hL q (ZW hq);have hl0:=hl.ZM (hF14.trans hF);refine fW 2 ?_ ?_<;>intro h132
  ·refine Gz 14 ?_;refine cL (Wj Gl rfl rfl hl0.non (by omega)) ?_;refine Gz 1 ?_;refine cL (Wk gH rfl (hl0.rowZ j rfl hq 0 _ rfl)) ?_;refine cA 0 V7 (JY g x ref q.1 w (hx.ZM (hF14.trans hF)) href) ?_;rintro _ w15 ⟨rfl,hf15⟩;refine Gz 3 ?_;refine Wn pR rfl ?_;intro w16 hg16 hs16 hf16;obtain⟨d,ed⟩:∃ a,a=w15.heap.size:=⟨_,rfl⟩
   rw[←ed] at hg16 ⊢;refine sA rfl eA (by exact fT _) hg16 ?_;intro w17 hg17 hs17 hf17;have hf17b:aA nob w w17:=(hf15.trans hf16).ZJ hf17 (fun k hk=>.inr (by have h:k=d:=hk;have:=hf15.size;omega));have hF17:=hF14.trans (hF.trans hf17b);have hl17:=hl.ZM hF17;refine Gz 9 ?_;refine cL (Wj Gl rfl rfl hl17.non (by omega)) ?_;refine Gz 1 ?_;refine cL (Wk gH rfl (hl17.rowZ j rfl hq 0 _ rfl)) ?_;refine cA 0 Vl (JU y x ref q.1 w17 (hy.ZM hF17)) ?_;rintro _ w18 ⟨rfl,hf18⟩;refine Gz 3 ?_;refine Wn pR rfl ?_;intro w19 hg19 hs19 hf19;obtain⟨d2,ed2⟩:∃ a,a=w18.heap.size:=⟨_,rfl⟩
   rw[←ed2] at hg19 ⊢;refine sA rfl eA (by exact fT _) hg19 ?_;intro w20 hg20 hs20 hf20;have hf1720:aA nob w17 w20:=(hf18.trans hf19).ZJ hf20 (fun k hk=>.inr (by have h:k=d2:=hk;have:=hf18.size;omega));have hF20:=hF17.trans hf1720;have hl20:=hl.ZM hF20;have hd20:=hf1720.obj hg17 id;refine Gz 4 ?_;refine Wv 18 (fun H=>VwM 3 bH H lo lc L) [12] [0,1,2,3,4,5,6,7,8,9,10,11,12,13,14,15,16,17] aK (by kernel_rfl) (hl20) ?_;refine Gz 4 ?_;refine xC rfl (Wj Gl rfl rfl hl20.non (by omega)) ?_;refine Gz 1 ?_;refine xC rfl (Wt aF rfl (fun H hH=>hH.rowZ j rfl hq 1 _ rfl)) ?_;refine Gz 2 ?_;refine xC rfl (Wj Gl rfl rfl hl20.non (by omega)) ?_;refine Gz 1 ?_;refine xC rfl (Wt aF rfl (fun H hH=>hH.rowZ j rfl hq 2 _ rfl)) ?_;refine Wo rfl rfl (Wh VQ rfl (JZ g x ref q.2.1 q.2.2 (w20.drewN 1) ((hx.ZM hF20).ZM (Zo 1)) href hqb.1 hqb.2) rfl ?_);rintro _ w21 ⟨o5,c5,rfl,ho5,hfr5,hf21⟩;have hf21:=hf21.ZK;refine Wu (by exact(hl20.ZM hf21)) ?_;have hF21:=hF20.trans hf21;have hl21:=hl.ZM hF21;refine Gz 8 ?_;refine Wv 18 (fun H=>VwM 3 bH H lo lc L) [12] [0,1,2,3,4,5,6,7,8,9,10,11,12,13,14,15,16,17] aK (by kernel_rfl) (hl21) ?_;refine Gz 4 ?_;refine xC rfl (Wj Gl rfl rfl hl21.non (by omega)) ?_;refine Gz 1 ?_;refine xC rfl (Wt aF rfl (fun H hH=>hH.rowZ j rfl hq 1 _ rfl)) ?_;refine Gz 2 ?_;refine xC rfl (Wj Gl rfl rfl hl21.non (by omega)) ?_;refine Gz 1 ?_;refine xC rfl (Wt aF rfl (fun H hH=>hH.rowZ j rfl hq 2 _ rfl)) ?_;refine Wo rfl rfl (Wh Tc rfl (JV y x ref q.2.1 q.2.2 (w21.drewN 1) ((hy.ZM hF21).ZM (Zo 1)) hqb.1 hqb.2) rfl ?_);rintro _ w22 ⟨o6,c6,rfl,ho6,hfr6,hf22⟩;have hf22:=hf22.ZK;refine Wu (by exact(hl21.ZM hf22)) ?_;have hf2022:=hf21.trans hf22;have hd22:=hf2022.obj hd20 id;have he22:=hf2022.obj hg20 id;have h5v:=ho5.vw.ZM hf22;refine Gz 9 ?_;refine cL (Ws (cs:=bH (nA x ref q.1).1) eA rfl (aQ hd22 0 rfl)) ?_;refine cL (Ws (cs:=bH (nA x ref q.1).1) eA rfl (aQ he22 0 rfl)) ?_;refine cL (W8 (XY rfl rfl) (fun h=>h rfl)) ?_;refine Gz 3 ?_;refine cW (W8 (W4 rfl rfl) (fun h=>h rfl)) ?_;refine Gz 3 ?_;refine cW (WG aH ty5 ty9 rfl h5v) ?_;refine Gz 1 ?_;refine cW (WG aH ty5 ty9 rfl ho6.vw) ?_;refine cW (W8 (Xj rfl rfl) (fun h=>h rfl)) ?_;refine Gz 4 ?_;refine cW (W8 (W4 rfl rfl) (fun h=>h rfl)) ?_;refine Gz 12 ?_;exact aG (j+1) ⟨by omega,((hF.trans hf17b).trans hf1720).trans hf2022⟩ (by show L.length-(j+1)<L.length-j;omega)
  refine Gz 16 ?_;exact⟨_,rfl,rfl,hF14.trans hF⟩
 refine Gz 19 ?_;exact⟨_,rfl,rfl,hF14.trans hF⟩
theorem Qn{X Y:List Xa}{k:Nat}(hx:k<X.length)(hy:k<Y.length)(ht:X.take k=Y.take k)(h1:(X.getD k x0).1=(Y.getD k x0).1)(h2:(X.getD k x0).2=(Y.getD k x0).2):X.take (k+1)=Y.take (k+1):=by
 have e:X[k]?=Y[k]?:=by
  rw[Z2,ZQ hx,Z2,ZQ hy] at h1 h2;rw[ZQ hx,ZQ hy];exact congrArg some (fm h1 h2)
 rw[List.take_add_one,List.take_add_one,ht,e]
theorem Jd(X Y:List Xa)(ao bo:Option Addr)(ac bc:Nat)(W:World)(ha:XaV W.heap ao ac X)(hb:XaV W.heap bo bc Y) :
 CA 98 [.slice ao X.length ac,.slice bo Y.length bc] W fun v w'=>v=.bool (decide (X=Y))∧aA nob W w':=by
 have hl:=ha.ZL;refine cS 43 [(0,_),(1,_)] Tryz.func98 ?_;refine fK 12 ?_ ?_<;>intro h10
 ·have hne:¬ X=Y:=fun e=>h10 (by rw[e]);refine Gz 11 ?_;exact⟨_,rfl,congrArg Value.bool (ZV hne).symm,Zn _ _⟩
 have hab:X.length=Y.length:=by omega
 refine Gz 12 ?_;refine Wp (β:=Nat) (fun k=>[(0,.slice ao X.length ac),(1,.slice bo Y.length bc),(5,iV k)]) (fun k w=>k≤X.length∧X.take k=Y.take k∧aA nob W w) (fun k=>X.length-k) 0 ⟨rfl,rfl,rfl,trivial⟩ ⟨ZZ _,rfl,Zn _ _⟩ ?_;rintro k w ⟨hk,htk,hF⟩;refine fK 6 ?_ ?_<;>intro h14
 ·obtain⟨xa,xc,hrow,hxv,hnl⟩:=(ha.ZM hF).at (i:=k) rfl (by omega);obtain⟨ya,yc,hrow2,hyv,_⟩:=(hb.ZM hF).at (i:=k) rfl (by omega);refine Gz 8 ?_;refine Ww 26 [0,1,2,3,4,5,6,7,8,9,10,11,12,13,14,15,16,17,18,19,20,21,22,23,24,25] aK (by kernel_rfl) ?_;refine Gz 2 ?_;refine xC rfl (Wj iC rfl rfl ha.non (by omega)) ?_;refine Gz 1 ?_;refine xC rfl (Wk gH rfl (hrow 0 _ rfl)) ?_;refine Gz 2 ?_;refine xC rfl (Wj iC rfl rfl hb.non (by omega)) ?_;refine Gz 1 ?_;refine xC rfl (Wk gH rfl (hrow2 0 _ rfl)) ?_;refine xK 0 ?_ ?_<;>intro h27
  ·have hne:¬ X=Y:=fun e=>h27 (by rw[e]);refine Gz 30 ?_;exact⟨_,rfl,congrArg Value.bool (ZV hne).symm,hF.draws 1⟩
  have e1:(X.getD k x0).1=(Y.getD k x0).1:=Z5.1 h27;refine Gz 3 ?_;refine xV rfl (Wj iC rfl rfl ha.non (by omega)) ?_;refine Gz 1 ?_;refine xV rfl (Wk aX rfl (hrow 1 _ rfl)) ?_;refine xV rfl (WG aH ty5 ty9 rfl hxv) ?_;refine Gz 2 ?_;refine xV rfl (Wj iC rfl rfl hb.non (by omega)) ?_;refine Gz 1 ?_;refine xV rfl (Wk aX rfl (hrow2 1 _ rfl)) ?_;refine xV rfl (WG aH ty5 ty9 rfl hyv) ?_;refine xW 0 ?_ ?_<;>intro h41
  ·have hne:¬ X=Y:=fun e=>h41 (by rw[e]);refine Gz 16 ?_;exact⟨_,rfl,congrArg Value.bool (ZV hne).symm,hF.draws 1⟩
  have e2:(X.getD k x0).2=(Y.getD k x0).2:=Z5.1 h41;refine Gz 12 ?_;exact aG (k+1) ⟨by omega,Qn (by omega) (by omega) htk e1 e2,hF.draws 1⟩ (by show X.length-(k+1)<X.length-k;omega)
 refine Gz 15 ?_;have heq:X=Y:=by rw[←be (l:=X),←be (l:=Y),←hab,show X.length=k by omega];exact htk
 exact⟨_,rfl,congrArg Value.bool (Z3 heq).symm,hF⟩
theorem Oz{l:List Int}{n:Int}{i:Nat}(hi:i<l.length)(h:l.getD i 0=n)(hno:∀ j,j<i→l.getD j 0≠n):pV l n=i:=by
 unfold pV;rw[show l.findIdx? (fun x=>decide (x=n))=some i from ?_];rw[cw];refine⟨hi,?_,fun j hj=>?_⟩
 ·rw[Z2,ZQ hi] at h;exact Z3 h
 · have:=hno j hj
   rw[Z2,ZQ (by omega)] at this;simpa using this
theorem LQ{l:List Int}{n:Int}(hno:∀ j,j<l.length→l.getD j 0≠n):pV l n=0:=by
 unfold pV;rw[show l.findIdx? (fun x=>decide (x=n))=none from ?_];rw[dk];intro x hx;obtain⟨j,hj⟩:=ab hx;have:=hno j (ZS.1 hj).1;rw[Z2,hj] at this;simpa using this
theorem BT(io:Option Addr)(ic:Nat)(l:List Int)(n:Int)(W:World)(hv:Vw i64 W.heap io ic l) :
 CA 57 [.slice io l.length ic,iV n] W fun v w'=>v=iV (pV l n)∧w'=W:=by
 have h63:=hv.ZL;refine cS 19 [(0,_),(1,_)] Tryz.func57 ?_;refine Gz 12 ?_;refine Wp (β:=Nat) (fun i=>[(0,.slice io l.length ic),(1,iV n),(5,iV i)]) (fun i w=>i≤l.length∧(∀ j,j<i→l.getD j 0≠n)∧w=W) (fun i=>l.length-i) 0 ⟨rfl,rfl,rfl,trivial⟩ ⟨ZZ _,fun j hj=>by omega,rfl⟩ ?_;rintro i w ⟨hi,hno,hw⟩;subst w;refine fK 6 ?_ ?_<;>intro h9
 ·have hil:i<l.length:=by omega
  refine Gz 11 ?_;refine cL (Wi bP rfl rfl hv.non (by omega)) ?_;refine cL (Wk aF rfl (hv.gz 0 i rfl hil)) ?_;refine fK 1 ?_ ?_<;>intro h17
  ·have hres:pV l n=i:=Oz hil h17 hno;refine Gz 16 ?_;exact⟨_,rfl,by rw[hres],rfl⟩
  refine Gz 11 ?_;refine aG (i+1) ⟨by omega,fun j hj=>?_,rfl⟩ (by show l.length-(i+1)<l.length-i;omega);by_cases e:j=i
  ·subst e;exact h17
  ·exact hno j (by omega)
 have hie:i=l.length:=by omega
 subst hie;refine Gz 15 ?_;exact⟨_,rfl,by rw[LQ hno],rfl⟩
theorem Pz{a:BiA}{ow:Nat→Nat}{g:Nat}{qs:List (NdH×Nd)}{ids:List Int}{files:List Ino}{s:BSt}{w w':World}{X:List Xa}{r:Int}{xo so' tr':Option Addr}{xc sc' tc':Nat}(hM:BiW a ow w.heap g qs ids files s)(hn:∀ k,w.heap.size≤k→ow k=0)(hX:XsV (fun k=>ow k=4) w.heap ⟨xo,X.length,xc⟩ X)
 (hg:w'.heap[g]?=some (.cells (biK { a with so:=so',sc:=sc',tr:=tr',tc:=tc' } qs ids files { s with sets:=s.sets++[(X,r)] }).toArray 76 (0,0)))
 (ho:Own hd 66 w'.heap so' sc' (a.hs++[⟨xo,X.length,xc⟩]))(hr:∀ b,so'=some b→a.so=some b∨w.heap.size≤b.block)
 (ht:Own i64 3 w'.heap tr' tc' (s.sets.map (·.2)++[r]))(hrt:∀ b,tr'=some b→a.tr=some b∨w.heap.size≤b.block)(hap:∀ b c,so'=some b→tr'=some c→w.heap.size≤b.block→b.block≠c.block)
 (hf:aA (fun k=>k=g∨ow k=7∨ow k=8) w w'):∃ (a':BiA) (ow':Nat→Nat),BiW a' ow' w'.heap g qs ids files { s with sets:=s.sets++[(X,r)] }∧(a'.lo=a.lo∧a'.lc=a.lc∧a'.ro=a.ro∧a'.rc=a.rc)∧(∀ k,k<w.heap.size→ow' k=ow k)∧(∀ k,w'.heap.size≤k→ow' k=0):=by
 classical
 have hle:∀ z,z≠0→∀ k,ow k=z→k<w.heap.size:=fun z hz k hk=>ZY fun hc=>by have:=hn k (by omega);omega
 obtain⟨_,h6,⟨nd1,nd2⟩,⟨i1,i2⟩,⟨f1,f2⟩,w1,w2,w3,⟨r1,r2⟩,⟨s1,s2⟩,⟨e1,e2⟩,t1,t2⟩:=hM;obtain⟨ow',eo⟩:∃ o:Nat→Nat,∀ k,o k=if k<w.heap.size then ow k else if blk so' k then 7 else if blk tr' k then 8 else 0:=⟨_,fun _=>rfl⟩
 have c1:∀ k,k<w.heap.size→ow' k=ow k:=fun k hk=>by rw[eo];exact ZP hk
 have c2:∀ k,w'.heap.size≤k→ow' k=0:=fun k hk=>by
  have:=hf.size;rw[eo,ZO (by omega),ZO (fun⟨b,hb,e⟩=>by have:=ho.lt b hb;omega),ZO (fun⟨b,hb,e⟩=>by have:=ht.lt b hb;omega)]
 have key:∀ z,z≠0→z≠7→z≠8→z≠6→∀ k,ow k=z→¬ (k=g∨ow k=7∨ow k=8):=fun z _ h1 h2 h3 k hk h=>by rcases h with rfl|h|h<;>omega
 have kz:∀ z,z≠0→∀ k,ow k=z→ow' k=z:=fun z hz k hk=>by rw[c1 k (hle z hz k hk)];exact hk
 refine⟨{ a with so:=so',sc:=sc',tr:=tr',tc:=tc',hs:=a.hs++[⟨xo,X.length,xc⟩] },ow',⟨hg,kz 6 (by decide) g h6,⟨eG nd1 hf (key 4 (by decide) (by decide) (by decide) (by decide)) (fun hne k hk=>key 4 (by decide) (by decide) (by decide) (by decide) k (nd2 hne k hk)) (kz 4 (by decide)),fun hne k hk=>kz 4 (by decide) k (nd2 hne k hk)⟩,
  ⟨i1.ZN hf (fun a ha=>key 4 (by decide) (by decide) (by decide) (by decide) _ (i2 _ ⟨a,ha,rfl⟩)),fun k hk=>kz 4 (by decide) k (i2 k hk)⟩,⟨f1.ZN hf (fun a ha=>key 4 (by decide) (by decide) (by decide) (by decide) _ (f2 _ ⟨a,ha,rfl⟩)),fun k hk=>kz 4 (by decide) k (f2 k hk)⟩,
  w1.ZN hf (key 1 (by decide) (by decide) (by decide) (by decide)) (kz 1 (by decide)),w2.ZN hf (key 2 (by decide) (by decide) (by decide) (by decide)) (kz 2 (by decide)),w3.ZN hf (key 3 (by decide) (by decide) (by decide) (by decide)) (kz 3 (by decide)),
  ⟨r1.ZN hf (fun a ha=>key 5 (by decide) (by decide) (by decide) (by decide) _ (r2 _ ⟨a,ha,rfl⟩)),fun k hk=>kz 5 (by decide) k (r2 k hk)⟩,⟨ho,fun k hk=>?_⟩,⟨by show (a.hs++_).length=(s.sets++_).length;rw[ZR,ZR,e1];rfl,fun i h y hh hy=>?_⟩,by show Own i64 3 w'.heap tr' tc' ((s.sets++[(X,r)]).map (·.2));rw[dr];exact ht,fun k hk=>?_⟩,⟨rfl,rfl,rfl,rfl⟩,c1,c2⟩
 · obtain⟨b,hb,rfl⟩:=hk
   rcases hr b hb with h|h
   ·exact kz 7 (by decide) _ (s2 _ ⟨b,h,rfl⟩)
   ·rw[eo,ZO (by omega),ZP ⟨b,hb,rfl⟩]
 · have hh:(a.hs++[⟨xo,X.length,xc⟩])[i]?=some h:=hh
   have hy:(s.sets++[(X,r)])[i]?=some y:=hy;by_cases hi:i<a.hs.length
   · rw[au hi] at hh
     rw[au (by omega)] at hy;exact((e2 i h y hh hy).ZN hf (key 4 (by decide) (by decide) (by decide) (by decide))).mono (kz 4 (by decide))
   · have hil:=(ZS.1 hh).1
     rw[ZR,ZU] at hil;have ei:i=a.hs.length:=by omega
     rw[ei,List.getElem?_concat_length] at hh;rw[ei,e1,List.getElem?_concat_length] at hy;cases hh;cases hy;exact(hX.ZN hf (key 4 (by decide) (by decide) (by decide) (by decide))).mono (kz 4 (by decide))
 · obtain⟨b,hb,rfl⟩:=hk
   rcases hrt b hb with h|h
   ·exact kz 8 (by decide) _ (t2 _ ⟨b,h,rfl⟩)
   ·rw[eo,ZO (by omega),ZO (fun⟨c,hc,e⟩=>hap c b hc hb (by omega) e),ZP ⟨b,hb,rfl⟩]
def bdB(s:BSt):Prop:=s.ino.length≤137438953472∧s.lst.length≤137438953472∧s.fur.length≤137438953472∧s.sets.length≤1048576∧s.many≤1048576
def bdR(s:BSt):Prop:=(∀ z∈s.refs,0≤z∧z≤1152921504606846977)∧∀ y∈s.sets,0≤y.2∧y.2≤1152921504606846976
def NQ(ow:Nat→Nat)(W:World)(g:Nat)(qs:List (NdH×Nd))(ids:List Int)(files:List Ino)(s':BSt)(w':World):Prop:=
 aA (Lb ow) W w'∧∃ (a':BiA) (ow':Nat→Nat),BiW a' ow' w'.heap g qs ids files s'∧(∀ k,k<W.heap.size→ow' k=ow k)∧(∀ k,w'.heap.size≤k→ow' k=0)∧bdR s'
theorem Kb{s:BSt}{X:List Xa}(h:X.length=0):dY s X=(0,s):=ZP h
theorem MO{s:BSt}{X:List Xa}{i:Nat}{y:List Xa×Int}(h:¬ X.length=0)(hy:s.sets[i]?=some y)(he:y.1=X)(hno:∀ (j:Nat) (z:List Xa×Int),j<i→s.sets[j]?=some z→z.1≠X):dY s X=(y.2+1,s):=by
 unfold dY;rw[ZO h,show s.sets.find? (fun y=>decide (y.1=X))=some y from ?_];rw[List.find?_eq_some_iff_getElem];obtain⟨hi,rfl⟩:=ZS.1 hy;exact⟨Z3 he,i,hi,rfl,fun j hj=>by have:=hno j s.sets[j] hj (ZQ (by omega));simpa using this⟩
theorem MP{s:BSt}{X:List Xa}(h:¬ X.length=0)(hno:∀ (j:Nat) (z:List Xa×Int),s.sets[j]?=some z→z.1≠X):dY s X=(((aR s.fur s.fur.length:Nat):Int)+1,{ s with fur:=s.fur++(kX X).1,sets:=s.sets++[(X,((aR s.fur s.fur.length:Nat):Int))] }):=by
 unfold dY;rw[ZO h,show s.sets.find? (fun y=>decide (y.1=X))=none from ?_];rw[List.find?_eq_none];intro x hx;obtain⟨j,hj⟩:=ab hx;simpa using hno j x hj
theorem EA(a:BiA)(ow:Nat→Nat)(g:Nat)(qs:List (NdH×Nd))(ids:List Int)(files:List Ino)(s:BSt)(xo:Option Addr)(xc:Nat)(X:List Xa)(W:World)(hM:BiW a ow W.heap g qs ids files s)(hn:∀ k,W.heap.size≤k→ow k=0)(hX:XsV (fun k=>ow k=4) W.heap ⟨xo,X.length,xc⟩ X)(hmX:∀ x∈X,x.1.length≤255)(hsX:∀ y∈s.sets,∀ x∈y.1,x.1.length≤255)(hb:bdB (dY s X).2)(hbr:bdR s) :
 CA 59 [pT g,.slice xo X.length xc] W fun v w'=>v=iV (dY s X).1∧NQ ow W g qs ids files (dY s X).2 w':=by
 have hM0:=hM;obtain⟨hg,h6,⟨nd1,nd2⟩,⟨i1,i2⟩,⟨f1,f2⟩,w1,w2,w3,⟨r1,r2⟩,⟨s1,s2⟩,⟨e1,e2⟩,t1,t2⟩:=hM;have hXa:=hX.xa hmX;have hv7:=s1.vw;have hs63:=hv7.ZL;rw[e1] at hs63;refine cS 72 [(0,_),(1,_)] Tryz.func59 ?_;refine fK 10 ?_ ?_<;>intro h12
 ·have hres:dY s X=(0,s):=Kb (by omega);refine Gz 11 ?_;exact⟨_,rfl,by rw[hres],by rw[hres];exact⟨Zn _ _,a,ow,hM0,fun _ _=>rfl,hn,hbr⟩⟩
 have hne:¬ X.length=0:=by omega
 refine Gz 12 ?_;refine Wp (β:=Nat) (fun k=>[(0,pT g),(1,.slice xo X.length xc),(5,iV k)]) (fun k w=>k≤s.sets.length∧(∀ (j:Nat) (z:List Xa×Int),j<k→s.sets[j]?=some z→z.1≠X)∧aA nob W w) (fun k=>s.sets.length-k) 0 ⟨rfl,rfl,rfl,trivial⟩ ⟨ZZ _,fun j z hj=>by omega,Zn _ _⟩ ?_;rintro k w ⟨hk,hno,hF⟩;refine Gz 7 ?_;refine cL (Wk Eo rfl (aB (hF.obj hg id) rfl)) ?_;refine fK 1 ?_ ?_<;>intro h19
 ·have hkl:k<s.sets.length:=by omega
  obtain⟨y,hy⟩:∃ y,s.sets[k]?=some y:=⟨_,ZQ hkl⟩
  obtain⟨h,hh⟩:∃ h,a.hs[k]?=some h:=⟨_,ZQ (by omega)⟩
  have hxv:=(e2 k h y hh hy).ZN hF (fun _ _=>id);have hyn:=hxv.1;have hhd:a.hs.getD k hd0=h:=by rw[Z2,hh];rfl
  have hsd:(s.sets.map (·.2)).getD k 0=y.2:=by rw[Z2,ax,hy];rfl
  have hyb:=hbr.2 y (ZW hy);have hyx:XaV w.heap h.a h.c y.1:=by obtain⟨ha,hn0,hc0⟩:=h;have hyn:hn0=y.1.length:=hyn;exact hxv.xa (hsX y (ZW hy))
  refine Gz 12 ?_;refine cL (Wk Eo rfl (aB (hF.obj hg id) rfl)) ?_;refine Gz 1 ?_;refine cL (Wi Ob rfl rfl (fun h=>hv7.non (by rw[e1];exact h)) (by omega)) ?_;refine cL (Wm (u:=.slice h.a y.1.length h.c) (Wk eK rfl ((hv7.ZM hF).gz hd0 k rfl (by omega))) (by rw[hhd,←hyn];rfl)) ?_;refine cA 1 RU (Jd y.1 X h.a xo h.c xc w hyx (hXa.ZM hF)) ?_;rintro _ w5 ⟨rfl,hf5⟩;have hF5:=hF.trans hf5;refine Gz 5 ?_;refine WF (WK (WU rfl)) rfl (fun h31=>?_) (fun h31=>?_)
  ·have hyX:y.1=X:=of_decide_eq_true h31;have hres:dY s X=(y.2+1,s):=MO hne hy hyX hno;refine Gz 8 ?_;refine cL (Wk mU rfl (aB (hF5.obj hg id) rfl)) ?_;refine Gz 1 ?_;refine cL (Wi bP rfl rfl (fun h=>t1.vw.non (by rw[aa];exact h)) (by omega)) ?_;refine cL (Wk aF rfl ((t1.vw.ZM hF5).gz 0 k rfl (by rw[aa];omega))) ?_;rw[hsd];refine Gz 11 ?_;exact⟨_,rfl,by rw[hres],by rw[hres];exact⟨hF5.any,a,ow,hM0.ZM hF5,fun _ _=>rfl,fun k hk=>hn k (aj hF5.size hk),hbr⟩⟩
  have hyX:¬ y.1=X:=fun e=>h31 (Z3 e);refine Gz 11 ?_;refine aG (k+1) ⟨by omega,fun j z hj hz=>?_,hF5⟩ (by show s.sets.length-(k+1)<s.sets.length-k;omega);by_cases e:j=k
  ·subst e;rw[hy] at hz;cases hz;exact hyX
  ·exact hno j z (by omega) hz
 have hres:dY s X=_:=MP hne (fun j z hz=>hno j z (by have:=(ZS.1 hz).1;omega) hz);rw[hres] at hb;have hsl:s.sets.length+1≤1048576:=by have h:=hb.2.2.2.1;rwa[ZR] at h
 have hbl:s.fur.length+(kX X).1.length≤137438953472:=by have h:=hb.2.2.1;rwa[ZR] at h
 refine cA 11 Ta (Lo xo xc X w (hXa.ZM hF)) ?_;rintro _ w5 ⟨o5,c5,rfl,ho5,hfr5,hf5⟩;have hF5:=hF.trans hf5;have hz5:=hF5.size;have hzF:=hF.size;refine Gz 13 ?_;refine Wh MZ rfl (Kx o5 c5 (kX X).1 w5 (hM0.ZM hF5) (fun k hk=>hn k (by omega)) ho5.vw (fun _ k ⟨b,hb,e⟩=>.inl (hn k (by have:=hfr5 b hb;omega))) (by omega)) rfl ?_;rintro _ w6 ⟨rfl,a6,ow6,hM6,hae,q1,q2,hf6⟩;have hz6:=hf6.size;have hX6:XsV (fun k=>ow6 k=4) w6.heap ⟨xo,X.length,xc⟩ X:=((hX.ZN hF5 (fun _ _=>id)).ZN hf6 (fun k hk h=>by have hk:ow k=4:=hk;have h:k=g∨ow k=3:=h;rcases h with rfl|h<;>omega)).mono (fun k hk=>by have hk:ow k=4:=hk;rw[q1 k (ZY fun hc=>by have:=hn k (by omega);omega)];exact hk);obtain⟨s6,es6⟩:∃ t:BSt,t = { s with fur:=s.fur++(kX X).1 }:=⟨_,rfl⟩
 have z6:s6.sets=s.sets:=by rw[es6]
 rw[←es6] at hM6;have hM60:=hM6;obtain⟨hg6,h66,_,_,_,_,_,_,_,⟨s61,s62⟩,⟨e61,e62⟩,t61,t62⟩:=hM6;have hrb:aR s.fur s.fur.length≤1152921504606846976:=LC (by omega);have hl6:a6.hs.length≤1048575:=by rw[e61,z6];omega
 have hL6:∀ k,ow6 k=7∨ow6 k=8→k<w6.heap.size∧k≠g:=fun k hk=>⟨ZY fun hc=>by have:=q2 k (by omega);omega,fun e=>by have h66:ow6 g=6:=h66;rw[e,h66] at hk;omega⟩
 have hg6s:g<w6.heap.size:=(Z1.1 hg6).1;refine Gz 9 ?_;refine cL (Wm (u:=.slice a6.so a6.hs.length a6.sc) (Wk Eo rfl (aB hg6 rfl)) (by rw[e61])) ?_;refine Gz 1 ?_;refine WS (enc:=hd) (u:=⟨xo,X.length,xc⟩) Ob rfl rfl rfl ?_;intro w7 ho7 hs7 hf7;refine Wq AI Ob rfl rfl (s61.ZM hf7) ho7.vw (by simp only[ZU];omega) (by simp only[ZU];unfold maxLen;omega) rfl ?_;intro so8 sc8 w8 ho8 hf8 hr8 hn8;refine Gz 2 ?_;refine Wl Eo rfl rfl rfl (hf8.obj (hf7.obj hg6 id) (fun h=>(hL6 g (.inl (s62 g h))).2 rfl)) rfl ?_;intro w9 hg9 hs9 hf9;have hz8:=hf8.size;have hf69:aA (fun k=>k=g∨ow6 k=7) w6 w9:=(hf7.any.trans (hf8.mono (fun k h=>.inr (s62 k h)))).trans (hf9.mono (fun k h=>.inl h));have hso:∀ b,so8=some b→a6.so=some b∨w6.heap.size≤b.block:=fun b hb=>(hr8 b hb).imp id (fun h=>by omega);have hsn:∀ k,blk so8 k→k≠g:=fun k ⟨b,hb,e⟩ h=>by rcases hso b hb with h2|h2;exact(hL6 k (.inl (s62 k ⟨b,h2,e⟩))).2 h;omega
 have ho9:=ho8.ZN hf9 (fun b hb e=>hsn _ ⟨b,hb,rfl⟩ e);have ht9:=t61.ZN hf69 (fun b hb e=>by have h8:=t62 _ ⟨b,hb,rfl⟩;have e:b.block=g∨ow6 b.block=7:=e;rcases e with e|e;rw[e,show ow6 g=6 from h66] at h8;omega;omega);refine Gz 8 ?_;refine cL (Wm (u:=.slice a6.tr (s6.sets.map (·.2)).length a6.tc) (Wk mU rfl (aB hg9 rfl)) (by rw[aa])) ?_;refine Gz 1 ?_;refine WS (enc:=i64) (u:=((aR s.fur s.fur.length:Nat):Int)) bP rfl rfl rfl ?_;intro w10 ho10 hs10 hf10;refine Wq mI bP rfl rfl (ht9.ZM hf10) ho10.vw (by simp only[ZU,aa];omega) (by simp only[ZU,aa];unfold maxLen;omega) rfl ?_;intro tr11 tc11 w11 ho11 hf11 hr11 hn11;refine Gz 2 ?_;refine Wl mU rfl rfl rfl (hf11.obj (hf10.obj hg9 id) (fun h=>(hL6 g (.inr (t62 g h))).2 rfl)) rfl ?_;intro w12 hg12 hs12 hf12;refine Gz 11 ?_;have hlo9:=ho9.lt;have hlt6:=t61.lt;have hst:∀ k,blk so8 k→¬ blk a6.tr k:=fun k ⟨b,hb,e⟩ ht=>by
  have h8:=t62 k ht;rcases hso b hb with h|h
  ·have:=s62 k ⟨b,h,e⟩;omega
  ·obtain⟨c,hc,e2⟩:=ht;have:=hlt6 c hc;omega
 have hrt:∀ b,tr11=some b→a6.tr=some b∨w6.heap.size≤b.block:=fun b hb=>(hr11 b hb).imp id (fun h=>by omega);have htn:∀ k,blk tr11 k→k≠g:=fun k ⟨b,hb,e⟩ h=>by
  rcases hrt b hb with h2|h2
  ·exact(hL6 k (.inr (t62 k ⟨b,h2,e⟩))).2 h
  ·omega
 have ho12:=((ho9.ZM hf10).ZN hf11 (fun b hb e=>hst _ ⟨b,hb,rfl⟩ e)).ZN hf12 (fun b hb e=>hsn _ ⟨b,hb,rfl⟩ e);have ht12:=ho11.ZN hf12 (fun b hb e=>htn _ ⟨b,hb,rfl⟩ e);have hf612:aA (fun k=>k=g∨ow6 k=7∨ow6 k=8) w6 w12:=(((hf69.mono (fun k h=>h.elim .inl (fun h=>.inr (.inl h)))).trans hf10.any).trans (hf11.mono (fun k h=>.inr (.inr (t62 k h))))).trans (hf12.mono (fun k h=>.inl h));have hg12b:w12.heap[g]?=some (.cells (biK { a6 with so:=so8,sc:=sc8,tr:=tr11,tc:=tc11 } qs ids files { s6 with sets:=s6.sets++[(X,((aR s.fur s.fur.length:Nat):Int))] }).toArray 76 (0,0)):=by
  rw[hg12];have l1:(a6.hs++[(⟨xo,X.length,xc⟩:Hd)]).length=(s6.sets++[(X,((aR s.fur s.fur.length:Nat):Int))]).length:=by simp[e61]
  have l2:(s6.sets.map (·.2)++[((aR s.fur s.fur.length:Nat):Int)]).length=(s6.sets++[(X,((aR s.fur s.fur.length:Nat):Int))]).length:=by simp
  rw[l1,l2];rfl
 obtain⟨a9,ow9,hM9,_,k1,k2⟩:=Pz hM60 q2 hX6 hg12b ho12 hso ht12 hrt (fun b c hb hc h6b=>by
  rcases hr11 c hc with h|h
  ·have:=hlt6 c h;omega
  ·have:=hlo9 b hb;omega) hf612
 refine⟨_,rfl,by rw[hres],?_⟩;rw[hres];rw[es6] at hM9;refine⟨(hF5.any.trans (hf6.mono (fun k h=>?_))).ZJ hf612 (fun k h=>?_),a9,ow9,hM9,fun k hk=>by rw[k1 k (by omega),q1 k (by omega)],k2,hbr.1,fun y hy=>?_⟩
 · have h:k=g∨ow k=3:=h
   show ow k≠0∧ow k≠4;rcases h with h|h
   ·rw[h,h6];decide
   ·rw[h];decide
 · by_cases hk:k<W.heap.size
   · have h:k=g∨ow6 k=7∨ow6 k=8:=h
     rw[q1 k (by omega)] at h;refine .inl ?_;show ow k≠0∧ow k≠4;rcases h with h|h|h
     ·rw[h,h6];decide
     ·rw[h];decide
     ·rw[h];decide
   ·exact .inr (by omega)
 · have hy:y∈s.sets++[(X,((aR s.fur s.fur.length:Nat):Int))]:=hy
   rcases an.1 hy with hy|hy
   ·exact hbr.2 y hy
   ·rw[ai] at hy;subst hy;exact⟨by show (0:Int)≤((aR s.fur s.fur.length:Nat):Int);omega,by show ((aR s.fur s.fur.length:Nat):Int)≤_;omega⟩
theorem XsV.eta{D:Nat→Prop}{H:Array Obj}{z:Hd}{X:List Xa}(h:XsV D H z X):XsV D H ⟨z.a,X.length,z.c⟩ X:=⟨rfl,h.2⟩
section
variable {a:BiA}{ow:Nat→Nat}{g:Nat}{qs:List (NdH×Nd)}{ids:List Int}{files:List Ino}{s:BSt}{w w':World}
theorem BiW.refsup{m:Nat}{v:Int}(h:BiW a ow w.heap g qs ids files s)(ho:Own i64 3 w'.heap a.ro a.rc (s.refs.set m v))(f:aA (blk a.ro) w w'):BiW a ow w'.heap g qs ids files { s with refs:=s.refs.set m v }:=by
 obtain⟨hg,hl,⟨n1,n2⟩,⟨i1,i2⟩,⟨f1,f2⟩,w1,w2,w3,⟨r1,r2⟩,⟨s1,s2⟩,⟨e1,e2⟩,t1,t2⟩:=h;have key:∀ z,z≠5→∀ k,ow k=z→¬ blk a.ro k:=fun z hz k hk hb=>by have:=r2 k hb;omega
 refine⟨?_,hl,⟨eG n1 f (key 4 (by decide)) (fun hne k hk=>key 4 (by decide) k (n2 hne k hk)) (fun _=>id),n2⟩,⟨i1.ZN f (fun a ha=>key 4 (by decide) _ (i2 _ ⟨a,ha,rfl⟩)),i2⟩,⟨f1.ZN f (fun a ha=>key 4 (by decide) _ (f2 _ ⟨a,ha,rfl⟩)),f2⟩,
  w1.ZN f (key 1 (by decide)) (fun _=>id),w2.ZN f (key 2 (by decide)) (fun _=>id),w3.ZN f (key 3 (by decide)) (fun _=>id),⟨ho,r2⟩,⟨s1.ZN f (fun a ha=>key 7 (by decide) _ (s2 _ ⟨a,ha,rfl⟩)),s2⟩,⟨e1,fun i h y hh hy=>(e2 i h y hh hy).ZN f (key 4 (by decide))⟩,t1.ZN f (fun a ha=>key 8 (by decide) _ (t2 _ ⟨a,ha,rfl⟩)),t2⟩
 have:=f.obj hg (key 6 (by decide) g hl);rw[this];unfold biK;show _=some (Obj.cells (biC _ _ _ _ _ _ _ _ (.slice a.ro (s.refs.set m v).length a.rc) _ _ _ _).toArray _ _);rw[cm]
theorem BiW.manyup{n:Nat}(h:BiW a ow w.heap g qs ids files s)(hg':w'.heap[g]?=some (.cells (biK a qs ids files { s with many:=n }).toArray 76 (0,0)))(f:aA (· = g) w w'):BiW a ow w'.heap g qs ids files { s with many:=n }:=by
 obtain⟨hg,hl,⟨n1,n2⟩,⟨i1,i2⟩,⟨f1,f2⟩,w1,w2,w3,⟨r1,r2⟩,⟨s1,s2⟩,⟨e1,e2⟩,t1,t2⟩:=h;have key:∀ z,z≠6→∀ k,ow k=z→¬ k=g:=fun z hz k hk hb=>by rw[hb,hl] at hk;omega
 exact⟨hg',hl,⟨eG n1 f (key 4 (by decide)) (fun hne k hk=>key 4 (by decide) k (n2 hne k hk)) (fun _=>id),n2⟩,⟨i1.ZN f (fun a ha=>key 4 (by decide) _ (i2 _ ⟨a,ha,rfl⟩)),i2⟩,⟨f1.ZN f (fun a ha=>key 4 (by decide) _ (f2 _ ⟨a,ha,rfl⟩)),f2⟩,
  w1.ZN f (key 1 (by decide)) (fun _=>id),w2.ZN f (key 2 (by decide)) (fun _=>id),w3.ZN f (key 3 (by decide)) (fun _=>id),⟨r1.ZN f (fun a ha=>key 5 (by decide) _ (r2 _ ⟨a,ha,rfl⟩)),r2⟩,⟨s1.ZN f (fun a ha=>key 7 (by decide) _ (s2 _ ⟨a,ha,rfl⟩)),s2⟩,⟨e1,fun i h y hh hy=>(e2 i h y hh hy).ZN f (key 4 (by decide))⟩,t1.ZN f (fun a ha=>key 8 (by decide) _ (t2 _ ⟨a,ha,rfl⟩)),t2⟩
end
structure leB (s t:BSt):Prop where
 i:s.ino.length≤t.ino.length
 l:s.lst.length≤t.lst.length
 f:s.fur.length≤t.fur.length
 e:s.sets.length≤t.sets.length
 r:t.refs.length=s.refs.length
 m:s.many≤t.many
theorem leB.rfl{s:BSt}:leB s s:=⟨Z0 _,Z0 _,Z0 _,Z0 _,Eq.refl _,Z0 _⟩
theorem leB.trans{s t u:BSt}(h:leB s t)(k:leB t u):leB s u:=⟨aj h.i k.i,aj h.l k.l,aj h.f k.f,aj h.e k.e,k.r.trans h.r,aj h.m k.m⟩
theorem leB.bd{s t:BSt}(h:leB s t)(k:bdB t):bdB s:=⟨aj h.i k.1,aj h.l k.2.1,aj h.f k.2.2.1,aj h.e k.2.2.2.1,aj h.m k.2.2.2.2⟩
theorem Iu(s:BSt)(X:List Xa):leB s (dY s X).2:=by
 unfold dY
 split
 ·exact .rfl
 · split
   ·exact .rfl
   ·exact⟨Z0 _,Z0 _,by show _≤(s.fur++_).length;rw[ZR];omega,by show _≤(s.sets++_).length;rw[ZR];omega,Eq.refl _,Z0 _⟩
section
variable {qs:List (NdH×Nd)}{ids:List Int}{files:List Ino}
theorem IC(k:Int)(i:Ino)(s:BSt):leB (dY s (ndB qs k).xs).2 (lI qs ids k i s):=⟨by show _≤(_++_:By).length;rw[ZR];omega,Z0 _,Z0 _,Z0 _,cm,ia _⟩
theorem rA(k:Int)(i:Ino)(s:BSt):leB s (lI qs ids k i s):=(Iu s _).trans (IC k i s)
theorem Gd{wr:Int→BSt→BSt}(hw:∀ k s,leB s (wr k s)):∀ (ys:List Int) (s:BSt),leB s (wrK wr qs ys s).1
|[],s=>.rfl
|j::r,s=>(hw j s).trans (Gd hw r (wr j s))
theorem Mq(s:BSt)(b:By):leB s { s with lst:=s.lst++b }:=⟨Z0 _,by show _≤(s.lst++b).length;rw[ZR];omega,Z0 _,Z0 _,Eq.refl _,Z0 _⟩
theorem CU:∀ (n:Nat) (k:Int) (s:BSt),leB s (wrB qs ids files n k s)
|0,k,s=>.rfl
|n+1,k,s=>by
   unfold wrB
   split
   ·exact .rfl
   · split
     ·exact rA _ _ _
     · split
       ·exact rA _ _ _
       · split
         ·exact((Gd (CU n) _ s).trans (Mq _ _)).trans (rA _ _ _)
         ·exact rA _ _ _
def shS(s:BSt):Prop:=∀ y∈s.sets,∀ x∈y.1,x.1.length≤255
theorem It{s:BSt}{X:List Xa}(h:shS s)(hX:∀ x∈X,x.1.length≤255):shS (dY s X).2:=by
 unfold dY
 split
 ·exact h
 · split
   ·exact h
   · intro y hy
     rcases an.1 hy with hy|hy
     ·exact h y hy
     ·rw[ai] at hy;subst hy;exact hX
structure GdB (qs:List (NdH×Nd))(files:List Ino):Prop where
 q:∀ q∈qs,(1≤q.2.ino∧q.2.ino≤qs.length)∧q.2.names.length≤16∧(∀ c∈q.2.names,c.length≤255)∧q.2.tgt.length≤200∧(∀ x∈q.2.xs,x.1.length≤255)
 k:∀ s ys,CT qs s ys→ys=cD qs s qs.length
 fl:files.length=qs.length+1
 ft:∀ f∈files,f.2.length≤200
 n:qs.length≤1024
theorem GdB.nd(G:GdB qs files)(k:Int):∀ x∈(ndB qs k).xs,x.1.length≤255:=by
 unfold ndB;rw[Z2];cases h:qs[k.toNat]? with
|none=>simp[nd0]
|some q=>exact(G.q q (ZW h)).2.2.2.2
theorem yT(G:GdB qs files){k:Int}{i:Ino}{s:BSt}(h:shS s):shS (lI qs ids k i s):=It h (G.nd k)
theorem KL{wr:Int→BSt→BSt}(hw:∀ k s,shS s→shS (wr k s)):∀ (ys:List Int) (s:BSt),shS s→shS (wrK wr qs ys s).1
|[],s,h=>h
|j::r,s,h=>KL hw r (wr j s) (hw j s h)
theorem KM(G:GdB qs files):∀ (n:Nat) (k:Int) (s:BSt),shS s→shS (wrB qs ids files n k s)
|0,k,s,h=>h
|n+1,k,s,h=>by
   unfold wrB
   split
   ·exact h
   · split
     ·exact yT G h
     · split
       ·exact yT G h
       · split
         ·exact yT G (show shS { (wrK (wrB qs ids files n) qs (cD qs (ndB qs k).names qs.length) s).1 with lst:=_ } from KL (KM G n) _ s h)
         ·exact yT G h
structure okS (qs:List (NdH×Nd))(s:BSt):Prop where
 r:s.refs.length=qs.length+1
 b:bdR s
 h:shS s
end
def WrS(g:Nat)(qs:List (NdH×Nd))(ids:List Int)(files:List Ino)(n:Nat):Prop:=∀ (a:BiA) (ow:Nat→Nat) (s:BSt) (k:Int) (W:World),BiW a ow W.heap g qs ids files s→(∀ k,W.heap.size≤k→ow k=0)→(0≤k∧k<qs.length)→17≤(ndB qs k).names.length+n→okS qs s→bdB (wrB qs ids files n k s) →
 CA 27 [pT g,iV k] W fun _ w'=>NQ ow W g qs ids files (wrB qs ids files n k s) w'
theorem bX{qs:List (NdH×Nd)}{i:Nat}{q:NdH×Nd}(h:qs[i]?=some q):ndB qs (i:Int)=q.2:=by unfold ndB;rw[ak,Z2,h];rfl
theorem KN{qs:List (NdH×Nd)}{ids:List Int}{files:List Ino}{i m:Nat}{q:NdH×Nd}(n:Nat)(s:BSt)(h:qs[i]?=some q)(hm:q.2.ino=(m:Int)):wrB qs ids files (n+1) (i:Int) s=if 0<s.refs.getD m 0 then s else if q.2.kind=2 then lI qs ids i (files.getD m kO) s else if q.2.kind=3 then lI qs ids i (zF,q.2.tgt) s else if q.2.kind=1 then
 lI qs ids i (Ko (wrK (wrB qs ids files n) qs (cD qs q.2.names qs.length) s).1 (iO (wrK (wrB qs ids files n) qs (cD qs q.2.names qs.length) s).2).1)
  { (wrK (wrB qs ids files n) qs (cD qs q.2.names qs.length) s).1 with lst:=(wrK (wrB qs ids files n) qs (cD qs q.2.names qs.length) s).1.lst++(iO (wrK (wrB qs ids files n) qs (cD qs q.2.names qs.length) s).2).1 }
 else lI qs ids i (zF,[]) s:=by
 rw[wrB,bX h,hm,ak]
theorem Ig{qs:List (NdH×Nd)}{s:List By}:∀ (n:Nat),(cD qs s n).length≤n
|0=>Z0 _
|n+1=>by
   have:=Ig (qs:=qs) (s:=s) n;unfold cD
   split
   ·rw[ZR,ZU];omega
   ·omega
theorem Fm{l:List By}(h:∀ c∈l,c.length≤255):(bB l).length≤255:=by
 unfold bB;rw[Z2];cases hx:l[l.length-1]? with
|none=>exact ZZ _
|some x=>exact h x (ZW hx)
theorem O2{ow ow8:Nat→Nat}{w4 w w':World}(h8:∀ k,k<w4.heap.size→ow8 k=ow k)(hF:aA (Lb ow) w4 w)(hf:aA (Lb ow8) w w'):aA (Lb ow) w4 w':=hF.ZJ hf (fun k h=>by
 by_cases hk:k<w4.heap.size
 · have h:ow8 k≠0∧ow8 k≠4:=h
   rw[h8 k hk] at h;exact .inl h
 ·exact .inr (by omega))
theorem Gq(g:Nat)(qs:List (NdH×Nd))(ids:List Int)(files:List Ino)(G:GdB qs files)(n:Nat)(ih:WrS g qs ids files n):WrS g qs ids files (n+1):=by
 intro a ow s k W hM hn hk hdp hok hbd;obtain⟨kn,rfl⟩:=az hk.1;have hkl:kn<qs.length:=by omega
 obtain⟨q,hq⟩:∃ q,qs[kn]?=some q:=⟨_,ZQ hkl⟩
 have hnd:=bX hq;obtain⟨⟨hi1,hi2⟩,hnl,hnc,htl,hxl⟩:=G.q q (ZW hq);obtain⟨m,hm⟩:=az (show 0≤q.2.ino by omega);have hwr:=KN (ids:=ids) (files:=files) n s hq hm;have hM2:=hM;obtain⟨hg,h6,⟨nd1,nd2⟩,⟨i1,i2⟩,⟨f1,f2⟩,_,_,_,⟨r1,r2⟩,⟨s1,s2⟩,e0,t0⟩:=hM2;have hlr:=hok.r;have hfl:=G.fl;have hn1024:=G.n;have hgl:=(Z1.1 hg).1;obtain⟨hvn,hvd,hvx⟩:=nd1.2 q (ZW hq);refine cS 179 [(0,_),(1,_)] Tryz.func27 ?_;refine Gz 7 ?_;refine cL (Wj bR rfl rfl nd1.1.non (by omega)) ?_;refine cL (Ws (cs:=aV q) gQ rfl (fun j v hj=>nd1.1.rowZ kn rfl hq j v hj)) ?_;refine Wn oT rfl ?_;intro w1 hg1 hs1 hf1;obtain⟨b,eb⟩:∃ b,b=W.heap.size:=⟨_,rfl⟩
 rw[←eb] at hg1 ⊢;refine WP (vs:=aV q) gQ rfl rfl (aE q).2 hg1 rfl ?_;intro w2 hb2 hs2 hf2;have hF2:aA nob W w2:=hf1.tw hf2;have hr2v:=(r1.ZM hF2).vw;refine Gz 4 ?_;refine Ww 9 [0,1,2,3,4,5,6,7,8] aK (by kernel_rfl) ?_;refine Gz 3 ?_;refine xC rfl (Wk mU rfl (aB (hF2.obj hg id) rfl)) ?_;refine Gz 1 ?_;refine xC rfl (Wk aF rfl (aB hb2 rfl)) ?_;refine xC rfl (Wi bP rfl rfl hr2v.non (by omega)) ?_;refine xC rfl (Wk aF rfl (hr2v.gz 0 m hm (by omega))) ?_;refine xK 0 ?_ ?_<;>intro h29
 ·rw[ZP h29] at hwr;refine Gz 6 ?_;exact⟨_,rfl,by rw[hwr];exact⟨(hF2.draws 1).any,a,ow,hM.ZM (hF2.draws 1),fun _ _=>rfl,fun k hk=>hn k (by have hk:w2.heap.size≤k:=hk;omega),hok.b⟩⟩
 rw[ZO h29] at hwr;refine Gz 7 ?_;refine cL (bU (aN zF []) qT mO) ?_;refine Wn mO rfl ?_;intro w3 hg3 hs3 hf3;obtain⟨c,ec⟩:∃ c,c=w2.heap.size:=⟨_,rfl⟩
 rw[show (w2.drewN 1).heap.size=c from ec.symm] at hg3 ⊢;refine sA rfl bM (bY _ _) hg3 ?_;intro w4 hc4 hs4 hf4;have hf24:aA nob w2 w4:=hf3.ZK.tw hf4;have hF4:=hF2.trans hf24;have hs3b:w3.heap.size=w2.heap.size+1:=hs3;have hb4:=hf24.obj hb2 id;have hM4:=hM.ZM hF4;have hg4:=hF4.obj hg id;have hbl:ow b=0:=hn b (by omega);have hcl:ow c=0:=hn c (by omega);have hn4:∀ k,w4.heap.size≤k→ow k=0:=fun k hk=>hn k (by omega);have hbc:b≠c:=by omega
 refine Gz 2 ?_;refine WL (β:=(BSt×Ino)×(BiA×(Nat→Nat))) (fun⟨⟨s8,i8⟩,⟨a8,ow8⟩⟩=>[(0,pT g),(1,iV (kn:Int)),(4,pT b),(5,pT c)]) (fun⟨⟨s8,i8⟩,⟨a8,ow8⟩⟩ w=>BiW a8 ow8 w.heap g qs ids files s8∧w.heap[b]?=some (.cells (aV q).toArray 68 (0,0))∧w.heap[c]?=some (.cells (aN i8.1 i8.2).toArray 84 (0,0))∧wrB qs ids files (n+1) (kn:Int) s=lI qs ids kn i8 s8∧okS qs s8∧i8.2.length≤200∧(∀ k,k<w4.heap.size→ow8 k=ow k)∧(∀ k,w.heap.size≤k→ow8 k=0)∧aA (fun k=>Lb ow k∨k=c) w4 w) ?_ ?_
 ·refine fK 9 ?_ ?_<;>intro h34
  ·rw[ZP h34] at hwr;have hmf:m<files.length:=by omega
   obtain⟨fi,hfi⟩:∃ fi,files[m]?=some fi:=⟨_,ZQ hmf⟩
   have hfd:files.getD m kO=fi:=by rw[Z2,hfi];rfl
   rw[hfd] at hwr;have hfv4:=f1.ZM hF4;refine Gz 4 ?_;refine Wv 8 (fun H=>H[g]?=some (.cells (biK a qs ids files s).toArray 76 (0,0))∧H[b]?=some (.cells (aV q).toArray 68 (0,0))∧VwM 11 Bo H a.fo a.fc files) [8] [0,1,2,3,4,5,6,7,8] aK (by kernel_rfl) (⟨hg4,hb4,hfv4⟩) ?_;refine Gz 6 ?_;refine xC rfl (Wj C3 rfl rfl f1.non (by omega)) ?_;refine xC rfl (W9 (cs:=Bo fi) bM rfl (fun H hH a v hv=>hH.2.2.rowZ m hm hfi a v hv)) ?_;refine Wo rfl rfl (WP (vs:=Bo fi) bM rfl rfl (bY _ _) hc4 rfl ?_);intro w5 hc5 hs5 hf5;refine WW rfl ?_;have hf45:aA (· = c) w4 w5:=hf5.ZK;refine Gz 2 ?_;have hM5:=hM4.ZN hf45 (fun k hk h=>hk (by have h:k=c:=h;rw[h];exact hcl)) (fun _ _=>rfl);exact aC ⟨⟨s,fi⟩,⟨a,ow⟩⟩ ⟨hM5,hf45.obj hb4 hbc,hc5,hwr,hok,G.ft fi (ZW hfi),fun _ _=>rfl,fun k hk=>hn4 k (aj hf45.size hk),hf45.mono (fun k h=>.inr h)⟩
  rw[ZO h34] at hwr;refine fK 6 ?_ ?_<;>intro h44
  ·rw[ZP h44] at hwr;refine Gz 8 ?_;refine Wl gH rfl rfl rfl hc4 rfl ?_;intro w5 hc5 hs5 hf5;have hf45:aA (· = c) w4 w5:=hf5;refine Gz 2 ?_;have hM5:=hM4.ZN hf45 (fun k hk h=>hk (by have h:k=c:=h;rw[h];exact hcl)) (fun _ _=>rfl);exact aC ⟨⟨s,(zF,q.2.tgt)⟩,⟨a,ow⟩⟩ ⟨hM5,hf45.obj hb4 hbc,hc5,hwr,hok,htl,fun _ _=>rfl,fun k hk=>hn4 k (aj hf45.size hk),hf45.mono (fun k h=>.inr h)⟩
  rw[ZO h44] at hwr;refine fK 6 ?_ ?_<;>intro h49
  ·rw[ZP h49] at hwr;have hvn4:=hvn.ZN hF4 (fun _ _=>id);have hqn:q.1.names.n=q.2.names.length:=hvn4.1;have hbK:=(rA (qs:=qs) (ids:=ids) _ _ _).bd (show bdB _ from hwr ▸ hbd);have hbK2:=(Mq _ _).bd hbK;refine Gz 5 ?_;refine Wv 8 (fun H=>H[g]?=some (.cells (biK a qs ids files s).toArray 76 (0,0))∧H[b]?=some (.cells (aV q).toArray 68 (0,0))) [6] [0,1,2,3,4,5,6,7] aK (by kernel_rfl) (⟨hg4,hb4⟩) ?_;refine Gz 5 ?_;refine xC rfl (Wm (u:=.slice q.1.names.a q.2.names.length q.1.names.c) (Wt lY rfl (fun H hH=>aB hH.2 rfl)) (by rw[←hqn];rfl)) ?_;refine Wo rfl rfl (Wh VI rfl (Lz a.lo a.lc qs q.1.names.a q.1.names.c q.2.names (w4.drewN 1) ⟨(hM4.ZM (Zo 1)).2.2.1.1.1,(hM4.ZM (Zo 1)).2.2.1.1.2⟩ (hvn4.2.1.ZM (Zo 1)) (by omega)) rfl ?_);rintro _ w5 ⟨ko,kc,ys,rfl,hoy,hfy,hky,hf5⟩;have hf5:=hf5.ZK;refine Wu (by exact⟨hf5.obj hg4 id,hf5.obj hb4 id⟩) ?_;have hfy:Fr w4.heap.size ko:=hfy;have hky:=G.k _ _ hky;rw[←hky] at hwr hbK hbK2;have hysl:ys.length≤qs.length:=by rw[hky];exact Ig _
   have hyv:=hoy.vw;have hy63:=hyv.ZL;have hz5:=hf5.size;have hb5:=hf5.obj hb4 id;have hc5:=hf5.obj hc4 id;have hM5:=hM4.ZM hf5;have hlk5:=hoy.lt;refine Gz 5 ?_;refine Xc bA lW rfl ?_;intro w6 ho6 hs6 hf6;obtain⟨lb,elb⟩:∃ b,b=w5.heap.size:=⟨_,rfl⟩
   rw[←elb] at ho6 ⊢;refine Gz 10 ?_;refine Wp (β:=((Nat×BSt)×(BiA×(Nat→Nat)))×(Option Addr×(Nat×List Ent))) (fun⟨⟨⟨j,s9⟩,⟨a9,ow9⟩⟩,⟨lo9,⟨lc9,L9⟩⟩⟩=>[(0,pT g),(1,iV (kn:Int)),(4,pT b),(5,pT c),(6,.slice ko ys.length kc),(7,.slice lo9 L9.length lc9),(8,iV j)]) (fun⟨⟨⟨j,s9⟩,⟨a9,ow9⟩⟩,⟨lo9,⟨lc9,L9⟩⟩⟩ w=>j≤ys.length∧L9.length=j∧wrK (wrB qs ids files n) qs ys s=((wrK (wrB qs ids files n) qs (ys.drop j) s9).1,L9++(wrK (wrB qs ids files n) qs (ys.drop j) s9).2)∧BiW a9 ow9 w.heap g qs ids files s9∧okS qs s9∧(∀ k,k<w5.heap.size→ow9 k=ow k)∧(∀ k,w.heap.size≤k→ow9 k=0)∧bJ 3 bH 39 w.heap lo9 lc9 L9∧(∀ k,blk lo9 k→w5.heap.size≤k∧ow9 k=0)∧(∀ x∈L9,x.1.length≤255)∧aA (Lb ow) w5 w) (fun⟨⟨⟨j,s9⟩,⟨a9,ow9⟩⟩,⟨lo9,⟨lc9,L9⟩⟩⟩=>ys.length-j) ⟨⟨⟨0,s⟩,⟨a,ow⟩⟩,⟨some ⟨lb,0,none⟩,⟨0,[]⟩⟩⟩ ⟨rfl,rfl,rfl,rfl,rfl,rfl,rfl,trivial⟩ ⟨ZZ _,rfl,rfl,hM5.ZM hf6,hok,fun _ _=>rfl,fun k hk=>hn k (by have:=hf6.size;omega),ho6,fun k ⟨a,ha,e⟩=>by cases ha;have e:lb=k:=e;exact⟨by omega,hn k (by omega)⟩,by simp,hf6.any⟩ ?_;rintro⟨⟨⟨j,s9⟩,⟨a9,ow9⟩⟩,⟨lo9,⟨lc9,L9⟩⟩⟩ w9 ⟨hj,hLj,hwk,hM9,hok9,hl9,hn9,ho9,hb9l,hL9,hF9⟩;refine fK 6 ?_ ?_<;>intro h61
   ·have hjl:j<ys.length:=by omega
    obtain⟨z,hz⟩:∃ z,ys[j]?=some z:=⟨_,ZQ hjl⟩
    have hzd:ys.getD j 0=z:=by rw[Z2,hz];rfl
    have hzm:=ZW hz;rw[hky] at hzm;obtain⟨i,rfl,hil,hkq⟩:=gL.1 hzm;obtain⟨r,hr⟩:∃ r,qs[i]?=some r:=⟨_,ZQ hil⟩
    rw[sS hr] at hkq;obtain⟨hrne,hrdl⟩:=oI.1 hkq;have hrl:r.2.names.length=q.2.names.length+1:=by have h0:=bw.2 hrne;rw[←hrdl,List.length_dropLast];omega
    have hnr:=bX hr;obtain⟨⟨hr1,hr2⟩,hrnl,hrnc,hrtl,hrxl⟩:=G.q r (ZW hr);obtain⟨mr,hmr⟩:=az (show 0≤r.2.ino by omega);have hdr:ys.drop j=(i:Int)::ys.drop (j+1):=by obtain⟨h,e⟩:=ZS.1 hz;rw[←e];exact bz h
    rw[hdr] at hwk;have hb9:bdB (wrB qs ids files n (i:Int) s9):=(Gd (qs:=qs) (CU n) (ys.drop (j+1)) _).bd (by have h:=hbK2;rw[hwk] at h;exact h);have hvy9:=hyv.ZN hF9 (fun a ha h=>by have h1:=hfy a ha;have h2:=hlk5 a ha;have h:(ow a.block≠0∧ow a.block≠4):=h;exact h.1 (hn4 _ h1));refine Gz 1 ?_;refine aW [(0,_),(1,_),(4,_),(5,_),(6,_),(7,_),(8,_),(61,_)] ?_;refine Gz 11 ?_;refine cL (Wi bP rfl rfl hvy9.non (by omega)) ?_;refine cL (Wk aF rfl (hvy9.gz 0 j rfl hjl)) ?_;rw[hzd];refine Wh Sf rfl (ih a9 ow9 s9 (i:Int) w9 hM9 hn9 ⟨by omega,by omega⟩ (by rw[hnr,hrl];rw[hnd] at hdp;omega) hok9 hb9) rfl ?_;rintro _ w10 hP;obtain⟨hf10,a10,ow10,hM10,hl10,hn10,hbr10⟩:=hP;have hok10:okS qs (wrB qs ids files n (i:Int) s9):=⟨by rw[(CU n _ s9).r];exact hok9.r,hbr10,KM G n _ s9 hok9.h⟩
    obtain⟨e,ee⟩:∃ e:Ent,e=(bB r.2.names,r.2.kind,(wrB qs ids files n (i:Int) s9).refs.getD mr 0-1):=⟨_,rfl⟩
    have hwk2:wrK (wrB qs ids files n) qs ys s=((wrK (wrB qs ids files n) qs (ys.drop (j+1)) (wrB qs ids files n (i:Int) s9)).1,(L9++[e])++(wrK (wrB qs ids files n) qs (ys.drop (j+1)) (wrB qs ids files n (i:Int) s9)).2):=by
     rw[hwk];show (_,L9++((bB (ndB qs i).names,(ndB qs i).kind,(wrB qs ids files n (i:Int) s9).refs.getD (ndB qs i).ino.toNat 0-1)::_))=_;rw[hnr,hmr,ak,←ee,Z6];rfl
    obtain⟨s10,es10⟩:∃ t,t=wrB qs ids files n (i:Int) s9:=⟨_,rfl⟩
    rw[←es10] at hM10 hbr10 hok10 ee hwk2;have hz10:=hf10.size;have hz9:=hF9.size;have hl9lt:=ho9.lt;have hnl9:∀ k,blk lo9 k→¬ Lb ow9 k:=fun k hk h=>h.1 (hb9l k hk).2;have hvy10:=hvy9.ZN hf10 (fun a ha h=>by have h1:=hfy a ha;have h2:=hlk5 a ha;exact h.1 (by rw[hl9 _ h2];exact hn4 _ h1));have ho10:=ho9.ZN hf10 (fun a ha=>hnl9 _ ⟨a,ha,rfl⟩);have hN10:=hM10.2.2.1.1;have hg10:=hM10.1;have hR10:=hM10.2.2.2.2.2.2.2.2.1.1;obtain⟨hrn,_⟩:=hN10.2 r (ZW hr);have hrnn:r.1.names.n=r.2.names.length:=hrn.1;have hlr10:=hok10.r;have hrb:=hbr10.1 (s10.refs.getD mr 0) (by rw[Z2,ZQ (by omega)];exact bm _);refine Gz 3 ?_;refine Wv 11 (fun H=>H[g]?=some (.cells (biK a10 qs ids files s10).toArray 76 (0,0))∧Vw i64 H ko kc ys∧VwM 10 aV H a10.lo a10.lc qs) [10,11] [0,1,2,3,4,5,6,7,8,9,10,11] aK (by kernel_rfl) (⟨hg10,hvy10,hN10.1⟩) ?_;refine Gz 6 ?_;refine xC rfl (Wi bP rfl rfl hvy10.non (by omega)) ?_;refine xC rfl (Wt aF rfl (fun H hH=>hH.2.1.gz 0 j rfl hjl)) ?_;rw[hzd];refine xC rfl (Wj bR rfl rfl hN10.1.non (by omega)) ?_;refine xC rfl (W9 (cs:=aV r) gQ rfl (fun H hH a v hv=>hH.2.2.rowZ i rfl hr a v hv)) ?_;refine Wo rfl rfl (Wn oT rfl ?_);intro w11 hg11 hs11 hf11;have hf11:=hf11.ZK;obtain⟨d,ed⟩:∃ d,d=w10.heap.size:=⟨_,rfl⟩
    rw[show (w10.drewN 1).heap.size=d from ed.symm] at hg11 ⊢;refine Wu (by exact⟨hf11.obj hg10 id,hvy10.ZM hf11,hN10.1.ZM hf11⟩) ?_;refine Wo rfl rfl (WP (vs:=aV r) gQ rfl rfl (aE r).2 hg11 rfl ?_);intro w12 hd12 hs12 hf12;refine WW rfl ?_;have hf1012:aA nob w10 w12:=hf11.tw hf12;have hg12:=hf1012.obj hg10 id;have hr12:=hrn.2.1.ZM hf1012;have hR12:=hR10.vw.ZM hf1012;refine Gz 2 ?_;refine Wv 24 (fun H=>H[d]?=some (.cells (aV r).toArray 68 (0,0))∧H[g]?=some (.cells (biK a10 qs ids files s10).toArray 76 (0,0))∧Vw xT H r.1.names.a r.1.names.c r.2.names∧Vw i64 H a10.ro a10.rc s10.refs) [21,22] [0,1,2,3,4,5,6,7,8,9,10,11,12,13,14,15,16,17,18,19,20,21,22,23] aK (by kernel_rfl) (⟨hd12,hg12,hr12,hR12⟩) ?_;refine Gz 2 ?_;refine xC rfl (Wm (u:=.slice r.1.names.a r.2.names.length r.1.names.c) (Wt lY rfl (fun H hH=>aB hH.1 rfl)) (by rw[←hrnn];rfl)) ?_;refine Gz 1 ?_;refine xC rfl (Wm (u:=.slice r.1.names.a r.2.names.length r.1.names.c) (Wt lY rfl (fun H hH=>aB hH.1 rfl)) (by rw[←hrnn];rfl)) ?_;refine Gz 1 ?_;refine xC rfl (Wm (u:=iV ((r.2.names.length-1:Nat):Int)) (XH rfl rfl (by omega)) (by congr 1;omega)) ?_;refine xC rfl (Wi vX rfl rfl hr12.non (by omega)) ?_;refine xC rfl (Wt gH rfl (fun H hH=>hH.2.2.1.gz [] (r.2.names.length-1) rfl (by omega))) ?_;refine Gz 8 ?_;refine xC rfl (Wi bP rfl rfl hR12.non (by omega)) ?_;refine xC rfl (Wt aF rfl (fun H hH=>hH.2.2.2.gz 0 mr hmr (by omega))) ?_;refine Gz 1 ?_;refine xC rfl (bU (bH (bB r.2.names,r.2.kind,s10.refs.getD mr 0-1)) Ah pR) ?_;rw[←ee];refine Wo rfl rfl (WD lW (cs:=(bH e).toArray) pR rfl rfl rfl (by kernel_rfl) rfl ?_);intro w13 hg13 hs13 hf13;have hf13:=hf13.ZK;have ho13:=bS (e:=39) (xs:=[e]) bA (by simpa using hg13) (by show 1≤maxLen;decide);refine Wu (by exact⟨hf13.obj hd12 id,hf13.obj hg12 id,hr12.ZM hf13,hR12.ZM hf13⟩) ?_;refine Wo rfl rfl (Wx bA rfl lW rfl rfl ((ho10.ZM hf1012).ZM hf13) (ho13.vw bA) (by simp only[ZU];omega) (by simp only[ZU];unfold maxLen;omega) rfl ?_);intro lo14 lc14 w14 ho14 hf14 hr14 hn14;have hf1013:=hf1012.trans hf13;have hz13:=hf1013.size;have hz14:=hf14.size;have hn9l:∀ k,blk lo9 k→ow10 k=0:=fun k hk=>by
     have hk2:k<w9.heap.size:=by obtain⟨x,hx,hxe⟩:=hk;have:=hl9lt x hx;omega
     rw[hl10 k hk2];exact(hb9l k hk).2
    refine Wu (by exact⟨hf14.obj (hf13.obj hd12 id) (fun⟨x,hx,hxe⟩=>by have:=hl9lt x hx;omega),hf14.obj (hf13.obj hg12 id) (fun h=>by have:=hn9l g h;rw[hM10.2.1] at this;omega),(hr12.ZM hf13).ZN hf14 (fun x hx h=>by have h1:=hrn.2.2 hrne _ ⟨x,hx,rfl⟩;have h1:ow10 x.block=4:=h1;have:=hn9l _ h;omega),(hR12.ZM hf13).ZN hf14 (fun x hx h=>by have h1:=hM10.2.2.2.2.2.2.2.2.1.2 _ ⟨x,hx,rfl⟩;have:=hn9l _ h;omega)⟩) ?_;have hM14:=(hM10.ZM hf1013).ZN hf14 (fun k hk hb=>hk (hn9l k hb)) (fun _ _=>rfl);have hF14:aA (Lb ow) w5 w14:=((O2 hl9 hF9 hf10).trans hf1013.any).ZJ hf14 (fun k h=>.inr (hb9l k h).1);have hb14:∀ k,blk lo14 k→w5.heap.size≤k∧ow10 k=0:=fun k hk=>by
     obtain⟨x,hx,hxe⟩:=hk;rcases hr14 x hx with h|h
     ·exact⟨(hb9l k ⟨x,h,hxe⟩).1,hn9l k ⟨x,h,hxe⟩⟩
     ·exact⟨by omega,hn10 k (by omega)⟩
    refine Gz 9 ?_;exact aG ⟨⟨⟨j+1,s10⟩,⟨a10,ow10⟩⟩,⟨lo14,⟨lc14,L9++[e]⟩⟩⟩ ⟨by omega,by rw[ZR,hLj];rfl,hwk2,hM14,hok10,fun k hk=>by rw[hl10 k (by omega)];exact hl9 k hk,fun k hk=>hn10 k (by omega),ho14,hb14,fun x hx=>by
     rcases an.1 hx with hx|hx
     ·exact hL9 x hx
     ·rw[ai] at hx;subst hx;rw[ee];exact Fm hrnc,hF14⟩ (by show ys.length-(j+1)<ys.length-j;omega)
   have hje:ys.drop j=[]:=de (by omega);rw[hje] at hwk;have hwk:wrK (wrB qs ids files n) qs ys s=(s9,L9):=by rw[hwk];show (s9,L9++[])=(s9,L9);rw[bp]
   rw[hwk] at hwr hbK hbK2;have hL9n:L9.length≤1024:=by omega
   refine Gz 1 ?_;refine aW [(0,_),(1,_),(4,_),(5,_),(6,_),(7,_),(8,_),(61,_)] ?_;refine Gz 10 ?_;refine Wh Ra rfl (Ad lo9 lc9 L9 w9 (ho9.vw bA) (fun x hx=>aj (hL9 x hx) (by decide)) (by omega)) rfl ?_;rintro _ w10 ⟨o10,c10,rfl,ho10,hfr10,hf10⟩;have hz10:=hf10.size;have hz9:=hF9.size;have hbk5:b<w5.heap.size:=by omega
   have hck5:c<w5.heap.size:=by omega
   have hb10:=hf10.obj (hF9.obj hb5 (fun h=>h.1 hbl)) id;have hc10:=hf10.obj (hF9.obj hc5 (fun h=>h.1 hcl)) id;refine Gz 12 ?_;refine Wl aF rfl rfl rfl hc10 rfl ?_;intro w11 hc11 hs11 hf11;have hM11:=(hM9.ZM hf10).ZN hf11 (fun k hk h=>hk (by have h:k=c:=h;rw[h,hl9 c hck5];exact hcl)) (fun _ _=>rfl);have ho11:=ho10.ZN hf11 (fun x hx h=>by have h:x.block=c:=h;have:=hfr10 x hx;omega);have hb11:=hf11.obj hb10 hbc;refine Gz 7 ?_;refine Wh MZ rfl (Ky o10 c10 (iO L9).1 w11 hM11 (fun k hk=>hn9 k (by omega)) ho11.vw (fun _ k ⟨x,hx,hxe⟩=>.inl (hn9 k (by have:=hfr10 x hx;omega))) (by have h:=hbK.2.1;simp only[ZR] at h;omega)) rfl ?_;rintro _ w12 ⟨rfl,a12,ow12,hM12,_,q1,q2,hf12⟩;have hb12:=hf12.obj hb11 (fun h=>by have h:b=g∨ow9 b=2:=h;rw[hl9 b hbk5,hbl] at h;omega);have hc12:=hf12.obj hc11 (fun h=>by have h:c=g∨ow9 c=2:=h;rw[hl9 c hck5,hcl] at h;omega);refine Gz 1 ?_;refine Wl aF rfl rfl rfl hc12 rfl ?_;intro w13 hc13 hs13 hf13;refine Gz 2 ?_;have hc12l:ow12 c=0:=by rw[q1 c (by omega),hl9 c hck5];exact hcl
   have hM13:=hM12.ZN hf13 (fun k hk h=>hk (by have h:k=c:=h;rw[h];exact hc12l)) (fun _ _=>rfl);refine aC ⟨⟨{ s9 with lst:=s9.lst++(iO L9).1 },Ko s9 (iO L9).1⟩,⟨a12,ow12⟩⟩ ⟨hM13,hf13.obj hb12 hbc,hc13,hwr,⟨hok9.r,hok9.b,hok9.h⟩,ZZ _,fun k hk=>by rw[q1 k (by omega),hl9 k (by omega)],fun k hk=>q2 k (by omega),?_⟩;have hf49:aA (Lb ow) w4 w9:=hf5.any.trans hF9;have hf411:aA (fun k=>Lb ow k∨k=c) w4 w11:=((hf49.mono (fun k h=>.inl h)).trans hf10.any).trans (hf11.mono (fun k h=>.inr h));refine(hf411.ZJ hf12 (fun k h=>?_)).trans (hf13.mono (fun k h=>.inr h));have h:k=g∨ow9 k=2:=h;by_cases hk:k<w5.heap.size
   · rw[hl9 k hk] at h
     refine .inl (.inl ?_);show ow k≠0∧ow k≠4;rcases h with h|h
     ·rw[h,h6];decide
     ·rw[h];decide
   ·exact .inr (by omega)
  rw[ZO h49] at hwr;refine Gz 6 ?_;exact aC ⟨⟨s,(zF,[])⟩,⟨a,ow⟩⟩ ⟨hM4,hb4,hc4,hwr,hok,ZZ _,fun _ _=>rfl,hn4,Zn _ _⟩
 rintro⟨⟨s8,i8⟩,⟨a8,ow8⟩⟩ w8 ⟨hM8,hb8,hc8,hw8,hok8,hi8,hl8,hn8,hF8⟩;refine Gz 3 ?_;have hz8:=hF8.size;have hcs:c<w4.heap.size:=by omega
 have hbs:b<w4.heap.size:=by omega
 have hc8l:ow8 c=0:=by rw[hl8 c hcs];exact hcl
 have hb8l:ow8 b=0:=by rw[hl8 b hbs];exact hbl
 have kc:∀ {w w2:World} {S:Nat→Prop},(∀ k,S k→k=c)→BiW a8 ow8 w.heap g qs ids files s8→aA S w w2→BiW a8 ow8 w2.heap g qs ids files s8:=fun hS hM hf=>hM.ZN hf (fun k hk h=>hk (by rw[hS k h];exact hc8l)) (fun _ _=>rfl);obtain⟨R,hR⟩:∃ R,R=dY s8 q.2.xs:=⟨_,rfl⟩
 have hfix:lI qs ids (kn:Int) i8 s8 = { R.2 with ino:=R.2.ino++(oC (inB qs ids kn i8 R.1).1 (inB qs ids kn i8 R.1).2).1,refs:=R.2.refs.set m ((aR R.2.ino R.2.ino.length:Nat)+1),many:=R.2.many+1 }:=by unfold lI;rw[hnd,←hR,hm,ak]
 have hbF:bdB R.2:=by have h:=(IC (qs:=qs) (ids:=ids) kn i8 s8).bd (by rw[←hw8];exact hbd);rw[hnd,←hR] at h;exact h
 have hbT:R.2.ino.length+(oC (inB qs ids kn i8 R.1).1 (inB qs ids kn i8 R.1).2).1.length≤137438953472:=by have h:=hbd.1;rw[hw8,hfix] at h;simp only[ZR] at h;exact h
 refine Gz 2 ?_;refine Wl aF rfl rfl rfl hc8 rfl ?_;intro w9 hc9 hs9 hf9;have hb9:=hf9.obj hb8 hbc;refine Gz 6 ?_;refine cL (Wk aF rfl (aB (i:=3) hb9 rfl)) ?_;refine Gz 1 ?_;refine Wl aF rfl rfl rfl hc9 rfl ?_;intro w10 hc10 hs10 hf10;have hb10:=hf10.obj hb9 hbc;have hM10:=kc (fun _ h=>h) (kc (fun _ h=>h) hM8 hf9) hf10;refine Gz 3 ?_;refine Wv 9 (fun H=>H[g]?=some (.cells (biK a8 qs ids files s8).toArray 76 (0,0))∧H[b]?=some (.cells (aV q).toArray 68 (0,0))) [7,9] [0,1,2,3,4,5,6,7,8,9] aK (by kernel_rfl) (⟨hM10.1,hb10⟩) ?_;refine Gz 6 ?_;refine xC rfl (Wt aF rfl (fun H hH=>aB (i:=4) hH.2 rfl)) ?_;refine Wo rfl rfl (Wh R6 rfl (BT a8.io a8.ic ids q.2.ud (w10.drewN 1) (hM10.2.2.2.1.1.ZM (Zo 1))) rfl ?_);rintro _ w11 ⟨rfl,hw⟩;subst hw;refine Wu (by exact⟨hM10.1,hb10⟩) ?_;refine Gz 1 ?_;refine Wo rfl rfl (Wl aF rfl rfl rfl hc10 rfl ?_);intro w12 hc12 hs12 hf12;refine WW rfl ?_;have hf12:=hf12.ZK;have hb12:=hf12.obj hb10 hbc;have hM12:=kc (fun _ h=>h) hM10 hf12;have hs12b:w12.heap.size=w10.heap.size:=hs12;refine Gz 3 ?_;refine Wv 9 (fun H=>H[g]?=some (.cells (biK a8 qs ids files s8).toArray 76 (0,0))∧H[b]?=some (.cells (aV q).toArray 68 (0,0))) [7,9] [0,1,2,3,4,5,6,7,8,9] aK (by kernel_rfl) (⟨hM12.1,hb12⟩) ?_;refine Gz 6 ?_;refine xC rfl (Wt aF rfl (fun H hH=>aB (i:=5) hH.2 rfl)) ?_;refine Wo rfl rfl (Wh R6 rfl (BT a8.io a8.ic ids q.2.gd (w12.drewN 1) (hM12.2.2.2.1.1.ZM (Zo 1))) rfl ?_);rintro _ w13 ⟨rfl,hw⟩;subst hw;refine Wu (by exact⟨hM12.1,hb12⟩) ?_;refine Gz 1 ?_;refine Wo rfl rfl (Wl aF rfl rfl rfl hc12 rfl ?_);intro w14 hc14 hs14 hf14;refine WW rfl ?_;have hf14:=hf14.ZK;have hb14:=hf14.obj hb12 hbc;have hM14:=kc (fun _ h=>h) hM12 hf14;have hs14b:w14.heap.size=w12.heap.size:=hs14;refine Gz 7 ?_;refine cL (Wk PJ rfl (aB hM14.1 rfl)) ?_;refine cA 1 VH (Jn a8.lo a8.lc qs kn w14 hM14.2.2.1.1) ?_;rintro _ w15 ⟨rfl,hf15⟩;have hz15:=hf15.size;refine Gz 1 ?_;refine Wl aF rfl rfl rfl (hf15.obj hc14 id) rfl ?_;intro w16 hc16 hs16 hf16;have hb16:=hf16.obj (hf15.obj hb14 id) hbc;have hM16:=kc (fun _ h=>h) (hM14.ZM hf15) hf16;have hX16:=(hM16.2.2.1.1.2 q (ZW hq)).2.2;have hxn:q.1.xs.n=q.2.xs.length:=hX16.1;have hX16:=hX16.eta;have hn16:∀ k,w16.heap.size≤k→ow8 k=0:=fun k hk=>hn8 k (by omega);refine Gz 6 ?_;refine cL (Wm (u:=.slice q.1.xs.a q.2.xs.length q.1.xs.c) (Wk eK rfl (aB hb16 rfl)) (by rw[←hxn];rfl)) ?_;refine cA 0 VG (EA a8 ow8 g qs ids files s8 q.1.xs.a q.1.xs.c q.2.xs w16 hM16 hn16 hX16 hxl hok8.h (hR ▸ hbF) hok8.b) ?_;rw[←hR];rintro _ w17 ⟨rfl,hf17,a17,ow17,hM17,hl17,hn17,hbr17⟩;have hz17:=hf17.size;have hb17:=hf17.obj hb16 (fun h=>h.1 hb8l);have hc17:=hf17.obj hc16 (fun h=>h.1 hc8l);have hc17l:ow17 c=0:=by rw[hl17 c (by omega)];exact hc8l
 have hb17l:ow17 b=0:=by rw[hl17 b (by omega)];exact hb8l
 refine Gz 1 ?_;refine Wl aF rfl rfl rfl hc17 rfl ?_;intro w18 hc18 hs18 hf18;have hb18:=hf18.obj hb17 hbc;have hM18:=hM17.ZN hf18 (fun k hk h=>hk (by have h:k=c:=h;rw[h];exact hc17l)) (fun _ _=>rfl);have hcF:w18.heap[c]?=some (.cells (aN (inB qs ids kn i8 R.1).1 (inB qs ids kn i8 R.1).2).toArray 84 (0,0)):=by unfold inB;rw[hnd];exact hc18
 refine Gz 4 ?_;refine cL (Ws (cs:=aN (inB qs ids kn i8 R.1).1 (inB qs ids kn i8 R.1).2) bM rfl (aQ hcF 0 rfl)) ?_;refine Wh R5 rfl (HR (inB qs ids kn i8 R.1).1 (inB qs ids kn i8 R.1).2 w18 (by show i8.2.length≤maxLen;unfold maxLen;omega)) rfl ?_;rintro _ w19 ⟨o19,c19,rfl,ho19,hfr19,hf19⟩;have hz19:=hf19.size;have hb19:=hf19.obj hb18 id;have hM19:=hM18.ZM hf19;refine Gz 8 ?_;refine Wv 13 (fun H=>bK H ((⟨g,0,none⟩:Addr).add 8)=some (.slice a17.ro R.2.refs.length a17.rc)∧H[b]?=some (.cells (aV q).toArray 68 (0,0))) [10,13] [0,1,2,3,4,5,6,7,8,9,10,11,12,13] aK (by kernel_rfl) (⟨aB hM19.1 rfl,hb19⟩) ?_;refine Gz 3 ?_;refine xC rfl (Wt mU rfl (fun H hH=>hH.1)) ?_;refine Gz 6 ?_;refine Wo rfl rfl (Wh MZ rfl (Kz o19 c19 (oC (inB qs ids kn i8 R.1).1 (inB qs ids kn i8 R.1).2).1 (w19.drewN 1) (hM19.ZM (Zo 1)) (fun k hk=>hn17 k (by have hk:w19.heap.size≤k:=hk;omega)) (ho19.vw.ZM (Zo 1)) (fun _ k ⟨x,hx,hxe⟩=>.inl (hn17 k (by have:=hfr19 x hx;omega))) (by omega)) rfl ?_);rintro _ w20 ⟨rfl,a20,ow20,hM20,⟨_,_,hro,hrc⟩,q1,q2,hf20⟩;obtain⟨s20,es20⟩:∃ t:BSt,t = { R.2 with ino:=R.2.ino++(oC (inB qs ids kn i8 R.1).1 (inB qs ids kn i8 R.1).2).1 }:=⟨_,rfl⟩
 rw[←es20] at hM20;have zr:s20.refs=R.2.refs:=by rw[es20]
 have zm:s20.many=R.2.many:=by rw[es20]
 have hf20:=hf20.ZK;have hb20:=hf20.obj hb19 (fun h=>by have h:b=g∨ow17 b=1:=h;rw[hb17l] at h;omega);refine Wu (by exact⟨by rw[←hro,←hrc,←zr];exact aB hM20.1 rfl,hb20⟩) ?_;have hrT:aR R.2.ino R.2.ino.length≤1152921504606846976:=LC (by have:=hbF.1;omega);have hR20:=hM20.2.2.2.2.2.2.2.2.1.1;have hRl:R.2.refs.length=qs.length+1:=by rw[hR,(Iu s8 q.2.xs).r];exact hok8.r
 rw[hro,hrc] at hR20;refine Gz 1 ?_;refine xC rfl (Wi bP rfl rfl (by rw[←zr];exact hR20.vw.non) (by omega)) ?_;refine Wo rfl rfl (W0 mI aF rfl rfl hR20 (by rw[zr];omega) ?_);intro w21 ho21 hs21 hf21;refine WW rfl ?_;rw[hm,ak] at ho21;have hM21:=hM20.refsup (by rw[hro,hrc];exact ho21) (by rw[hro];exact hf21);refine Gz 6 ?_;refine cL (Wm (u:=iV (R.2.many:Nat)) (Wk aF rfl (aB hM21.1 rfl)) (by show Value.int .i64 ((s20.many:Nat):Int)=_;rw[zm])) ?_;refine cL (W5 rfl rfl (by have:=hbF.2.2.2.2;omega)) ?_;refine Gz 2 ?_;refine Wl aF rfl rfl rfl hM21.1 rfl ?_;intro w22 hg22 hs22 hf22;have hM22:=hM21.manyup (n:=R.2.many+1) hg22 hf22;refine Gz 1 ?_;refine Xi rfl ?_;rw[es20] at hM22;rw[hw8,hfix];have A8:aA (Lb ow) W w8:=(hF4.any (S:=Lb ow)).ZJ hF8 (fun k h=>h.elim .inl (fun h=>.inr (by omega)));have A10:=(A8.tw hf9).tw hf10;have A14:=(A10.tw hf12).tw hf14;have A16:=(A14.trans hf15.any).tw hf16;have l8:∀ k,k<W.heap.size→ow8 k=ow k:=fun k hk=>hl8 k (by omega);have l17:∀ k,k<W.heap.size→ow17 k=ow k:=fun k hk=>by rw[hl17 k (by omega),l8 k hk]
 have lg:Lb ow g:=by show ow g≠0∧ow g≠4;rw[h6];decide
 have A18:=(A16.ZJ hf17 (fun k h=>by
  by_cases hk:k<W.heap.size
  · have h:ow8 k≠0∧ow8 k≠4:=h
    rw[l8 k hk] at h;exact .inl h
  ·exact .inr (by omega))).tw hf18
 have A20:=(A18.trans hf19.any).ZJ hf20 (fun k h=>by
  by_cases hk:k<W.heap.size
  · have h:k=g∨ow17 k=1:=h
    rw[l17 k hk] at h;refine .inl ?_;rcases h with h|h
    ·rw[h];exact lg
    · show ow k≠0∧ow k≠4
      rw[h];decide
  ·exact .inr (by omega))
 have A22:=(A20.ZJ hf21 (fun k h=>by
  by_cases hk:k<W.heap.size
  · have h5:=hM17.2.2.2.2.2.2.2.2.1.2 k h
    rw[l17 k hk] at h5;refine .inl ?_;show ow k≠0∧ow k≠4;rw[h5];decide
  ·exact .inr (by omega))).trans (hf22.mono (fun k h=>by have h:k=g:=h;rw[h];exact lg))
 refine⟨_,rfl,A22,a20,ow20,hM22,fun k hk=>by rw[q1 k (by show k<w19.heap.size;omega),l17 k hk],fun k hk=>q2 k (by omega),fun z hz=>?_,hbr17.2⟩;have hz:z∈R.2.refs.set m (((aR R.2.ino R.2.ino.length:Nat):Int)+1):=hz;rcases eu hz with hz|hz
 ·exact hbr17.1 z hz
 ·omega
theorem BO(g:Nat)(qs:List (NdH×Nd))(ids:List Int)(files:List Ino)(G:GdB qs files):∀ (n:Nat),WrS g qs ids files n
|0=>fun a ow s k W hM hn hk hdp hok hbd=>by
   exfalso;obtain⟨kn,rfl⟩:=az hk.1;obtain⟨q,hq⟩:∃ q,qs[kn]?=some q:=⟨_,ZQ (by omega)⟩
   have h:=(G.q q (ZW hq)).2.1;rw[bX hq] at hdp;omega
|n+1=>Gq g qs ids files G n (BO g qs ids files G n)
section
open Go Go.RowKit Go.Maps
def Bp(l:List Nd):Prop:=l.length≤1024∧(∀ n∈l,∀ s∈n.names,fP s=0)∧(∀ n∈l,n.names.length≤16)∧(l.Pairwise fun a b=>a.names≠b.names)∧jA l []∧(∀ n∈l,n.names≠[]→jA l n.names.dropLast)∧(∀ n∈l,sW n)∧l.Pairwise qW
theorem Ns(l:List Nd):chk l=0↔Bp l:=by
 constructor
 · intro h
   have h1:=FX h;have h2:=Am (EP h1);have h3:=JI h1;have hm:¬ ∃ n∈l,¬ sW n:=fun hm=>by
    rw[lK,h1,ZO (show ¬ ((0:Int)≠0) from fun h=>h rfl),ZP hm] at h;cases h
   have hl:l.Pairwise qW:=by
    apply ZY;intro hl;rw[lK,h1,ZO (show ¬ ((0:Int)≠0) from fun h=>h rfl),ZO hm,ZO hl] at h;cases h
   exact⟨IK h,fun n hn s hs=>h2.1 s (dz.2 ⟨n,hn,hs⟩),h2.2.1,br.1 h2.2.2,h3.1,h3.2,fun n hn=>ZY fun h=>hm ⟨n,hn,h⟩,hl⟩
 · rintro⟨g1,g2,g3,g4,g5,g6,g7,g8⟩
   have e1:kN (jE l)=0:=An fun s hs=>by obtain⟨n,hn,h⟩:=dz.1 hs;exact g2 n hn s h
   have e2:nmd l=0:=by
    unfold nmd;rw[ZO (fun h=>h e1),ZO (fun⟨n,hn,h⟩=>by have:=g3 n hn;omega),ZO (fun h=>h g4)]
   have e3:plc l=0:=by
    unfold plc;rw[ZO (by omega),ZO (fun h=>h e2),ZO (fun h=>h g5),ZO (fun⟨n,hn,h1,h2⟩=>h2 (g6 n hn h1))]
   rw[lK,e3,ZO (show ¬ ((0:Int)≠0) from fun h=>h rfl),ZO (fun⟨n,hn,h⟩=>h (g7 n hn)),ZP g8]
theorem J6{a b:Nd}(h:qW a b):qW b a:=fun e=>by
 obtain⟨h1,h2⟩:=h e.symm;exact⟨by rw[←h2.1];exact h1,h2.symm⟩
theorem AU{l m:List Nd}(h:l.Perm m){s:List By}(hd:jA l s):jA m s:=by
 obtain⟨n,hn,h1,h2⟩:=hd;exact⟨n,h.mem_iff.1 hn,h1,h2⟩
theorem wR{l m:List Nd}(h:l.Perm m)(g:Bp l):Bp m:=by
 obtain⟨g1,g2,g3,g4,g5,g6,g7,g8⟩:=g;exact⟨by rw[←h.length_eq];exact g1,fun n hn=>g2 n (h.mem_iff.2 hn),fun n hn=>g3 n (h.mem_iff.2 hn),(h.pairwise_iff (fun h e=>h e.symm)).1 g4,AU h g5,fun n hn hne=>AU h (g6 n (h.mem_iff.2 hn) hne),fun n hn=>g7 n (h.mem_iff.2 hn),(h.pairwise_iff (fun h=>J6 h)).1 g8⟩
def zY(f:Int→Int)(n:Nd):Nd:={ n with ino:=f n.ino }
def IP(f:Int→Int)(zs:List Int):Prop:=∀ a∈zs,∀ b∈zs,f a=f b→a=b
theorem CF{f:Int→Int}{l:List Nd}{s:List By}:jA (l.map (zY f)) s↔jA l s:=by
 constructor
 · rintro⟨n,hn,h1,h2⟩
   obtain⟨m,hm,rfl⟩:=av.1 hn;exact⟨m,hm,h1,h2⟩
 · rintro⟨n,hn,h1,h2⟩
   exact⟨zY f n,av.2 ⟨n,hn,rfl⟩,h1,h2⟩
theorem Fu{f:Int→Int}{l:List Nd}(hf:IP f (l.map (·.ino))):Bp (l.map (zY f))↔Bp l:=by
 have hp:∀ {R R':Nd→Nd→Prop},(∀ a∈l,∀ b∈l,R (zY f a) (zY f b)↔R' a b)→((l.map (zY f)).Pairwise R↔l.Pairwise R'):=fun {R R'} h=>by
  rw[pairwise_map];exact⟨fun g=>g.imp_of_mem (fun ha hb=>(h _ ha _ hb).1),fun g=>g.imp_of_mem (fun ha hb=>(h _ ha _ hb).2)⟩
 have hl:(l.map (zY f)).Pairwise qW↔l.Pairwise qW:=hp fun a ha b hb=>by
  unfold qW;constructor
  ·intro h e;exact h (by show f b.ino=f a.ino;rw[e])
  ·intro h e;exact h (hf _ (av.2 ⟨b,hb,rfl⟩) _ (av.2 ⟨a,ha,rfl⟩) e)
 have hn:((l.map (zY f)).Pairwise fun a b=>a.names≠b.names)↔l.Pairwise fun a b=>a.names≠b.names:=hp fun a _ b _=>Iff.rfl;unfold Bp;rw[hl,hn,aa,CF];simp only[List.forall_mem_map,CF];exact Iff.rfl
theorem L2(zs:List Int):IP (qU zs) zs:=fun a ha b hb h=>by
 unfold qU at h;have h1:=jb.2 (lX.2 ha);have h2:=jb.2 (lX.2 hb);have e:(dC zs).idxOf a=(dC zs).idxOf b:=by omega
 have g1:=List.getElem_idxOf h1;have g2:=List.getElem_idxOf h2;rw[←g1,←g2];exact getElem_congr_idx e
def On(f:Int→Int)(p:NdH×Nd):NdH×Nd:=(p.1,zY f p.2)
theorem OG(f:Int→Int)(ps:List (NdH×Nd)):nds (ps.map (On f))=(nds ps).map (zY f):=by simp[nds,On,Function.comp_def]
theorem Pb{f:Int→Int}{ps qs:List (NdH×Nd)}(hp:qs.Perm (ps.map (On f)))(hf:IP f (bN ps)):Bp (nds qs)↔Bp (nds ps):=by
 have h1:(nds qs).Perm ((nds ps).map (zY f)):=by rw[←OG];exact hp.map _
 have h2:IP f ((nds ps).map (·.ino)):=by
  have e:(nds ps).map (·.ino)=bN ps:=by simp[nds,bN,Function.comp_def]
  rw[e];exact hf
 constructor
 ·intro g;exact(Fu h2).1 (wR h1 g)
 ·intro g;exact wR h1.symm ((Fu h2).2 g)
theorem Ny{ps:List (NdH×Nd)}(g:Bp (nds ps)):Bp (nds (iR ps)):=by
 have e:iR ps=(lA ps).map (On (qU (bN (lA ps)))):=rfl;refine(Pb (f:=qU (bN (lA ps))) (ps:=lA ps) (by rw[e]) (L2 _)).2 ?_;exact wR ((qE ps).symm.map _) g
end
section
open Go Go.RowKit Go.Maps
structure GdT (qs:List (NdH×Nd)):Prop where
 n:0<qs.length∧qs.length≤40
 ino:∀ q∈qs,1≤q.2.ino∧q.2.ino≤qs.length
 may:∀ q∈qs,sW q.2
 nmv:∀ q∈qs,∀ c∈q.2.names,fP c=0
 dep:∀ q∈qs,q.2.names.length≤16
 lt:∀ (i j:Nat) (p q:NdH×Nd),i<j→qs[i]?=some p→qs[j]?=some q→cU p.2.names q.2.names=true
 lnk:∀ (i j:Nat) (p q:NdH×Nd),i≠j→qs[i]?=some p→qs[j]?=some q→p.2.ino=q.2.ino→p.2.kind≠1∧Alk p.2 q.2
 root:∃ q,qs[0]?=some q∧q.2.names=[]∧q.2.kind=1
 up:∀ q∈qs,q.2.names≠[]→∃ p∈qs,p.2.names=q.2.names.dropLast∧p.2.kind=1
theorem F0(ps:List (NdH×Nd)):(iR ps).length=ps.length:=Pv (ps:=ps) rfl
theorem Nz(ps:List (NdH×Nd)):∀ q∈iR ps,1≤q.2.ino∧q.2.ino≤(iR ps).length:=by
 intro q hq;obtain⟨i,hi⟩:=ab hq;obtain⟨h1,h2,_⟩:=Pw (ps:=ps) rfl hi;have h3:=(ZS.1 hi).1;have h4:zR ps i≤i:=by
  have:=HO (bN ((lA ps).take i));have:(bN ((lA ps).take i)).length≤i:=by simp[bN];omega
  unfold zR;omega
 omega
theorem G6{ps:List (NdH×Nd)}(hz:chk (nds ps)=0)(hl:ps.length≤40):GdT (iR ps):=by
 have g:=Ny ((Ns _).1 hz);obtain⟨qs,hqs⟩:∃ qs,qs=iR ps:=⟨_,rfl⟩
 have hlen:=F0 ps;have hino:=Nz ps;have hq:nds qs=nds (iR ps):=by rw[hqs]
 rw[←hqs] at g hlen hino ⊢;obtain⟨g1,g2,g3,g4,g5,g6,g7,g8⟩:=g;have hlt:∀ (i j:Nat) (p q:NdH×Nd),i<j→qs[i]?=some p→qs[j]?=some q→cU p.2.names q.2.names=true:=fun i j p q hij hp h=>Rl (CQ hz) hq hij hp h;have hmem:∀ q∈qs,q.2∈nds qs:=fun q h=>av.2 ⟨q,h,rfl⟩;have hr:∃ q,qs[0]?=some q∧q.2.names=[]∧q.2.kind=1:=by
  obtain⟨n,hn,h1,h2⟩:=g5;obtain⟨q,hqm,rfl⟩:=av.1 hn;obtain⟨i,hi⟩:=ab hqm;have hi0:=(ZS.1 hi).1;by_cases e:i=0
  ·subst e;exact⟨q,hi,h1,h2⟩
  · have:=hlt 0 i _ q (by omega) (ZQ (by omega)) hi
    rw[h1,J7] at this;cases this
 refine⟨⟨?_,by omega⟩,hino,fun q h=>g7 _ (hmem q h),fun q h=>g2 _ (hmem q h),fun q h=>g3 _ (hmem q h),hlt,fun i j p q hij hp h e=>?_,hr,fun q h hne=>?_⟩
 · obtain⟨q,h,_⟩:=hr
   have:=(ZS.1 h).1;omega
 · have hp':=jN hp
   have hq':=jN h;have l1:=(ZS.1 hp').1;have l2:=(ZS.1 hq').1;have e1:=(ZS.1 hp').2;have e2:=(ZS.1 hq').2;rcases Nat.lt_or_gt_of_ne hij with c|c
   · have:=bj.1 g8 i j l1 l2 c
     rw[e1,e2] at this;obtain⟨a,b⟩:=this e.symm;have b':=b.symm;exact⟨fun hk=>a (by rw[←b'.1];exact hk),b'⟩
   · have:=bj.1 g8 j i l2 l1 c
     rw[e1,e2] at this;exact this e
 · obtain⟨n,hn,h1,h2⟩:=g6 _ (hmem q h) hne
   obtain⟨p,hp,rfl⟩:=av.1 hn;exact⟨p,hp,h1,h2⟩
section
variable {qs:List (NdH×Nd)}(G:GdT qs)
include G
theorem GdT.inj{i j:Nat}{p q:NdH×Nd}(hp:qs[i]?=some p)(h:qs[j]?=some q)(e:p.2.names=q.2.names):i=j:=by
 rcases Nat.lt_trichotomy i j with g|g|g
 ·have:=G.lt i j p q g hp h;rw[e,Co] at this;cases this
 ·exact g
 ·have:=G.lt j i q p g h hp;rw[e,Co] at this;cases this
theorem GdT.kids{s:List By}{ys:List Int}(h:CT qs s ys):ys=cD qs s qs.length:=by
 refine h.uniq ⟨List.Perm.refl _,?_⟩;refine LM ?_;have h1:=oJ (ps:=qs) (s:=s) qs.length;refine List.Pairwise.imp_of_mem (fun {a b} ha hb hab=>?_) h1;obtain⟨x,rfl,hx,_⟩:=gL.1 ha;obtain⟨y,rfl,hy,_⟩:=gL.1 hb;obtain⟨p,hp,ep⟩:=yM qs hx;obtain⟨q,hq',eq⟩:=yM qs hy;have hl:=G.lt x y p q (by omega) hp hq';refine .inl ?_;show fU (nmG qs ((x:Int)).toNat) (nmG qs ((y:Int)).toNat)<0;rw[ak,ak,ep,eq];unfold cU at hl;exact of_decide_eq_true hl
theorem GdT.nodir{i:Nat}{p:NdH×Nd}(hp:qs[i]?=some p)(hk:p.2.kind≠1):cD qs p.2.names qs.length=[]:=by
 apply List.eq_nil_iff_forall_not_mem.2;intro z h;obtain⟨k,rfl,hkl,hkq⟩:=gL.1 h;obtain⟨q,hq',eq⟩:=yM qs hkl;rw[eq] at hkq;obtain⟨hne,hd⟩:=oI.1 hkq;obtain⟨r,hrm,h1,h2⟩:=G.up q (ZW hq') hne;obtain⟨j,hr⟩:=ab hrm;have e:=G.inj hr hp (h1.trans hd);subst e;rw[hr] at hp;cases hp;exact hk h2
theorem GdT.gdB{files:List Ino}(h1:files.length=qs.length+1)(h2:∀ f∈files,f.2.length≤200):GdB qs files where
 q:=fun q hq=>by
  have hm:=G.may q hq;have ht:q.2.tgt.length≤200:=by
   have h:=hm.2.2.2.2.2.2.2.1;unfold okT at h
   split at h
   ·exact h.2.1
   ·rw[h];exact ZZ _
  refine⟨G.ino q hq,G.dep q hq,fun c hc=>(oV (G.nmv q hq c hc)).1,ht,fun x hx=>?_⟩;have hx2:=hm.2.2.2.2.2.2.2.2;obtain⟨i,hi,rfl⟩:=cf hx;obtain⟨_,g2,_,_⟩:=hx2.1 i hi;have e:q.2.xs.getD i x0=q.2.xs[i]:=by simp[Z2,hi]
  rw[e] at g2;omega
 k:=fun s ys h=>G.kids h
 fl:=h1
 ft:=h2
 n:=by have:=G.n.2;omega
omit G in
theorem jO {s:List By} {z:Int} (h:z∈cD qs s qs.length):∃ (k:Nat) (q:NdH×Nd),z=(k:Int)∧qs[k]?=some q∧q.2.names=s++[bB q.2.names]:=by
 obtain⟨k,rfl,hkl,hkq⟩:=gL.1 h;obtain⟨q,hq',eq⟩:=yM qs hkl;rw[eq] at hkq;refine⟨k,q,rfl,hq',?_⟩;have h1:q.2.names[s.length]?=some (bB q.2.names):=by
  unfold bB;rw[hkq.1,Z2,Nat.add_sub_cancel,ZQ (by have:=hkq.1;omega)];rfl
 have h2:=tkL h1;rw[hkq.2,Z4 (by have:=hkq.1;omega)] at h2;exact h2
omit G in
theorem Mx {k:Nat} {q:NdH×Nd} {s:List By} (h:qs[k]?=some q) (hne:q.2.names≠[]) (hs:q.2.names.dropLast=s):(k:Int)∈cD qs s qs.length:=by
 have hk:=(ZS.1 h).1;exact gL.2 ⟨k,rfl,hk,by rw[sS h];exact oI.2 ⟨hne,hs⟩⟩
theorem GdT.above{q:NdH×Nd}(hq:q∈qs):∀ (m d:Nat),d+m=q.2.names.length→∃ (k:Nat) (p:NdH×Nd),qs[k]?=some p∧p.2.names=q.2.names.take d∧(0<m→p.2.kind=1)
|0,d,h=>by
   obtain⟨k,hk⟩:=ab hq;exact⟨k,q,hk,by rw[Z4 (by omega)],fun h=>absurd h (Nat.lt_irrefl 0)⟩
|m+1,d,h=>by
   obtain⟨k,p,hk,hn,_⟩:=GdT.above hq m (d+1) (by omega);have hpl:p.2.names.length=d+1:=by rw[hn,ZT];omega
   obtain⟨r,hr,h1,h2⟩:=G.up p (ZW hk) (fun e=>by rw[e] at hpl;simp at hpl);obtain⟨j,hj⟩:=ab hr;refine⟨j,r,hj,?_,fun _=>h2⟩;rw[h1,hn,List.dropLast_eq_take,dq,ZT];congr 1;omega
end
end
theorem Cw{r post:By}{k:Nat}(h:k<r.length):(r++post).getD k 0=r.getD k 0:=by
 rw[Z2,Z2,au h]
theorem QY(x:By):3≤eH x:=by unfold eH;split<;>omega
theorem CI{r x:By}{s:Nat}{st:Bool}(h:jU r=some (x,s,st)):eH x≤r.length:=by
 unfold jU at h;obtain⟨n,hn⟩:∃ n,n=(r.getD 0 0).toNat+256*(r.getD 1 0).toNat:=⟨_,rfl⟩
 rw[←hn] at h
 split at h
 ·cases h
 · split at h
   ·cases h
   · split at h
     ·cases h
     · split at h
       · simp only[dx.injEq,Prod.mk.injEq] at h
         rw[←h.1];show 3≤_;omega
       · split at h
         ·cases h
         · simp only[dx.injEq,Prod.mk.injEq] at h
           rw[←h.1];unfold eH;rw[ZT,ZX]
           split<;>omega
theorem AV{r post x:By}{s:Nat}{st:Bool}(hl:eH x≤r.length):jU (r++post)=some (x,s,st)↔jU r=some (x,s,st):=by
 have h3:3≤r.length:=aj (QY x) hl;have e0:(r++post).getD 0 0=r.getD 0 0:=Cw (by omega);have e1:(r++post).getD 1 0=r.getD 1 0:=Cw (by omega);have et:(r++post).take 3=r.take 3:=cu h3;unfold jU;rw[e0,e1,et,ZO (by rw[ZR];omega),ZO (show ¬ r.length<3 by omega)];obtain⟨n,hn⟩:∃ n,n=(r.getD 0 0).toNat+256*(r.getD 1 0).toNat:=⟨_,rfl⟩
 rw[←hn];by_cases c1:r.take 3≠hdB n
 ·rw[ZP c1,ZP c1]
 · rw[ZO c1,ZO c1]
   by_cases c2:128<n%32768∨(n%32768=0∧32768≤n)
   ·rw[ZP c2,ZP c2]
   · rw[ZO c2,ZO c2]
     by_cases c3:n%32768=0
     ·rw[ZP c3,ZP c3]
     · rw[ZO c3,ZO c3]
       by_cases c4:r.length<7+n%32768
       · rw[ZP c4]
         constructor
         · intro h
           split at h
           ·cases h
           · rename_i c5
             rw[ZR] at c5;simp only[dx.injEq,Prod.mk.injEq] at h;exfalso;have hx:x.length=n%32768:=by rw[←h.1,ZT,ZX,ZR];omega
             unfold eH at hl;rw[ZO (by omega)] at hl;omega
         ·intro h;cases h
       · rw[ZO c4,ZO (by rw[ZR];omega)]
         have d7:((r++post).drop 7).take (n%32768)=(r.drop 7).take (n%32768):=by
          rw[fw (by omega),cu (by rw[ZX];omega)]
         have d3:((r++post).drop 3).take 4=(r.drop 3).take 4:=by
          rw[fw (by omega),cu (by rw[ZX];omega)]
         rw[d7,d3]
theorem zK{x:By}{s:Nat}{st:Bool}(h:(dA (some (x,s,st))).2.2=0):(dA (some (x,s,st))).2.1=eH x:=by
 unfold dA at h ⊢;simp only at h ⊢;by_cases h0:x.length=0
 ·rw[ZP h0];unfold eH;rw[ZP h0]
 · rw[ZO h0] at h ⊢
   by_cases h1:eU x≠s
   ·rw[ZP h1] at h;simp at h
   · rw[ZO h1] at h ⊢
     by_cases h2:st=true
     ·rw[ZP h2]
     · rw[ZO h2] at h ⊢
       split at h
       ·simp at h
       ·rename_i h3;rw[ZO h3]
section
variable (pre X post:List UInt8)
theorem Pn{a:Int}(h0:0≤a)(h:a≤X.length):cQ (pre++(X++post)) ((pre.length:Int)+a)=jU (X.drop a.toNat++post):=by
 unfold cQ;rw[ZO (by simp only[ZR];omega)];obtain⟨n,rfl⟩:=az h0;rw[show ((pre.length:Int)+(n:Int)).toNat=pre.length+n by omega,←ca,ct rfl,fw (by omega),ak]
theorem Po{a:Int}(h0:0≤a)(h:a≤X.length):cQ X (0+a)=jU (X.drop a.toNat):=by
 unfold cQ;rw[Int.zero_add,ZO (by omega)]
theorem G4{a:Int}(h0:0≤a):bO (pre++(X++post)) pre.length ((pre.length:Int)+X.length) a=bO X 0 X.length a:=by
 unfold bO;by_cases hc:(X.length:Int)<a
 ·rw[ZP (show (pre.length:Int)+X.length-pre.length<a by omega),ZP (show (X.length:Int)-0<a by omega)]
 · rw[ZO (show ¬ ((pre.length:Int)+X.length-pre.length<a) by omega),ZO (show ¬ ((X.length:Int)-0<a) by omega)]
   have hle:a≤X.length:=by omega
   unfold bD;rw[Pn pre X post h0 hle,Po X h0 hle];obtain⟨r,hr⟩:∃ r,r=X.drop a.toNat:=⟨_,rfl⟩
   have hrl:(r.length:Int)=X.length-a:=by rw[hr,ZX];omega
   rw[←hr];cases h1:jU (r++post) with
  |none=>
     have h2:jU r=none:=by
      cases h3:jU r with
     |none=>rfl
     |some y=>obtain⟨x,s,st⟩:=y;rw[(AV (CI h3)).2 h3] at h1;cases h1
     rw[h2,ZP (.inl (by simp[dA])),ZP (.inl (by simp[dA]))]
  |some y=>
     obtain⟨x,s,st⟩:=y;by_cases hl:eH x≤r.length
     · rw[(AV hl).1 h1]
       by_cases he:(dA (some (x,s,st))).2.2=0
       · have hn:=zK he
         simp only[ZP he];by_cases hz:(dA (some (x,s,st))).1.length=0
         ·rw[ZP (.inr (.inr hz)),ZP (.inr (.inr hz))]
         · rw[ZO (by rw[hn];rintro(h|h|h);exact h he;omega;exact hz h),ZO (by rw[hn];rintro(h|h|h);exact h he;omega;exact hz h)]
           congr 2;omega
       ·rw[ZP (.inl he),ZP (.inl he)]
     · have h2:jU r=none:=by
        cases h3:jU r with
       |none=>rfl
       |some y=>
          obtain⟨x',s',st'⟩:=y;have h4:=CI h3;rw[(AV h4).2 h3] at h1;simp only[dx.injEq,Prod.mk.injEq] at h1;rw[h1.1] at h4;exact absurd h4 hl
       rw[h2];refine Eq.trans (b:=none) ?_ ?_
       · by_cases he:(dA (some (x,s,st))).2.2=0
         · have hn:=zK he
           simp only[ZP he];rw[ZP (.inr (.inl (by rw[hn];omega)))]
         ·rw[ZP (.inl he)]
       ·rw[ZP (.inl (by simp[dA]))]
end
theorem Jy{im im':By}{fr to fr' to':Int}(H:∀ a,0≤a→bO im fr to a=bO im' fr' to' a)(n m:Nat):∀ (at_:Int) (i:Nat) (out:By),n-out.length=m→0≤at_→rdL im fr to n at_ i out=rdL im' fr' to' n at_ i out:=by
 induction m using Nat.strongRecOn with
|ind m ih=>
   intro at_ i out hm h0;by_cases h:out.length<n
   · have hH:=H at_ h0
     cases hh:bO im fr to at_ with
    |none=>rw[jI h hh,jI h (hH.symm.trans hh)]
    |some p=>
       obtain⟨b,nx⟩:=p;have hh':=hH.symm.trans hh;by_cases hi:b.length≤i
       ·rw[lD h hh hi,lD h hh' hi]
       · obtain⟨s1,s2,s3,s4,s5,s6,s7,s8⟩:=dU hh
         obtain⟨x,hx⟩:∃ x,x=(b.drop i).take (n-out.length):=⟨_,rfl⟩
         have hxl:x.length=min (b.length-i) (n-out.length):=by rw[hx,ZT,ZX];omega
         have hal:(out++x).length=out.length+x.length:=ZR;by_cases h1:i+x.length=128
         · rw[fR h hh hi (by rw[←hx];exact h1),fR h hh' hi (by rw[←hx];exact h1),←hx]
           exact ih (n-(out++x).length) (by omega) nx 0 (out++x) rfl (by omega)
         · by_cases h2:(out++x).length<n
           ·rw[lE h hh hi (by rw[←hx];exact h1) (by rw[←hx];exact h2),lE h hh' hi (by rw[←hx];exact h1) (by rw[←hx];exact h2)]
           · rw[mB h hh hi (by rw[←hx];exact h1) (by rw[←hx];exact h2),mB h hh' hi (by rw[←hx];exact h1) (by rw[←hx];exact h2),←hx]
             exact ih (n-(out++x).length) (by omega) at_ (i+x.length) (out++x) rfl h0
   ·rw[jJ h,jJ h]
theorem H8(pre X post:By):dX (pre++(X++post)) pre.length ((pre.length:Int)+X.length)=true:=by
 unfold dX;simp only[ZR,ag,decide_eq_true_eq];omega
theorem Fg(X:By):dX X 0 X.length=true:=by
 unfold dX;simp only[ag,decide_eq_true_eq];omega
theorem Jq(pre X post:By):aD (pre++(X++post)) pre.length ((pre.length:Int)+X.length)=aD X 0 X.length:=by
 funext ref n;unfold aD;by_cases h:ref<0∨n<0
 ·rw[ZP h,ZP h]
 · rw[ZO h,ZO h,ZO (by rw[H8];simp),ZO (by rw[Fg];simp)]
   exact Jy (fun a ha=>G4 pre X post ha) _ _ _ _ _ rfl (by omega)
section
variable {im im':List UInt8}{fr to fr' to':Int}
theorem zI(H:aD im fr to=aD im' fr' to')(w:Int):∀ (k:Nat) (ref:Int),nG im fr to w k ref=nG im' fr' to' w k ref
|0,_=>rfl
|k+1,ref=>by rw[nS,nS,H,zI H w k]
theorem BD(H:aD im fr to=aD im' fr' to')(M:dX im fr to=dX im' fr' to')(many w:Int):tnS im fr to many w=tnS im' fr' to' many w:=by
 unfold tnS;rw[H,M,zI H]
theorem Gu(H:aD im fr to=aD im' fr' to')(ref:Int):jF im fr to ref=jF im' fr' to' ref:=by unfold jF;rw[H]
theorem zT(H:aD im fr to=aD im' fr' to'):∀ (k:Nat) (ref:Int),lB im fr to k ref=lB im' fr' to' k ref
|0,_=>rfl
|k+1,ref=>by rw[kD,kD,Gu H,zT H k]
theorem Gt(H:aD im fr to=aD im' fr' to')(ref:Int):fG im fr to ref=fG im' fr' to' ref:=by
 unfold fG;rw[H,zT H]
theorem GZ(H:aD im fr to=aD im' fr' to')(ref:Int):bQ im fr to ref=bQ im' fr' to' ref:=by
 unfold bQ;rw[H]
end
theorem H0{s:Int×By}{z n:Int}(h:s.1=0)(hb:¬ iS z n):cK n s z=(0,s.2++le z n.toNat):=by
 have h1:iP s.1 z n=0:=by rw[dT hb,h]
 have h2:cK n s z=(iP s.1 z n,nJ s.1 s.2 z n):=rfl;rw[h2,h1,lR h1]
def enW(w:Nat)(l:List Int):By:=l.flatMap fun x=>le x w
def inW(w:Nat)(l:List Int):Prop:=∀ x∈l,0≤x∧x<256 ^ w
def w24(w:Nat):Prop:=w=2∨w=4
theorem V9{w:Nat}(hw:w24 w){z:Int}(h0:0≤z)(h1:z<256 ^ w):¬ iS z w:=by
 rcases hw with rfl|rfl
 ·exact gN (m:=65535) (by decide) (by decide) h0 (by have:z<65536:=h1;omega) (by decide)
 ·exact gN (m:=4294967295) (by decide) (by decide) h0 (by have:z<4294967296:=h1;omega) (by decide)
theorem vF(w:Nat)(l:List Int):(enW w l).length=w*l.length:=by
 induction l with
|nil=>rfl
|cons x r ih=>show (le x w++enW w r).length=_;rw[ZR,bC,ih,al,Nat.mul_succ];omega
theorem Ce{w:Nat}(hw:w24 w):∀ (l:List Int) (s:Int×By),s.1=0→inW w l→l.foldl (cK (w:Int)) s=(0,s.2++enW w l)
|[],s,h,_=>by show s=_;rw[show enW w []=[] from rfl,bp,←h]
|x::r,s,h,hl=>by
   have h1:=hl x (by simp);rw[dt,H0 h (V9 hw h1.1 h1.2),Ce hw r _ rfl (fun y hy=>hl y (by simp[hy]))];show (0,s.2++le x (w:Int).toNat++enW w r)=(0,s.2++(le x w++enW w r))
   rw[Z6,ak]
theorem qQ{w:Nat}(hw:w24 w){l:List Int}(h:inW w l):aL l (w:Int)=(enW w l,0):=by
 unfold aL;rw[ZP (by rcases hw with rfl|rfl;exact .inl rfl;exact .inr rfl)];have:iY l (w:Int)=(0,enW w l):=by unfold iY;rw[Ce hw l _ rfl h];rfl
 rw[this];rfl
theorem Ng(w:Nat)(l:List Int)(i:Nat)(h:i<l.length):∃ z,(enW w l).drop (w*i)=le (l.getD i 0) w++z:=by
 have e:l=l.take i++(l.getD i 0::l.drop (i+1)):=by
  rw[show l.getD i 0=l[i] by simp[Z2,h],←bz h,ay]
 refine⟨enW w (l.drop (i+1)),?_⟩;have e2:enW w l=enW w (l.take i)++(le (l.getD i 0) w++enW w (l.drop (i+1))):=by
  conv=>lhs;rw[e]
  unfold enW;rw[fk];rfl
 rw[e2];have hl:(enW w (l.take i)).length=w*i:=by rw[vF,ZT,cn (by omega)]
 rw[ct hl]
theorem QD(T:By):aR T 0=0:=by simp[aR,frW]
section
variable {T:List UInt8}
theorem EH{o m:Nat}(h:o+m≤T.length):aD (frW T (nF T)) 0 (frW T (nF T)).length (aR T o:Nat) (m:Nat)=((T.drop o).take m,((aR T (o+m):Nat):Int),0):=by
 have:=GG T [] [] h;rwa[yP,yE] at this
theorem Ov{o m:Nat}(ho:o≤T.length)(h:T.length<o+m):aD (frW T (nF T)) 0 (frW T (nF T)).length (aR T o:Nat) (m:Nat)=([],0,2):=by
 have:=Jp T [] [] ho h;rwa[yP,yE] at this
theorem QW:dX (frW T (nF T)) 0 (frW T (nF T)).length=true:=by have:=Mo T [] [];rwa[yP,yE] at this
end
section
variable {l:List Int}{w:Nat}
theorem QS(hw:w24 w)(h16:inW w l){i:Nat}(h:i<l.length):aD (frW (enW w l) (nF (enW w l))) 0 (frW (enW w l) (nF (enW w l))).length (aR (enW w l) (w*i):Nat) w=(le (l.getD i 0) w,((aR (enW w l) (w*(i+1)):Nat):Int),0)∧((bV (le (l.getD i 0) w):Nat):Int)=l.getD i 0:=by
 have hm:w*(i+1)≤w*l.length:=Nat.mul_le_mul_left w h;have h1:=EH (T:=enW w l) (o:=w*i) (m:=w) (by rw[vF,←Nat.mul_succ];exact hm);obtain⟨z,hz⟩:=Ng w l i h;rw[hz,cz (bC _ _),←Nat.mul_succ] at h1;have hx:=h16 (l.getD i 0) (by rw[Z2,ZQ h];exact bm _);exact⟨h1,rM w _ hx.1 hx.2⟩
theorem DX(hw:w24 w)(h16:inW w l):∀ (m i:Nat),i+m≤l.length→nG (frW (enW w l) (nF (enW w l))) 0 (frW (enW w l) (nF (enW w l))).length w m (aR (enW w l) (w*i):Nat)=some ((l.drop i).take m,((aR (enW w l) (w*(i+m)):Nat):Int))
|0,i,_=>by simp[nG]
|m+1,i,h=>by
   obtain⟨h1,h2⟩:=QS hw h16 (i:=i) (by omega);rw[nS,h1];simp only;rw[ZO (fun h=>h rfl),DX hw h16 m (i+1) (by omega),h2];rw[bz (by omega:i<l.length),List.take_succ_cons];simp only[dp,show i+1+m=i+(m+1) by omega];simp[Z2,show i<l.length by omega]
theorem Hz(hw:w24 w)(h16:inW w l):tnS (frW (enW w l) (nF (enW w l))) 0 (frW (enW w l) (nF (enW w l))).length l.length w=(l,0):=by
 have h1:=DX hw h16 l.length 0 (by omega);rw[Nat.mul_zero,QD,ix,be,cx] at h1;refine nQ (by rcases hw with rfl|rfl<;>omega) QW h1 ?_;have h2:=Ov (T:=enW w l) (o:=w*l.length) (m:=1) (by rw[vF];omega) (by rw[vF];omega);have h2:aD (frW (enW w l) (nF (enW w l))) 0 (frW (enW w l) (nF (enW w l))).length (aR (enW w l) (w*l.length):Nat) 1=([],0,2):=h2;rw[h2];decide
end
def sE(s:By):By:=af s.length::s
def kY(x:Xa):By:=sE x.1++sE x.2
def kP(X:List Xa):By:=af X.length::X.flatMap kY
theorem vD(s:By):(sE s).length=1+s.length:=by simp[sE];omega
theorem Hy{s:Int×By}{t:By}(h:s.1=0)(ht:t.length≤255):zH s t=(0,s.2++sE t):=by
 have h1:=(lL h ht).1;have h2:zH s t=(nE s.1 t,oX s.1 s.2 t):=rfl;have h3:nE s.1 t=0:=h1;rw[h2,h3];unfold oX sE;rw[ZO (by omega)]
theorem Hs{X:List Xa}(h:fB X):∀ k,k≤X.length→xSt X k=(0,af X.length::(X.take k).flatMap kY)
|0,_=>by
   have hb:=nT (n:=X.length) (by have:=h.2;omega);show cK 1 (0,[]) X.length=_;rw[H0 rfl hb];have:=Az X.length;simp only[aq,dm,List.flatMap_nil];rw[show (1:Int).toNat=1 from rfl,this]
|k+1,hk=>by
   obtain⟨_,g2,_,g4⟩:=h.1 k (by omega);rw[yZ X k (by omega),Hs h k (by omega)];unfold xF;have i1:=Hy (s:=(0,af X.length::(X.take k).flatMap kY)) (t:=(X.getD k x0).1) rfl (by omega);rw[i1,Hy rfl (by omega)];rw[List.take_succ_eq_append_getElem (by omega:k<X.length),fk];simp[kY,Z2,show k<X.length by omega]
theorem JF{X:List Xa}(h:fB X)(h0:0<X.length):kX X=(kP X,0):=by
 unfold kX;rw[ZO (by rintro(h1|h1);omega;exact h1 h),Hs h _ (Z0 _),be];rfl
theorem KR{T rest s:By}{o:Nat}(hd:T.drop o=sE s++rest)(hs:s.length≤255):jF (frW T (nF T)) 0 (frW T (nF T)).length (aR T o:Nat)=(s,((aR T (o+(sE s).length):Nat):Int),0):=by
 have hl:(sE s++rest).length=T.length-o:=by rw[←hd,ZX]
 rw[ZR,vD] at hl;have h1:=EH (T:=T) (o:=o) (m:=1) (by omega);have h1:aD (frW T (nF T)) 0 (frW T (nF T)).length (aR T o:Nat) 1=_:=h1;rw[hd] at h1;have e1:(sE s++rest).take 1=[af s.length]:=rfl;rw[e1] at h1;have hn:(af s.length).toNat=s.length:=by rw[ck];omega
 rw[zV (by rw[h1]),h1];simp only[List.getD_cons_zero];rw[hn];have h2:=EH (T:=T) (o:=o+1) (m:=s.length) (by omega);have e2:T.drop (o+1)=s++rest:=by rw[←ca,hd];rfl
 rw[e2,cz rfl] at h2;rw[h2,vD,gu]
def Cy(Y:List Xa):List By:=Y.flatMap fun x=>[x.1,x.2]
theorem ER(a b:By)(r:List By):bZ (a::b::r)=(a,b)::bZ r:=by
 unfold bZ;rw[show (a::b::r).length/2=r.length/2+1 by simp only[al];omega,List.range_succ_eq_map,db,List.map_map];congr 1
theorem qZ:∀ Y:List Xa,bZ (Cy Y)=Y
|[]=>rfl
|x::r=>by
   have e:Cy (x::r)=x.1::x.2::Cy r:=rfl;rw[e,ER,qZ r]
theorem PG{T:By}:∀ (Y:List Xa) (o:Nat) (rest:By),(∀ x∈Y,x.1.length≤255∧x.2.length≤255)→T.drop o=Y.flatMap kY++rest →
 lB (frW T (nF T)) 0 (frW T (nF T)).length (2*Y.length) (aR T o:Nat)=some (Cy Y,((aR T (o+(Y.flatMap kY).length):Nat):Int))
|[],o,rest,_,_=>by simp[lB,Cy]
|x::r,o,rest,hb,hd=>by
   obtain⟨b1,b2⟩:=hb x (by simp);have hd1:T.drop o=sE x.1++(sE x.2++(r.flatMap kY++rest)):=by rw[hd];simp[kY]
   have h1:=KR hd1 b1;have hd2:T.drop (o+(sE x.1).length)=sE x.2++(r.flatMap kY++rest):=by rw[←ca,hd1,ct rfl]
   have h2:=KR hd2 b2;have hd3:T.drop (o+(sE x.1).length+(sE x.2).length)=r.flatMap kY++rest:=by rw[←ca,hd2,ct rfl]
   have h3:=PG r _ rest (fun y hy=>hb y (by simp[hy])) hd3;rw[al,show 2*(r.length+1)=2*r.length+1+1 by omega,kD,h1];simp only;rw[ZO (fun h=>h rfl),kD,h2];simp only;rw[ZO (fun h=>h rfl),h3];simp only[dp];congr 1;refine fm rfl ?_;show ((aR T _:Nat):Int)=((aR T _:Nat):Int)
   congr 2;simp[kY];omega
theorem Rw{T rest:By}{o:Nat}{X:List Xa}(hm:fB X)(h0:0<X.length)(hd:T.drop o=kP X++rest):fG (frW T (nF T)) 0 (frW T (nF T)).length (aR T o:Nat)=(X,0):=by
 have hl:(kP X++rest).length=T.length-o:=by rw[←hd,ZX]
 have hl1:1≤(kP X).length:=by simp[kP]
 rw[ZR] at hl;have h1:=EH (T:=T) (o:=o) (m:=1) (by omega);have h1:aD (frW T (nF T)) 0 (frW T (nF T)).length (aR T o:Nat) 1=_:=h1;rw[hd] at h1;have e1:(kP X++rest).take 1=[af X.length]:=rfl;rw[e1] at h1;have h8:=hm.2;have hn:(af X.length).toNat=X.length:=by rw[ck];omega
 have hd2:T.drop (o+1)=X.flatMap kY++rest:=by rw[←ca,hd];rfl
 have hb:∀ x∈X,x.1.length≤255∧x.2.length≤255:=fun x hx=>by
  obtain⟨i,hi,rfl⟩:=cf hx;obtain⟨_,g2,_,g4⟩:=hm.1 i hi;have e:X.getD i x0=X[i]:=by simp[Z2,hi]
  rw[e] at g2 g4;omega
 have h2:=PG X (o+1) rest hb hd2;have hg:¬ ((aD (frW T (nF T)) 0 (frW T (nF T)).length (aR T o:Nat) 1).2.2≠0∨((aD (frW T (nF T)) 0 (frW T (nF T)).length (aR T o:Nat) 1).1.getD 0 0).toNat=0∨8<((aD (frW T (nF T)) 0 (frW T (nF T)).length (aR T o:Nat) 1).1.getD 0 0).toNat):=by
  rw[h1];simp only[List.getD_cons_zero];rw[hn];rintro(h|h|h);exact h rfl;omega;omega
 have h3:=zS hg (l:=Cy X) (r:=((aR T (o+1+(X.flatMap kY).length):Nat):Int)) (by rw[h1];simp only[List.getD_cons_zero];rw[hn];exact h2) (by rw[qZ];exact hm);rw[h3,qZ]
theorem wF(b:By)(i:Nat):∀ j,∃ r,gI b (i+j)=gI b i++r
|0=>⟨[],by simp⟩
|j+1=>by
   obtain⟨r,hr⟩:=wF b i j;exact⟨r++frB (chB b (i+j)),by rw[show i+(j+1)=(i+j)+1 by omega,lN,hr,Z6]⟩
theorem Gs{b:By}{i n:Nat}(h:i<n):∃ r,gI b n=gI b i++(frB (chB b i)++r):=by
 obtain⟨r,hr⟩:=wF b (i+1) (n-(i+1));rw[show i+1+(n-(i+1))=n by omega,lN] at hr;exact⟨r,by rw[hr,Z6]⟩
theorem Pa{x:By}(h:x.length=128):¬ ((hX x).length≠0∧(hX x).length≠128)∧Bu (hX x)=x:=by
 unfold hX
 split
 · rename_i hh
   refine⟨by simp,?_⟩;show bg 128 0=x
   symm
   rw[List.eq_replicate_iff];refine⟨h,fun c hc=>?_⟩;obtain⟨i,hi,rfl⟩:=cf hc;have:=hh i hi;simpa[Z2,hi] using this
 ·exact⟨by omega,by unfold Bu;rw[ZO (by omega)]⟩
section
variable {im pre rest b:List UInt8}(him:im=pre++(dJ b++rest))
include him
theorem DY{i:Nat}(h:i<b.length/128):bD im (pre.length+(gI b i).length:Nat)=(hX (chB b i),((pre.length+(gI b (i+1)).length:Nat):Int),0)∧dO im (pre.length+(gI b i).length:Nat)=(((pre.length+(gI b (i+1)).length:Nat):Int),0):=by
 obtain⟨r,hr⟩:=Gs (b:=b) h;have e:im=(pre++gI b i)++((dB (hX (chB b i))).1++(r++rest)):=by
  rw[him,show dJ b=gI b (b.length/128) from rfl,hr];show _=(pre++gI b i)++(frB (chB b i)++(r++rest))
  simp
 have hl:(hX (chB b i)).length≤128:=aj (MK _) (DF _ _);have h1:=vT hl (pre++gI b i) (r++rest);rw[←e,ZR] at h1;have hs:(gI b (i+1)).length=(gI b i).length+(dB (hX (chB b i))).1.length:=by rw[lN,ZR];rfl
 refine⟨?_,?_⟩
 · rw[h1.1]
   refine fm rfl (fm ?_ rfl);show ((pre.length+(gI b i).length:Nat):Int)+_=((pre.length+(gI b (i+1)).length:Nat):Int)
   omega
 · rw[h1.2]
   refine fm ?_ rfl;show ((pre.length+(gI b i).length:Nat):Int)+_=((pre.length+(gI b (i+1)).length:Nat):Int)
   omega
end
theorem EF{im pre rest b:By}(him:im=pre++(dJ b++rest))(n:Nat)(hn:b.length/128*128≤n):∀ k i,k=b.length/128-i→i≤b.length/128 →
 lF im 0 n k i (pre.length+(gI b i).length:Nat) (b.take (i*128))=(b.take (b.length/128*128),0)
|0,i,hk,hi=>by
   rw[show i=b.length/128 by omega];rfl
|k+1,i,hk,hi=>by
   have hN:b.length/128*128≤b.length:=Nat.div_mul_le_self _ _;have hi2:(i+1)*128≤b.length/128*128:=di 128 (show i+1≤b.length/128 by omega);obtain⟨h1,h2⟩:=DY him (i:=i) (by omega);obtain⟨g1,g2⟩:=Pa (A7 (b:=b) (i:=i) (by omega));have hl:(b.take (i*128)).length=i*128:=by rw[ZT];omega
   rw[oA (by omega) (by omega) (by rw[h1];rintro(h|h);exact h rfl;exact g1 h),h1,g2];have e:b.take (i*128)++((chB b i).drop (0-i*128)).take (n-(b.take (i*128)).length)=b.take ((i+1)*128):=by
    have hc:=A7 (b:=b) (i:=i) (by omega);have e1:((chB b i).drop (0-i*128)).take (n-(b.take (i*128)).length)=chB b i:=by
     rw[show 0-i*128=0 by omega,ix];exact Z4 (by omega)
    rw[e1];unfold chB;rw[show (i+1)*128=i*128+128 by omega,List.take_add]
   rw[e];exact EF him n hn k (i+1) (by omega) (by omega)
theorem GF{im pre rest b:By}(him:im=pre++(dJ b++rest))(hb:b.length≤4096):gX im (pre.length:Nat) (b.length:Nat) 0 (b.length:Nat)=(b.take (b.length/128*128),0):=by
 by_cases h:b.length/128*128≤0
 · have:=nZ (im:=im) (start:=(pre.length:Nat)) (off:=0) (n:=b.length) hb h
   rw[show b.length/128*128=0 by omega];exact this
 · have h1:=Ac (im:=im) (start:=(pre.length:Nat)) (n:=b.length) hb h
   have h2:=EF him b.length (Nat.div_mul_le_self _ _) (b.length/128) 0 rfl (ZZ _);rw[ii,dm] at h2;exact h1.trans h2
theorem GE{im b:By}{start:Int}(hb:b.length/128=0):gX im start (b.length:Nat) 0 (b.length:Nat)=(b.take (b.length/128*128),0):=by
 have:=nZ (im:=im) (start:=start) (size:=b.length) (off:=0) (n:=b.length) (by omega) (by omega);rw[hb];exact this
theorem DO{im pre rest b:By}(him:im=pre++(dJ b++rest)){e:Int}(he:((pre.length+(dJ b).length:Nat):Int)≤e):∀ k i,k=b.length/128-i→i≤b.length/128 →
 vR im e k (pre.length+(gI b i).length:Nat)=(((pre.length+(dJ b).length:Nat):Int),0)
|0,i,hk,hi=>by
   rw[show i=b.length/128 by omega];rfl
|k+1,i,hk,hi=>by
   obtain⟨h1,h2⟩:=DY him (i:=i) (by omega);obtain⟨r,hr⟩:=wF b (i+1) (b.length/128-(i+1));rw[show i+1+(b.length/128-(i+1))=b.length/128 by omega] at hr;have h4:(gI b (i+1)).length≤(dJ b).length:=by show _≤(gI b (b.length/128)).length;rw[hr,ZR];omega
   rw[CV (by rw[h2];rintro(h|h);exact h rfl;have h:e<((pre.length+(gI b (i+1)).length:Nat):Int):=h;omega),h2];exact DO him he k (i+1) (by omega) (by omega)
def Ga(B b:By)(st:Nat):Prop:=(dJ b=[]∧st=0)∨(dJ b≠[]∧∃ pre rest,B=pre++(dJ b++rest)∧st=64+pre.length)
def Bh(s:DS):Prop:=∀ a v,jQ s.m a=some v→∃ pre rest,s.B=pre++(a.1++rest)∧64+pre.length=v
theorem Bh.zero:Bh ⟨[],[]⟩:=fun a v h=>by cases h
theorem KC(s:DS)(b:By):∃ z,(jV 64 s b).1.B=s.B++z:=by
 unfold jV KA
 split
 ·exact⟨[],by simp⟩
 · split
   ·exact⟨[],by simp⟩
   ·exact⟨_,rfl⟩
theorem KD{s:DS}(h:Bh s)(b:By)(hb:(dJ b).length≤maxLen):Bh (jV 64 s b).1∧Ga (jV 64 s b).1.B b (jV 64 s b).2:=by
 by_cases hr:dJ b=[]
 · have e:jV 64 s b=(s,0):=by unfold jV;rw[ZP hr]
   rw[e];exact⟨h,.inl ⟨hr,rfl⟩⟩
 · cases hf:jQ s.m (pU (dJ b)) with
  |some k=>
     have e:jV 64 s b=(s,k):=F8 (fun e=>hr (dh.1 e)) hf;rw[e];obtain⟨pre,rest,h1,h2⟩:=h _ _ hf;rw[HN hb] at h1;exact⟨h,.inr ⟨hr,pre,rest,h1,h2.symm⟩⟩
  |none=>
     have e:jV 64 s b=(⟨s.B++dJ b,s.m++[(pU (dJ b),64+s.B.length)]⟩,64+s.B.length):=F9 (fun e=>hr (dh.1 e)) hf;rw[e];refine⟨fun a v hv=>?_,.inr ⟨hr,s.B,[],by simp,rfl⟩⟩;have hv:jQ (s.m++[(pU (dJ b),64+s.B.length)]) a=some v:=hv;rw[AP] at hv;show ∃ pre rest,s.B++dJ b=pre++(a.1++rest)∧64+pre.length=v;cases ha:jQ s.m a with
    |some k=>
       rw[ha] at hv;have hkv:k=v:=by simpa using hv
       subst hkv;obtain⟨pre,rest,h1,h2⟩:=h a k ha;exact⟨pre,rest++dJ b,by rw[h1];simp,h2⟩
    |none=>
       rw[ha] at hv;by_cases hk:pU (dJ b)=a
       · have hv:64+s.B.length=v:=by simpa[hk] using hv
         refine⟨s.B,[],?_,hv⟩;rw[←hk,HN hb,bp]
       ·simp[hk] at hv
theorem Ga.more{B b z:By}{st:Nat}(h:Ga B b st):Ga (B++z) b st:=by
 rcases h with h|⟨h,pre,rest,h1,h2⟩
 ·exact .inl h
 ·exact .inr ⟨h,pre,rest++z,by rw[h1];simp,h2⟩
def TlS(L:List By)(t:By)(fr off:Nat):Prop:=(t=[]∧fr=0∧off=0)∨(0<t.length∧∃ (n:Nat) (a z:By),n<L.length∧fr=n+1∧off=a.length∧L.getD n []=a++(t++z))
def ExL(A B:List By):Prop:=A.length≤B.length∧∀ q,q<A.length→∃ z,B.getD q []=A.getD q []++z
theorem TlS.ext{A B:List By}{t:By}{fr off:Nat}(h:TlS A t fr off)(k:ExL A B):TlS B t fr off:=by
 rcases h with h|⟨h,n,a,z,h1,h2,h3,h4⟩
 ·exact .inl h
 · obtain⟨y,hy⟩:=k.2 n h1
   exact .inr ⟨h,n,a,z++y,Nat.lt_of_lt_of_le h1 k.1,h2,h3,by rw[hy,h4];simp⟩
def F3(L:List By):Prop:=∀ b∈L,0<b.length∧b.length≤128
theorem NN{L:List By}(hL:F3 L){t:By}(ht:t.length<128):ExL L (fF L t).1∧F3 (fF L t).1∧(fF L t).1.length≤L.length+1∧TlS (fF L t).1 t (fF L t).2.1 (fF L t).2.2:=by
 unfold fF;by_cases h0:t.length<1
 · rw[ZP (Ba (.inl h0))]
   exact⟨⟨Z0 _,fun q _=>⟨[],by simp⟩⟩,hL,ia _,.inl ⟨dh.1 (by omega),rfl,rfl⟩⟩
 · rw[ZO (by rw[yY ⟨by omega,ht⟩];simp)]
   by_cases hn:L=[]∨128<(L.getD (L.length-1) []).length+t.length
   · rw[ZP hn]
     refine⟨⟨by simp,fun q hq=>⟨[],by rw[Z2,Z2,au hq];simp⟩⟩,fun b hb=>?_,by simp,.inr ⟨by omega,L.length,[],[],by simp,rfl,rfl,by simp[Z2]⟩⟩;rcases an.1 hb with hb|hb
     ·exact hL b hb
     ·rw[ai] at hb;subst hb;omega
   · rw[ZO hn]
     have hne:L≠[]:=fun e=>hn (.inl e);have hl:=bw.2 hne;have hlast:(L.set (L.length-1) (L.getD (L.length-1) []++t)).getD (L.length-1) []=L.getD (L.length-1) []++t:=by
      rw[Z2,cg,ZP rfl,ZP (by omega)];rfl
     refine⟨⟨by simp,fun q hq=>?_⟩,fun b hb=>?_,by simp,.inr ⟨by omega,L.length-1,L.getD (L.length-1) [],[],by rw[cm];omega,by show L.length=_;omega,rfl,by rw[hlast];simp⟩⟩
     · by_cases e:q=L.length-1
       ·subst e;exact⟨t,hlast⟩
       ·exact⟨[],by rw[Z2,cg,ZO (fun h=>e h.symm)];simp[Z2]⟩
     · rcases eu hb with hb|hb
       ·exact hL b hb
       ·rw[hb,ZR];omega
def FOk(B:By)(L:List By)(d:By)(f:Ino):Prop:=
 ∃ st fr off:Nat,f=(fun j=>[2,0,0,0,0,0,(st:Int),(d.length:Int),(fr:Int),(off:Int)].getD j 0,[])∧Ga B d st∧TlS L (fQ d) fr off
structure FI (V:List Nd)(n:Nat)(s:FSt):Prop where
 g:Bh s.ds
 t:F3 s.tails
 tn:s.tails.length≤V.length
 l:s.files.length=n
 b:s.ds.B.length≤4320*V.length
 f:∀ i f,s.files[i]?=some f→f=kO∨∃ x∈V,x.kind=2∧x.ino.toNat=i∧FOk s.ds.B s.tails x.data f
 a:∀ x∈V,x.kind=2→(s.files.getD x.ino.toNat kO).1 0=2
theorem I1(d:By):(fQ d).length<128:=by unfold fQ;rw[ZX];omega
theorem QB(d:By)(h:d.length≤4096):(dJ d).length≤maxLen:=by
 have:=nU d (d.length/128);have:(dJ d).length≤135*(d.length/128):=this.1;unfold maxLen;omega
theorem Rn(s:DS)(b:By)(h:b.length≤4096):(jV 64 s b).1.B.length≤s.B.length+4320:=by
 have h1:(dJ b).length≤135*(b.length/128):=(nU b (b.length/128)).1;unfold jV KA
 split
 ·exact gy _ _
 · split
   ·exact gy _ _
   · show (s.B++dJ b).length≤_
     rw[ZR];omega
theorem vC{V:List Nd}{n:Nat}{s:FSt}(h:FI V n s){x:Nd}(hx:0≤x.ino∧x.ino<n)(hd:x.data.length≤4096):FI (V++[x]) n (iZ s x):=by
 unfold iZ;by_cases hc:x.kind≠2∨(s.files.getD x.ino.toNat kO).1 0=2
 · rw[ZP hc]
   refine⟨h.g,h.t,by rw[ZR];exact aj h.tn (gy _ _),h.l,by rw[ZR];have:=h.b;omega,fun i f hf=>(h.f i f hf).imp id (fun⟨y,hy,r⟩=>⟨y,fh _ hy,r⟩),fun y hy hk=>?_⟩;rcases an.1 hy with hy|hy
   ·exact h.a y hy hk
   · rw[ai] at hy;subst hy
     exact hc.resolve_left (fun h=>h hk)
 · rw[ZO hc]
   have hk:x.kind=2:=ZY fun h=>hc (.inl h);obtain⟨g1,g2⟩:=KD h.g x.data (QB _ hd);obtain⟨a1,a2,a3,a4⟩:=NN h.t (I1 x.data);obtain⟨z,hz⟩:=KC s.ds x.data;refine⟨g1,a2,by rw[ZR];exact aj a3 (Nat.add_le_add_right h.tn 1),by show (s.files.set _ _).length=n;rw[cm];exact h.l,by
    have h1:=Rn s.ds x.data hd;have:=h.b;show (jV 64 s.ds x.data).1.B.length≤_;rw[ZR];simp only[ZU];omega,fun i f hf=>?_,fun y hy hk2=>?_⟩
   · have hf:(s.files.set x.ino.toNat _)[i]?=some f:=hf
     rw[cg] at hf;by_cases e:x.ino.toNat=i
     · rw[ZP e] at hf
       split at hf
       · cases hf
         exact .inr ⟨x,by simp,hk,e,_,_,_,rfl,g2,a4⟩
       ·cases hf
     · rw[ZO e] at hf
       rcases h.f i f hf with hf|⟨y,hy,k1,k2,st,fr,off,k3,k4,k5⟩
       ·exact .inl hf
       ·exact .inr ⟨y,fh _ hy,k1,k2,st,fr,off,k3,by show Ga (jV 64 s.ds x.data).1.B _ _;rw[hz];exact k4.more,k5.ext a1⟩
   · show ((s.files.set x.ino.toNat _).getD y.ino.toNat kO).1 0=2
     rw[Z2,cg];by_cases e:x.ino.toNat=y.ino.toNat
     ·rw[ZP e,ZP (by rw[h.l];omega)];rfl
     · rw[ZO e]
       rcases an.1 hy with hy|hy
       ·exact h.a y hy hk2
       ·rw[ai] at hy;subst hy;exact absurd rfl e
theorem CB{n:Nat}:∀ (L V:List Nd) (s:FSt),FI V n s→(∀ x∈L,(0≤x.ino∧x.ino<n)∧x.data.length≤4096)→FI (V++L) n (L.foldl iZ s)
|[],V,s,h,_=>by rw[bp];exact h
|x::r,V,s,h,hL=>by
   have h1:=vC h (hL x (by simp)).1 (hL x (by simp)).2;have h2:=CB r (V++[x]) _ h1 (fun y hy=>hL y (by simp[hy]));rw[Z6] at h2;exact h2
theorem Dz{qs:List (NdH×Nd)}(h:∀ q∈qs,(1≤q.2.ino∧q.2.ino≤qs.length)∧q.2.data.length≤4096):FI (nds qs) (qs.length+1) (cB qs):=by
 have h0:FI [] (qs.length+1) ⟨⟨[],[]⟩,[],bg (qs.length+1) kO⟩:=⟨Bh.zero,(by intro b hb;cases hb),Z0 _,cj,Z0 _,fun i f hf=>.inl (by
  have:=ZW hf;exact jd this),(by intro x hx;cases hx)⟩
 have:=CB (nds qs) [] _ h0 (fun x hx=>by
  obtain⟨q,hq,rfl⟩:=av.1 hx;have:=h q hq;omega)
 exact this
theorem nR:∀ (L:List By) (s:DS),(gC L s).2.length=L.length
|[],_=>rfl
|t::r,s=>by show ((_::(gC r (pX 64 s t).1).2).length=_);rw[al,nR r,al]
theorem rN:∀ (L:List By) (s:DS),∃ z,(gC L s).1.B=s.B++z∧z.length≤(L.map (fun t=>(dB t).1.length)).sum
|[],s=>⟨[],by simp[gC],by simp⟩
|t::r,s=>by
   obtain⟨z,hz,hl⟩:=rN r (pX 64 s t).1;refine⟨(dB t).1++z,?_,?_⟩
   · show (gC r (pX 64 s t).1).1.B=_
     rw[hz];show (s.B++(dB t).1)++z=_;rw[Z6]
   ·rw[ZR,db,List.sum_cons];omega
theorem yG:∀ (L:List By) (s:DS) (j:Nat),j<L.length→∃ pre rest,(gC L s).1.B=pre++((dB (L.getD j [])).1++rest)∧(gC L s).2.getD j 0=64+(pre.length:Int)
|[],s,j,h=>absurd h (Nat.not_lt_zero _)
|t::r,s,0,_=>by
   obtain⟨z,hz,_⟩:=rN r (pX 64 s t).1;refine⟨s.B,z,?_,?_⟩
   · show (gC r (pX 64 s t).1).1.B=_
     rw[hz];show (s.B++(dB t).1)++z=_;rw[Z6];rfl
   · show ((64+s.B.length:Nat):Int)=_
     omega
|t::r,s,j+1,h=>yG r (pX 64 s t).1 j (Nat.lt_of_succ_lt_succ h)
theorem Is{F:Nat→Int}:∀ (L:List Fd) (G:Nat→Int) (t:By),(∀ x∈L,(1≤x.b∧x.b≤4)∧0≤F x.o∧F x.o<256 ^ x.b.toNat)→L.foldl gF ((0,eZ F L++t),G)=((0,t),fun o=>if o∈L.map (·.o) then F o else G o)
|[],G,t,_=>by simp[eZ]
|x::r,G,t,h=>by
   obtain⟨⟨b1,b4⟩,h0,hx⟩:=h x (by simp);have e:eZ F (x::r)++t=le (F x.o) x.b.toNat++(eZ F r++t):=by simp[eZ]
   obtain⟨g1,g2⟩:=Q5 (n:=x.b.toNat) (x:=F x.o) (by omega) (by omega) h0 hx (eZ F r++t);rw[show ((x.b.toNat:Nat):Int)=x.b by omega] at g1 g2;have hs:gF ((0,eZ F (x::r)++t),G) x=((0,eZ F r++t),upd G x.o (F x.o)):=by
    unfold gF;rw[e];simp only;rw[g1,g2]
   rw[dt,hs,Is r _ t (fun y hy=>h y (by simp[hy]))];refine fm rfl (funext fun o=>?_);simp only[db,aw];by_cases ho:o∈r.map (·.o)
   ·rw[ZP ho,ZP (.inr ho)]
   · rw[ZO ho]
     by_cases hx2:o=x.o
     ·rw[ZP (.inl hx2)];subst hx2;simp[upd]
     ·rw[ZO (fun h=>h.elim hx2 ho)];simp[upd,hx2]
theorem N2{F:Nat→Int}(h:gD F):∀ x∈suL,(1≤x.b∧x.b≤4)∧0≤F x.o∧F x.o<256 ^ x.b.toNat:=by
 obtain⟨⟨a1,a2,a3,a4,a5,a6,a7⟩,b1,b2,b3,b4,b5,b6,b7,b8⟩:=h;intro x hx;simp only[suL,aw,bv,or_false] at hx;rcases hx with rfl|rfl|rfl|rfl|rfl|rfl|rfl|rfl|rfl|rfl
 ·exact⟨by decide,by show 0≤F 0;omega,by show F 0<4294967296;omega⟩
 ·exact⟨by decide,by show 0≤F 2;omega,by show F 2<4294967296;omega⟩
 ·exact⟨by decide,by show 0≤F 3;omega,by show F 3<4294967296;omega⟩
 ·exact⟨by decide,by show 0≤F 4;omega,by show F 4<4294967296;omega⟩
 ·exact⟨by decide,by show 0≤F 5;omega,by show F 5<4294967296;omega⟩
 ·exact⟨by decide,by show 0≤F 6;omega,by show F 6<4294967296;omega⟩
 ·exact⟨by decide,by show 0≤F 9;omega,by show F 9<4294967296;omega⟩
 ·exact⟨by decide,by show 0≤F 1;omega,by show F 1<65536;omega⟩
 ·exact⟨by decide,by show 0≤F 7;omega,by show F 7<65536;omega⟩
 ·exact⟨by decide,by show 0≤F 8;omega,by show F 8<65536;omega⟩
theorem K6(o:Nat):o∈suL.map (·.o)↔o<10:=by
 show o∈[0,2,3,4,5,6,9,1,7,8]↔_;simp only[aw,bv,or_false];omega
theorem N3{F:Nat→Int}(h:gD F)(h0:∀ o,10≤o→F o=0)(rest:By):suF (suB F++rest)=F:=by
 have e:((suB F++rest).take 64).drop 4=eZ F suL++(le (eU (suH F):Nat) 4++bg 22 0):=by
  rw[cz (mS F)];unfold suB suH;rw[Z6];exact ct (show suM.length=4 from rfl)
 unfold suF suQ;rw[e,Is suL zF _ (N2 h)];funext o;show (if o∈suL.map (·.o) then F o else zF o)=F o;by_cases ho:o<10
 ·rw[ZP ((K6 o).2 ho)]
 ·rw[ZO (fun h=>ho ((K6 o).1 h)),h0 o (by omega)];rfl
theorem D5{F:Nat→Int}(h:gD F)(h0:∀ o,10≤o→F o=0)(rest:By)(hs:F 0=64+(rest.length:Int)):aJ (suB F++rest)=(F,0):=by
 have hl:=mS F;have hF:=N3 h h0 rest;have hok:gE (suB F++rest):=by
  unfold gE;rw[hF];exact⟨by rw[ZR];omega,h,cz hl,by rw[ZR];omega⟩
 unfold aJ;rw[ZP hok,hF]
theorem FJ{L:List Ent}(h:aT [] L):iO L=(bE L,0)∧fA (bE L)=(L,0):=by
 refine⟨?_,vI h rfl⟩;unfold iO;rw[ZP h]
section
open Go Go.RowKit Go.Maps
def At3(T X:By)(o:Nat):Prop:=∃ pre rest,T=pre++(X++rest)∧pre.length=o
theorem At3.more{T X z:By}{o:Nat}(h:At3 T X o):At3 (T++z) X o:=by
 obtain⟨pre,rest,h1,h2⟩:=h;exact⟨pre,rest++z,by rw[h1];simp,h2⟩
theorem At3.le{T X:By}{o:Nat}(h:At3 T X o):o+X.length≤T.length:=by
 obtain⟨pre,rest,h1,h2⟩:=h;rw[h1,ZR,ZR];omega
theorem At3.drop{T X:By}{o:Nat}(h:At3 T X o):∃ rest,T.drop o=X++rest:=by
 obtain⟨pre,rest,h1,h2⟩:=h;exact⟨rest,by rw[h1,←h2,ct rfl]⟩
theorem At3.new(T X:By):At3 (T++X) X T.length:=⟨T,[],by simp,rfl⟩
theorem iU{T z:By}{o:Nat}(h:o≤T.length):aR (T++z) o=aR T o:=by
 rw[BY (T:=T++z) (by rw[ZR];omega),BY (T:=T) h,cu h]
theorem Oo(T:By){o p:Nat}(h:o<p):aR T o<aR T p:=by
 unfold aR;by_cases e:o/128=p/128
 ·rw[e];omega
 · have h1:(frW T (o/128+1)).length≤(frW T (p/128)).length:=AN (by omega)
   have h2:=Q7 (T:=T) (o/128);omega
structure Ex (s t:BSt):Prop where
 i:∃ z,t.ino=s.ino++z
 l:∃ z,t.lst=s.lst++z
 f:∃ z,t.fur=s.fur++z
 r:∀ m,0<s.refs.getD m 0→t.refs.getD m 0=s.refs.getD m 0
theorem Ex.rfl{s:BSt}:Ex s s:=⟨⟨[],by simp⟩,⟨[],by simp⟩,⟨[],by simp⟩,fun _ _=>Eq.refl _⟩
theorem Ex.trans{s t u:BSt}(h:Ex s t)(k:Ex t u):Ex s u:=by
 obtain⟨⟨a,ha⟩,⟨b,hb⟩,⟨c,hc⟩,hr⟩:=h;obtain⟨⟨a',ha'⟩,⟨b',hb'⟩,⟨c',hc'⟩,hr'⟩:=k;exact⟨⟨a++a',by rw[ha',ha,Z6]⟩,⟨b++b',by rw[hb',hb,Z6]⟩,⟨c++c',by rw[hc',hc,Z6]⟩,fun m hm=>by rw[hr' m (by rw[hr m hm];exact hm),hr m hm]⟩
def XrI(s:BSt)(X:List Xa)(xr:Int):Prop:=(X=[]∧xr=0)∨(X≠[]∧∃ o,xr=((aR s.fur o:Nat):Int)+1∧At3 s.fur (kP X) o)
theorem XrI.ex{s t:BSt}{X:List Xa}{xr:Int}(h:XrI s X xr)(e:Ex s t):XrI t X xr:=by
 rcases h with h|⟨h,o,h1,h2⟩
 ·exact .inl h
 · obtain⟨z,hz⟩:=e.f
   have:=h2.le;exact .inr ⟨h,o,by rw[hz,iU (by omega)];exact h1,by rw[hz];exact h2.more⟩
def jR(qs:List (NdH×Nd))(s:BSt)(ys:List Int):List Ent:=ys.map fun j=>(bB (ndB qs j).names,(ndB qs j).kind,s.refs.getD (ndB qs j).ino.toNat 0-1)
def Ei(qs:List (NdH×Nd))(s:BSt)(ys:List Int):Prop:=∀ j∈ys,0<s.refs.getD (ndB qs j).ino.toNat 0
theorem Ei.ex{qs:List (NdH×Nd)}{s t:BSt}{ys:List Int}(h:Ei qs s ys)(e:Ex s t):Ei qs t ys:=fun j hj=>by rw[e.r _ (h j hj)];exact h j hj
theorem DA{qs:List (NdH×Nd)}{s t:BSt}{ys:List Int}(h:Ei qs s ys)(e:Ex s t):jR qs t ys=jR qs s ys:=by
 unfold jR;apply List.map_congr_left;intro j hj;rw[e.r _ (h j hj)]
def Pm(s:BSt)(o n:Nat):Ino:=(fun j=>if j=6 then ((aR s.lst o:Nat):Int) else if j=7 then (n:Int) else 0,[])
def KiI(qs:List (NdH×Nd))(files:List Ino)(s:BSt)(q:Nd)(i:Ino):Prop:=
 (q.kind=2→i=files.getD q.ino.toNat kO)∧(q.kind=3→i=(zF,q.tgt)) ∧
 (q.kind=1→Ei qs s (cD qs q.names qs.length)∧∃ o,i=Pm s o (bE (jR qs s (cD qs q.names qs.length))).length∧At3 s.lst (bE (jR qs s (cD qs q.names qs.length))) o)
theorem KiI.ex{qs:List (NdH×Nd)}{files:List Ino}{s t:BSt}{q:Nd}{i:Ino}(h:KiI qs files s q i)(e:Ex s t):KiI qs files t q i:=by
 obtain⟨h1,h2,h3⟩:=h;refine⟨h1,h2,fun hk=>?_⟩;obtain⟨a,o,b,c⟩:=h3 hk;obtain⟨z,hz⟩:=e.l;have hl:=c.le;have he:=DA a e;refine⟨a.ex e,o,?_,?_⟩
 ·rw[he,b];unfold Pm;rw[hz,iU (by omega)]
 ·rw[he,hz];exact c.more
def PC(qs:List (NdH×Nd))(ids:List Int)(files:List Ino)(s:BSt)(m:Nat):Prop:=
 ∃ (k:Nat) (q:NdH×Nd) (i:Ino) (xr:Int) (o:Nat),qs[k]?=some q∧q.2.ino=(m:Int)∧s.refs.getD m 0=((aR s.ino o:Nat):Int)+1∧fI (inB qs ids k i xr).1 (inB qs ids k i xr).2∧At3 s.ino (iQ (inB qs ids k i xr)) o∧XrI s q.2.xs xr∧KiI qs files s q.2 i
theorem PC.ex{qs:List (NdH×Nd)}{ids:List Int}{files:List Ino}{s t:BSt}{m:Nat}(h:PC qs ids files s m)(h0:0<s.refs.getD m 0)(e:Ex s t):PC qs ids files t m:=by
 obtain⟨k,q,i,xr,o,h1,h2,h3,h4,h5,h6,h7⟩:=h;obtain⟨z,hz⟩:=e.i;have hl:=h5.le;exact⟨k,q,i,xr,o,h1,h2,by rw[e.r m h0,hz,iU (by omega)];exact h3,h4,by rw[hz];exact h5.more,h6.ex e,h7.ex e⟩
def uL(s:BSt):List Int:=s.refs.filter (fun r=>decide (0<r))
structure pJ (qs:List (NdH×Nd))(ids:List Int)(files:List Ino)(s:BSt):Prop where
 std:∀ m,0<s.refs.getD m 0→PC qs ids files s m
 rl:s.refs.length=qs.length+1
 rn:∀ m,0≤s.refs.getD m 0
 sets:∀ y∈s.sets,∃ o,y.2=((aR s.fur o:Nat):Int)∧At3 s.fur (kP y.1) o
 many:s.many=(uL s).length
 dist:∀ m n,0<s.refs.getD m 0→s.refs.getD m 0=s.refs.getD n 0→m=n
 bi:s.ino.length≤214*s.many
 bf:s.fur.length≤4200*s.many
 sn:s.sets.length≤s.many
 sh:shS s
theorem Hb{l:List Int}{m:Nat}{v:Int}(h:m<l.length)(h0:l.getD m 0≤0)(hv:0<v):((l.set m v).filter (fun r=>decide (0<r))).length=(l.filter (fun r=>decide (0<r))).length+1:=by
 have e:l=l.take m++l.getD m 0::l.drop (m+1):=by
  rw[show l.getD m 0=l[m] by simp[Z2,h],←bz h,ay]
 have e2:l.set m v=l.take m++v::l.drop (m+1):=List.set_eq_take_append_cons_drop .. |>.trans (by rw[ZP h]);rw[e2]
 conv=>rhs;rw[e]
 rw[List.filter_append,List.filter_append,List.filter_cons_of_pos (by simpa using hv),List.filter_cons_of_neg (by simp only[decide_eq_true_eq];omega)];simp;omega
theorem RT{l:List Int}{m n:Nat}{v:Int}(h:m<l.length):(l.set m v).getD n 0=if n=m then v else l.getD n 0:=by
 rw[Z2,cg];by_cases e:m=n
 ·subst e;rw[ZP rfl,ZP h,ZP rfl];rfl
 ·rw[ZO e,ZO (fun h=>e h.symm)];rfl
theorem Kl{X:List Xa}(h:fB X):(kP X).length≤4200:=by
 have hb:∀ x∈X,x.1.length≤255∧x.2.length≤255:=fun x hx=>by
  obtain⟨i,hi,rfl⟩:=cf hx;obtain⟨_,g2,_,g4⟩:=h.1 i hi;have e:X.getD i x0=X[i]:=by simp[Z2,hi]
  rw[e] at g2 g4;omega
 have key:∀ Y:List Xa,(∀ x∈Y,x.1.length≤255∧x.2.length≤255)→(Y.flatMap kY).length≤512*Y.length:=by
  intro Y
  induction Y with
 |nil=>intro _;exact Z0 _
 |cons x r ih=>
    intro hy;have h1:=hy x (by simp);have h2:=ih (fun y h=>hy y (by simp[h]));have e:(kY x).length=(1+x.1.length)+(1+x.2.length):=by unfold kY;rw[ZR,vD,vD]
    rw[cq,ZR,al,e];omega
 have h1:=key X hb;have h2:=h.2;unfold kP;rw[al];omega
section
variable {qs:List (NdH×Nd)}{ids:List Int}{files:List Ino}
theorem MQ{s:BSt}(h:pJ qs ids files s){X:List Xa}(hX:fB X) :
 XrI (dY s X).2 X (dY s X).1∧Ex s (dY s X).2∧(dY s X).2.refs=s.refs∧(dY s X).2.many=s.many∧(dY s X).2.ino=s.ino∧(dY s X).2.lst=s.lst∧(dY s X).2.fur.length≤s.fur.length+4200 ∧
 (∀ y∈(dY s X).2.sets,∃ o,y.2=((aR (dY s X).2.fur o:Nat):Int)∧At3 (dY s X).2.fur (kP y.1) o)∧0≤(dY s X).1∧shS (dY s X).2∧(dY s X).2.sets.length≤s.sets.length+1:=by
 have hsh:shS (dY s X).2:=It h.sh (fun x hx=>by
  obtain⟨i,hi,rfl⟩:=cf hx;obtain⟨_,g2,_,_⟩:=hX.1 i hi;have e:X.getD i x0=X[i]:=by simp[Z2,hi]
  rw[e] at g2;omega)
 by_cases h0:X.length=0
 · have e:dY s X=(0,s):=by unfold dY;rw[ZP h0]
   rw[e] at hsh ⊢;exact⟨.inl ⟨dh.1 h0,rfl⟩,.rfl,rfl,rfl,rfl,rfl,gy _ _,h.sets,fx _,hsh,ia _⟩
 · have hne:X≠[]:=fun e=>h0 (by rw[e];rfl)
   cases hf:s.sets.find? (fun y=>decide (y.1=X)) with
  |some y=>
     have e:dY s X=(y.2+1,s):=by unfold dY;rw[ZO h0,hf]
     rw[e] at hsh ⊢;obtain⟨o,h1,h2⟩:=h.sets y (List.mem_of_find?_eq_some hf);have h3:y.1=X:=by simpa using List.find?_some hf
     exact⟨.inr ⟨hne,o,by rw[h1],by rw[←h3];exact h2⟩,.rfl,rfl,rfl,rfl,rfl,gy _ _,h.sets,by show 0≤y.2+1;omega,hsh,ia _⟩
  |none=>
     have e:dY s X=(((aR s.fur s.fur.length:Nat):Int)+1,{ s with fur:=s.fur++(kX X).1,sets:=s.sets++[(X,((aR s.fur s.fur.length:Nat):Int))] }):=by unfold dY;rw[ZO h0,hf]
     have hp:(kX X).1=kP X:=by rw[JF hX (by omega)]
     rw[hp] at e;rw[e] at hsh ⊢;have hl:=Kl hX;refine⟨.inr ⟨hne,s.fur.length,by show _=((aR (s.fur++kP X) s.fur.length:Nat):Int)+1;rw[iU (Z0 _)],.new _ _⟩,⟨⟨[],by simp⟩,⟨[],by simp⟩,⟨_,rfl⟩,fun _ _=>rfl⟩,rfl,rfl,rfl,rfl,by show (s.fur++kP X).length≤_;rw[ZR];omega,fun y hy=>?_,by show (0:Int)≤((aR _ _:Nat):Int)+1;omega,hsh,by show (s.sets++_).length≤_;rw[ZR];exact Z0 _⟩;show ∃ o,y.2=((aR (s.fur++kP X) o:Nat):Int)∧At3 (s.fur++kP X) (kP y.1) o;rcases an.1 hy with hy|hy
     · obtain⟨o,h1,h2⟩:=h.sets y hy
       have:=h2.le;exact⟨o,by rw[iU (by omega)];exact h1,h2.more⟩
     · rw[ai] at hy;subst hy
       exact⟨s.fur.length,by rw[iU (Z0 _)],.new _ _⟩
theorem M4{s:BSt}(h:pJ qs ids files s){k m:Nat}{q:NdH×Nd}(hq:qs[k]?=some q)(hm:q.2.ino=(m:Int))(hml:m≤qs.length)(h0:s.refs.getD m 0=0)(hX:fB q.2.xs){i:Ino}(hk:KiI qs files s q.2 i)
 (hmay:∀ xr,0≤xr→xr≤4294967295→fI (inB qs ids k i xr).1 (inB qs ids k i xr).2)(hn:qs.length≤40) :
 pJ qs ids files (lI qs ids k i s)∧Ex s (lI qs ids k i s)∧0<(lI qs ids k i s).refs.getD m 0∧(∀ n,n≠m→(lI qs ids k i s).refs.getD n 0=s.refs.getD n 0)∧(lI qs ids k i s).lst=s.lst∧(lI qs ids k i s).many=s.many+1:=by
 have hmn:s.many≤41:=by
  have h1:=List.length_filter_le (fun r:Int=>decide (0<r)) s.refs;rw[h.many];unfold uL;rw[h.rl] at h1;omega
 obtain⟨x1,x2,x3,x4,x5,x6,x7,x8,x9,x10,x11⟩:=MQ h hX;have hnd:=bX hq;obtain⟨R,hR⟩:∃ R,R=dY s q.2.xs:=⟨_,rfl⟩
 rw[←hR] at x1 x2 x3 x4 x5 x6 x7 x8 x9 x10 x11;have hxr:R.1≤4294967295:=by
  rcases x1 with⟨_,e⟩|⟨_,o,e,ha⟩
  ·rw[e];decide
  · have h1:=ha.le
    have h2:=h.bf;have h3:=wS R.2.fur (o/128);rw[e];unfold aR;omega
 have hmy:=hmay R.1 x9 hxr;obtain⟨I,hI⟩:∃ I,I=inB qs ids k i R.1:=⟨_,rfl⟩
 rw[←hI] at hmy;have hput:(oC I.1 I.2).1=iQ I:=by unfold oC iQ;rw[ZP hmy]
 have hlen:=vE hmy;have hfix:lI qs ids (k:Int) i s = { R.2 with ino:=R.2.ino++iQ I,refs:=R.2.refs.set m ((aR R.2.ino R.2.ino.length:Nat)+1),many:=R.2.many+1 }:=by
  unfold lI;rw[hnd,←hR,hm,ak,←hI,hput]
 obtain⟨t,ht⟩:∃ t,t=lI qs ids (k:Int) i s:=⟨_,rfl⟩
 rw[←ht];have t1:t.ino=R.2.ino++iQ I:=by rw[ht,hfix]
 have t2:t.refs=R.2.refs.set m ((aR R.2.ino R.2.ino.length:Nat)+1):=by rw[ht,hfix]
 have t3:t.many=R.2.many+1:=by rw[ht,hfix]
 have t4:t.fur=R.2.fur:=by rw[ht,hfix]
 have t5:t.lst=R.2.lst:=by rw[ht,hfix]
 have t6:t.sets=R.2.sets:=by rw[ht,hfix]
 have hrl:m<R.2.refs.length:=by rw[x3,h.rl];omega
 have hgd:∀ n,t.refs.getD n 0=if n=m then ((aR s.ino s.ino.length:Nat):Int)+1 else s.refs.getD n 0:=fun n=>by rw[t2,RT hrl,x3,x5]
 have hex2:Ex R.2 t:=⟨⟨_,t1⟩,⟨[],by rw[t5];simp⟩,⟨[],by rw[t4];simp⟩,fun n hn=>by
  rw[hgd n,x3];by_cases e:n=m
  ·subst e;rw[x3,h0] at hn;exact absurd hn (by decide)
  ·rw[ZO e]⟩
 have hex:=x2.trans hex2;have hpos:0<t.refs.getD m 0:=by rw[hgd m,ZP rfl];omega
 have hmt:At3 t.ino (iQ I) s.ino.length:=by rw[t1,x5];exact .new _ _
 have hrt:aR t.ino s.ino.length=aR s.ino s.ino.length:=by rw[t1,x5];exact iU (Z0 _)
 refine⟨⟨fun n hn=>?_,by rw[t2,cm,x3];exact h.rl,fun n=>?_,fun y hy=>?_,?_,fun a b ha hab=>?_,by rw[t1,t3,x5,x4,ZR];have:=h.bi;omega,by rw[t4,t3,x4];have:=h.bf;omega,by rw[t6,t3,x4];have:=h.sn;omega,fun y hy=>x10 y (by rw[←t6];exact hy)⟩,hex,hpos,fun n hn=>by rw[hgd n,ZO hn],by rw[t5,x6],by rw[t3,x4]⟩
 · by_cases e:n=m
   · subst e
     refine⟨k,q,i,R.1,s.ino.length,hq,hm,?_,by rw[←hI];exact hmy,by rw[←hI];exact hmt,x1.ex hex2,hk.ex hex⟩;rw[hgd n,ZP rfl,hrt]
   · have hn':0<s.refs.getD n 0:=by rw[hgd n,ZO e] at hn;exact hn
     exact(h.std n hn').ex hn' hex
 · rw[hgd n]
   split
   ·omega
   ·exact h.rn n
 · rw[t6] at hy
   rw[t4];exact x8 y hy
 · rw[t3,x4,h.many]
   unfold uL;rw[t2,Hb hrl (by rw[x3,h0];exact fx _) (by omega),x3]
 · have old:∀ c,c≠m→0<s.refs.getD c 0→s.refs.getD c 0<((aR s.ino s.ino.length:Nat):Int)+1:=fun c hc hp=>by
    obtain⟨_,_,_,_,o,_,_,e,hmy2,ha,_⟩:=h.std c hp;have h1:=ha.le;have h2:=vE hmy2;have h3:=Oo s.ino (show o<s.ino.length by omega);rw[e];omega
   rw[hgd a] at ha hab;rw[hgd b] at hab;by_cases ea:a=m
   · by_cases eb:b=m
     ·rw[ea,eb]
     · rw[ZP ea,ZO eb] at hab
       have:=old b eb (by omega);omega
   · rw[ZO ea] at ha hab
     by_cases eb:b=m
     · rw[ZP eb] at hab
       have:=old a ea ha;omega
     · rw[ZO eb] at hab
       exact h.dist a b ha hab
end
end
section
open Go Go.RowKit Go.Maps
theorem wL{α:Type}[DecidableEq α]:∀ (l m:List α),l.Nodup→(∀ x∈l,x∈m)→l.length≤m.length
|[],_,_,_=>ZZ _
|x::r,m,hn,h=>by
   have hx:=h x (by simp);have h1:=ie.1 hn;have h2:=wL r (m.erase x) h1.2 (fun y hy=>(List.mem_erase_of_ne (fun e=>h1.1 (by rw[←e];exact hy))).2 (h y (by simp[hy])));rw[List.length_erase_of_mem hx] at h2;have:=List.length_pos_of_mem hx;rw[al];omega
theorem yQ{qs:List (NdH×Nd)}{ids:List Int}(h:Bx qs ids):ids.length≤2*qs.length:=by
 have:=wL ids (sD qs) (h.1.imp (fun h=>by omega)) (fun x hx=>(h.2 x).1 hx);rw[uM] at this;exact this
theorem yK{ids:List Int}{z:Int}(h:z∈ids):0≤pV ids z∧pV ids z<ids.length∧ids.getD (pV ids z).toNat 0=z:=by
 unfold pV;cases hf:ids.findIdx? (fun x=>decide (x=z)) with
|none=>
   rw[dk] at hf;have:=hf z h;simp at this
|some i=>
   rw[cw] at hf;obtain⟨hi,h1,_⟩:=hf;have h1:ids[i]=z:=by simpa using h1
   refine⟨fy _,by show (i:Int)<_;omega,?_⟩;show ids.getD ((i:Int)).toNat 0=z;rw[ak,Z2,ZQ hi];exact h1
theorem Df{qs:List (NdH×Nd)}{q:NdH×Nd}(h:q∈qs):q.2.ud∈sD qs∧q.2.gd∈sD qs:=by
 obtain⟨i,hi⟩:=ab h;have hl:=(ZS.1 hi).1;have hz:=uM qs;have g:∀ j,j<2*qs.length→(sD qs).getD j 0∈sD qs:=fun j hj=>by
  rw[Z2,ZQ (by omega)];exact bm _
 obtain⟨k0,k1⟩:=Dg qs i q hi;refine⟨?_,?_⟩
 · have:=g (2*i) (by omega)
   rw[k0] at this;exact this
 · have:=g (2*i+1) (by omega)
   rw[k1] at this;exact this
theorem Pr{qs:List (NdH×Nd)}{q:NdH×Nd}(h:q∈qs):1≤kU qs q.2.ino:=by
 unfold kU;have:0<qs.countP (fun p=>decide (p.2.ino=q.2.ino)):=List.countP_pos_iff.2 ⟨q,h,by simp⟩;omega
section
variable {qs:List (NdH×Nd)}{ids:List Int}{fs:FSt}(G:GdT qs)(I:Bx qs ids)(F:FI (nds qs) (qs.length+1) fs)
include G
theorem GdT.one{k:Nat}{q:NdH×Nd}(hq:qs[k]?=some q)(hk:q.2.kind=1):kU qs q.2.ino=1:=by
 have hz:∀ L:List (NdH×Nd),(∀ p∈L,p.2.ino≠q.2.ino)→L.countP (fun p=>decide (p.2.ino=q.2.ino))=0:=fun L h=>List.countP_eq_zero.2 (fun p hp=>by simpa using h p hp);have e:qs=qs.take k++q::qs.drop (k+1):=by rw[←(ZS.1 hq).2,List.getElem_cons_drop,ay]
 unfold kU;have h1:(qs.take k).countP (fun p=>decide (p.2.ino=q.2.ino))=0:=hz _ (fun p hp he=>by
  obtain⟨j,hj⟩:=ab hp;rw[ar] at hj
  split at hj
  · rename_i hlt
    exact(G.lnk k j q p (by omega) hq hj he.symm).1 hk
  ·cases hj)
 have h2:(qs.drop (k+1)).countP (fun p=>decide (p.2.ino=q.2.ino))=0:=hz _ (fun p hp he=>by
  obtain⟨j,hj⟩:=ab hp;rw[List.getElem?_drop] at hj;exact(G.lnk k (k+1+j) q p (by omega) hq hj he.symm).1 hk)
 have h3:qs.countP (fun p=>decide (p.2.ino=q.2.ino))=(qs.take k).countP (fun p=>decide (p.2.ino=q.2.ino))+(1+(qs.drop (k+1)).countP (fun p=>decide (p.2.ino=q.2.ino))):=by
  conv=>lhs;rw[e]
  rw[List.countP_append,List.countP_cons_of_pos (by simp)];omega
 rw[h3,h1,h2];rfl
theorem GdT.same{q x:NdH×Nd}(hq:q∈qs)(hx:x∈qs)(e:x.2.ino=q.2.ino):Alk x.2 q.2:=by
 obtain⟨i,hi⟩:=ab hx;obtain⟨j,hj⟩:=ab hq;by_cases h:i=j
 ·subst h;rw[hi] at hj;cases hj;exact ZI _
 ·exact(G.lnk i j x q h hi hj e).2
include F in
theorem IE {q:NdH×Nd} (hq:q∈qs) (hk:q.2.kind=2):FOk fs.ds.B fs.tails q.2.data (fs.files.getD q.2.ino.toNat kO):=by
 have hi:=G.ino q hq;have hl:=F.l;obtain⟨f,hf⟩:∃ f,fs.files[q.2.ino.toNat]?=some f:=⟨_,ZQ (by omega)⟩
 have hd:fs.files.getD q.2.ino.toNat kO=f:=by rw[Z2,hf];rfl
 have ha:=F.a q.2 (av.2 ⟨q,hq,rfl⟩) hk;rw[hd] at ha ⊢;rcases F.f _ f hf with e|⟨x,hx,h1,h2,h3⟩
 ·rw[e] at ha;exact absurd (show (0:Int)=2 from ha) (by decide)
 · obtain⟨p,hp,rfl⟩:=av.1 hx
   have:=G.ino p hp;have e:=G.same hq hp (by omega);rw[←e.2.2.2.2.1];exact h3
omit G in
theorem IQ {B:By} {L:List By} {d:By} {f:Ino} (h:FOk B L d f) (hL:F3 L):∃ st fr off:Nat,f=(fun j=>[2,0,0,0,0,0,(st:Int),(d.length:Int),(fr:Int),(off:Int)].getD j 0,[])∧st≤64+B.length∧fr≤L.length∧(0<fr↔0<d.length%128)∧off<128∧(0<fr∨off=0)∧Ga B d st∧TlS L (fQ d) fr off:=by
 obtain⟨st,fr,off,h1,h2,h3⟩:=h;have ht:(fQ d).length=d.length%128:=by unfold fQ;rw[ZX];omega
 have hs:st≤64+B.length:=by
  rcases h2 with⟨_,e⟩|⟨_,pre,rest,e1,e2⟩
  ·omega
  ·rw[e1,e2,ZR];omega
 refine⟨st,fr,off,h1,hs,?_⟩;have h3':=h3;rcases h3 with⟨e1,e2,e3⟩|⟨e0,n,a,z,e1,e2,e3,e4⟩
 · rw[e1] at ht
   have ht:0=d.length%128:=ht;exact⟨by omega,by omega,by omega,.inr e3,h2,h3'⟩
 · have hb:=hL (L.getD n []) (by rw[Z2,ZQ e1];exact bm _)
   rw[e4,ZR,ZR] at hb;exact⟨by omega,by omega,by omega,.inl (by omega),h2,h3'⟩
include I F in
theorem Dm {k:Nat} {q:NdH×Nd} (hq:qs[k]?=some q) {i:Ino} {xr:Int} (hx:0≤xr∧xr≤4294967295)
 (h2:q.2.kind=2→i=fs.files.getD q.2.ino.toNat kO) (h3:q.2.kind=3→i=(zF,q.2.tgt)) (h1:q.2.kind=1→∃ a n:Nat,i=(fun j=>if j=6 then (a:Int) else if j=7 then (n:Int) else 0,[])∧a≤4294967295∧n≤1048576) :
 fI (inB qs ids k i xr).1 (inB qs ids k i xr).2:=by
 have hm:=ZW hq;have hkl:=(ZS.1 hq).1;obtain⟨⟨k1,k3⟩,_,m1,m2,m3,m4,m5,m6,_⟩:=G.may q hm;have hn:=G.n;have hil:=yQ I;obtain⟨o1,o2⟩:=Df hm;obtain⟨u1,u2,_⟩:=yK ((I.2 _).2 o1);obtain⟨g1,g2,_⟩:=yK ((I.2 _).2 o2);have hl:Av qs (k:Int)=kU qs q.2.ino:=H9 ⟨by omega,by omega⟩ (by rw[ak];exact hq);have hc:=Nn qs q.2.ino;have hc1:=Pr hm;have hnd:=bX hq;have f0:(inB qs ids k i xr).1 0=q.2.kind:=by unfold inB;rw[hnd];rfl
 have f1:(inB qs ids k i xr).1 1=q.2.md:=by unfold inB;rw[hnd];rfl
 have f2:(inB qs ids k i xr).1 2=pV ids q.2.ud:=by unfold inB;rw[hnd];rfl
 have f3:(inB qs ids k i xr).1 3=pV ids q.2.gd:=by unfold inB;rw[hnd];rfl
 have f4:(inB qs ids k i xr).1 4=kU qs q.2.ino:=by rw[←hl];rfl
 have f5:(inB qs ids k i xr).1 5=xr:=rfl;have f6:(inB qs ids k i xr).1 6=i.1 6:=rfl;have f7:(inB qs ids k i xr).1 7=i.1 7:=rfl;have f8:(inB qs ids k i xr).1 8=i.1 8:=rfl;have f9:(inB qs ids k i xr).1 9=i.1 9:=rfl;have ft:(inB qs ids k i xr).2=i.2:=rfl;unfold fI bG;rw[f0,f1,f2,f3,f4,f5,f6,f7,f8,f9,ft];by_cases c2:q.2.kind=2
 · have hf:=IE G F hm c2
   rw[←h2 c2] at hf;obtain⟨st,fr,off,rfl,a1,a2,a3,a4,a5,_,_⟩:=IQ hf F.t;have hB:=F.b;have hT:=F.tn;rw[aa] at hB hT;refine⟨⟨by omega,by omega,by omega,by omega,by omega,by omega,by omega,by omega,by omega,by omega,.inl ⟨c2,?_⟩⟩,fun h=>by omega⟩;show 0≤((q.2.data.length:Nat):Int)∧((q.2.data.length:Nat):Int)≤4096∧0≤((fr:Nat):Int)∧((fr:Nat):Int)≤1024∧(0<((fr:Nat):Int)↔0<((q.2.data.length:Nat):Int)%128)∧0≤((st:Nat):Int)∧((st:Nat):Int)≤4294967295∧0≤((off:Nat):Int)∧((off:Nat):Int)<128∧(0<((fr:Nat):Int)∨((off:Nat):Int)=0)∧([]:By).length=0;refine⟨by omega,by omega,by omega,by omega,by omega,by omega,by omega,by omega,by omega,by omega,rfl⟩
 · by_cases c3:q.2.kind=3
   · unfold okT at m6
     rw[ZP c3] at m6;have hp:=bw.2 m6.1;rw[h3 c3];refine⟨⟨by omega,by omega,by omega,by omega,by omega,by omega,by omega,by omega,by omega,by omega,.inr (.inr ⟨c3,by show 1≤q.2.tgt.length;omega,m6.2.1,rfl,rfl,rfl,rfl⟩)⟩,fun _=>m6.2.2⟩
   · have c1:q.2.kind=1:=by omega
     obtain⟨a,n,rfl,ha,hn2⟩:=h1 c1;have h11:=G.one hq c1;refine⟨⟨by omega,by omega,by omega,by omega,by omega,by omega,by omega,by omega,by omega,by omega,.inr (.inl ⟨c1,?_⟩)⟩,fun h=>by omega⟩;show 0≤((a:Nat):Int)∧((a:Nat):Int)≤4294967295∧0≤((n:Nat):Int)∧((n:Nat):Int)≤1048576∧kU qs q.2.ino=1∧(0:Int)=0∧(0:Int)=0∧([]:By).length=0;exact⟨by omega,by omega,by omega,by omega,h11,rfl,rfl,rfl⟩
end
theorem pJ.many41{qs:List (NdH×Nd)}{ids:List Int}{files:List Ino}{s:BSt}(h:pJ qs ids files s)(hn:qs.length≤40):s.many≤41:=by
 have h1:=List.length_filter_le (fun r:Int=>decide (0<r)) s.refs;rw[h.many];unfold uL;rw[h.rl] at h1;omega
theorem pJ.ref_le{qs:List (NdH×Nd)}{ids:List Int}{files:List Ino}{s:BSt}(h:pJ qs ids files s)(hn:qs.length≤40){m:Nat}(hm:0<s.refs.getD m 0):s.refs.getD m 0-1≤4294967295:=by
 obtain⟨_,_,_,_,o,_,_,e,_,ha,_⟩:=h.std m hm;have h1:=ha.le;have h2:=h.bi;have h3:=h.many41 hn;have h4:=wS s.ino (o/128);rw[e];unfold aR;omega
section
variable {qs:List (NdH×Nd)}{ids:List Int}{files:List Ino}(G:GdT qs)
include G
theorem wU{s:BSt}(h:pJ qs ids files s){S:List By}:∀ (ys:List Int) (last:By),(∀ z∈ys,z∈cD qs S qs.length)→ys.Pairwise (· < ·)→Ei qs s ys→(∀ z∈ys,Z8 last (bB (ndB qs z).names)=true)→aT last (jR qs s ys)
|[],_,_,_,_,_=>trivial
|z::r,last,hk,hp,hs,hl=>by
   obtain⟨k,q,rfl,hq,hn⟩:=jO (hk z (by simp));have hnd:=bX hq;have hm:=ZW hq;obtain⟨⟨k1,k3⟩,_⟩:=G.may q hm;have hpos:=hs (k:Int) (by simp);have hrl:=h.ref_le G.n.2 hpos;have hp2:=List.pairwise_cons.1 hp;refine⟨⟨?_,hl _ (by simp),?_,?_,?_,?_⟩,?_⟩
   · show fP (bB (ndB qs k).names)=0
     rw[hnd];refine G.nmv q hm _ ?_;rw[hn];simp[bB]
   ·show 1≤(ndB qs k).kind;rw[hnd];exact k1
   ·show (ndB qs k).kind≤3;rw[hnd];exact k3
   ·show 0≤s.refs.getD _ 0-1;omega
   ·show s.refs.getD _ 0-1≤4294967295;exact hrl
   · refine wU h r _ (fun z hz=>hk z (by simp[hz])) hp2.2 (fun z hz=>hs z (by simp[hz])) (fun z hz=>?_)
     obtain⟨j,p,rfl,hj,hnj⟩:=jO (hk z (by simp[hz]));have hlt:=hp2.1 _ hz;have hless:=G.lt k j q p (by omega) hq hj;rw[bX hj];show Z8 (bB (ndB qs k).names) _=true;rw[hnd];have hkq:mP q.2.names S:=oI.2 ⟨by rw[hn];simp,by rw[hn];simp⟩;have hkp:mP p.2.names S:=oI.2 ⟨by rw[hnj];simp,by rw[hnj];simp⟩;unfold cU at hless;have h5:=of_decide_eq_true hless;rw[Do hkq hkp] at h5;exact DD.1 h5
theorem M6{s:BSt}{S:List By}:(bE (jR qs s (cD qs S qs.length))).length≤10440:=by
 have key:∀ ys:List Int,(∀ z∈ys,z∈cD qs S qs.length)→(bE (jR qs s ys)).length≤261*ys.length:=by
  intro ys
  induction ys with
 |nil=>intro _;exact Z0 _
 |cons z r ih=>
    intro h;obtain⟨k,q,rfl,hq,hn⟩:=jO (h z (by simp));have h2:=ih (fun y hy=>h y (by simp[hy]));have h3:(bB (ndB qs k).names).length≤255:=by
     rw[bX hq];refine(oV (G.nmv q (ZW hq) _ ?_)).1;rw[hn];simp[bB]
    have e:bE (jR qs s ((k:Int)::r))=nM (bB (ndB qs k).names,(ndB qs k).kind,s.refs.getD (ndB qs k).ino.toNat 0-1)++bE (jR qs s r):=rfl;rw[e,ZR,oO,al];show (bB (ndB qs k).names).length+6+_≤_;omega
 have h1:=key _ (fun z hz=>hz);have h2:=AD (ps:=qs) (s:=S) qs.length;have h3:=G.n.2;omega
end
end
section
open Go Go.RowKit Go.Maps
def BlI(s:BSt):Prop:=s.lst.length≤10440*s.many
structure GdW (qs:List (NdH×Nd))(ids:List Int)(files:List Ino)(s t:BSt)(q:Nd):Prop where
 inv:pJ qs ids files t
 bl:BlI t
 ex:Ex s t
 set:0<t.refs.getD q.ino.toNat 0
 ch:∀ m,t.refs.getD m 0≠s.refs.getD m 0→∃ x∈qs,x.2.ino=(m:Int)∧∃ r,x.2.names=q.names++r
section
variable {qs:List (NdH×Nd)}{ids:List Int}{fs:FSt}(G:GdT qs)(I:Bx qs ids)(F:FI (nds qs) (qs.length+1) fs)
include G
theorem Hu{wr:Int→BSt→BSt}{S:List By}(IH:∀ (k:Nat) (q:NdH×Nd) (s:BSt),qs[k]?=some q→q.2.names.length=S.length+1→pJ qs ids fs.files s→BlI s→GdW qs ids fs.files s (wr k s) q.2) :
 ∀ (ys:List Int) (s:BSt),(∀ z∈ys,z∈cD qs S qs.length)→pJ qs ids fs.files s→BlI s→∃ t,wrK wr qs ys s=(t,jR qs t ys)∧pJ qs ids fs.files t∧BlI t∧Ex s t∧Ei qs t ys ∧
  ∀ m,t.refs.getD m 0≠s.refs.getD m 0→∃ x∈qs,x.2.ino=(m:Int)∧∃ a r,x.2.names=S++a::r
|[],s,_,h,hb=>⟨s,rfl,h,hb,.rfl,(by intro j hj;cases hj),fun m hm=>absurd rfl hm⟩
|z::r,s,hk,h,hb=>by
   obtain⟨k,q,rfl,hq,hn⟩:=jO (hk z (by simp));have g:=IH k q s hq (by rw[hn];simp) h hb;obtain⟨t,e,i1,i2,i3,i4,i5⟩:=Hu IH r (wr k s) (fun y hy=>hk y (by simp[hy])) g.inv g.bl;have hnd:=bX hq;have hset:0<t.refs.getD q.2.ino.toNat 0:=by rw[i3.r _ g.set];exact g.set
   refine⟨t,?_,i1,i2,g.ex.trans i3,?_,fun m hm=>?_⟩
   · show ((wrK wr qs r (wr k s)).1,(bB (ndB qs k).names,(ndB qs k).kind,(wr k s).refs.getD (ndB qs k).ino.toNat 0-1)::(wrK wr qs r (wr k s)).2)=_
     rw[e];refine fm rfl ?_;show _::jR qs t r=(bB (ndB qs k).names,(ndB qs k).kind,t.refs.getD (ndB qs k).ino.toNat 0-1)::jR qs t r;rw[hnd,i3.r _ g.set]
   · intro j hj
     rcases aw.1 hj with rfl|hj
     ·rw[hnd];exact hset
     ·exact i4 j hj
   · by_cases hc:t.refs.getD m 0=(wr k s).refs.getD m 0
     · obtain⟨x,hx,h1,y,h2⟩:=g.ch m (by rw[←hc];exact hm)
       obtain⟨a,ha⟩:∃ a,a=bB q.2.names:=⟨_,rfl⟩
       rw[←ha] at hn;exact⟨x,hx,h1,a,y,by rw[h2,hn];simp⟩
     ·exact i5 m hc
include I F in
theorem Hv:∀ (n:Nat) (k:Nat) (q:NdH×Nd) (s:BSt),qs[k]?=some q→17≤q.2.names.length+n→pJ qs ids fs.files s→BlI s→GdW qs ids fs.files s (wrB qs ids fs.files n k s) q.2
|0,k,q,s,hq,hd,h,hb=>by
   have:=G.dep q (ZW hq);omega
|n+1,k,q,s,hq,hd,h,hb=>by
   have hqm:=ZW hq;have hi:=G.ino q hqm;have hn40:=G.n.2;obtain⟨m,hm⟩:=az (show 0≤q.2.ino by omega);have hmt:q.2.ino.toNat=m:=by omega
   have hX:=(G.may q hqm).2.2.2.2.2.2.2.2;obtain⟨k1,k3⟩:=(G.may q hqm).1;rw[KN n s hq hm];have one:∀ (s':BSt) (i:Ino),pJ qs ids fs.files s'→s'.lst.length≤10440*(s'.many+1)→s'.refs.getD m 0=0→Ex s s'→KiI qs fs.files s' q.2 i →
    (∀ xr,0≤xr→xr≤4294967295→fI (inB qs ids k i xr).1 (inB qs ids k i xr).2)→(∀ a,s'.refs.getD a 0≠s.refs.getD a 0→∃ x∈qs,x.2.ino=(a:Int)∧∃ r,x.2.names=q.2.names++r)→GdW qs ids fs.files s (lI qs ids k i s') q.2:=by
    intro s' i hI hl h0 he hk hmay hch;obtain⟨f1,f2,f3,f4,f5,f6⟩:=M4 hI hq hm (by omega) h0 hX hk hmay hn40;refine⟨f1,by unfold BlI;rw[f5,f6];exact hl,he.trans f2,by rw[hmt];exact f3,fun a ha=>?_⟩;by_cases e:a=m
    ·exact⟨q,hqm,by rw[e];exact hm,[],by simp⟩
    ·rw[f4 a e] at ha;exact hch a ha
   by_cases c0:0<s.refs.getD m 0
   · rw[ZP c0]
     exact⟨h,hb,.rfl,by rw[hmt];exact c0,fun a ha=>absurd rfl ha⟩
   · rw[ZO c0]
     have h0:s.refs.getD m 0=0:=by have:=h.rn m;omega
     have hbl:s.lst.length≤10440*(s.many+1):=by have:s.lst.length≤10440*s.many:=hb;omega
     have hno:∀ a,s.refs.getD a 0≠s.refs.getD a 0→∃ x∈qs,x.2.ino=(a:Int)∧∃ r,x.2.names=q.2.names++r:=fun a ha=>absurd rfl ha;by_cases c2:q.2.kind=2
     · rw[ZP c2]
       have e:fs.files.getD m kO=fs.files.getD q.2.ino.toNat kO:=by rw[hmt]
       exact one s _ h hbl h0 .rfl ⟨fun _=>e,fun h=>by omega,fun h=>by omega⟩ (fun xr a b=>Dm G I F hq ⟨a,b⟩ (fun _=>e) (fun h=>by omega) (fun h=>by omega)) hno
     · rw[ZO c2]
       by_cases c3:q.2.kind=3
       · rw[ZP c3]
         exact one s _ h hbl h0 .rfl ⟨fun h=>by omega,fun _=>rfl,fun h=>by omega⟩ (fun xr a b=>Dm G I F hq ⟨a,b⟩ (fun h=>by omega) (fun _=>rfl) (fun h=>by omega)) hno
       · rw[ZO c3,ZP (by omega)]
         have c1:q.2.kind=1:=by omega
         obtain⟨t,e,i1,i2,i3,i4,i5⟩:=Hu (S:=q.2.names) (ids:=ids) (fs:=fs) G (wr:=wrB qs ids fs.files n) (fun k' q' s' hq' hl h' hb'=>Hv n k' q' s' hq' (by omega) h' hb') (cD qs q.2.names qs.length) s (fun _ hz=>hz) h hb;rw[e];have hch:aT [] (jR qs t (cD qs q.2.names qs.length)):=wU G i1 _ _ (fun _ hz=>hz) (oJ _) i4 (fun z hz=>by
          obtain⟨k',q',rfl,hq',hn'⟩:=jO hz;rw[bX hq'];have hv:=(oV (G.nmv q' (ZW hq') (bB q'.2.names) (by rw[hn'];simp[bB]))).2.1;cases hc:bB q'.2.names with
         |nil=>exact absurd hc hv
         |cons a r=>rfl)
         have hp:=(FJ hch).1;have hlen:=M6 (s:=t) G (S:=q.2.names);simp only;rw[hp];simp only;obtain⟨B,hB⟩:∃ B,B=bE (jR qs t (cD qs q.2.names qs.length)):=⟨_,rfl⟩
         rw[←hB] at hlen ⊢;have hex:Ex t { t with lst:=t.lst++B }:=⟨⟨[],by simp⟩,⟨_,rfl⟩,⟨[],by simp⟩,fun _ _=>rfl⟩
         obtain⟨u,hu⟩:∃ u,u = { t with lst:=t.lst++B }:=⟨_,rfl⟩
         rw[←hu] at hex ⊢;have u1:u.ino=t.ino:=by rw[hu]
         have u2:u.refs=t.refs:=by rw[hu]
         have u3:u.fur=t.fur:=by rw[hu]
         have u4:u.sets=t.sets:=by rw[hu]
         have u5:u.many=t.many:=by rw[hu]
         have u6:u.lst=t.lst++B:=by rw[hu]
         have hIu:pJ qs ids fs.files u:=⟨fun a ha=>by rw[u2] at ha;exact(i1.std a ha).ex ha hex,by rw[u2];exact i1.rl,fun a=>by rw[u2];exact i1.rn a,fun y hy=>by rw[u4] at hy;rw[u3];exact i1.sets y hy,by rw[u5,i1.many];unfold uL;rw[u2],fun a b=>by rw[u2];exact i1.dist a b,by rw[u1,u5];exact i1.bi,by rw[u3,u5];exact i1.bf,by rw[u4,u5];exact i1.sn,fun y hy=>i1.sh y (by rw[←u4];exact hy)⟩
         have ht0:u.refs.getD m 0=0:=by
          rw[u2];apply ZY;intro hne;obtain⟨x,hx,hxi,a,r,hxn⟩:=i5 m (by rw[h0];exact hne);obtain⟨j,hj⟩:=ab hx;by_cases ej:k=j
          · subst ej;rw[hq] at hj;cases hj
            have:=congrArg cv hxn;simp at this
          ·exact(G.lnk k j q x ej hq hj (by omega)).1 c1
         have hd1:Ko t B=Pm u t.lst.length (bE (jR qs u (cD qs q.2.names qs.length))).length:=by
          have e1:jR qs u (cD qs q.2.names qs.length)=jR qs t (cD qs q.2.names qs.length):=DA i4 hex;rw[e1,←hB];unfold Ko Pm;rw[u6,iU (Z0 _)]
         have hki:KiI qs fs.files u q.2 (Ko t B):=⟨fun h=>by omega,fun h=>by omega,fun _=>⟨i4.ex hex,t.lst.length,hd1,by
          rw[DA i4 hex,←hB,u6];exact .new _ _⟩⟩
         have hm41:=i1.many41 hn40;have hlt:t.lst.length≤10440*t.many:=i2;refine one u _ hIu (by rw[u6,u5,ZR];omega) ht0 (i3.trans hex) hki (fun xr a b=>Dm G I F hq ⟨a,b⟩ (fun h=>by omega) (fun h=>by omega) (fun _=>⟨aR t.lst t.lst.length,B.length,rfl,?_,by omega⟩)) (fun a ha=>?_)
         · have:=wS t.lst (t.lst.length/128)
           unfold aR;omega
         · rw[u2] at ha
           obtain⟨x,hx,h1,b,r,h2⟩:=i5 a ha;exact⟨x,hx,h1,b::r,h2⟩
omit G in
theorem Vk:pJ qs ids fs.files (vO (qs.length+1))∧BlI (vO (qs.length+1)):=by
 have hz:∀ m,(vO (qs.length+1)).refs.getD m 0=0:=fun m=>by
  show (bg (qs.length+1) (0:Int)).getD m 0=0;rw[Z2,List.getElem?_replicate]
  split<;>rfl
 refine⟨⟨fun m hm=>?_,cj,fun m=>by rw[hz];exact fx _,(by intro y hy;cases hy),?_,fun m n hm=>?_,ZZ _,ZZ _,ZZ _,(by intro y hy;cases hy)⟩,ZZ _⟩
 ·rw[hz] at hm;exact absurd hm (by decide)
 · show 0=(List.filter _ (bg (qs.length+1) (0:Int))).length
   rw[List.filter_replicate];simp
 ·rw[hz] at hm;exact absurd hm (by decide)
include I F in
theorem wX:∃ S,wrB qs ids fs.files 17 0 (vO (qs.length+1))=S∧pJ qs ids fs.files S∧BlI S∧∀ q∈qs,0<S.refs.getD q.2.ino.toNat 0:=by
 obtain⟨r,hr,hr1,hr2⟩:=G.root;obtain⟨a,b⟩:=Vk (qs:=qs) (ids:=ids) (fs:=fs);have g:=Hv G I F 17 0 r (vO (qs.length+1)) hr (by omega) a b;refine⟨_,rfl,g.inv,g.bl,?_⟩;obtain⟨S,hS⟩:∃ S,S=wrB qs ids fs.files 17 (0:Nat) (vO (qs.length+1)):=⟨_,rfl⟩
 rw[←hS] at g;show ∀ q∈qs,0<(wrB qs ids fs.files 17 ((0:Nat):Int) (vO (qs.length+1))).refs.getD q.2.ino.toNat 0;rw[←hS];have key:∀ (d:Nat) (q:NdH×Nd),q∈qs→q.2.names.length=d→0<S.refs.getD q.2.ino.toNat 0:=by
  intro d
  induction d with
 |zero=>
    intro q hq hl;obtain⟨j,hj⟩:=ab hq;have e:=G.inj hr hj (by rw[hr1,dh.1 hl]);subst e;rw[hr] at hj;cases hj;exact g.set
 |succ d ih=>
    intro q hq hl;obtain⟨j,hj⟩:=ab hq;have hne:q.2.names≠[]:=fun e=>by rw[e] at hl;cases hl
    obtain⟨p,hp,hpn,hpk⟩:=G.up q hq hne;have hpos:=ih p hp (by rw[hpn,List.length_dropLast];omega);obtain⟨k',q',i,xr,o,h1,h2,h3,h4,h5,h6,h7⟩:=g.inv.std _ hpos;obtain⟨jp,hjp⟩:=ab hp;have hpi:=G.ino p hp;have e:k'=jp:=ZY fun hne=>(G.lnk jp k' p q' (fun h=>hne h.symm) hjp h1 (by omega)).1 hpk;subst e;rw[h1] at hjp;cases hjp;have hk:=(h7.2.2 hpk).1 (j:Int) (Mx hj hne hpn.symm);rw[bX hj] at hk;exact hk
 exact fun q hq=>key _ q hq rfl
end
end
section
open Go Go.RowKit Go.Maps
structure ImB (qs:List (NdH×Nd))(ids:List Int) where
 G:GdT qs
 I:Bx qs ids
 sz:64+((gJ (aI qs ids) ids).length:Int)≤1048576
section
variable {qs:List (NdH×Nd)}{ids:List Int}(M:ImB qs ids)
def stB(qs:List (NdH×Nd))(ids:List Int):BSt:=(aI qs ids).s
def plB(qs:List (NdH×Nd))(ids:List Int):List Int:=(aI qs ids).pl
def imB(qs:List (NdH×Nd))(ids:List Int):By:=suB (cG qs ids (aI qs ids))++gJ (aI qs ids) ids
include M
theorem ImB.fi:FI (nds qs) (qs.length+1) (cB qs):=Dz (fun q hq=>⟨M.G.ino q hq,(M.G.may q hq).2.2.2.2.2.2.1⟩)
theorem ImB.st:pJ qs ids (cB qs).files (stB qs ids)∧(∀ q∈qs,0<(stB qs ids).refs.getD q.2.ino.toNat 0):=by
 obtain⟨S,e,h1,_,h2⟩:=wX M.G M.I M.fi;have e2:stB qs ids=S:=e;rw[e2];exact⟨h1,h2⟩
theorem ImB.pln:(plB qs ids).length=(cB qs).tails.length∧(plB qs ids).length≤40:=by
 have h:=nR (cB qs).tails (cB qs).ds;have h2:=M.fi.tn;have h3:=M.G.n.2;rw[aa] at h2;have e:(plB qs ids).length=(cB qs).tails.length:=h;exact⟨e,by omega⟩
theorem ImB.ids0:1≤ids.length∧ids.length≤80:=by
 obtain⟨r,hr,_⟩:=M.G.root;have h:=(M.I.2 _).2 (Df (ZW hr)).1;have h2:=List.length_pos_of_mem h;have h3:=yQ M.I;have h4:=M.G.n.2;omega
theorem ImB.many:1≤(stB qs ids).many∧(stB qs ids).many≤41:=by
 obtain⟨h,h2⟩:=M.st;refine⟨?_,h.many41 M.G.n.2⟩;obtain⟨r,hr,_⟩:=M.G.root;have h3:=h2 r (ZW hr);have h4:=M.G.ino r (ZW hr);rw[h.many];have hm:(stB qs ids).refs.getD r.2.ino.toNat 0∈uL (stB qs ids):=by
  unfold uL;rw[mem_filter];have hl:r.2.ino.toNat<(stB qs ids).refs.length:=by rw[h.rl];omega
  exact⟨by rw[Z2,ZQ hl];exact bm _,by simpa using h3⟩
 exact List.length_pos_of_mem hm
theorem ImB.may:gD (cG qs ids (aI qs ids)):=by
 obtain⟨a1,a2⟩:=M.many;obtain⟨b1,b2⟩:=M.ids0;obtain⟨c1,c2⟩:=M.pln;obtain⟨h,h2⟩:=M.st;obtain⟨r,hr,_⟩:=M.G.root;have h3:=h2 r (ZW hr);have h4:=h.ref_le M.G.n.2 h3;have hs:=M.sz;have nd:=bX hr;have l2:(jW (aI qs ids)).length=(mY (aI qs ids)).length+(dnW (aI qs ids).s.ino).length:=ZR;have l3:(jM (aI qs ids)).length=(jW (aI qs ids)).length+(dnW (aI qs ids).s.lst).length:=ZR;have l4:(iX (aI qs ids)).length=(jM (aI qs ids)).length+(dnW (aL (aI qs ids).pl 4).1).length:=ZR;have l5:(iH (aI qs ids) ids).length=(iX (aI qs ids)).length+(dnW (aL ids 2).1).length:=ZR;have l6:(gJ (aI qs ids) ids).length=(iH (aI qs ids) ids).length+(dnW (aI qs ids).s.fur).length:=ZR;refine⟨⟨?_,?_,?_,?_,?_,?_,?_⟩,?_,?_,?_,?_,?_,?_,?_,?_⟩
 ·show (64:Int)≤64+((mY (aI qs ids)).length:Int);omega
 ·show 64+((mY (aI qs ids)).length:Int)≤64+((jW (aI qs ids)).length:Int);omega
 ·show 64+((jW (aI qs ids)).length:Int)≤64+((jM (aI qs ids)).length:Int);omega
 ·show 64+((jM (aI qs ids)).length:Int)≤64+((iX (aI qs ids)).length:Int);omega
 ·show 64+((iX (aI qs ids)).length:Int)≤64+((iH (aI qs ids) ids).length:Int);omega
 ·show 64+((iH (aI qs ids) ids).length:Int)≤64+((gJ (aI qs ids) ids).length:Int);omega
 ·exact hs
 ·show 1≤((stB qs ids).many:Int);omega
 ·show ((stB qs ids).many:Int)≤1024;omega
 ·show 1≤(ids.length:Int);omega
 ·show (ids.length:Int)≤2048;omega
 ·show 0≤((plB qs ids).length:Int);omega
 ·show ((plB qs ids).length:Int)≤1024;omega
 · show 0≤(stB qs ids).refs.getD (ndB qs ((0:Nat):Int)).ino.toNat 0-1
   rw[nd];omega
 · show (stB qs ids).refs.getD (ndB qs ((0:Nat):Int)).ino.toNat 0-1≤4294967295
   rw[nd];exact h4
theorem ImB.img:uX qs ids=(imB qs ids,0):=by
 unfold uX;rw[ZO (by have:=M.sz;omega)];have:(jL (cG qs ids (aI qs ids))).1=suB (cG qs ids (aI qs ids)):=by unfold jL;rw[ZP M.may]
 rw[this];rfl
theorem ImB.sup:aJ (imB qs ids)=(cG qs ids (aI qs ids),0):=by
 refine D5 M.may (fun o ho=>?_) _ rfl;show Z2 [_,_,_,_,_,_,_,_,_,_] o (0:Int)=0;rw[Z2,bq (by simp only[al,Z7];omega)];rfl
omit M in
theorem zZ {im:By} {fr to:Int} (pre X post:By) (h:im=pre++(X++post)) (hf:fr=pre.length) (ht:to=(pre.length:Int)+X.length):aD im fr to=aD X 0 X.length∧dX im fr to=dX X 0 X.length:=by
 subst h hf ht;exact⟨Jq pre X post,by rw[H8,Fg]⟩
omit M in
theorem sG (F:Nat→Int) (Z:By):(64:Int)+(Z.length:Int)=((suB F++Z).length:Nat):=by rw[ZR,mS];omega
theorem ImB.r1:aD (imB qs ids) ((cG qs ids (aI qs ids)) 2) ((cG qs ids (aI qs ids)) 3)=aD (dnW (stB qs ids).ino) 0 (dnW (stB qs ids).ino).length:=by
 obtain⟨F,hF⟩:∃ F,F=cG qs ids (aI qs ids):=⟨_,rfl⟩
 refine(zZ (suB F++mY (aI qs ids)) (dnW (stB qs ids).ino) (dnW (aI qs ids).s.lst++(dnW (aL (aI qs ids).pl 4).1++(dnW (aL ids 2).1++dnW (aI qs ids).s.fur))) ?_ ?_ ?_).1
 ·unfold imB gJ iH iX jM jW;rw[←hF];simp only[Z6];rfl
 ·rw[←sG];rfl
 · rw[←sG]
   show 64+((mY (aI qs ids)++dnW (stB qs ids).ino).length:Int)=_;rw[ZR];omega
theorem ImB.r2:aD (imB qs ids) ((cG qs ids (aI qs ids)) 3) ((cG qs ids (aI qs ids)) 4)=aD (dnW (stB qs ids).lst) 0 (dnW (stB qs ids).lst).length:=by
 obtain⟨F,hF⟩:∃ F,F=cG qs ids (aI qs ids):=⟨_,rfl⟩
 refine(zZ (suB F++jW (aI qs ids)) (dnW (stB qs ids).lst) (dnW (aL (aI qs ids).pl 4).1++(dnW (aL ids 2).1++dnW (aI qs ids).s.fur)) ?_ ?_ ?_).1
 ·unfold imB gJ iH iX jM;rw[←hF];simp only[Z6];rfl
 ·rw[←sG];rfl
 · rw[←sG]
   show 64+((jW (aI qs ids)++dnW (stB qs ids).lst).length:Int)=_;rw[ZR];omega
theorem ImB.r5:aD (imB qs ids) ((cG qs ids (aI qs ids)) 6) ((cG qs ids (aI qs ids)) 0)=aD (dnW (stB qs ids).fur) 0 (dnW (stB qs ids).fur).length:=by
 obtain⟨F,hF⟩:∃ F,F=cG qs ids (aI qs ids):=⟨_,rfl⟩
 refine(zZ (suB F++iH (aI qs ids) ids) (dnW (stB qs ids).fur) [] ?_ ?_ ?_).1
 ·unfold imB gJ;rw[←hF];simp only[Z6,bp];rfl
 ·rw[←sG];rfl
 · rw[←sG]
   show 64+((iH (aI qs ids) ids++dnW (stB qs ids).fur).length:Int)=_;rw[ZR];omega
theorem ImB.pl_in:inW 4 (plB qs ids):=by
 intro x hx;obtain⟨j,hj,rfl⟩:=cf hx;have hl:=M.pln.1;obtain⟨pre,rest,h1,h2⟩:=yG (cB qs).tails (cB qs).ds j (by omega);have e:(plB qs ids)[j]=(gC (cB qs).tails (cB qs).ds).2.getD j 0:=by
  have e2:plB qs ids=(gC (cB qs).tails (cB qs).ds).2:=rfl;rw[Z2,←e2,ZQ hj];rfl
 rw[e,h2];have h3:=M.sz;have h4:=congrArg cv h1;rw[ZR] at h4;have l6:(gJ (aI qs ids) ids).length=(gC (cB qs).tails (cB qs).ds).1.B.length+(dnW (aI qs ids).s.ino++(dnW (aI qs ids).s.lst++(dnW (aL (aI qs ids).pl 4).1++(dnW (aL ids 2).1++dnW (aI qs ids).s.fur)))).length:=by
  rw[←ZR];unfold gJ iH iX jM jW;simp only[Z6];rfl
 refine⟨by omega,?_⟩;show (64:Int)+pre.length<4294967296;omega
theorem ImB.pl:tnS (imB qs ids) ((cG qs ids (aI qs ids)) 4) ((cG qs ids (aI qs ids)) 5) ((cG qs ids (aI qs ids)) 8) 4=(plB qs ids,0):=by
 obtain⟨F,hF⟩:∃ F,F=cG qs ids (aI qs ids):=⟨_,rfl⟩
 have he:(aL (plB qs ids) 4).1=enW 4 (plB qs ids):=by
  have h:=qQ (w:=4) (.inr rfl) M.pl_in;have h:aL (plB qs ids) 4=(enW 4 (plB qs ids),0):=h;rw[h]
 obtain⟨a,b⟩:=zZ (im:=imB qs ids) (fr:=(cG qs ids (aI qs ids)) 4) (to:=(cG qs ids (aI qs ids)) 5) (suB F++jM (aI qs ids)) (dnW (enW 4 (plB qs ids))) (dnW (aL ids 2).1++dnW (aI qs ids).s.fur) (by
  rw[←he];unfold imB gJ iH iX;rw[←hF];simp only[Z6];rfl) (by rw[←sG];rfl) (by
  rw[←sG,←he];show 64+((jM (aI qs ids)++dnW (aL (plB qs ids) 4).1).length:Int)=_;rw[ZR];omega)
 rw[BD a b];exact Hz (w:=4) (.inr rfl) M.pl_in
theorem ImB.ids_in:inW 2 ids:=by
 intro x hx;have h:=(M.I.2 x).1 hx;unfold sD at h;obtain⟨q,hq,h1⟩:=dz.1 h;obtain⟨_,_,_,m2,m3,_⟩:=M.G.may q hq;simp only[aw,bv,or_false] at h1;refine⟨by rcases h1 with rfl|rfl<;>omega,?_⟩;show x<65536;rcases h1 with rfl|rfl<;>omega
theorem ImB.id:tnS (imB qs ids) ((cG qs ids (aI qs ids)) 5) ((cG qs ids (aI qs ids)) 6) ((cG qs ids (aI qs ids)) 7) 2=(ids,0):=by
 obtain⟨F,hF⟩:∃ F,F=cG qs ids (aI qs ids):=⟨_,rfl⟩
 have he:(aL ids 2).1=enW 2 ids:=by
  have h:=qQ (w:=2) (.inl rfl) M.ids_in;have h:aL ids 2=(enW 2 ids,0):=h;rw[h]
 obtain⟨a,b⟩:=zZ (im:=imB qs ids) (fr:=(cG qs ids (aI qs ids)) 5) (to:=(cG qs ids (aI qs ids)) 6) (suB F++iX (aI qs ids)) (dnW (enW 2 ids)) (dnW (aI qs ids).s.fur) (by
  rw[←he];unfold imB gJ iH;rw[←hF];simp only[Z6]) (by rw[←sG];rfl) (by
  rw[←sG,←he];show 64+((iX (aI qs ids)++dnW (aL ids 2).1).length:Int)=_;rw[ZR];omega)
 rw[BD a b];exact Hz (w:=2) (.inl rfl) M.ids_in
theorem ImB.blk:∃ rest,imB qs ids=suB (cG qs ids (aI qs ids))++((gC (cB qs).tails (cB qs).ds).1.B++rest)∧(cG qs ids (aI qs ids)) 2=64+((gC (cB qs).tails (cB qs).ds).1.B.length:Int):=by
 refine⟨dnW (aI qs ids).s.ino++(dnW (aI qs ids).s.lst++(dnW (aL (aI qs ids).pl 4).1++(dnW (aL ids 2).1++dnW (aI qs ids).s.fur))),?_,rfl⟩;unfold imB gJ iH iX jM jW;simp only[Z6];rfl
end
theorem Ki{sup rest im:By}(hs:sup.length=64){L:List By}(hL:F3 L){ds:DS}(him:im=sup++((gC L ds).1.B++rest)){d:By}{st fr off:Nat}(hd:d.length≤4096)(h1:Ga ds.B d st)(h2:TlS L (fQ d) fr off){e:Int}(he:64+((gC L ds).1.B.length:Int)≤e){g:Img}(hg:g.im=im)(hp:g.places=(gC L ds).2){x:Rec}(x6:x.ino.1 6=st)(x7:x.ino.1 7=d.length)(x8:x.ino.1 8=fr)(x9:x.ino.1 9=off) :
 Bm g x 0 d.length=(d,0)∧(128≤d.length→(pM im st d.length e).2=0∧64≤st):=by
 obtain⟨z,hz,_⟩:=rN L ds
 have hrd:gX im st d.length 0 d.length=(d.take (d.length/128*128),0)∧(128≤d.length→(pM im st d.length e).2=0∧64≤st):=by
  rcases h1 with⟨a,b⟩|⟨a,pre,r2,b,c⟩
  · have h128:d.length/128=0:=by
     have h3:=(nU d (d.length/128)).2;have h3:3*(d.length/128)≤(dJ d).length:=h3;rw[a] at h3;simp at h3;omega
    exact⟨GE h128,fun h=>by omega⟩
  · have hi:im=(sup++pre)++(dJ d++(r2++(z++rest))):=by rw[him,hz,b];simp only[Z6]
    have hl:(sup++pre).length=st:=by rw[ZR,hs,c]
    have h3:=GF hi hd;rw[hl] at h3;refine⟨h3,fun h=>⟨?_,by omega⟩⟩;have h4:=congrArg cv hz;rw[b] at h4;simp only[ZR] at h4;have h5:=DO hi (e:=e) (by rw[hl];omega) (d.length/128) 0 rfl (ZZ _);rw[hl] at h5;have h6:pM im (st:Nat) (d.length:Nat) e=vR im e (d.length/128) st:=zC hd;rw[h6];have h5:vR im e (d.length/128) ((st+(gI d 0).length:Nat):Int)=_:=h5;rw[show (gI d 0).length=0 from rfl,gp] at h5;rw[h5]
 refine⟨?_,hrd.2⟩;have hw:d.length/128*128≤d.length:=Nat.div_mul_le_self _ _;unfold Bm;rw[x6,x7,x8,x9,hg,hrd.1,ZO (fun h=>h rfl)];have htl:(d.take (d.length/128*128)).length=d.length/128*128:=by rw[ZT];omega
 by_cases hc:d.length/128*128=d.length
 · rw[ZP (by show ((d.take (d.length/128*128)).length:Int)=d.length;omega)]
   show (d.take (d.length/128*128),(0:Int))=(d,0)
   rw[hc,be]
 · rw[ZO (by show ¬ ((d.take (d.length/128*128)).length:Int)=d.length;omega)]
   have e1:(if (0:Int)-(d.length:Int)/128*128<0 then (0:Int) else 0-(d.length:Int)/128*128)=0:=by split<;>omega
   rw[e1,Int.add_zero];show (if (dW im g.places fr off ((d.length:Int)-(d.take (d.length/128*128)).length)).2≠0 then _ else (d.take (d.length/128*128)++(dW im g.places fr off ((d.length:Int)-(d.take (d.length/128*128)).length)).1,(0:Int)))=(d,0)
   have ht:(fQ d).length=d.length-d.length/128*128:=by unfold fQ;rw[ZX]
   have e2:(d.length:Int)-((d.take (d.length/128*128)).length:Int)=((fQ d).length:Nat):=by omega
   rw[e2];have hf:dW im g.places fr off ((fQ d).length:Nat)=(fQ d,0):=by
    rcases h2 with⟨a,_⟩|⟨a,n,p,q,b1,b2,b3,b4⟩
    ·rw[a] at ht;simp at ht;omega
    · obtain⟨pre,r2,c1,c2⟩:=yG L ds n b1
      have hbl:=nR L ds;have hbn:=(hL (L.getD n []) (by rw[Z2,ZQ b1];exact bm _)).2;have hi:im=(sup++pre)++((dB (L.getD n [])).1++(r2++rest)):=by rw[him,c1];simp only[Z6]
      have ht2:=(vT hbn (sup++pre) (r2++rest)).1;rw[←hi] at ht2;have hal:(L.getD n []).length=p.length+((fQ d).length+q.length):=by rw[b4];simp
      unfold dW;rw[hp,ZO (by omega),b2,show (((n+1:Nat):Int)-1).toNat=n by omega,c2,show (64:Int)+pre.length=((sup++pre).length:Nat) by rw[ZR];omega,ht2];unfold fS;rw[ZO (by simp only;rintro(h|h|h|h);exact h rfl;omega;omega;omega)];simp only;rw[b4,b3,ak,ak,ct rfl,cz rfl]
   rw[hf,ZO (fun h=>h rfl)];show (d.take (d.length/128*128)++d.drop (d.length/128*128),(0:Int))=(d,0)
   rw[ay]
end
section
open Go Go.RowKit Go.Maps
def rfB(qs:List (NdH×Nd))(ids:List Int)(q:Nd):Int:=(stB qs ids).refs.getD q.ino.toNat 0-1
structure ROk (qs:List (NdH×Nd))(ids:List Int)(q:Nd)(x:Rec):Prop where
 ref:x.ref=rfB qs ids q
 kd:x.ino.1 0=q.kind
 md:x.ino.1 1=q.md
 ud:ids.getD (x.ino.1 2).toNat 0=q.ud
 gd:ids.getD (x.ino.1 3).toNat 0=q.gd
 ln:x.ino.1 4=kU qs q.ino
 tg:q.kind=3→x.ino.2=q.tgt
 ls:x.list=jR qs (stB qs ids) (cD qs q.names qs.length)
 xs:x.xs=q.xs
 fl:q.kind=2→x.ino.1 7=q.data.length∧∀ g:Img,g.im=imB qs ids→g.places=plB qs ids→Bm g x 0 q.data.length=(q.data,0)
theorem Hf{qs:List (NdH×Nd)}{ids:List Int}{files:List Ino}(G:GdT qs){s:BSt}(h:pJ qs ids files s){S:List By}(hs:Ei qs s (cD qs S qs.length)):aT [] (jR qs s (cD qs S qs.length)):=
 wU G h _ _ (fun _ hz=>hz) (oJ _) hs (fun z hz=>by
  obtain⟨k',q',rfl,hq',hn'⟩:=jO hz;rw[bX hq'];have hv:=(oV (G.nmv q' (ZW hq') (bB q'.2.names) (by rw[hn'];simp[bB]))).2.1;cases hc:bB q'.2.names with
 |nil=>exact absurd hc hv
 |cons a r=>rfl)
section
variable {qs:List (NdH×Nd)}{ids:List Int}(M:ImB qs ids)
include M
theorem ImB.rcd{q:NdH×Nd}(hq:q∈qs):∃ x,eV (imB qs ids) (cG qs ids (aI qs ids)) ids (rfB qs ids q.2) q.2.kind=some x∧ROk qs ids q.2 x:=by
 have G:=M.G;have F:=M.fi;obtain⟨hinv,hpos⟩:=M.st;have hqi:=G.ino q hq;obtain⟨k,p,i,xr,o,hk,hpi,href,hmay,hat,hxr,hki⟩:=hinv.std _ (hpos q hq);have hpm:=ZW hk;have hkl:=(ZS.1 hk).1;have hal:=G.same hq hpm (by omega);obtain⟨j,hj⟩:=ab hq;have hkids:cD qs p.2.names qs.length=cD qs q.2.names qs.length:=by
  by_cases e:k=j
  ·subst e;rw[hk] at hj;cases hj;rfl
  · have h1:=(G.lnk k j p q e hk hj (by omega)).1
    rw[G.nodir hk h1,G.nodir hj (by rw[←hal.1];exact h1)]
 obtain⟨ka,⟨kb1,kb2,kb3⟩,kc,kd,ke,kf⟩:=hal;have hmp:=G.may p hpm;obtain⟨o1,o2⟩:=Df hpm;obtain⟨u1,u2,u3⟩:=yK ((M.I.2 _).2 o1);obtain⟨g1,g2,g3⟩:=yK ((M.I.2 _).2 o2);have hl:Av qs (k:Int)=kU qs p.2.ino:=H9 ⟨by omega,by omega⟩ (by rw[ak];exact hk);have hnd:=bX hk;obtain⟨x0,hx0⟩:∃ x:Ino,x=inB qs ids k i xr:=⟨_,rfl⟩
 have f0:x0.1 0=p.2.kind:=by rw[hx0];unfold inB;rw[hnd];rfl
 have f1:x0.1 1=p.2.md:=by rw[hx0];unfold inB;rw[hnd];rfl
 have f2:x0.1 2=pV ids p.2.ud:=by rw[hx0];unfold inB;rw[hnd];rfl
 have f3:x0.1 3=pV ids p.2.gd:=by rw[hx0];unfold inB;rw[hnd];rfl
 have f4:x0.1 4=kU qs p.2.ino:=by rw[hx0,←hl];rfl
 have f5:x0.1 5=xr:=by rw[hx0];rfl
 have f6:x0.1 6=i.1 6:=by rw[hx0];rfl
 have f7:x0.1 7=i.1 7:=by rw[hx0];rfl
 have f8:x0.1 8=i.1 8:=by rw[hx0];rfl
 have f9:x0.1 9=i.1 9:=by rw[hx0];rfl
 have ft:x0.2=i.2:=by rw[hx0];rfl
 rw[←hx0] at hmay hat;obtain⟨rest,hdr⟩:=hat.drop;have hle:=hat.le;have hR:bQ (imB qs ids) (cG qs ids (aI qs ids) 2) (cG qs ids (aI qs ids) 3) (rfB qs ids q.2)=((gFn (iQ x0),gT (iQ x0)),((aR (stB qs ids).ino (o+(iQ x0).length):Nat):Int),0):=by
  rw[GZ M.r1];have e:rfB qs ids q.2=((aR (stB qs ids).ino o:Nat):Int):=by unfold rfB;rw[href];omega
  rw[e];exact Q0 hmay hdr hle
 obtain⟨hs,hst⟩:=J9 hmay;have s0:=hs 0 (by decide);have s1:=hs 1 (by decide);have s2:=hs 2 (by decide);have s3:=hs 3 (by decide);have s4:=hs 4 (by decide);have s5:=hs 5 (by decide);have s6:=hs 6 (by decide);have s7:=hs 7 (by decide);have s8:=hs 8 (by decide);have s9:=hs 9 (by decide);obtain⟨E,hE⟩:∃ E:Ino,E=(gFn (iQ x0),gT (iQ x0)):=⟨_,rfl⟩
 have E0:E.1 0=p.2.kind:=by rw[hE];exact s0.trans f0
 have E1:E.1 1=p.2.md:=by rw[hE];exact s1.trans f1
 have E2:E.1 2=pV ids p.2.ud:=by rw[hE];exact s2.trans f2
 have E3:E.1 3=pV ids p.2.gd:=by rw[hE];exact s3.trans f3
 have E4:E.1 4=kU qs p.2.ino:=by rw[hE];exact s4.trans f4
 have E5:E.1 5=xr:=by rw[hE];exact s5.trans f5
 have E6:E.1 6=i.1 6:=by rw[hE];exact s6.trans f6
 have E7:E.1 7=i.1 7:=by rw[hE];exact s7.trans f7
 have E8:E.1 8=i.1 8:=by rw[hE];exact s8.trans f8
 have E9:E.1 9=i.1 9:=by rw[hE];exact s9.trans f9
 have ET:E.2=i.2:=by rw[hE];exact hst.trans ft
 rw[←hE] at hR;have hX:cP (imB qs ids) (cG qs ids (aI qs ids)) (E.1 5)=(p.2.xs,0):=by
  rw[E5];unfold cP;rcases hxr with⟨e1,e2⟩|⟨e1,o2,e2,e3⟩
  ·rw[e2,ZO (by decide),e1]
  · obtain⟨r2,hr2⟩:=e3.drop
    rw[ZP (by omega),Gt M.r5,e2,show ((aR (stB qs ids).fur o2:Nat):Int)+1-1=((aR (stB qs ids).fur o2:Nat):Int) by omega];exact Rw hmp.2.2.2.2.2.2.2.2 (bw.2 e1) hr2
 have hF8:(cG qs ids (aI qs ids)) 8=((plB qs ids).length:Int):=rfl;have hpl:=M.pln;have hbad:i.1 8≤(plB qs ids).length→¬ kR (cG qs ids (aI qs ids)) ids (E,((aR (stB qs ids).ino (o+(iQ x0).length):Nat):Int),0) q.2.kind:=fun h8=>by
  unfold kR;show ¬ ((0:Int)≠0∨E.1 0≠q.2.kind∨(ids.length:Int)≤E.1 2∨(ids.length:Int)≤E.1 3∨cG qs ids (aI qs ids) 8<E.1 8);rw[E0,E2,E3,E8,hF8];rintro(h|h|h|h|h)
  ·exact h rfl
  ·exact h ka
  ·omega
  ·omega
  ·omega
 have hcnt:kU qs p.2.ino=kU qs q.2.ino:=by rw[show p.2.ino=q.2.ino by omega]
 have fin:∀ L:List Ent,L=jR qs (stB qs ids) (cD qs q.2.names qs.length)→(q.2.kind=3→E.2=q.2.tgt)→(q.2.kind=2→E.1 7=q.2.data.length∧∀ g:Img,g.im=imB qs ids→g.places=plB qs ids→Bm g ⟨rfB qs ids q.2,E,L,p.2.xs⟩ 0 q.2.data.length=(q.2.data,0))→ROk qs ids q.2 ⟨rfB qs ids q.2,E,L,p.2.xs⟩:=fun L hL h3 h2=>
  ⟨rfl,E0.trans ka,E1.trans kb1,by show ids.getD (E.1 2).toNat 0=q.2.ud;rw[E2,u3,kb2],by show ids.getD (E.1 3).toNat 0=q.2.gd;rw[E3,g3,kb3],by show E.1 4=_;rw[E4,hcnt],h3,hL,kf,h2⟩
 obtain⟨⟨k1,k3⟩,_⟩:=G.may q hq;by_cases c2:q.2.kind=2
 · have hi:=hki.1 (ka.trans c2)
   have hf:=IE G F hpm (ka.trans c2);rw[←hi] at hf;obtain⟨st,fr,off,rfl,a1,a2,a3,a4,a5,a6,a7⟩:=IQ hf F.t;obtain⟨rst,hb1,hb2⟩:=M.blk;have hd:p.2.data.length≤4096:=hmp.2.2.2.2.2.2.1;have hb:=hbad (by show ((fr:Nat):Int)≤_;omega);have key:∀ (g:Img) (L:List Ent) (X:List Xa),g.im=imB qs ids→g.places=plB qs ids→Bm g ⟨rfB qs ids q.2,E,L,X⟩ 0 p.2.data.length=(p.2.data,0)∧(128≤p.2.data.length→(pM (imB qs ids) st p.2.data.length (cG qs ids (aI qs ids) 2)).2=0∧64≤st):=fun g L X hg hp=>
    Ki (mS _) F.t hb1 hd a6 a7 (by rw[hb2];exact fx _) hg hp (by show E.1 6=_;rw[E6];rfl) (by show E.1 7=_;rw[E7];rfl) (by show E.1 8=_;rw[E8];rfl) (by show E.1 9=_;rw[E9];rfl)
   have h7:E.1 7=((p.2.data.length:Nat):Int):=by rw[E7];rfl
   have h6:E.1 6=((st:Nat):Int):=by rw[E6];rfl
   have hnb:¬ yB (imB qs ids) (cG qs ids (aI qs ids)) E.1:=by
    unfold yB;rw[h7,h6];rintro⟨h,h2⟩;obtain⟨w1,w2⟩:=(key ⟨imB qs ids,zF,plB qs ids,[],[]⟩ [] [] rfl rfl).2 (by omega);rcases h2 with h2|h2
    ·exact h2 w1
    ·omega
   refine⟨⟨rfB qs ids q.2,E,[],p.2.xs⟩,?_,fin [] ?_ (fun h=>by omega) (fun _=>⟨by rw[h7,ke],fun g hg hp=>?_⟩)⟩
   · unfold eV
     rw[hR,ZO hb];show (if (cP (imB qs ids) (cG qs ids (aI qs ids)) (E.1 5)).2≠0 then _ else _)=_;rw[hX,ZO (fun h=>h rfl),ZP c2];show (if yB (imB qs ids) (cG qs ids (aI qs ids)) E.1 then none else some _)=_;rw[ZO hnb]
   ·rw[G.nodir hj (by omega)];rfl
   · have:=(key g [] p.2.xs hg hp).1
     rw[ke] at this;exact this
 · by_cases c1:q.2.kind=1
   · obtain⟨ks,o2,hi,hat2⟩:=hki.2.2 (ka.trans c1)
     have hch:=Hf G hinv ks;have hL:=(FJ hch).2;obtain⟨r2,hr2⟩:=hat2.drop;have hle2:=hat2.le;have hb:=hbad (by rw[hi];exact fy _);have h6:E.1 6=((aR (stB qs ids).lst o2:Nat):Int):=by rw[E6,hi];rfl
     have h7:E.1 7=(((bE (jR qs (stB qs ids) (cD qs p.2.names qs.length))).length:Nat):Int):=by rw[E7,hi];rfl
     have hlis:nK (imB qs ids) (cG qs ids (aI qs ids)) E.1=(jR qs (stB qs ids) (cD qs p.2.names qs.length),0):=by
      unfold nK;rw[M.r2,h6,h7];have h8:=EH hle2;have h8:aD (dnW (stB qs ids).lst) 0 (dnW (stB qs ids).lst).length ((aR (stB qs ids).lst o2:Nat):Int) (((bE (jR qs (stB qs ids) (cD qs p.2.names qs.length))).length:Nat):Int)=_:=h8;rw[h8,ZO (fun h=>h rfl)];show fA (((stB qs ids).lst.drop o2).take _)=_;rw[hr2,cz rfl,hL]
     refine⟨⟨rfB qs ids q.2,E,jR qs (stB qs ids) (cD qs p.2.names qs.length),p.2.xs⟩,?_,fin _ (by rw[hkids]) (fun h=>by omega) (fun h=>by omega)⟩;unfold eV;rw[hR,ZO hb];show (if (cP (imB qs ids) (cG qs ids (aI qs ids)) (E.1 5)).2≠0 then _ else _)=_;rw[hX,ZO (fun h=>h rfl),ZO c2,ZP c1];show (if (nK (imB qs ids) (cG qs ids (aI qs ids)) E.1).2≠0 then none else some _)=_;rw[hlis,ZO (fun h=>h rfl)]
   · have c3:q.2.kind=3:=by omega
     have hi:=hki.2.1 (ka.trans c3);have hb:=hbad (by rw[hi];exact fy _);refine⟨⟨rfB qs ids q.2,E,[],p.2.xs⟩,?_,fin [] ?_ (fun _=>by rw[ET,hi];exact kc) (fun h=>by omega)⟩
     · unfold eV
       rw[hR,ZO hb];show (if (cP (imB qs ids) (cG qs ids (aI qs ids)) (E.1 5)).2≠0 then _ else _)=_;rw[hX,ZO (fun h=>h rfl),ZO c2,ZO c1]
     ·rw[G.nodir hj (by omega)];rfl
end
end
section
open Go Go.RowKit Go.Maps
def kM(qs:List (NdH×Nd)):Nat→Int→List Int
|0,_=>[]
|n+1,k=>k::(cD qs (ndB qs k).names qs.length).flatMap (kM qs n)
def vld(qs:List (NdH×Nd))(V:List Int):Prop:=∀ k∈V,∃ (i:Nat) (q:NdH×Nd),k=(i:Int)∧qs[i]?=some q
def cV(qs:List (NdH×Nd))(V:List Int)(z:Int):Nat:=V.countP (fun j=>decide ((ndB qs j).ino=z))
def Rk(qs:List (NdH×Nd))(ids:List Int)(k:Int):Rec:=(eV (imB qs ids) (cG qs ids (aI qs ids)) ids (rfB qs ids (ndB qs k)) (ndB qs k).kind).getD qN
structure MI (qs:List (NdH×Nd))(ids:List Int)(V:List Int)(s:MSt):Prop where
 cnt:s.2=V.length
 nd:(s.1.map (·.1.ref)).Nodup
 mem:∀ r∈s.1,∃ k∈V,r.1=Rk qs ids k∧r.2=(cV qs V (ndB qs k).ino:Int)
 all:∀ k∈V,∃ r∈s.1,r.1.ref=rfB qs ids (ndB qs k)
section
variable {qs:List (NdH×Nd)}
theorem yW(V:List Int)(k z:Int):cV qs (V++[k]) z=cV qs V z+if (ndB qs k).ino=z then 1 else 0:=by
 unfold cV;rw[List.countP_append,List.countP_singleton];by_cases h:(ndB qs k).ino=z
 ·simp[h]
 ·simp[h]
theorem Cr{l:List (Rec×Int)}{ref:Int}(h:fL l ref=none):∀ r∈l,r.1.ref≠ref:=by
 unfold fL at h;rw[dk] at h;intro r hr e;have:=h r hr;simp[e] at this
theorem wQ{l:List (Rec×Int)}{ref:Int}{i:Nat}(h:fL l ref=some i):∃ r,l[i]?=some r∧r.1.ref=ref:=by
 unfold fL at h;rw[cw] at h;obtain⟨hi,h1,_⟩:=h;exact⟨l[i],ZQ hi,by simpa using h1⟩
theorem qS:∀ (n k:Nat) (q:NdH×Nd),qs[k]?=some q→∀ z∈kM qs n k,∃ (i:Nat) (p:NdH×Nd) (r:List By),z=(i:Int)∧qs[i]?=some p∧p.2.names=q.2.names++r
|0,k,q,hq,z,hz=>by cases hz
|n+1,k,q,hq,z,hz=>by
   have hz:z∈(k:Int)::(cD qs (ndB qs k).names qs.length).flatMap (kM qs n):=hz;rcases aw.1 hz with rfl|hz
   ·exact⟨k,q,[],rfl,hq,by simp⟩
   · obtain⟨y,hy,hz⟩:=dz.1 hz
     rw[bX hq] at hy;obtain⟨j,p,rfl,hj,hn⟩:=jO hy;obtain⟨i,x,r,h1,h2,h3⟩:=qS n j p hj z hz;obtain⟨a,ha⟩:∃ a,a=bB p.2.names:=⟨_,rfl⟩
     rw[←ha] at hn;exact⟨i,x,a::r,h1,h2,by rw[h3,hn];simp⟩
theorem qR(n:Nat){k:Nat}{q:NdH×Nd}(hq:qs[k]?=some q):vld qs (kM qs n k):=fun z hz=>by
 obtain⟨i,p,_,h1,h2,_⟩:=qS n k q hq z hz;exact⟨i,p,h1,h2⟩
variable (G:GdT qs)
include G
theorem pB:∀ (n k:Nat) (q:NdH×Nd),qs[k]?=some q→(kM qs n k).Nodup
|0,_,_,_=>List.Pairwise.nil
|n+1,k,q,hq=>by
   show ((k:Int)::(cD qs (ndB qs k).names qs.length).flatMap (kM qs n)).Nodup;rw[bX hq];refine ie.2 ⟨fun hm=>?_,?_⟩
   · obtain⟨y,hy,hz⟩:=dz.1 hm
     obtain⟨j,p,rfl,hj,hn⟩:=jO hy;obtain⟨i,x,r,h1,h2,h3⟩:=qS n j p hj _ hz;have e:i=k:=by omega
     subst e;rw[hq] at h2;cases h2;have:=congrArg cv h3;rw[hn] at this;simp at this
   · unfold List.Nodup
     rw[List.pairwise_flatMap];refine⟨fun y hy=>?_,?_⟩
     · obtain⟨j,p,rfl,hj,_⟩:=jO hy
       exact pB n j p hj
     · refine(oJ qs.length).imp_of_mem (fun {a b} ha hb hab=>?_)
       obtain⟨i,p,rfl,hi,hn⟩:=jO ha;obtain⟨j,r,rfl,hj,hm⟩:=jO hb;intro x hx y hy e;subst e;obtain⟨i1,x1,r1,a1,a2,a3⟩:=qS n i p hi x hx;obtain⟨i2,x2,r2,b1,b2,b3⟩:=qS n j r hj x hy;have e:i1=i2:=by omega
       subst e;rw[a2] at b2;cases b2;have hlen:p.2.names.length=r.2.names.length:=by rw[hn,hm];simp
       have h2:=a3.symm.trans b3;have h3:=(List.append_inj h2 hlen).1;have:=G.inj hi hj h3;omega
theorem EO:∀ (n k:Nat) (q:NdH×Nd),qs[k]?=some q→17≤q.2.names.length+n→∀ (i:Nat) (p:NdH×Nd) (r:List By),qs[i]?=some p→p.2.names=q.2.names++r→(i:Int)∈kM qs n k
|0,k,q,hq,hd,i,p,r,hp,hr=>by have:=G.dep q (ZW hq);omega
|n+1,k,q,hq,hd,i,p,r,hp,hr=>by
   show (i:Int)∈(k:Int)::(cD qs (ndB qs k).names qs.length).flatMap (kM qs n);rw[bX hq];by_cases h0:r=[]
   · subst h0
     have e:=G.inj hp hq (by rw[hr];simp);rw[e];exact List.mem_cons_self
   · refine List.mem_cons_of_mem _ (dz.2 ?_)
     have hl:p.2.names.length=q.2.names.length+r.length:=by rw[hr,ZR]
     have hr0:=bw.2 h0;obtain⟨j,y,hj,hy,_⟩:=G.above (ZW hp) (r.length-1) (q.2.names.length+1) (by omega);have hyl:y.2.names=q.2.names++r.take 1:=by
      rw[hy,hr,fq,Z4 (by omega)];congr 2;omega
     have hne:y.2.names≠[]:=fun e=>by
      have:=congrArg cv (hyl.symm.trans e);simp only[ZR,ZT,Z7] at this;omega
     have hdl:y.2.names.dropLast=q.2.names:=by
      rw[hyl];cases r with
     |nil=>exact absurd rfl h0
     |cons a b=>simp
     refine⟨(j:Int),Mx hj hne hdl,?_⟩;have hyn:y.2.names.length=q.2.names.length+1:=by rw[hyl,ZR,ZT];omega
     refine EO n j y hj (by omega) i p (r.drop 1) hp ?_;rw[hyl,hr,Z6,ay]
theorem LP{n k:Nat}{q:NdH×Nd}(hq:qs[k]?=some q):(kM qs n k).length≤qs.length:=by
 have h:=wL (kM qs n k) ((bu qs.length).map (fun(i:Nat)=>(i:Int))) (pB G n k q hq) (fun x hx=>by
  obtain⟨i,p,h1,h2⟩:=qR n hq x hx;exact av.2 ⟨i,bt.2 (ZS.1 h2).1,h1.symm⟩)
 simpa using h
omit G in
theorem EJ (n:Nat):((bu n).map (fun(i:Nat)=>(i:Int))).Nodup:=by
 unfold List.Nodup;rw[pairwise_map];exact(List.nodup_range (n:=n)).imp (fun h e=>h (by omega))
theorem B9:(kM qs 17 0).Perm ((bu qs.length).map (fun(i:Nat)=>(i:Int))):=by
 obtain⟨r,hr,hrn,_⟩:=G.root;refine(List.perm_ext_iff_of_nodup (pB G 17 0 r hr) (EJ _)).2 (fun x=>⟨fun hx=>?_,fun hx=>?_⟩)
 · obtain⟨i,p,h1,h2⟩:=qR 17 hr x hx
   exact av.2 ⟨i,bt.2 (ZS.1 h2).1,h1.symm⟩
 · obtain⟨i,hi,rfl⟩:=av.1 hx
   have hi:=bt.1 hi;exact EO G 17 0 r hr (by omega) i _ _ (ZQ hi) (by rw[hrn];simp;rfl)
omit G in
theorem Px {V U:List Int} (h:V.Perm U) (z:Int):cV qs V z=cV qs U z:=h.countP_eq _
omit G in
theorem NB (z:Int):(cV qs ((bu qs.length).map (fun(i:Nat)=>(i:Int))) z:Int)=kU qs z:=by
 unfold cV kU;congr 1;rw[List.countP_map];have e:qs=(bu qs.length).map (fun i=>qs.getD i (Dk,nd0)):=by
  apply cd;intro i;rw[ax];by_cases hi:i<qs.length
  ·rw[List.getElem?_range hi,ZQ hi];simp[Z2,hi]
  ·rw[bq (by omega),bq (by rw[List.length_range];omega)];rfl
 conv=>rhs;rw[e]
 rw[List.countP_map];congr 1
end
section
variable {qs:List (NdH×Nd)}{ids:List Int}(M:ImB qs ids)
include M
theorem ImB.rk{k:Nat}{q:NdH×Nd}(hq:qs[k]?=some q):eV (imB qs ids) (cG qs ids (aI qs ids)) ids (rfB qs ids q.2) q.2.kind=some (Rk qs ids k)∧ROk qs ids q.2 (Rk qs ids k):=by
 obtain⟨x,h1,h2⟩:=M.rcd (ZW hq);have e:Rk qs ids k=x:=by unfold Rk;rw[bX hq,h1];rfl
 rw[e];exact⟨h1,h2⟩
theorem ImB.rf_ino{p q:NdH×Nd}(hp:p∈qs)(hq:q∈qs):rfB qs ids p.2=rfB qs ids q.2↔p.2.ino=q.2.ino:=by
 obtain⟨h,hpos⟩:=M.st;have h1:=hpos p hp;have i1:=M.G.ino p hp;have i2:=M.G.ino q hq;unfold rfB;constructor
 · intro e
   have:=h.dist p.2.ino.toNat q.2.ino.toNat h1 (by omega);omega
 ·intro e;rw[e]
theorem ImB.rk_same{j k:Nat}{p q:NdH×Nd}(hp:qs[j]?=some p)(hq:qs[k]?=some q)(e:p.2.ino=q.2.ino):Rk qs ids j=Rk qs ids k:=by
 have h:=M.G.same (ZW hq) (ZW hp) e;unfold Rk rfB;rw[bX hp,bX hq,e,h.1]
theorem MI.new{V:List Int}{s:MSt}(h:MI qs ids V s)(hV:vld qs V){k:Nat}{q:NdH×Nd}(hq:qs[k]?=some q)(hn:fL s.1 (rfB qs ids q.2)=none):MI qs ids (V++[(k:Int)]) (s.1++[(Rk qs ids k,1)],s.2+1):=by
 have hno:=Cr hn;have hR:=(M.rk hq).2;have hnd:=bX hq;refine⟨by show s.2+1=_;rw[h.cnt,ZR];rfl,?_,fun r hr=>?_,fun j hj=>?_⟩
 · show ((s.1++[(Rk qs ids k,1)]).map (fun r:Rec×Int=>r.1.ref)).Nodup
   rw[dr,fg];refine⟨h.nd,by simp,fun a ha b hb e=>?_⟩;obtain⟨r,hr,rfl⟩:=av.1 ha;simp only[db,List.map_nil,ai] at hb;subst hb;exact hno r hr (e.trans hR.ref)
 · rcases an.1 hr with hr|hr
   · obtain⟨j,hj,h1,h2⟩:=h.mem r hr
     obtain⟨i,p,rfl,hp⟩:=hV j hj;refine⟨(i:Int),fh _ hj,h1,?_⟩;rw[yW,ZO (fun e=>?_),h2,gp];rw[hnd,bX hp] at e;have h3:=(M.rk hp).2.ref;rw[←h1,(M.rf_ino (ZW hp) (ZW hq)).2 e.symm] at h3;exact hno r hr h3
   · rw[ai] at hr;subst hr
     refine⟨(k:Int),by simp,rfl,?_⟩;rw[yW,ZP rfl];have h0:cV qs V (ndB qs k).ino=0:=List.countP_eq_zero.2 (fun j hj=>by
      obtain⟨i,p,rfl,hp⟩:=hV j hj;obtain⟨r,hr,h1⟩:=h.all _ hj;rw[bX hp] at h1 ⊢;rw[hnd];simp only[decide_eq_true_eq];intro e;rw[(M.rf_ino (ZW hp) (ZW hq)).2 e] at h1;exact hno r hr h1)
     rw[h0];rfl
 · rcases an.1 hj with hj|hj
   · obtain⟨r,hr,h1⟩:=h.all j hj
     exact⟨r,fh _ hr,h1⟩
   · rw[ai] at hj;subst hj
     exact⟨(Rk qs ids k,1),by simp,by rw[hnd];exact hR.ref⟩
theorem MI.old{V:List Int}{s:MSt}(h:MI qs ids V s)(hV:vld qs V){k i:Nat}{q:NdH×Nd}(hq:qs[k]?=some q)(hi:fL s.1 (rfB qs ids q.2)=some i):MI qs ids (V++[(k:Int)]) (eL s.1 i,s.2+1):=by
 obtain⟨r0,hr0,hrf⟩:=wQ hi;have hil:=(ZS.1 hr0).1;have hnd:=bX hq;have hb:eL s.1 i=s.1.set i (r0.1,r0.2+1):=by unfold eL;rw[Z2,hr0];rfl
 have hmap:(eL s.1 i).map (·.1.ref)=s.1.map (·.1.ref):=by
  rw[hb,List.map_set];apply cd;intro j;rw[cg];by_cases e:i=j
  · subst e
    rw[ZP rfl,aa,ZP hil,ax,hr0];rfl
  ·rw[ZO e]
 have at_:∀ (j:Nat) (r:Rec×Int),s.1[j]?=some r→r.1.ref=rfB qs ids q.2→j=i:=fun j r hr e=>by
  have hjl:=(ZS.1 hr).1;apply ZY;intro hne;have hn:=bj.1 h.nd;have e1:(s.1.map (·.1.ref))[j]'(by rw[aa];exact hjl)=rfB qs ids q.2:=by rw[List.getElem_map,(ZS.1 hr).2];exact e
  have e2:(s.1.map (·.1.ref))[i]'(by rw[aa];exact hil)=rfB qs ids q.2:=by rw[List.getElem_map,(ZS.1 hr0).2];exact hrf
  rcases Nat.lt_or_gt_of_ne hne with c|c
  ·exact hn j i (by rw[aa];exact hjl) (by rw[aa];exact hil) c (e1.trans e2.symm)
  ·exact hn i j (by rw[aa];exact hil) (by rw[aa];exact hjl) c (e2.trans e1.symm)
 refine⟨by show s.2+1=_;rw[h.cnt,ZR];rfl,by rw[hmap];exact h.nd,fun r hr=>?_,fun j hj=>?_⟩
 · obtain⟨j,hj⟩:=ab hr
   have hj:(eL s.1 i)[j]?=some r:=hj;rw[hb,cg] at hj;by_cases e:i=j
   · rw[ZP e,ZP hil] at hj
     cases hj;obtain⟨k',hk',h1,h2⟩:=h.mem r0 (ZW hr0);obtain⟨i',p,rfl,hp⟩:=hV k' hk';have h3:=(M.rk hp).2.ref;rw[←h1,hrf] at h3;have h4:=(M.rf_ino (ZW hq) (ZW hp)).1 h3;refine⟨(i':Int),fh _ hk',h1,?_⟩;rw[yW,ZP (by rw[hnd,bX hp];exact h4)];show r0.2+1=_;rw[h2];rfl
   · rw[ZO e] at hj
     obtain⟨k',hk',h1,h2⟩:=h.mem r (ZW hj);obtain⟨i',p,rfl,hp⟩:=hV k' hk';refine⟨(i':Int),fh _ hk',h1,?_⟩;rw[yW,ZO (fun e2=>?_),h2,gp];rw[hnd,bX hp] at e2;have h3:=(M.rk hp).2.ref;rw[←h1,(M.rf_ino (ZW hp) (ZW hq)).2 e2.symm] at h3;exact e (at_ j r hj h3).symm
 · rcases an.1 hj with hj|hj
   · obtain⟨r,hr,h1⟩:=h.all j hj
     have h2:r.1.ref∈(eL s.1 i).map (·.1.ref):=by rw[hmap];exact av.2 ⟨r,hr,rfl⟩
     obtain⟨r',hr',h3⟩:=av.1 h2;exact⟨r',hr',h3.trans h1⟩
   · rw[ai] at hj;subst hj
     have h2:r0.1.ref∈(eL s.1 i).map (·.1.ref):=by rw[hmap];exact av.2 ⟨r0,ZW hr0,rfl⟩
     obtain⟨r',hr',h3⟩:=av.1 h2;exact⟨r',hr',by rw[h3,hnd];exact hrf⟩
omit M in
theorem Hw {V U:List Int} (h:vld qs V) (g:vld qs U):vld qs (V++U):=fun k hk=>(an.1 hk).elim (h k) (g k)
theorem Ij{f:Int→Int→MSt→Option MSt}{P:Int→List Int}{S:List By}
 (IH:∀ (k:Nat) (q:NdH×Nd) (V:List Int) (s:MSt),qs[k]?=some q→q.2.names.length=S.length+1→MI qs ids V s→vld qs V→(V++P k).Nodup→(V++P k).length≤1024→∃ s',f (rfB qs ids q.2) q.2.kind s=some s'∧MI qs ids (V++P k) s')
 (hP:∀ z∈cD qs S qs.length,vld qs (P z)):∀ (ys:List Int) (V:List Int) (s:MSt),(∀ z∈ys,z∈cD qs S qs.length)→MI qs ids V s→vld qs V→(V++ys.flatMap P).Nodup→(V++ys.flatMap P).length≤1024→∃ s',goL f (jR qs (stB qs ids) ys) s=some s'∧MI qs ids (V++ys.flatMap P) s'
|[],V,s,_,h,_,_,_=>⟨s,rfl,by simpa using h⟩
|z::r,V,s,hk,h,hV,hn,hl=>by
   obtain⟨k,q,rfl,hq,hnm⟩:=jO (hk z (by simp));rw[cq,←Z6] at hn hl;have hn1:=(fg.1 hn).1;obtain⟨s1,e1,h1⟩:=IH k q V s hq (by rw[hnm];simp) h hV hn1 (by rw[ZR] at hl;omega);obtain⟨s2,e2,h2⟩:=Ij IH hP r (V++P k) s1 (fun y hy=>hk y (by simp[hy])) h1 (Hw hV (hP _ (hk _ (by simp)))) hn hl;refine⟨s2,?_,by rw[cq,←Z6];exact h2⟩;have e:jR qs (stB qs ids) ((k:Int)::r)=(bB (ndB qs k).names,(ndB qs k).kind,rfB qs ids (ndB qs k))::jR qs (stB qs ids) r:=rfl;rw[e,bX hq];show (match f (rfB qs ids q.2) q.2.kind s with|none=>none|some s'=>goL f (jR qs (stB qs ids) r) s')=_;rw[e1];exact e2
theorem Ii:∀ (n k:Nat) (q:NdH×Nd) (V:List Int) (s:MSt),qs[k]?=some q→17≤q.2.names.length+n→MI qs ids V s→vld qs V→(V++kM qs n k).Nodup→(V++kM qs n k).length≤1024 →
 ∃ s',goM (imB qs ids) (cG qs ids (aI qs ids)) ids n (rfB qs ids q.2) q.2.kind s=some s'∧MI qs ids (V++kM qs n k) s'
|0,k,q,V,s,hq,hd,_,_,_,_=>by have:=M.G.dep q (ZW hq);omega
|n+1,k,q,V,s,hq,hd,h,hV,hn,hl=>by
   have e:kM qs (n+1) k=(k:Int)::(cD qs q.2.names qs.length).flatMap (kM qs n):=by show (k:Int)::_=_;rw[bX hq]
   rw[e] at hn hl ⊢;have hkV:(k:Int)∉V:=fun hm=>(fg.1 hn).2.2 _ hm _ (by simp) rfl;have hc:=h.cnt;have hlen:V.length+1≤1024:=by rw[ZR,al] at hl;omega
   unfold goM;rw[ZO (by omega)];cases hi:fL s.1 (rfB qs ids q.2) with
  |some i=>
     obtain⟨r0,hr0,hrf⟩:=wQ hi;obtain⟨k',hk',h1,h2⟩:=h.mem r0 (ZW hr0);obtain⟨i',p,rfl,hp⟩:=hV k' hk';have hpR:=(M.rk hp).2;have h3:=hpR.ref;rw[←h1,hrf] at h3;have h4:=(M.rf_ino (ZW hq) (ZW hp)).1 h3;have hne:k≠i':=fun e=>hkV (by rw[e];exact hk');obtain⟨g1,g2⟩:=M.G.lnk k i' q p hne hq hp h4;have hkids:=M.G.nodir hq g1;have hkd:(s.1.getD i (qN,0)).1.ino.1 0=q.2.kind:=by rw[Z2,hr0];show r0.1.ino.1 0=_;rw[h1,hpR.kd,g2.1]
     simp only;rw[ZP ⟨g1,hkd⟩,hkids];exact⟨_,rfl,MI.old M h hV hq hi⟩
  |none=>
     simp only;rw[(M.rk hq).1];simp only;rw[(M.rk hq).2.ls];have hnew:=MI.new M h hV hq hi;rw[show V++(k:Int)::(cD qs q.2.names qs.length).flatMap (kM qs n)=(V++[(k:Int)])++(cD qs q.2.names qs.length).flatMap (kM qs n) by simp] at hn hl ⊢;exact Ij M (S:=q.2.names) (fun k' q' V' s' hq' hnl h' hV' hn' hl'=>Ii n k' q' V' s' hq' (by omega) h' hV' hn' hl') (fun z hz=>by
      obtain⟨j,p,rfl,hj,_⟩:=jO hz;exact qR n hj) _ (V++[(k:Int)]) _ (fun _ hz=>hz) hnew (Hw hV (fun z hz=>by rw[ai] at hz;exact⟨k,q,hz,hq⟩)) hn hl
theorem ImB.mnt:∃ s:MSt,mnt (imB qs ids)=some ⟨imB qs ids,cG qs ids (aI qs ids),plB qs ids,ids,s.1⟩∧MI qs ids (kM qs 17 0) s:=by
 obtain⟨r,hr,hrn,hrk⟩:=M.G.root;have h0:MI qs ids [] ([],0):=⟨rfl,List.Pairwise.nil,by intro r hr;(cases hr),by intro k hk;(cases hk)⟩
 have hlen:=LP M.G (n:=17) hr;obtain⟨s,e,hs⟩:=Ii M 17 0 r [] ([],0) hr (by omega) h0 (by intro k hk;cases hk) (by rw[aq];exact pB M.G 17 0 r hr) (by rw[aq];have:=M.G.n.2;have:(kM qs 17 ((0:Nat):Int)).length≤qs.length:=hlen;omega);rw[aq] at hs;have hs:MI qs ids (kM qs 17 0) s:=hs;have hperm:=B9 M.G;obtain⟨hinv,hpos⟩:=M.st;have hF9:(cG qs ids (aI qs ids)) 9=rfB qs ids r.2:=by
  show (stB qs ids).refs.getD (ndB qs ((0:Nat):Int)).ino.toNat 0-1=_;rw[bX hr];rfl
 have hrise:kW ids:=fun i hi=>by
  have h:=bj.1 M.I.1 i (i+1) (by omega) hi (by omega);rw[Z2,Z2,ZQ (by omega),ZQ hi];exact h
 have hvl:vld qs (kM qs 17 0):=qR 17 hr
 have hcount:(s.1.length:Int)=(cG qs ids (aI qs ids)) 1:=by
  show (s.1.length:Int)=((stB qs ids).many:Int)
  rw[hinv.many];have h1:((uL (stB qs ids)).map (fun z=>z-1)).Nodup:=by
   have hp:(uL (stB qs ids)).Nodup:=by
    have hr2:(stB qs ids).refs.Pairwise (fun a b=>0<a→a≠b):=bj.2 (fun i j hi hj hij h0 e=>by
     have e1:(stB qs ids).refs.getD i 0=(stB qs ids).refs[i]:=by simp[Z2,hi]
     have e2:(stB qs ids).refs.getD j 0=(stB qs ids).refs[j]:=by simp[Z2,hj]
     have:=hinv.dist i j (by rw[e1];exact h0) (by rw[e1,e2];exact e);omega)
    unfold uL List.Nodup;rw[List.pairwise_filter];exact hr2.imp (fun h a _=>h (by simpa using a))
   unfold List.Nodup;rw[pairwise_map];exact hp.imp (fun h e=>h (by omega))
  have h2:(s.1.map (·.1.ref)).Perm ((uL (stB qs ids)).map (fun z=>z-1)):=(List.perm_ext_iff_of_nodup hs.nd h1).2 (fun z=>by
   constructor
   · intro hz
     obtain⟨x,hx,rfl⟩:=av.1 hz;obtain⟨k,hk,e1,_⟩:=hs.mem x hx;obtain⟨i,p,rfl,hp⟩:=hvl k hk;have hpm:=ZW hp;have hpi:=M.G.ino p hpm;refine av.2 ⟨(stB qs ids).refs.getD p.2.ino.toNat 0,?_,by rw[e1,(M.rk hp).2.ref];rfl⟩;unfold uL;rw[mem_filter];have hl:p.2.ino.toNat<(stB qs ids).refs.length:=by rw[hinv.rl];omega
     exact⟨by rw[Z2,ZQ hl];exact bm _,by simpa using hpos p hpm⟩
   · intro hz
     obtain⟨y,hy,rfl⟩:=av.1 hz;unfold uL at hy;rw[mem_filter] at hy;obtain⟨m,hm⟩:=ab hy.1;have e1:(stB qs ids).refs.getD m 0=y:=by rw[Z2,hm];rfl
     obtain⟨k,p,_,_,_,hk,hpi,_⟩:=hinv.std m (by rw[e1];simpa using hy.2);have hmem:(k:Int)∈kM qs 17 0:=hperm.mem_iff.2 (av.2 ⟨k,bt.2 (ZS.1 hk).1,rfl⟩);obtain⟨x,hx,e2⟩:=hs.all _ hmem;refine av.2 ⟨x,hx,?_⟩;rw[e2,bX hk];unfold rfB;rw[hpi,ak,e1])
  have h3:=h2.length_eq;rw[aa,aa] at h3;omega
 have hlinks:∀ x∈s.1,x.2=x.1.ino.1 4:=fun x hx=>by
  obtain⟨k,hk,e1,e2⟩:=hs.mem x hx;obtain⟨i,p,rfl,hp⟩:=hvl k hk;rw[e2,e1,(M.rk hp).2.ln,bX hp,Px hperm,NB]
 refine⟨s,?_,hs⟩;unfold Go.Proofs.YthdecfkdgdagcaaGreat.mnt;rw[M.sup];simp only;rw[ZO (fun h=>h rfl),M.pl];simp only;rw[ZO (fun h=>h rfl),M.id];simp only;rw[ZO (fun h=>h rfl),ZO (fun h=>h hrise),hF9];have e:goM (imB qs ids) (cG qs ids (aI qs ids)) ids 17 (rfB qs ids r.2) 1 ([],0)=some s:=by rw[←hrk];exact e
 rw[e];simp only;rw[ZO (fun h=>h.elim (fun h=>h hcount) (fun h=>h hlinks))]
theorem ImB.known{s:MSt}(hs:MI qs ids (kM qs 17 0) s){k:Nat}{q:NdH×Nd}(hq:qs[k]?=some q):knM ⟨imB qs ids,cG qs ids (aI qs ids),plB qs ids,ids,s.1⟩ (rfB qs ids q.2)=some (Rk qs ids k):=by
 obtain⟨r,hr,_⟩:=M.G.root;have hmem:(k:Int)∈kM qs 17 0:=(B9 M.G).mem_iff.2 (av.2 ⟨k,bt.2 (ZS.1 hq).1,rfl⟩);unfold knM;show (fL s.1 (rfB qs ids q.2)).map (fun i=>(s.1.getD i (qN,0)).1)=_;cases hi:fL s.1 (rfB qs ids q.2) with
|none=>
   obtain⟨x,hx,e⟩:=hs.all _ hmem;rw[bX hq] at e;exact absurd e (Cr hi x hx)
|some i=>
   obtain⟨r0,hr0,hrf⟩:=wQ hi;obtain⟨k',hk',h1,_⟩:=hs.mem r0 (ZW hr0);obtain⟨i',p,rfl,hp⟩:=qR 17 hr k' hk';have h3:=(M.rk hp).2.ref;rw[←h1,hrf] at h3;have h4:=(M.rf_ino (ZW hq) (ZW hp)).1 h3;rw[dp,Z2,hr0];show some r0.1=_;rw[h1,M.rk_same hp hq h4.symm]
end
end
theorem vA{α:Type}{K:Nat}{enc:α→List Value}(hk:∀ x,(enc x).length=K):∀ (xs:List α) (i:Nat) (u:α),i<xs.length→(xs.set i u).flatMap enc=(xs.flatMap enc).take (i*K)++(enc u++(xs.flatMap enc).drop (i*K+K))
|[],i,u,h=>absurd h (Nat.not_lt_zero _)
|x::r,0,u,h=>by
   rw[List.set_cons_zero,cq,cq,ii,cx,dm,aq,ct (hk x)]
|x::r,i+1,u,h=>by
   rw[List.set_cons_succ,cq,cq,vA hk r i u (Nat.lt_of_succ_lt_succ h)];have e1:((i+1)*K)=(enc x).length+i*K:=by rw[hk x,dy,Nat.one_mul];omega
   rw[e1,fq,Z4 (l:=enc x) (by omega),fp,gu,List.drop_append,de (l:=enc x) (by omega),aq,fp,Z6]
theorem Qv{α:Type}(cur v:List α){o L:Nat}(h:o+v.length≤L)(hL:L≤cur.length):((cur.take o++v)++cur.drop (o+v.length)).take L=(cur.take L).take o++(v++(cur.take L).drop (o+v.length)):=by
 have e1:(cur.take o++v).length=o+v.length:=by rw[ZR,ZT];omega
 rw[fq,e1,Z4 (l:=cur.take o++v) (by omega),dq,cn (by omega),List.drop_take,Z6]
section
variable {P:Program}{N:Nt}{Q:Exit→Act→World→Prop}{l:SF}{w:World}{ops:Array Oper}{rest:List Oper}{ty:TypeId}{pos:String}{aft:Array Edge}{x y:Operand}{t:TypeId}{d:Nat}
theorem YH{α:Type}{K:Nat}{enc:α→List Value}(henc:iT K enc){T:TypeId}{ao:Option Addr}{cap:Nat}{xs:List α}{i:Nat}{u:α}{ad:Addr}(hi:i<xs.length)
 (ht:gP P t (enc u).length=true)(hx:evL l x=some (.pointer (some ad)))(had:ad=adr ao (i*K))(hy:evL l y=some (.agg (enc u).toArray))(ho:bJ K enc T w.heap ao cap xs)
 (h:∀ w',bJ K enc T w'.heap ao cap (xs.set i u)→w'.heap.size=w.heap.size→aA (blk ao) w w'→Sl P N ops Q rest l w') :
 Sl P N ops Q (⟨none,.store t x y,ty,pos,aft,none⟩::rest) l w:=by
 have hil:=hi;rcases ho with⟨rfl,rfl,rfl⟩|⟨g,cur,rfl,hg,g1,g2,g3,g4⟩
 ·simp at hil
 · have hK:xs.length*K≤cap*K:=di K g1
   have hiK:(i+1)*K≤xs.length*K:=di K (by omega);rw[dy,Nat.one_mul] at hiK;have hel:(enc u).length=K:=(henc u).1;have hcl:cur.toList.length=cap*K:=by rw[Array.length_toList,g3]
   have hadr:ad=⟨g,i*K,none⟩:=by
    rw[had];show (⟨g,0,none⟩:Addr).add (i*K)=_;rw[Addr.add_lit,cx]
   subst hadr;refine XW (cur:=cur.toList) ht hx hy (henc u).2 (by simpa using hg) (by omega) (fun w' q1 q2 q3=>h w' ?_ q2 ?_)
   · refine .inr ⟨g,_,rfl,q1,by simpa using g1,g2,?_,?_⟩
     ·simp only[fe,ZR,ZT,ZX];omega
     · rw[cm,vA (fun x=>(henc x).1) xs i u hi,←g4]
       have:=Qv cur.toList (enc u) (o:=i*K) (L:=xs.length*K) (by omega) (by omega);rw[hel] at this;rw[hel];exact this
   ·exact q3.mono (fun k e=>⟨⟨g,0,none⟩,rfl,e.symm⟩)
theorem XE{α:Type}{K:Nat}{enc:α→List Value}(henc:iT K enc)(hK:0<K){e:TypeId}(z0:α){bytes:Nat}(ht:aZ P t e K bytes)(hz:(P.info? e).map (fun i=>i.zero.map (·.cells))=some (some (enc z0).toArray)){k k':IntKind}{n m:Int}
 (hx:evL l x=some (.int k n))(hy:evL l y=some (.int k' m))(h0:0≤n)(hnm:n≤m)(hn:(bytes:Int)*m≤281474976710656)(hm:m≤9223372036854775807)(hd:Nat.blt d N.n=true)
 (h:∀ w',bJ K enc e w'.heap (some ⟨w.heap.size,0,none⟩) m.toNat (bg n.toNat z0)→w'.heap.size=w.heap.size+1→aA nob w w'→Sl P N ops Q rest ((d,.slice (some ⟨w.heap.size,0,none⟩) n.toNat m.toNat)::l) w') :
 Sl P N ops Q (⟨some d,.makeSlice t x y,ty,pos,aft,none⟩::rest) l w:=by
 obtain⟨i,z,hi,hz1,hzc,h2,h3⟩:=ht.parts;have hc:z.cells=(enc z0).toArray:=by rw[hi] at hz;simp[hz1] at hz;exact hz
 have hr:=run_make (P:=P) w t e i z ht.und hi hz1 k k' n m h0 hnm (by rw[h3];exact hn) hm;have hel:(enc z0).length=K:=(henc z0).1;rw[hc,h2] at hr;refine W2 (w':=w.alloc (.cells (madeCells (enc z0).toArray (m.toNat*K)) e)) (fun a ha=>?_) hd (h _ ?_ (by simp) (aA.alloc _ _ _))
 ·simp only[execOp,ha.ev hx,ha.ev hy,Sem.run_bind,hr,Result.andThen_ok,Sem.run_pure]
 · refine .inr ⟨w.heap.size,_,rfl,heap_alloc_new w _,by simp;omega,by unfold maxLen;omega,size_madeCells _ _,?_⟩
   apply cd;intro q;rw[cj];have hle:n.toNat*K≤m.toNat*K:=di K (by omega);by_cases hq:q<n.toNat*K
   · have h1:q/K<n.toNat:=(Nat.div_lt_iff_lt_mul hK).2 hq
     have h4:q%K<K:=Nat.mod_lt _ hK;have e1:(bg n.toNat z0)[q/K]?=some z0:=by rw[List.getElem?_replicate,ZP h1]
     have e2:(enc z0)[q%K]?=some ((enc z0).toArray[q%K]!):=by
      rw[getElem!_pos (enc z0).toArray (q%K) (by rw[fe];omega)];rw[ZQ (by omega)];rfl
     have e3:=tC (fun x=>(henc x).1) (bg n.toNat z0) (q/K) z0 e1 (q%K) _ e2;rw[Nat.div_add_mod'] at e3;rw[e3,ar,ZP hq];unfold madeCells;rw[Array.getElem?_toList,Array.getElem?_map,Array.getElem?_range,ZP (by omega)];simp only[dp,fe,hel]
   ·rw[bq (by rw[ZT];omega),bq (by rw[dM (fun x=>(henc x).1),cj];omega)]
end
section
open Go Go.RowKit Go.Maps
theorem BE:∀ (L:List By) (t:By) (s:DS),gC (L++[t]) s=((pX 64 (gC L s).1 t).1,(gC L s).2++[((pX 64 (gC L s).1 t).2:Int)])
|[],t,s=>rfl
|x::r,t,s=>by
   show ((gC (r++[t]) (pX 64 s x).1).1,_::(gC (r++[t]) (pX 64 s x).1).2)=_;rw[BE r t];rfl
theorem KV{L:List By}(h:F3 L)(s:DS):(gC L s).1.B.length≤s.B.length+135*L.length:=by
 obtain⟨z,hz,hl⟩:=rN L s;have key:∀ M:List By,F3 M→(M.map (fun t=>(dB t).1.length)).sum≤135*M.length:=by
  intro M
  induction M with
 |nil=>intro _;exact Z0 _
 |cons x r ih=>
    intro hb;have h1:=ih (fun y hy=>hb y (by simp[hy]));have h2:=hb x (by simp);have h3:=iG (b:=x) h2.2;rw[db,List.sum_cons,al];omega
 have:=key L h;rw[hz,ZR];omega
theorem sM(T:By):(dnW T).length≤135*((T.length+127)/128):=wS T (nF T)
theorem PQ(n:Nat):∀ (L:List Nd) (s:FSt),(L.foldl iZ s).ds.m.length≤s.ds.m.length+L.length
|[],s=>Z0 _
|x::r,s=>by
   have h:=PQ n r (iZ s x)
   have h2:(iZ s x).ds.m.length≤s.ds.m.length+1:=by
    unfold iZ
    split
    ·exact ia _
    · show (jV 64 s.ds x.data).1.m.length≤_
      unfold jV KA
      split
      ·exact ia _
      · split
        ·exact ia _
        · show (s.ds.m++_).length≤_
          rw[ZR];exact Z0 _
   rw[dt,al];omega
structure Wf (qs:List (NdH×Nd))(ids:List Int):Prop where
 B:(gC (cB qs).tails (cB qs).ds).1.B.length≤200000
 i:(aI qs ids).s.ino.length≤10000
 l:(aI qs ids).s.lst.length≤500000
 f:(aI qs ids).s.fur.length≤200000
 b:bdB (aI qs ids).s
 m:(aI qs ids).s.many≤41
 d:ids.length≤80
 n4:(aL (aI qs ids).pl 4).1.length≤160
 n2:(aL ids 2).1.length≤160
 o1:(mY (aI qs ids)).length≤200000
 o2:(jW (aI qs ids)).length≤400000
 o3:(jM (aI qs ids)).length≤1000000
 o4:(iX (aI qs ids)).length≤1100000
 o5:(iH (aI qs ids) ids).length≤1200000
 o6:(gJ (aI qs ids) ids).length≤1500000
theorem B8(l:List Int)(w:Nat)(hw:w24 w)(h:inW w l):(aL l w).1.length=w*l.length:=by rw[qQ hw h,vF]
theorem IM{qs:List (NdH×Nd)}{ids:List Int}(G:GdT qs)(I:Bx qs ids):Wf qs ids:=by
 have F:=Dz (qs:=qs) (fun q hq=>⟨G.ino q hq,(G.may q hq).2.2.2.2.2.2.1⟩);obtain⟨S,e,hI,hB,_⟩:=wX G I F;have e:(aI qs ids).s=S:=e;have hn:=G.n.2;have h41:=hI.many41 hn;have hid:=yQ I;have h1:=hI.bi;have h2:S.lst.length≤10440*S.many:=hB;have h3:=hI.bf;have h4:=hI.sn;have hT:=F.tn;have hFB:=F.b;rw[aa] at hT hFB;have hb:=KV F.t (cB qs).ds;have hpl:=nR (cB qs).tails (cB qs).ds;have hpi:inW 4 (aI qs ids).pl:=by
  intro x hx;obtain⟨j,hj,rfl⟩:=cf hx;have hj2:j<(cB qs).tails.length:=by have:j<(gC (cB qs).tails (cB qs).ds).2.length:=hj;omega
  obtain⟨pre,rest,a1,a2⟩:=yG (cB qs).tails (cB qs).ds j hj2;have e:(aI qs ids).pl[j]=(gC (cB qs).tails (cB qs).ds).2.getD j 0:=by
   have e2:(aI qs ids).pl=(gC (cB qs).tails (cB qs).ds).2:=rfl;rw[Z2,←e2,ZQ hj];rfl
  have a3:=congrArg cv a1;rw[ZR] at a3;rw[e,a2];refine⟨by omega,?_⟩;show (64:Int)+pre.length<4294967296;omega
 have hii:inW 2 ids:=by
  intro x hx;have h:=(I.2 x).1 hx;unfold sD at h;obtain⟨q,hq,h1⟩:=dz.1 h;obtain⟨_,_,_,m2,m3,_⟩:=G.may q hq;simp only[aw,bv,or_false] at h1;refine⟨by rcases h1 with rfl|rfl<;>omega,?_⟩;show x<65536;rcases h1 with rfl|rfl<;>omega
 have hp4:(aL (aI qs ids).pl 4).1.length=4*(aI qs ids).pl.length:=B8 _ 4 (.inr rfl) hpi;have hp2:(aL ids 2).1.length=2*ids.length:=B8 _ 2 (.inl rfl) hii;have hpl2:(aI qs ids).pl.length=(cB qs).tails.length:=hpl;have d1:=sM (aI qs ids).s.ino;have d2:=sM (aI qs ids).s.lst;have d3:=sM (aL (aI qs ids).pl 4).1;have d4:=sM (aL ids 2).1;have d5:=sM (aI qs ids).s.fur;rw[e] at d1 d2 d5;rw[hp4] at d3;rw[hp2] at d4;have l1:(mY (aI qs ids)).length=(gC (cB qs).tails (cB qs).ds).1.B.length:=rfl;have l2:(jW (aI qs ids)).length=(mY (aI qs ids)).length+(dnW (aI qs ids).s.ino).length:=ZR;have l3:(jM (aI qs ids)).length=(jW (aI qs ids)).length+(dnW (aI qs ids).s.lst).length:=ZR;have l4:(iX (aI qs ids)).length=(jM (aI qs ids)).length+(dnW (aL (aI qs ids).pl 4).1).length:=ZR;have l5:(iH (aI qs ids) ids).length=(iX (aI qs ids)).length+(dnW (aL ids 2).1).length:=ZR;have l6:(gJ (aI qs ids) ids).length=(iH (aI qs ids) ids).length+(dnW (aI qs ids).s.fur).length:=ZR;rw[e] at l2 l3 l6;refine⟨by omega,by rw[e];omega,by rw[e];omega,by rw[e];omega,by rw[e];exact⟨by omega,by omega,by omega,by omega,by omega⟩,by rw[e];omega,by omega,by omega,by omega,by omega,by omega,by omega,by omega,by omega,by omega⟩
theorem RyO.tight{D B:Nat→Prop}{w:World}{g first:Nat}{s:DS}(h:RyO D w.heap g first s)(hB:∀ k,k<w.heap.size→D k→B k):RyO B w.heap g first s:=h.keepTo (Zn nob _) (fun _ _ _=>id) hB
theorem Jw(A:Nat→Prop)(g first:Nat)(s:DS)(bo:Option Addr)(bc:Nat)(b:By)(W:World)(hM:RyO A W.heap g first s)(hv:Vw b8 W.heap bo bc b)(hfi:first≤1000)(hb:s.B.length≤1099511627776)(hbl:b.length≤1048576)(hml:s.m.length≤1048576) :
 CA 24 [pT g,.slice bo b.length bc] W fun v w'=>∃ o c,v=.tuple #[iV ((jV first s b).2:Nat),.slice o (fQ b).length c]∧Own b8 5 w'.heap o c (fQ b)∧Fr W.heap.size o∧RyO (fun k=>Nx A W w' k∧¬ blk o k) w'.heap g first (jV first s b).1∧aA A W w':=by
 refine(LH (fun k=>A k∨W.heap.size≤k) g first s bo bc b W (hM.tight (fun k _ h=>.inl h)) (fun k h=>.inr h) hv hfi hb hbl hml).mono ?_;rintro e w' ⟨v,rfl,o,c,rfl,h1,h2,h3,h4⟩;exact⟨_,rfl,o,c,rfl,h1,h2,h3.tight (fun k hk h=>⟨h.1.imp id (fun h=>⟨h,hk⟩),h.2⟩),h4.nx⟩
theorem EG(A:Nat→Prop)(g first:Nat)(s:DS)(bo:Option Addr)(bc:Nat)(b:By)(W:World)(hM:RyO A W.heap g first s)(hv:Vw b8 W.heap bo bc b)(hfi:first≤1000)(hb:s.B.length≤1099511627776)(hbl:b.length≤128) :
 CA 26 [pT g,.slice bo b.length bc] W fun v w'=>v=iV ((pX first s b).2:Nat)∧RyO (Nx A W w') w'.heap g first (pX first s b).1∧aA A W w':=by
 refine(GJ (fun k=>A k∨W.heap.size≤k) g first s bo bc b W (hM.tight (fun k _ h=>.inl h)) (fun k h=>.inr h) hv hfi hb hbl).mono ?_;rintro e w' ⟨v,rfl,rfl,h3,h4⟩;exact⟨_,rfl,rfl,h3.tight (fun k hk h=>h.imp id (fun h=>⟨h,hk⟩)),h4.nx⟩
theorem RyO.zero{H:Array Obj}{h f:Nat}(hg:H[h]?=some (.cells (rdC f none 0 0 none 0 0).toArray 79 (0,0))):RyO (· = h) H h f ⟨[],[]⟩:=
 ⟨none,0,none,0,[],hg,Zu,.inl ⟨rfl,rfl,rfl⟩,⟨rfl,fun i x y hx=>by cases hx⟩,fun⟨a,ha,_⟩=>(by cases ha),fun⟨a,ha,_⟩=>(by cases ha),Zq,rfl,fun k ⟨a,ha,_⟩=>(by cases ha),fun k ⟨a,ha,_⟩=>(by cases ha)⟩
theorem yC.zero{H:Array Obj}{p:Nat}(hg:H[p]?=some (.cells #[sN] 82 (0,0))):yC (· = p) H p []:=
 ⟨fun _=>False,none,0,[],hg,Zu,⟨rfl,fun i x y hx=>by cases hx⟩,fun⟨a,ha,_⟩=>(by cases ha),rfl,fun k ⟨a,ha,_⟩=>(by cases ha),fun k h=>h.elim⟩
def fs0(n:Nat):FSt:=⟨⟨[],[]⟩,[],bg n kO⟩
theorem fi0(n:Nat):FI [] n (fs0 n):=⟨Bh.zero,(by intro b hb;cases hb),Z0 _,cj,Z0 _,fun i f hf=>.inl (jd (ZW hf)),(by intro x hx;cases hx)⟩
theorem M5{V:List Nd}{n:Nat}{s:FSt}(h:FI V n s):∀ f∈s.files,f.2.length≤200:=by
 intro f hf;obtain⟨i,hi⟩:=ab hf;rcases h.f i f hi with e|⟨x,_,_,_,st,fr,off,e,_⟩
 ·rw[e];exact ZZ _
 ·rw[e];exact ZZ _
theorem Dj{qs:List (NdH×Nd)}{k:Nat}{q:NdH×Nd}(h:qs[k]?=some q):nds (qs.take (k+1))=nds (qs.take k)++[q.2]:=by rw[tkL h];simp[nds]
theorem AR{qs:List (NdH×Nd)}{k:Nat}{q:NdH×Nd}(h:qs[k]?=some q)(s:FSt):(nds (qs.take (k+1))).foldl iZ s=iZ ((nds (qs.take k)).foldl iZ s) q.2:=by rw[Dj h,List.foldl_append];rfl
theorem FH{s:FSt}{x:Nd}(h:x.kind≠2∨(s.files.getD x.ino.toNat kO).1 0=2):iZ s x=s:=by unfold iZ;rw[ZP h]
def sU(z0 mn z2 z3 z4 z5 z6 nid nfr root:Int):List Value:=[iV z0,iV mn,iV z2,iV z3,iV z4,iV z5,iV z6,iV nid,iV nfr,iV root]
theorem Qz(z0 mn z2 z3 z4 z5 z6 nid nfr root:Int):∀ v∈sU z0 mn z2 z3 z4 z5 z6 nid nfr root,v.oneCell'=true:=by
 intro v hv;simp only[sU,aw,bv,or_false] at hv;rcases hv with rfl|rfl|rfl|rfl|rfl|rfl|rfl|rfl|rfl|rfl<;>rfl
def BuP(W:World)(ps:List (NdH×Nd)):Value→World→Prop:=fun v w'=>
 (chk (nds ps)≠0∧v=.tuple #[sN,iV (chk (nds ps))]∧aA nob W w') ∨
 (chk (nds ps)=0∧∃ ids o c,Bx (iR ps) ids∧v=.tuple #[.slice o (uX (iR ps) ids).1.length c,iV (uX (iR ps) ids).2]∧Own b8 5 w'.heap o c (uX (iR ps) ids).1∧Fr W.heap.size o∧aA nob W w')
end
section
open Go Go.RowKit Go.Maps
theorem B7(lo0:Option Addr)(lc0:Nat)(ps:List (NdH×Nd))(W:World)(hv:dG (fun k=>k<W.heap.size) W.heap lo0 lc0 ps)(hsm:∀ p∈ps,smN p.2)(hl:ps.length≤40) :
 CA 9 [.slice lo0 ps.length lc0] W (BuP W ps):=by
 refine cS 221 [(0,_)] Tryz.func9 ?_;refine cA 9 V5 (JA lo0 lc0 ps W hv hsm) ?_;rintro _ w1 ⟨lo,lc,qs,rfl,hqs,hvq,hf1⟩;refine fK 11 ?_ ?_<;>intro h30
 ·refine Gz 13 ?_;exact⟨_,rfl,.inl ⟨h30,rfl,hf1⟩⟩
 have hz:chk (nds ps)=0:=br.1 h30;rw[ZP hz] at hqs;have G:=G6 hz hl;rw[←hqs] at G;have hq40:=G.n.2;have hq0:=G.n.1;have hqne:qs≠[]:=fun e=>by rw[e] at hq0;exact absurd hq0 (by decide)
 have hlo1:∀ k,blk lo k→k<w1.heap.size:=fun k ⟨a,ha,e⟩=>by have:=hvq.1.lt hqne (fun x e=>by cases e) a ha;omega
 have hz1:=hf1.size;have hq1n:((qs.length:Int)+1).toNat=qs.length+1:=by omega
 refine Gz 5 ?_;refine WL (β:=(List Int×(Option Addr×Nat))×(Nat×(Nat×Nat))) (fun⟨⟨ids,⟨io,ic⟩⟩,⟨gr,⟨gf,gm⟩⟩⟩=>[(0,.slice lo qs.length lc),(5,pT gm)]) (fun⟨⟨ids,⟨io,ic⟩⟩,⟨gr,⟨gf,gm⟩⟩⟩ w=>Bx qs ids∧Own i64 3 w.heap io ic ids∧Own i64 3 w.heap (some ⟨gr,0,none⟩) (qs.length+1) (bg (qs.length+1) 0)∧bJ 11 Bo 84 w.heap (some ⟨gf,0,none⟩) (qs.length+1) (bg (qs.length+1) kO)∧w.heap[gm]?=some (.cells (biC (.slice lo qs.length lc) (.slice io ids.length ic) sN sN sN sN sN sN (.slice (some ⟨gr,0,none⟩) (qs.length+1) (qs.length+1)) (.slice (some ⟨gf,0,none⟩) (qs.length+1) (qs.length+1)) sN sN 0).toArray 76 (0,0))∧(w1.heap.size≤gr∧w1.heap.size≤gf∧gr<gm∧gf<gm∧gf≠gr∧w.heap.size=gm+1)∧(∀ a,io=some a→a.block<gm)∧(∀ a,io=some a→a.block≠gr)∧(∀ a,io=some a→a.block≠gf)∧aA nob w1 w) ?_ ?_
 ·refine Yk (fun _=>True) [2,6,10,12] [0,1,3,4,5,7,8,9] (.alt 2 [] (.alt 6 [] (.alt 10 [11] (.alt 12 [13] .fin .stop) .stop) (.alt 10 [] (.alt 6 [11] (.alt 12 [13] .fin .stop) .stop) .stop)) (.alt 6 [] (.alt 2 [] (.alt 10 [11] (.alt 12 [13] .fin .stop) .stop) (.alt 10 [] (.alt 2 [11] (.alt 12 [13] .fin .stop) .stop) .stop)) (.alt 10 [] (.alt 2 [] (.alt 6 [11] (.alt 12 [13] .fin .stop) .stop) (.alt 6 [] (.alt 2 [11] (.alt 12 [13] .fin .stop) .stop) .stop)) .stop))) aK (by kernel_rfl) (trivial) ?_;have hG0:aA nob w1 (w1.drewN 1):=Zo 1;generalize w1.drewN 1=v0 at hG0 ⊢;refine WB rfl rfl (WU rfl) rfl ?_;refine WB rfl rfl (WU rfl) rfl ?_;refine WB rfl rfl (WU rfl) rfl ?_;refine WB rfl rfl (Ym bR rfl) rfl ?_;refine WB rfl rfl (W5 rfl rfl (by omega)) rfl ?_;refine WB rfl rfl (WU rfl) rfl ?_;refine WB rfl rfl (Ym bR rfl) rfl ?_;refine WB rfl rfl (W5 rfl rfl (by omega)) rfl ?_;refine WJ ?_ ?_
  ·refine WI rfl rfl (Wh M0 rfl (uD lo lc qs v0 (hvq.1.keep' hG0 (fun _ _ _=>id)) (by omega)) rfl ?_);rintro _ v1 ⟨io,ic,ids,rfl,hI1,hfI,hIds,hfx⟩;have hG1:=hG0.trans hfx;refine WT (by exact trivial) ?_;refine WJ ?_ ?_
   ·refine WI rfl rfl (Xp i64 0 bP z3 rfl rfl rfl (by omega) (by omega) (by omega) (by omega) rfl ?_);intro v2 hR2 hsx hfx;rw[hq1n] at hR2 ⊢;obtain⟨gr,hgre⟩:∃ x,x=v1.heap.size:=⟨_,rfl⟩
    rw[←hgre] at hR2 ⊢;have hG2:=hG1.trans hfx;have hgrW:w1.heap.size≤gr:=by rw[hgre];exact hG1.size
    have hI2:=hI1.ZM hfx;have hnI:∀ a,io=some a→a.block≠gr:=fun a ha=>by have:=hI1.lt a ha;omega
    refine WT (by exact trivial) ?_;refine WJ ?_ ?_
    ·refine WI rfl rfl (XE gM (by decide) kO C3 (by kernel_rfl) rfl rfl (by omega) (by omega) (by omega) (by omega) rfl ?_);intro v3 hF3 hsx hfx;rw[hq1n] at hF3 ⊢;obtain⟨gf,hgfe⟩:∃ x,x=v2.heap.size:=⟨_,rfl⟩
     rw[←hgfe] at hF3 ⊢;have hG3:=hG2.trans hfx;have hgfW:w1.heap.size≤gf:=by rw[hgfe];exact hG2.size
     have hI3:=hI2.ZM hfx;have hR3:=hR2.ZM hfx;have hnF:∀ a,io=some a→a.block≠gf:=fun a ha=>by have:=hI2.lt a ha;omega
     have hrf:gf≠gr:=by omega
     refine WT (by exact trivial) ?_;refine WB rfl rfl (bU (biC (.slice lo qs.length lc) (.slice io ids.length ic) sN sN sN sN sN sN (.slice (some ⟨gr,0,none⟩) (qs.length+1) (qs.length+1)) (.slice (some ⟨gf,0,none⟩) (qs.length+1) (qs.length+1)) sN sN 0) Ca IR) rfl ?_;refine WJ ?_ ?_
     ·refine WI rfl rfl (WO rfl rfl ?_);intro v4 hgm hsx hfx;obtain⟨gm,hgme⟩:∃ x,x=v3.heap.size:=⟨_,rfl⟩
      rw[←hgme] at hgm ⊢;have hG4:=hG3.trans hfx;have hI4:=hI3.ZM hfx;have hR4:=hR3.ZM hfx;have hF4:=hF3.ZM hfx;refine WT (by exact trivial) ?_;have hgr4:gr<gm:=by rw[hgme];exact hR3.lt _ rfl
      have hgf4:gf<gm:=by rw[hgme];exact hF3.lt _ rfl
      have hI3l:∀ a,io=some a→a.block<gm:=fun a ha=>by rw[hgme];exact hI3.lt a ha
      refine WB rfl rfl (W3 rfl) rfl ?_;refine Xz ?_;exact aC ⟨⟨ids,⟨io,ic⟩⟩,⟨gr,⟨gf,gm⟩⟩⟩ ⟨hIds,hI4,hR4,hF4,hgm,⟨hgrW,hgfW,hgr4,hgf4,hrf,by omega⟩,hI3l,hnI,hnF,hG4⟩
     exact WH
    exact WH
   refine WJ ?_ ?_
   ·refine WI rfl rfl (XE gM (by decide) kO C3 (by kernel_rfl) rfl rfl (by omega) (by omega) (by omega) (by omega) rfl ?_);intro v2 hF2 hsx hfx;rw[hq1n] at hF2 ⊢;obtain⟨gf,hgfe⟩:∃ x,x=v1.heap.size:=⟨_,rfl⟩
    rw[←hgfe] at hF2 ⊢;have hG2:=hG1.trans hfx;have hgfW:w1.heap.size≤gf:=by rw[hgfe];exact hG1.size
    have hI2:=hI1.ZM hfx;have hnF:∀ a,io=some a→a.block≠gf:=fun a ha=>by have:=hI1.lt a ha;omega
    refine WT (by exact trivial) ?_;refine WJ ?_ ?_
    ·refine WI rfl rfl (Xp i64 0 bP z3 rfl rfl rfl (by omega) (by omega) (by omega) (by omega) rfl ?_);intro v3 hR3 hsx hfx;rw[hq1n] at hR3 ⊢;obtain⟨gr,hgre⟩:∃ x,x=v2.heap.size:=⟨_,rfl⟩
     rw[←hgre] at hR3 ⊢;have hG3:=hG2.trans hfx;have hgrW:w1.heap.size≤gr:=by rw[hgre];exact hG2.size
     have hI3:=hI2.ZM hfx;have hF3:=hF2.ZM hfx;have hnI:∀ a,io=some a→a.block≠gr:=fun a ha=>by have:=hI2.lt a ha;omega
     have hrf:gf≠gr:=by omega
     refine WT (by exact trivial) ?_;refine WB rfl rfl (bU (biC (.slice lo qs.length lc) (.slice io ids.length ic) sN sN sN sN sN sN (.slice (some ⟨gr,0,none⟩) (qs.length+1) (qs.length+1)) (.slice (some ⟨gf,0,none⟩) (qs.length+1) (qs.length+1)) sN sN 0) Ca IR) rfl ?_;refine WJ ?_ ?_
     ·refine WI rfl rfl (WO rfl rfl ?_);intro v4 hgm hsx hfx;obtain⟨gm,hgme⟩:∃ x,x=v3.heap.size:=⟨_,rfl⟩
      rw[←hgme] at hgm ⊢;have hG4:=hG3.trans hfx;have hI4:=hI3.ZM hfx;have hR4:=hR3.ZM hfx;have hF4:=hF3.ZM hfx;refine WT (by exact trivial) ?_;have hgr4:gr<gm:=by rw[hgme];exact hR3.lt _ rfl
      have hgf4:gf<gm:=by rw[hgme];exact hF3.lt _ rfl
      have hI3l:∀ a,io=some a→a.block<gm:=fun a ha=>by rw[hgme];exact hI3.lt a ha
      refine WB rfl rfl (W3 rfl) rfl ?_;refine Xz ?_;exact aC ⟨⟨ids,⟨io,ic⟩⟩,⟨gr,⟨gf,gm⟩⟩⟩ ⟨hIds,hI4,hR4,hF4,hgm,⟨hgrW,hgfW,hgr4,hgf4,hrf,by omega⟩,hI3l,hnI,hnF,hG4⟩
     exact WH
    exact WH
   exact WH
  refine WJ ?_ ?_
  ·refine WI rfl rfl (Xp i64 0 bP z3 rfl rfl rfl (by omega) (by omega) (by omega) (by omega) rfl ?_);intro v1 hR1 hsx hfx;rw[hq1n] at hR1 ⊢;obtain⟨gr,hgre⟩:∃ x,x=v0.heap.size:=⟨_,rfl⟩
   rw[←hgre] at hR1 ⊢;have hG1:=hG0.trans hfx;have hgrW:w1.heap.size≤gr:=by rw[hgre];exact hG0.size
   refine WT (by exact trivial) ?_;refine WJ ?_ ?_
   ·refine WI rfl rfl (Wh M0 rfl (uD lo lc qs v1 (hvq.1.keep' hG1 (fun _ _ _=>id)) (by omega)) rfl ?_);rintro _ v2 ⟨io,ic,ids,rfl,hI2,hfI,hIds,hfx⟩;have hG2:=hG1.trans hfx;have hR2:=hR1.ZM hfx;have hgr2:gr<v2.heap.size:=hR2.lt _ rfl;have hnI:∀ a,io=some a→a.block≠gr:=fun a ha=>by have:=hfI a ha;omega
    refine WT (by exact trivial) ?_;refine WJ ?_ ?_
    ·refine WI rfl rfl (XE gM (by decide) kO C3 (by kernel_rfl) rfl rfl (by omega) (by omega) (by omega) (by omega) rfl ?_);intro v3 hF3 hsx hfx;rw[hq1n] at hF3 ⊢;obtain⟨gf,hgfe⟩:∃ x,x=v2.heap.size:=⟨_,rfl⟩
     rw[←hgfe] at hF3 ⊢;have hG3:=hG2.trans hfx;have hgfW:w1.heap.size≤gf:=by rw[hgfe];exact hG2.size
     have hI3:=hI2.ZM hfx;have hR3:=hR2.ZM hfx;have hnF:∀ a,io=some a→a.block≠gf:=fun a ha=>by have:=hI2.lt a ha;omega
     have hrf:gf≠gr:=by omega
     refine WT (by exact trivial) ?_;refine WB rfl rfl (bU (biC (.slice lo qs.length lc) (.slice io ids.length ic) sN sN sN sN sN sN (.slice (some ⟨gr,0,none⟩) (qs.length+1) (qs.length+1)) (.slice (some ⟨gf,0,none⟩) (qs.length+1) (qs.length+1)) sN sN 0) Ca IR) rfl ?_;refine WJ ?_ ?_
     ·refine WI rfl rfl (WO rfl rfl ?_);intro v4 hgm hsx hfx;obtain⟨gm,hgme⟩:∃ x,x=v3.heap.size:=⟨_,rfl⟩
      rw[←hgme] at hgm ⊢;have hG4:=hG3.trans hfx;have hI4:=hI3.ZM hfx;have hR4:=hR3.ZM hfx;have hF4:=hF3.ZM hfx;refine WT (by exact trivial) ?_;have hgr4:gr<gm:=by rw[hgme];exact hR3.lt _ rfl
      have hgf4:gf<gm:=by rw[hgme];exact hF3.lt _ rfl
      have hI3l:∀ a,io=some a→a.block<gm:=fun a ha=>by rw[hgme];exact hI3.lt a ha
      refine WB rfl rfl (W3 rfl) rfl ?_;refine Xz ?_;exact aC ⟨⟨ids,⟨io,ic⟩⟩,⟨gr,⟨gf,gm⟩⟩⟩ ⟨hIds,hI4,hR4,hF4,hgm,⟨hgrW,hgfW,hgr4,hgf4,hrf,by omega⟩,hI3l,hnI,hnF,hG4⟩
     exact WH
    exact WH
   refine WJ ?_ ?_
   ·refine WI rfl rfl (XE gM (by decide) kO C3 (by kernel_rfl) rfl rfl (by omega) (by omega) (by omega) (by omega) rfl ?_);intro v2 hF2 hsx hfx;rw[hq1n] at hF2 ⊢;obtain⟨gf,hgfe⟩:∃ x,x=v1.heap.size:=⟨_,rfl⟩
    rw[←hgfe] at hF2 ⊢;have hG2:=hG1.trans hfx;have hgfW:w1.heap.size≤gf:=by rw[hgfe];exact hG1.size
    have hR2:=hR1.ZM hfx;have hrf:gf≠gr:=by omega
    refine WT (by exact trivial) ?_;refine WJ ?_ ?_
    ·refine WI rfl rfl (Wh M0 rfl (uD lo lc qs v2 (hvq.1.keep' hG2 (fun _ _ _=>id)) (by omega)) rfl ?_);rintro _ v3 ⟨io,ic,ids,rfl,hI3,hfI,hIds,hfx⟩;have hG3:=hG2.trans hfx;have hR3:=hR2.ZM hfx;have hF3:=hF2.ZM hfx;have hnI:∀ a,io=some a→a.block≠gr:=fun a ha=>by have:=hfI a ha;omega
     have hnF:∀ a,io=some a→a.block≠gf:=fun a ha=>by have:=hfI a ha;omega
     refine WT (by exact trivial) ?_;refine WB rfl rfl (bU (biC (.slice lo qs.length lc) (.slice io ids.length ic) sN sN sN sN sN sN (.slice (some ⟨gr,0,none⟩) (qs.length+1) (qs.length+1)) (.slice (some ⟨gf,0,none⟩) (qs.length+1) (qs.length+1)) sN sN 0) Ca IR) rfl ?_;refine WJ ?_ ?_
     ·refine WI rfl rfl (WO rfl rfl ?_);intro v4 hgm hsx hfx;obtain⟨gm,hgme⟩:∃ x,x=v3.heap.size:=⟨_,rfl⟩
      rw[←hgme] at hgm ⊢;have hG4:=hG3.trans hfx;have hI4:=hI3.ZM hfx;have hR4:=hR3.ZM hfx;have hF4:=hF3.ZM hfx;refine WT (by exact trivial) ?_;have hgr4:gr<gm:=by rw[hgme];exact hR3.lt _ rfl
      have hgf4:gf<gm:=by rw[hgme];exact hF3.lt _ rfl
      have hI3l:∀ a,io=some a→a.block<gm:=fun a ha=>by rw[hgme];exact hI3.lt a ha
      refine WB rfl rfl (W3 rfl) rfl ?_;refine Xz ?_;exact aC ⟨⟨ids,⟨io,ic⟩⟩,⟨gr,⟨gf,gm⟩⟩⟩ ⟨hIds,hI4,hR4,hF4,hgm,⟨hgrW,hgfW,hgr4,hgf4,hrf,by omega⟩,hI3l,hnI,hnF,hG4⟩
     exact WH
    exact WH
   exact WH
  refine WJ ?_ ?_
  ·refine WI rfl rfl (XE gM (by decide) kO C3 (by kernel_rfl) rfl rfl (by omega) (by omega) (by omega) (by omega) rfl ?_);intro v1 hF1 hsx hfx;rw[hq1n] at hF1 ⊢;obtain⟨gf,hgfe⟩:∃ x,x=v0.heap.size:=⟨_,rfl⟩
   rw[←hgfe] at hF1 ⊢;have hG1:=hG0.trans hfx;have hgfW:w1.heap.size≤gf:=by rw[hgfe];exact hG0.size
   refine WT (by exact trivial) ?_;refine WJ ?_ ?_
   ·refine WI rfl rfl (Wh M0 rfl (uD lo lc qs v1 (hvq.1.keep' hG1 (fun _ _ _=>id)) (by omega)) rfl ?_);rintro _ v2 ⟨io,ic,ids,rfl,hI2,hfI,hIds,hfx⟩;have hG2:=hG1.trans hfx;have hF2:=hF1.ZM hfx;have hgf2:gf<v2.heap.size:=hF2.lt _ rfl;have hnF:∀ a,io=some a→a.block≠gf:=fun a ha=>by have:=hfI a ha;omega
    refine WT (by exact trivial) ?_;refine WJ ?_ ?_
    ·refine WI rfl rfl (Xp i64 0 bP z3 rfl rfl rfl (by omega) (by omega) (by omega) (by omega) rfl ?_);intro v3 hR3 hsx hfx;rw[hq1n] at hR3 ⊢;obtain⟨gr,hgre⟩:∃ x,x=v2.heap.size:=⟨_,rfl⟩
     rw[←hgre] at hR3 ⊢;have hG3:=hG2.trans hfx;have hgrW:w1.heap.size≤gr:=by rw[hgre];exact hG2.size
     have hI3:=hI2.ZM hfx;have hF3:=hF2.ZM hfx;have hnI:∀ a,io=some a→a.block≠gr:=fun a ha=>by have:=hI2.lt a ha;omega
     have hrf:gf≠gr:=by omega
     refine WT (by exact trivial) ?_;refine WB rfl rfl (bU (biC (.slice lo qs.length lc) (.slice io ids.length ic) sN sN sN sN sN sN (.slice (some ⟨gr,0,none⟩) (qs.length+1) (qs.length+1)) (.slice (some ⟨gf,0,none⟩) (qs.length+1) (qs.length+1)) sN sN 0) Ca IR) rfl ?_;refine WJ ?_ ?_
     ·refine WI rfl rfl (WO rfl rfl ?_);intro v4 hgm hsx hfx;obtain⟨gm,hgme⟩:∃ x,x=v3.heap.size:=⟨_,rfl⟩
      rw[←hgme] at hgm ⊢;have hG4:=hG3.trans hfx;have hI4:=hI3.ZM hfx;have hR4:=hR3.ZM hfx;have hF4:=hF3.ZM hfx;refine WT (by exact trivial) ?_;have hgr4:gr<gm:=by rw[hgme];exact hR3.lt _ rfl
      have hgf4:gf<gm:=by rw[hgme];exact hF3.lt _ rfl
      have hI3l:∀ a,io=some a→a.block<gm:=fun a ha=>by rw[hgme];exact hI3.lt a ha
      refine WB rfl rfl (W3 rfl) rfl ?_;refine Xz ?_;exact aC ⟨⟨ids,⟨io,ic⟩⟩,⟨gr,⟨gf,gm⟩⟩⟩ ⟨hIds,hI4,hR4,hF4,hgm,⟨hgrW,hgfW,hgr4,hgf4,hrf,by omega⟩,hI3l,hnI,hnF,hG4⟩
     exact WH
    exact WH
   refine WJ ?_ ?_
   ·refine WI rfl rfl (Xp i64 0 bP z3 rfl rfl rfl (by omega) (by omega) (by omega) (by omega) rfl ?_);intro v2 hR2 hsx hfx;rw[hq1n] at hR2 ⊢;obtain⟨gr,hgre⟩:∃ x,x=v1.heap.size:=⟨_,rfl⟩
    rw[←hgre] at hR2 ⊢;have hG2:=hG1.trans hfx;have hgrW:w1.heap.size≤gr:=by rw[hgre];exact hG1.size
    have hF2:=hF1.ZM hfx;have hrf:gf≠gr:=by omega
    refine WT (by exact trivial) ?_;refine WJ ?_ ?_
    ·refine WI rfl rfl (Wh M0 rfl (uD lo lc qs v2 (hvq.1.keep' hG2 (fun _ _ _=>id)) (by omega)) rfl ?_);rintro _ v3 ⟨io,ic,ids,rfl,hI3,hfI,hIds,hfx⟩;have hG3:=hG2.trans hfx;have hR3:=hR2.ZM hfx;have hF3:=hF2.ZM hfx;have hnI:∀ a,io=some a→a.block≠gr:=fun a ha=>by have:=hfI a ha;omega
     have hnF:∀ a,io=some a→a.block≠gf:=fun a ha=>by have:=hfI a ha;omega
     refine WT (by exact trivial) ?_;refine WB rfl rfl (bU (biC (.slice lo qs.length lc) (.slice io ids.length ic) sN sN sN sN sN sN (.slice (some ⟨gr,0,none⟩) (qs.length+1) (qs.length+1)) (.slice (some ⟨gf,0,none⟩) (qs.length+1) (qs.length+1)) sN sN 0) Ca IR) rfl ?_;refine WJ ?_ ?_
     ·refine WI rfl rfl (WO rfl rfl ?_);intro v4 hgm hsx hfx;obtain⟨gm,hgme⟩:∃ x,x=v3.heap.size:=⟨_,rfl⟩
      rw[←hgme] at hgm ⊢;have hG4:=hG3.trans hfx;have hI4:=hI3.ZM hfx;have hR4:=hR3.ZM hfx;have hF4:=hF3.ZM hfx;refine WT (by exact trivial) ?_;have hgr4:gr<gm:=by rw[hgme];exact hR3.lt _ rfl
      have hgf4:gf<gm:=by rw[hgme];exact hF3.lt _ rfl
      have hI3l:∀ a,io=some a→a.block<gm:=fun a ha=>by rw[hgme];exact hI3.lt a ha
      refine WB rfl rfl (W3 rfl) rfl ?_;refine Xz ?_;exact aC ⟨⟨ids,⟨io,ic⟩⟩,⟨gr,⟨gf,gm⟩⟩⟩ ⟨hIds,hI4,hR4,hF4,hgm,⟨hgrW,hgfW,hgr4,hgf4,hrf,by omega⟩,hI3l,hnI,hnF,hG4⟩
     exact WH
    exact WH
   exact WH
  exact WH
 rintro⟨⟨ids,⟨io,ic⟩⟩,⟨gr,⟨gf,gm⟩⟩⟩ v4 ⟨hIds,hI4,hR4,hF4,hgm,⟨hgrW,hgfW,hgr4,hgf4,hrf,hsx⟩,hI3l,hnI,hnF,hG4⟩;have hz4:=hG4.size;have hvq4:dG (fun k=>k<W.heap.size) v4.heap lo lc qs:=eG hvq hG4 (fun _ _=>id) (fun _ _ _=>id) (fun _=>id);have hid80:=yQ hIds;have hrep:∀ z∈bg (qs.length+1) (0:Int),z=0:=fun z hz=>jd hz;refine Gz 2 ?_;refine cL (WA (cs:=#[iV 64,sN,sN]) RG Rr rfl (by kernel_rfl)) ?_;refine Wn Rr rfl ?_;intro w5 hg5 hs5 hf5;obtain⟨g7,hg7e⟩:∃ x,x=v4.heap.size:=⟨_,rfl⟩
 rw[←hg7e] at hg5 ⊢;refine sA rfl Uh (by simp[Value.oneCell']) hg5 ?_;intro w6 hg6 hs6 hf6;have hF46:aA nob v4 w6:=hf5.tw hf6;have hR6:RyO (· = g7) w6.heap g7 64 ⟨[],[]⟩:=RyO.zero hg6;refine Gz 4 ?_;refine cL (WA (cs:=#[sN]) RF Rq rfl (by kernel_rfl)) ?_;refine Wn Rq rfl ?_;intro w7 hg7 hs7 hf7;obtain⟨g8,hg8e⟩:∃ x,x=w6.heap.size:=⟨_,rfl⟩
 rw[←hg8e] at hg7 ⊢;refine sA rfl Ug (by simp[Value.oneCell']) hg7 ?_;intro w8 hg8 hs8 hf8;have hF68:aA nob w6 w8:=hf7.tw hf8;have hP8:yC (· = g8) w8.heap g8 []:=yC.zero hg8;have hR8:=hR6.ZN hF68 (fun _ _ _=>id);have hF48:=hF46.trans hF68;refine Gz 9 ?_;refine Wp (β:=(Nat×FSt)×((Nat→Prop)×(Nat→Prop))) (fun⟨⟨k,s⟩,⟨D7,D8⟩⟩=>[(0,.slice lo qs.length lc),(5,pT gm),(6,pT g7),(7,pT g8),(8,iV k)]) (fun⟨⟨k,s⟩,⟨D7,D8⟩⟩ w=>k≤qs.length∧s=(nds (qs.take k)).foldl iZ (fs0 (qs.length+1))∧s.ds.m.length≤k∧FI (nds (qs.take k)) (qs.length+1) s∧RyO D7 w.heap g7 64 s.ds∧yC D8 w.heap g8 s.tails∧(∀ k,D7 k→v4.heap.size≤k∧k<w.heap.size)∧(∀ k,D8 k→v4.heap.size≤k∧k<w.heap.size)∧(∀ k,D7 k→¬ D8 k)∧bJ 11 Bo 84 w.heap (some ⟨gf,0,none⟩) (qs.length+1) s.files∧aA (· = gf) v4 w) (fun⟨⟨k,s⟩,⟨D7,D8⟩⟩=>qs.length-k) ⟨⟨0,fs0 (qs.length+1)⟩,⟨(· = g7),(· = g8)⟩⟩ ⟨rfl,rfl,rfl,rfl,rfl,trivial⟩ ⟨ZZ _,rfl,ZZ _,fi0 _,hR8,hP8,fun k h=>by have h:k=g7:=h;omega,fun k h=>by have h:k=g8:=h;omega,fun k h h2=>by have h:k=g7:=h;have h2:k=g8:=h2;omega,hF4.ZM hF48,hF48.any⟩ ?_;rintro⟨⟨k,s⟩,⟨D7,D8⟩⟩ w9 ⟨hk,hs,hmc,hFI,hM,hP,hd7,hd8,hd78,hFf,hF9⟩;refine fK 6 ?_ ?_<;>intro h50
 ·have hkl:k<qs.length:=by omega
  obtain⟨q,hq⟩:∃ q,qs[k]?=some q:=⟨_,ZQ hkl⟩
  have hqm:=ZW hq;have hqi:=G.ino q hqm;obtain⟨m,hm⟩:=az (show 0≤q.2.ino by omega);have hml:m<s.files.length:=by rw[hFI.l];omega
  obtain⟨f,hf⟩:∃ f,s.files[m]?=some f:=⟨_,ZQ hml⟩
  have hfd:s.files.getD q.2.ino.toNat kO=f:=by rw[show q.2.ino.toNat=m by omega,Z2,hf];rfl
  have hdat:q.2.data.length≤4096:=(G.may q hqm).2.2.2.2.2.2.1;have hnd:dG (fun k=>k<W.heap.size) w9.heap lo lc qs:=eG hvq4 hF9 (fun k hk h=>by have h:k=gf:=h;have hk:k<W.heap.size:=hk;omega) (fun _ k hk h=>by have h:k=gf:=h;have:=hlo1 k hk;omega) (fun _=>id);have hgm9:=hF9.obj hgm (fun h=>by have h:gm=gf:=h;omega);have hz9:=hF9.size;obtain⟨hqv1,hqv2,hqv3⟩:=hnd.2 q hqm;have hFl:=hFI.l;refine Gz 1 ?_;refine aW [(0,_),(5,_),(6,_),(7,_),(8,_),(50,_)] ?_;refine Gz 4 ?_;refine WL (β:=FSt×((Nat→Prop)×(Nat→Prop))) (fun⟨s,⟨D7,D8⟩⟩=>[(0,.slice lo qs.length lc),(5,pT gm),(6,pT g7),(7,pT g8),(8,iV k)]) (fun⟨s,⟨D7,D8⟩⟩ w=>s=(nds (qs.take (k+1))).foldl iZ (fs0 (qs.length+1))∧s.ds.m.length≤k+1∧FI (nds (qs.take (k+1))) (qs.length+1) s∧RyO D7 w.heap g7 64 s.ds∧yC D8 w.heap g8 s.tails∧(∀ k,D7 k→v4.heap.size≤k∧k<w.heap.size)∧(∀ k,D8 k→v4.heap.size≤k∧k<w.heap.size)∧(∀ k,D7 k→¬ D8 k)∧bJ 11 Bo 84 w.heap (some ⟨gf,0,none⟩) (qs.length+1) s.files∧aA (· = gf) v4 w) ?_ ?_
  ·refine Gz 5 ?_;refine cL (Wj bR rfl rfl hnd.1.non (by omega)) ?_;refine cL (Ws (cs:=aV q) gQ rfl (fun j v hj=>hnd.1.rowZ k rfl hq j v hj)) ?_;refine Wn oT rfl ?_;intro w10 hg10 hs10 hf10;obtain⟨gn,hgne⟩:∃ x,x=w9.heap.size:=⟨_,rfl⟩
   rw[←hgne] at hg10 ⊢;refine WP (vs:=aV q) gQ rfl rfl (aE q).2 hg10 rfl ?_;intro w11 hgn hs11 hf11;have hf911:aA nob w9 w11:=hf10.tw hf11;have hgm11:=hf911.obj hgm9 id;have hFf11:=hFf.ZM hf911;have hM11:=hM.ZN hf911 (fun _ _ _=>id);have hP11:=hP.ZN hf911 (fun _ _=>id);have hFv:=hFf11.vw gM;have hF11:aA (· = gf) v4 w11:=hF9.trans hf911.any;refine Gz 4 ?_;refine Ww 15 [0,1,2,3,4,5,6,7,8,9,10,11,12,13,14] aK (by kernel_rfl) ?_;refine Gz 1 ?_;refine xC rfl (Wk aF rfl (aB hgn rfl)) ?_;refine xK 0 ?_ ?_<;>intro h59
   ·have hsk:iZ s q.2=s:=FH (.inl h59);refine Gz 18 ?_;have hs2:=AR hq (fs0 (qs.length+1));rw[←hs] at hs2;have hFI2:=vC hFI (x:=q.2) ⟨by omega,by omega⟩ hdat;rw[←Dj hq] at hFI2;rw[hsk] at hs2 hFI2;exact aC ⟨s,⟨D7,D8⟩⟩ ⟨hs2.symm,by omega,hFI2,hM11,hP11,fun k hk=>by have:=hd7 k hk;exact⟨by omega,by show k<w11.heap.size;omega⟩,fun k hk=>by have:=hd8 k hk;exact⟨by omega,by show k<w11.heap.size;omega⟩,hd78,hFf11,hF11.draws 1⟩
   have hk2:q.2.kind=2:=br.1 h59;have hf11d:aA nob w11 (w11.drewN 1):=Zo 1;refine Gz 4 ?_;refine xV rfl (Wk PI rfl (aB hgm11 rfl)) ?_;refine Gz 1 ?_;refine xV rfl (Wk aF rfl (aB hgn rfl)) ?_;refine xV rfl (Wj C3 rfl rfl (by simp) (by omega)) ?_;refine Gz 1 ?_;refine xV rfl (Wk aF rfl (hFv.rowZ m hm hf 0 _ rfl)) ?_;refine xW 0 ?_ ?_<;>intro h70
   ·have hsk:iZ s q.2=s:=FH (.inr (by rw[hfd];exact h70));refine Gz 7 ?_;have hs2:=AR hq (fs0 (qs.length+1));rw[←hs] at hs2;have hFI2:=vC hFI (x:=q.2) ⟨by omega,by omega⟩ hdat;rw[←Dj hq] at hFI2;rw[hsk] at hs2 hFI2;exact aC ⟨s,⟨D7,D8⟩⟩ ⟨hs2.symm,by omega,hFI2,hM11,hP11,fun k hk=>by have:=hd7 k hk;exact⟨by omega,by show k<w11.heap.size;omega⟩,fun k hk=>by have:=hd8 k hk;exact⟨by omega,by show k<w11.heap.size;omega⟩,hd78,hFf11,hF11.draws 1⟩
   have hnf:¬ (q.2.kind≠2∨(s.files.getD q.2.ino.toNat kO).1 0=2):=by rw[hfd];rintro(h|h);exact h hk2;exact h70 h
   obtain⟨R1,hR1⟩:∃ R,R=jV 64 s.ds q.2.data:=⟨_,rfl⟩
   obtain⟨R2,hR2⟩:∃ R,R=fF s.tails (fQ q.2.data):=⟨_,rfl⟩
   obtain⟨fN,hfN⟩:∃ f:Ino,f=(fun j=>[2,0,0,0,0,0,(R1.2:Int),q.2.data.length,(R2.2.1:Int),(R2.2.2:Int)].getD j 0,[]):=⟨_,rfl⟩
   have hsn:iZ s q.2=⟨R1.1,R2.1,s.files.set m fN⟩:=by unfold iZ;rw[ZO hnf,←hR1,←hR2,hfN,show q.2.ino.toNat=m by omega]
   refine Gz 9 ?_;refine cL (Wm (u:=.slice q.1.data.a q.2.data.length q.1.data.c) (Wk aX rfl (aB hgn rfl)) (by rw[←hqv2.1];rfl)) ?_;refine Wh VZ rfl (Jw D7 g7 64 s.ds q.1.data.a q.1.data.c q.2.data (w11.drewN 1) (hM11.ZN hf11d (fun _ _ _=>id)) ((hqv2.2.1.ZM hf911).ZM hf11d) (by decide) (by have:=hFI.b;rw[aa,ZT] at this;omega) (by omega) (by omega)) rfl ?_;rw[←hR1];rintro _ w12 ⟨o12,c12,rfl,ho12,hfr12,hM12,hf12⟩;have hf12:=hf12.ZK;have hM12:RyO (fun k=>Nx D7 w11 w12 k∧¬ blk o12 k) w12.heap g7 64 R1.1:=hM12;have hz12:=hf12.size;have hP12:=hP11.ZN hf12 (fun k hk h=>hd78 k h hk);refine Gz 10 ?_;refine Wh VY rfl (Ox D8 g8 s.tails o12 c12 (fQ q.2.data) w12 hP12 (fun k hk=>by have:=hd8 k hk;omega) ho12.vw (by have:=hFI.tn;rw[aa,ZT] at this;omega) (fun x hx=>by have:=hFI.t x hx;omega)) rfl ?_;rw[←hR2];rintro _ w13 ⟨rfl,D8b,hP13,hD8a,hD8b,hf13⟩;have hz13:=hf13.size;have hgm13:=hf13.obj (hf12.obj hgm11 (fun h=>by have:=hd7 gm h;omega)) (fun h=>by have:=hd8 gm h;omega);have hgn13:=hf13.obj (hf12.obj hgn (fun h=>by have:=hd7 gn h;omega)) (fun h=>by have:=hd8 gn h;omega);have hFf13:=(hFf11.ZN hf12 (fun a ha h=>by cases ha;have:=hd7 gf h;omega)).ZN hf13 (fun a ha h=>by cases ha;have:=hd8 gf h;omega);have hM13:=hM12.ZN hf13 (fun k _ hk h=>by rcases hk.1 with h2|h2;exact hd78 k h2 h;have:=hd8 k h;omega);have hF13:aA (· = gf) v4 w13:=(hF11.ZJ hf12 (fun k h=>.inr (hd7 k h).1)).ZJ hf13 (fun k h=>.inr (hd8 k h).1);refine Gz 7 ?_;refine Wv 14 (fun H=>H[gm]?=some (.cells (biC (.slice lo qs.length lc) (.slice io ids.length ic) sN sN sN sN sN sN (.slice (some ⟨gr,0,none⟩) (qs.length+1) (qs.length+1)) (.slice (some ⟨gf,0,none⟩) (qs.length+1) (qs.length+1)) sN sN 0).toArray 76 (0,0))∧H[gn]?=some (.cells (aV q).toArray 68 (0,0))) [14] [0,1,2,3,4,5,6,7,8,9,10,11,12,13,14] aK (by kernel_rfl) (⟨hgm13,hgn13⟩) ?_;refine Gz 8 ?_;refine xC rfl (Wm (u:=.slice q.1.data.a q.2.data.length q.1.data.c) (Wt aX rfl (fun H hH=>aB hH.2 rfl)) (by rw[←hqv2.1];rfl)) ?_;refine Gz 3 ?_;refine xC rfl (bU (Bo (fun j=>[2,0,0,0,0,0,(R1.2:Int),q.2.data.length,(R2.2.1:Int),(R2.2.2:Int)].getD j 0,[])) qT mO) ?_;rw[←hfN];refine xC rfl (Wj C3 rfl rfl (by simp) (by omega)) ?_;refine Wo rfl rfl (YH gM (u:=fN) (i:=m) hml bM rfl (by rw[hm,ak]) rfl hFf13 ?_);intro w14 ho14 hs14 hf14;refine WW rfl ?_;have hs14b:w14.heap.size=w13.heap.size:=hs14;have hgb:∀ k,blk (some (⟨gf,0,none⟩:Addr)) k→k=gf:=fun k ⟨a,ha,e⟩=>by cases ha;exact e.symm
   have hf14:=hf14.ZK;have hM14:=hM13.ZN (hf14.mono hgb) (fun k _ hk h=>by rw[h] at hk;rcases hk.1 with h2|h2;have:=hd7 gf h2;omega;omega);have hP14:=hP13.ZN (hf14.mono hgb) (fun k hk h=>by have h:k=gf:=h;rw[h] at hk;rcases hD8a gf hk with h2|h2;have:=hd8 gf h2;omega;omega);have hF14:aA (· = gf) v4 w14:=hF13.trans (hf14.mono hgb);refine Gz 2 ?_;have hs2:=AR hq (fs0 (qs.length+1));rw[←hs] at hs2;have hFI2:=vC hFI (x:=q.2) ⟨by omega,by omega⟩ hdat;rw[←Dj hq] at hFI2;have hmm:=PQ 0 [q.2] s;have hmm:(iZ s q.2).ds.m.length≤s.ds.m.length+1:=hmm;rw[hsn] at hs2 hFI2 hmm;exact aC ⟨⟨R1.1,R2.1,s.files.set m fN⟩,⟨(fun k=>Nx D7 w11 w12 k∧¬ blk o12 k),D8b⟩⟩ ⟨hs2.symm,by omega,hFI2,hM14,hP14,fun k hk=>by rcases hk.1 with h|h;have:=hd7 k h;omega;omega,fun k hk=>by have:=hD8b k hk;rcases hD8a k hk with h|h;have:=hd8 k h;omega;omega,fun k hk h=>by rcases hD8a k h with h2|h2;rcases hk.1 with h3|h3;exact hd78 k h3 h2;have:=hd8 k h2;omega;rcases hk.1 with h3|h3;have:=hd7 k h3;omega;omega,ho14,hF14⟩
  rintro⟨s,⟨D7,D8⟩⟩ w15 ⟨hs,hmc,hFI,hM,hP,hd7,hd8,hd78,hFf,hF9⟩;refine Gz 5 ?_;exact aG ⟨⟨k+1,s⟩,⟨D7,D8⟩⟩ ⟨by omega,hs,hmc,hFI,hM,hP,hd7,hd8,hd78,hFf,hF9⟩ (by show qs.length-(k+1)<qs.length-k;omega)
 have hke:k=qs.length:=by omega
 subst hke;rw[be] at hs hFI;have hs:s=cB qs:=hs;subst hs;have hz9:=hF9.size;refine Gz 1 ?_;refine aW [(0,_),(5,_),(6,_),(7,_),(8,_),(50,_)] ?_;refine Gz 9 ?_;refine WC i64 bP rfl ?_;intro w10 ho10 hs10 hf10;obtain⟨pb,hpb⟩:∃ x,x=w9.heap.size:=⟨_,rfl⟩
 rw[←hpb] at ho10 ⊢;obtain⟨L,hL⟩:∃ L,L=(cB qs).tails:=⟨_,rfl⟩
 have hLn:L.length≤40:=by have:=hFI.tn;rw[aa] at this;rw[hL];omega
 have hLb:F3 L:=by rw[hL];exact hFI.t
 have hdB:(cB qs).ds.B.length≤172800:=by have:=hFI.b;rw[aa] at this;omega
 rw[←hL] at hP;refine Gz 10 ?_;refine Wp (β:=(Nat×(DS×List Int))×((Nat→Prop)×(Option Addr×Nat))) (fun⟨⟨j,⟨d9,pl9⟩⟩,⟨D9,⟨po,pc⟩⟩⟩=>[(0,.slice lo qs.length lc),(5,pT gm),(6,pT g7),(7,pT g8),(14,.slice po pl9.length pc),(15,iV j)]) (fun⟨⟨j,⟨d9,pl9⟩⟩,⟨D9,⟨po,pc⟩⟩⟩ w=>j≤L.length∧gC (L.take j) (cB qs).ds=(d9,pl9)∧w9.heap.size≤w.heap.size∧RyO D9 w.heap g7 64 d9∧yC D8 w.heap g8 L∧(∀ k,D9 k→v4.heap.size≤k∧k<w.heap.size)∧(∀ k,D9 k→¬ D8 k)∧Own i64 3 w.heap po pc pl9∧(∀ k,blk po k→v4.heap.size≤k∧¬ D9 k∧¬ D8 k)∧bJ 11 Bo 84 w.heap (some ⟨gf,0,none⟩) (qs.length+1) (cB qs).files∧aA (· = gf) v4 w) (fun⟨⟨j,⟨d9,pl9⟩⟩,⟨D9,⟨po,pc⟩⟩⟩=>L.length-j) ⟨⟨0,⟨(cB qs).ds,[]⟩⟩,⟨D7,⟨some ⟨pb,0,none⟩,0⟩⟩⟩ ⟨rfl,rfl,rfl,rfl,rfl,rfl,trivial⟩ ⟨ZZ _,rfl,by omega,hM.ZN hf10 (fun _ _ _=>id),hP.ZN hf10 (fun _ _=>id),fun k h=>by have:=hd7 k h;omega,hd78,ho10,fun k ⟨a,ha,e⟩=>by cases ha;have e:pb=k:=e;exact⟨by omega,fun h=>by have:=hd7 k h;omega,fun h=>by have:=hd8 k h;omega⟩,hFf.ZM hf10,hF9.trans hf10.any⟩ ?_;rintro⟨⟨j,⟨d9,pl9⟩⟩,⟨D9,⟨po,pc⟩⟩⟩ w11 ⟨hj,htl,hz911,hM9,hPr,hd9,hd98,hpo,hpd,hFl,hF11⟩;obtain⟨Din,ao,ac,gs,hgT,hgo,hrw,_⟩:=id hPr;have hgl:=hrw.1;refine fK 7 ?_ ?_<;>intro h102
 ·have hjl:j<L.length:=by omega
  have hjg:j<gs.length:=by omega
  obtain⟨t,ht⟩:∃ t,L[j]?=some t:=⟨_,ZQ hjl⟩
  obtain⟨g,hg⟩:∃ g,gs[j]?=some g:=⟨_,ZQ hjg⟩
  obtain⟨hgn,hgv,_⟩:=hrw.2 j g t hg ht;have htb:=hLb t (ZW ht);have htk:L.take (j+1)=L.take j++[t]:=tkL ht;have hsn:=BE (L.take j) t (cB qs).ds;rw[←htk,htl] at hsn;have hdb9:d9.B.length≤200000:=by have h:=KV (L:=L.take j) (fun b hb=>hLb b (dj hb)) (cB qs).ds;rw[htl,ZT] at h;have h:d9.B.length≤_:=h;omega
  have hplj:pl9.length=j:=by have h:=nR (L.take j) (cB qs).ds;rw[htl,ZT] at h;have h:pl9.length=_:=h;omega
  refine Gz 1 ?_;refine aW [(0,_),(5,_),(6,_),(7,_),(14,_),(15,_),(102,_)] ?_;refine Gz 11 ?_;refine cL (Wi sC rfl rfl hgo.vw.non (by omega)) ?_;refine cL (Wm (u:=.slice g.a t.length g.c) (Wk aX rfl (by rw[ak];exact hgo.vw.get j g hg)) (by rw[←hgn];rfl)) ?_;refine Wh VX rfl (EG D9 g7 64 d9 g.a g.c t w11 hM9 hgv (by decide) (by omega) htb.2) rfl ?_;obtain⟨R,hR⟩:∃ R,R=pX 64 d9 t:=⟨_,rfl⟩
  rw[←hR] at hsn ⊢;rintro _ w12 ⟨rfl,hM12,hf12⟩;have hz12:=hf12.size;have hpo12:=hpo.ZN hf12 (fun a ha h=>(hpd _ ⟨a,ha,rfl⟩).2.1 h);have hP12:=hPr.ZN hf12 (fun k hk h=>hd98 k h hk);refine WS (enc:=i64) (u:=(R.2:Int)) bP rfl rfl rfl ?_;intro w13 ho13 hs13 hf13;refine Wq mI bP rfl rfl (hpo12.ZM hf13) ho13.vw (by simp only[ZU];omega) (by simp only[ZU];unfold maxLen;omega) rfl ?_;intro po14 pc14 w14 ho14 hf14 hr14 hn14;have hz14:=hf14.size;have hnx:∀ k,Nx D9 w11 w12 k→v4.heap.size≤k∧k<w14.heap.size∧¬ D8 k∧¬ blk po k:=fun k hk=>by
   rcases hk with h|h
   ·have:=hd9 k h;exact⟨by omega,by omega,hd98 k h,fun hb=>(hpd k hb).2.1 h⟩
   ·exact⟨by omega,by omega,fun h2=>by have:=hd8 k h2;omega,fun⟨a,ha,e⟩=>by have:=hpo.lt a ha;omega⟩
  have hM14:=(hM12.ZN hf13 (fun _ _ _=>id)).ZN hf14 (fun k _ hk=>(hnx k hk).2.2.2);have hP14:=(hP12.ZN hf13 (fun _ _=>id)).ZN hf14 (fun k hk hb=>(hpd k hb).2.2 hk);have hF14:aA (· = gf) v4 w14:=((hF11.ZJ hf12 (fun k h=>.inr (hd9 k h).1)).trans hf13.any).ZJ hf14 (fun k h=>.inr (hpd k h).1);have hpd14:∀ k,blk po14 k→v4.heap.size≤k∧¬ Nx D9 w11 w12 k∧¬ D8 k:=fun k ⟨a,ha,e⟩=>by
   rcases hr14 a ha with h|h
   ·have:=hpd k ⟨a,h,e⟩;exact⟨this.1,fun h2=>(hnx k h2).2.2.2 ⟨a,h,e⟩,this.2.2⟩
   ·exact⟨by omega,fun h2=>by rcases h2 with h2|h2;have:=hd9 k h2;omega;omega,fun h2=>by have:=hd8 k h2;omega⟩
  refine Gz 9 ?_;exact aG ⟨⟨j+1,⟨R.1,pl9++[(R.2:Int)]⟩⟩,⟨Nx D9 w11 w12,⟨po14,pc14⟩⟩⟩ ⟨by omega,hsn,by omega,hM14,hP14,fun k hk=>by have:=hnx k hk;omega,fun k hk=>(hnx k hk).2.2.1,ho14,hpd14,((hFl.ZN hf12 (fun a ha h=>by cases ha;have:=hd9 gf h;omega)).ZM hf13).ZN hf14 (fun a ha h=>by cases ha;have:=(hpd gf h).1;omega),hF14⟩ (by show L.length-(j+1)<L.length-j;omega)
 have hje:j=L.length:=by omega
 subst hje;rw[be] at htl;refine Gz 1 ?_;refine aW [(0,_),(5,_),(6,_),(7,_),(14,_),(15,_),(102,_)] ?_;refine Gz 10 ?_;have hz11:=hF11.size;have hAll:=IM G hIds;have hGd:=G.gdB hFI.l (M5 hFI);have htl2:gC (cB qs).tails (cB qs).ds=(d9,pl9):=by rw[←hL];exact htl
 have hpl9:pl9.length=L.length:=by have h:=nR L (cB qs).ds;rw[htl] at h;exact h
 obtain⟨ow0,how⟩:∃ f:Nat→Nat,f=fun k=>if k=gm then 6 else if k=gr then 5 else if k<v4.heap.size then 4 else 0:=⟨_,rfl⟩
 have o6:ow0 gm=6:=by rw[how];exact ZP rfl
 have o4:∀ k,k<v4.heap.size→k≠gm→k≠gr→ow0 k=4:=fun k h1 h2 h3=>by rw[how];show (if k=gm then 6 else if k=gr then 5 else if k<v4.heap.size then 4 else 0)=4;rw[ZO h2,ZO h3,ZP h1]
 have o0:∀ k,v4.heap.size≤k→ow0 k=0:=fun k h=>by rw[how];show (if k=gm then 6 else if k=gr then 5 else if k<v4.heap.size then 4 else 0)=0;rw[ZO (by omega),ZO (by omega),ZO (by omega)]
 have o5:ow0 gr=5:=by rw[how];show (if gr=gm then 6 else if gr=gr then 5 else if gr<v4.heap.size then 4 else 0)=5;rw[ZO (by omega),ZP rfl]
 have hn0:∀ k,w11.heap.size≤k→ow0 k=0:=fun k hk=>o0 k (by omega);have hnd11:dG (fun k=>ow0 k=4) w11.heap lo lc qs:=eG hvq4 hF11 (fun k hk h=>by have h:k=gf:=h;have hk:k<W.heap.size:=hk;omega) (fun _ k hk h=>by have h:k=gf:=h;have:=hlo1 k hk;omega) (fun k hk=>o4 k (by omega) (by omega) (by omega));have hI11:=hI4.ZN hF11 (fun a ha h=>by have h:a.block=gf:=h;exact absurd h (hnF a ha));have hR11:=hR4.ZN hF11 (fun a ha h=>by cases ha;exact hrf h.symm);have hgm11:=hF11.obj hgm (fun h=>by have h:gm=gf:=h;omega);obtain⟨a0,ha0⟩:∃ a:BiA,a=⟨lo,lc,io,ic,none,0,none,0,none,0,none,0,none,0,none,0,some ⟨gr,0,none⟩,qs.length+1,some ⟨gf,0,none⟩,qs.length+1,none,0,none,0,[]⟩:=⟨_,rfl⟩
 have hW0:∀ z,WrM ow0 z w11.heap [] none 0 none 0:=fun z=>by
  have e:bI [] []=(([]:By),([]:By)):=dZ (by decide);unfold WrM;rw[e];exact⟨Zu,Zu,Zq,fun k ⟨a,ha,_⟩=>(by cases ha),fun k ⟨a,ha,_⟩=>(by cases ha)⟩
 have hBi:BiW a0 ow0 w11.heap gm qs ids (cB qs).files (vO (qs.length+1)):=by
  have e:bI [] []=(([]:By),([]:By)):=dZ (by decide);subst ha0;refine⟨?_,o6,⟨hnd11,fun _ k hk=>o4 k (by have:=hlo1 k hk;omega) (by have:=hlo1 k hk;omega) (by have:=hlo1 k hk;omega)⟩,⟨hI11.vw,fun k ⟨a,ha,e⟩=>o4 k (by have:=hI3l a ha;omega) (by have:=hI3l a ha;omega) (by have:=hnI a ha;omega)⟩,⟨hFl.vw gM,fun k ⟨a,ha,e⟩=>by cases ha;have e:gf=k:=e;rw[←e];exact o4 gf (by omega) (by omega) hrf⟩,hW0 1,hW0 2,hW0 3,⟨hR11,fun k ⟨a,ha,e⟩=>by cases ha;have e:gr=k:=e;rw[←e];exact o5⟩,⟨Zu,fun k ⟨a,ha,_⟩=>(by cases ha)⟩,⟨rfl,fun i h y hh _=>(by cases hh)⟩,Zu,fun k ⟨a,ha,_⟩=>(by cases ha)⟩;unfold biK;rw[hFI.l];have e1:(vO (qs.length+1)).refs.length=qs.length+1:=cj;rw[e1];show w11.heap[gm]?=some (.cells (biC _ _ (.slice none (bI [] []).1.length 0) (.slice none (bI [] []).2.length 0) (.slice none (bI [] []).1.length 0) (.slice none (bI [] []).2.length 0) (.slice none (bI [] []).1.length 0) (.slice none (bI [] []).2.length 0) _ _ _ _ _).toArray _ _);rw[e];exact hgm11
 have hok0:okS qs (vO (qs.length+1)):=⟨cj,⟨fun z hz=>by rw[hrep z hz];decide,fun y hy=>(by cases hy)⟩,fun y hy=>(by cases hy)⟩
 refine Wh Sf rfl (BO gm qs ids (cB qs).files hGd 17 a0 ow0 (vO (qs.length+1)) ((0:Nat):Int) w11 hBi hn0 ⟨by omega,by omega⟩ (by omega) hok0 hAll.b) rfl ?_;rintro _ w15 hP15;obtain⟨S,hS⟩:∃ S,S=wrB qs ids (cB qs).files 17 ((0:Nat):Int) (vO (qs.length+1)):=⟨_,rfl⟩
 rw[←hS] at hP15;obtain⟨hf15,a15,ow15,hM15,hl15,hn15,hbr15⟩:=hP15;have hz15:=hf15.size;have hAs:(aI qs ids).s=S:=hS.symm;have hAd:(aI qs ids).d=d9:=by show (gC (cB qs).tails (cB qs).ds).1=d9;rw[htl2]
 have hAp:(aI qs ids).pl=pl9:=by show (gC (cB qs).tails (cB qs).ds).2=pl9;rw[htl2]
 have hAm:=hAll.m;have hAi:=hAll.i;have hAl:=hAll.l;have hAf:=hAll.f;rw[hAs] at hAm hAi hAl hAf;have hAn4:=hAll.n4;have hAn2:=hAll.n2;rw[hAp] at hAn4;have hv15:=hnd11.1.keep' hf15 (fun hne a ha h=>h.2 (o4 a.block (by have:=hlo1 _ ⟨a,ha,rfl⟩;omega) (by have:=hlo1 _ ⟨a,ha,rfl⟩;omega) (by have:=hlo1 _ ⟨a,ha,rfl⟩;omega)));have hd9o:∀ k,D9 k→¬ Lb ow0 k:=fun k hk h=>h.1 (o0 k (hd9 k hk).1);have hM15b:=hM9.ZN hf15 (fun k _ hk=>hd9o k hk);have hpo15:=hpo.ZN hf15 (fun a ha h=>h.1 (o0 _ (hpd _ ⟨a,ha,rfl⟩).1));have hFw:aA nob w1 w15:=(hG4.any (S:=nob)).ZJ ((hF11.mono (S':=fun k=>k=gf∨Lb ow0 k) (fun k h=>.inl h)).ZJ hf15 (fun k h=>.inl (.inr h))) (fun k h=>.inr (by rcases h with h|h;omega;have h2:=h.1;have h3:=h.2;by_cases hk:k<w1.heap.size;exact absurd (o4 k (by omega) (by omega) (by omega)) h3;omega));refine Gz 4 ?_;refine cL (WA (cs:=#[sN,sN]) PL NS rfl (by kernel_rfl)) ?_;refine Wn NS rfl ?_;intro w16 hg16 hs16 hf16;obtain⟨gA,hgA⟩:∃ x,x=w15.heap.size:=⟨_,rfl⟩
 rw[←hgA] at hg16 ⊢;refine sA rfl Qi (by simp[Value.oneCell']) hg16 ?_;intro w17 hg17 hs17 hf17;have hf1517:aA nob w15 w17:=hf16.tw hf17;have hA17:=RwO.zero hg17;refine Gz 5 ?_;refine Wh Se rfl (xJ po pc pl9 4 w17 (hpo15.ZM hf1517).vw (by omega)) rfl ?_;rintro _ w18 ⟨o18,c18,rfl,ho18,hfr18,hf18⟩;have hz18:=hf18.size;refine Gz 10 ?_;refine Wh MZ rfl (BV (· = gA) gA [] o18 c18 (aL pl9 4).1 w18 (hA17.ZN hf18 (fun _ _=>id)) ho18.vw (fun _ k ⟨a,ha,e⟩ h=>by have:=hfr18 a ha;have h:k=gA:=h;omega) (by simp only[Z7];omega)) rfl ?_;rw[aq];rintro _ w19 ⟨_,hA19,hf19⟩;have hz19:=hf19.size;refine Gz 4 ?_;refine cL (WA (cs:=#[sN,sN]) PL NS rfl (by kernel_rfl)) ?_;refine Wn NS rfl ?_;intro w20 hg20 hs20 hf20;obtain⟨gB,hgB⟩:∃ x,x=w19.heap.size:=⟨_,rfl⟩
 rw[←hgB] at hg20 ⊢;refine sA rfl Qi (by simp[Value.oneCell']) hg20 ?_;intro w21 hg21 hs21 hf21;have hf1921:aA nob w19 w21:=hf20.tw hf21;have hB21:=RwO.zero hg21;have hA21:=hA19.ZN hf1921 (fun _ _=>id);have hf1519:aA (· = gA) w15 w19:=(((hf1517.trans hf18).any)).trans hf19;have hf1521:aA (· = gA) w15 w21:=hf1519.trans hf1921.any;have hM21:=hM15.ZN hf1521 (fun k hk h=>hk (by have h:k=gA:=h;exact hn15 k (by omega))) (fun _ _=>rfl);refine Gz 7 ?_;refine cL (Wk mU rfl (aB hM21.1 rfl)) ?_;refine Wh Se rfl (xJ a15.io a15.ic ids 2 w21 hM21.2.2.2.1.1 (by omega)) rfl ?_;rintro _ w22 ⟨o22,c22,rfl,ho22,hfr22,hf22⟩;have hz22:=hf22.size;refine Gz 9 ?_;refine Wh MZ rfl (BV (· = gB) gB [] o22 c22 (aL ids 2).1 w22 (hB21.ZN hf22 (fun _ _=>id)) ho22.vw (fun _ k ⟨a,ha,e⟩ h=>by have:=hfr22 a ha;have h:k=gB:=h;omega) (by simp only[Z7];omega)) rfl ?_;rw[aq];rintro _ w23 ⟨_,hB23,hf23⟩;have hz23:=hf23.size;have hnB:∀ k,ow15 k≠0→¬ k=gB:=fun k hk h=>hk (hn15 k (by omega));have hM23:=(hM21.ZM hf22).ZN hf23 (fun k hk h=>hnB k hk h) (fun _ _=>rfl);have hA23:=(hA21.ZN hf22 (fun _ _=>id)).ZN hf23 (fun k hk h=>by have h:k=gB:=h;rcases hk with h2|h2;have h2:k=gA:=h2;omega;omega);have hf1523:aA (fun k=>k=gA∨k=gB) w15 w23:=((hf1521.mono (fun k h=>.inl h)).trans hf22.any).trans (hf23.mono (fun k h=>.inr h));have hM23b:=hM15b.ZN hf1523 (fun k hk _ h=>by rcases h with h|h<;>omega);have hv23:=hv15.keep' hf1523 (fun hne a ha h=>by have:=hlo1 _ ⟨a,ha,rfl⟩;rcases h with h|h<;>omega);obtain⟨r0,hr0,hr0n,hr0k⟩:=G.root;have hi0:=G.ino r0 (ZW hr0);obtain⟨m0,hm0⟩:=az (show 0≤r0.2.ino by omega);have hrl:S.refs.length=qs.length+1:=by have h:=(CU (qs:=qs) (ids:=ids) (files:=(cB qs).files) 17 ((0:Nat):Int) (vO (qs.length+1))).r;rw[←hS] at h;rw[h];exact cj
 have hz0:0≤S.refs.getD m0 0∧S.refs.getD m0 0≤1152921504606846977:=hbr15.1 _ (by rw[Z2,ZQ (by omega)];exact bm _);refine Gz 3 ?_;refine Wv 24 (fun H=>H[gm]?=some (.cells (biK a15 qs ids (cB qs).files S).toArray 76 (0,0))∧VwM 10 aV H lo lc qs∧Vw i64 H a15.ro a15.rc S.refs) [23,24] [0,1,2,3,4,5,6,7,8,9,10,11,12,13,14,15,16,17,18,19,20,21,22,23,24] aK (by kernel_rfl) (⟨hM23.1,hv23,hM23.2.2.2.2.2.2.2.2.1.1.vw⟩) ?_;refine Gz 16 ?_;refine xC rfl (Wj bR rfl rfl hv23.non (by omega)) ?_;refine Gz 1 ?_;refine xC rfl (Wt aF rfl (fun H hH=>hH.2.1.rowZ 0 rfl hr0 1 _ rfl)) ?_;refine xC rfl (Wi bP rfl rfl hM23.2.2.2.2.2.2.2.2.1.1.vw.non (by omega)) ?_;refine xC rfl (Wt aF rfl (fun H hH=>hH.2.2.gz 0 m0 hm0 (by omega))) ?_;refine Gz 1 ?_;refine xC rfl (bU (sU 0 S.many 0 0 0 0 0 ids.length pl9.length (S.refs.getD m0 0-1)) oD nD) ?_;refine Wo rfl rfl (Wn nD rfl ?_);intro w24 hg24 hs24 hf24;have hf24:=hf24.ZK;obtain⟨gS,hgS⟩:∃ x,x=w23.heap.size:=⟨_,rfl⟩
 rw[show (w23.drewN 1).heap.size=gS from hgS.symm] at hg24 ⊢;refine Wu (by exact⟨(hM23.ZM hf24).1,hv23.ZM hf24,(hM23.ZM hf24).2.2.2.2.2.2.2.2.1.1.vw⟩) ?_;refine Wo rfl rfl (WP (vs:=sU 0 S.many 0 0 0 0 0 ids.length pl9.length (S.refs.getD m0 0-1)) cH rfl rfl (Qz _ _ _ _ _ _ _ _ _ _) hg24 rfl ?_);intro w25 hg25 hs25 hf25;refine WW rfl ?_;have hf2325:aA nob w23 w25:=hf24.tw hf25;have hM25:=hM23.ZM hf2325;have hA25:=hA23.ZN hf2325 (fun _ _=>id);have hB25:=hB23.ZN hf2325 (fun _ _=>id);have hM25b:=hM23b.ZN hf2325 (fun _ _ _=>id);have hs24b:w24.heap.size=w23.heap.size+1:=hs24;obtain⟨bo,bc,ro,rc,ys,hg7c,hB7,_⟩:=hM25b;have hg7c25:=hg7c;obtain⟨dI,hdI⟩:∃ d,d=dnW S.ino:=⟨_,rfl⟩
 obtain⟨dL,hdL⟩:∃ d,d=dnW S.lst:=⟨_,rfl⟩
 obtain⟨dP,hdP⟩:∃ d,d=dnW (aL pl9 4).1:=⟨_,rfl⟩
 obtain⟨dD,hdD⟩:∃ d,d=dnW (aL ids 2).1:=⟨_,rfl⟩
 obtain⟨dF,hdF⟩:∃ d,d=dnW S.fur:=⟨_,rfl⟩
 have q1:mY (aI qs ids)=d9.B:=by unfold mY;rw[hAd]
 have q2:jW (aI qs ids)=d9.B++dI:=by unfold jW;rw[q1,hAs,←hdI]
 have q3:jM (aI qs ids)=d9.B++dI++dL:=by unfold jM;rw[q2,hAs,←hdL]
 have q4:iX (aI qs ids)=d9.B++dI++dL++dP:=by unfold iX;rw[q3,hAp,←hdP]
 have q5:iH (aI qs ids) ids=d9.B++dI++dL++dP++dD:=by unfold iH;rw[q4,←hdD]
 have q6:gJ (aI qs ids) ids=d9.B++dI++dL++dP++dD++dF:=by unfold gJ;rw[q5,hAs,←hdF]
 have p1:=hAll.o1;have p2:=hAll.o2;have p3:=hAll.o3;have p4:=hAll.o4;have p5:=hAll.o5;have p6:=hAll.o6;rw[q1] at p1;rw[q2] at p2;rw[q3] at p3;rw[q4] at p4;rw[q5] at p5;rw[q6] at p6;have hsup:cG qs ids (aI qs ids)=fun j=>[64+(((d9.B++dI++dL++dP++dD++dF).length:Nat):Int),S.many,64+((d9.B.length:Nat):Int),64+(((d9.B++dI).length:Nat):Int),64+(((d9.B++dI++dL).length:Nat):Int),64+(((d9.B++dI++dL++dP).length:Nat):Int),64+(((d9.B++dI++dL++dP++dD).length:Nat):Int),ids.length,pl9.length,S.refs.getD m0 0-1].getD j 0:=by
  have hnd0:(ndB qs 0).ino.toNat=m0:=by rw[show ndB qs 0=ndB qs ((0:Nat):Int) from rfl,bX hr0];omega
  unfold cG;rw[q1,q2,q3,q4,q5,q6,hAs,hAp,hnd0]
 obtain⟨A1,hA1⟩:∃ x,x=d9.B:=⟨_,rfl⟩
 obtain⟨A2,hA2⟩:∃ x,x=A1++dI:=⟨_,rfl⟩
 obtain⟨A3,hA3⟩:∃ x,x=A2++dL:=⟨_,rfl⟩
 obtain⟨A4,hA4⟩:∃ x,x=A3++dP:=⟨_,rfl⟩
 obtain⟨A5,hA5⟩:∃ x,x=A4++dD:=⟨_,rfl⟩
 obtain⟨A6,hA6⟩:∃ x,x=A5++dF:=⟨_,rfl⟩
 rw[←hA1,←hA2,←hA3,←hA4,←hA5,←hA6] at hsup;rw[←hA1,←hA2,←hA3,←hA4,←hA5,←hA6] at p6 q6;rw[←hA1,←hA2,←hA3,←hA4,←hA5] at p5;rw[←hA1,←hA2,←hA3,←hA4] at p4;rw[←hA1,←hA2,←hA3] at p3;rw[←hA1,←hA2] at p2;rw[←hA1] at p1 hg7c25 hB7;have hW25:aA nob w1 w25:=(hFw.ZJ hf1523 (fun k h=>.inr (by have:=hFw.size;rcases h with h|h<;>omega))).trans hf2325;refine Gz 4 ?_;refine WC b8 aH rfl ?_;intro w26 ho26 hs26 hf26;obtain⟨gO,hgO⟩:∃ x,x=w25.heap.size:=⟨_,rfl⟩
 rw[←hgO] at ho26 ⊢;refine Gz 1 ?_;refine cL (Wk aX rfl (aB (hf26.obj hg7c25 id) rfl)) ?_;refine Wq aP aH rfl rfl ho26 (hB7.ZM hf26).vw (by simp only[Z7];omega) (by simp only[Z7];unfold maxLen;omega) rfl ?_;intro o27 c27 w27 ho27 hf27 hr27 hn27;rw[aq] at ho27 ⊢;have hfr27:Fr w25.heap.size o27:=fun a ha=>by rcases hr27 a ha with h|h;cases h;exact Nat.le_of_eq hgO.symm;exact aj hf26.size h
 have hf2527:aA nob w25 w27:=hf26.ZJ hf27 (fun k ⟨a,ha,e⟩=>.inr (by cases ha;have e:gO=k:=e;omega));have hgS27:=hf2527.obj hg25 id;have hn27:∀ a,o27=some a→a.block≠gS:=fun a ha=>by have:=hfr27 a ha;omega
 refine Gz 9 ?_;refine Wl aF rfl rfl rfl hgS27 rfl ?_;intro w28 hgS28 hs28 hf28;have ho28:=ho27.ZN hf28 (fun a ha h=>hn27 a ha h);have hf2528:aA (· = gS) w25 w28:=hf2527.any.trans hf28;have hz27:=hf2527.size;have hM28:=hM25.ZN hf2528 (fun k hk h=>hk (by have h:k=gS:=h;exact hn15 k (by omega))) (fun _ _=>rfl);refine Gz 8 ?_;refine Wh MY rfl (qI (Ic a15 qs ids (cB qs).files S) _ gm S.ino w28 hM28.rwi1 (by omega)) rfl ?_;rintro _ w29 ⟨o29,c29,rfl,ho29,hfr29,hf29⟩;have ho29:Own b8 5 w29.heap o29 c29 dI:=by rw[hdI];exact ho29
 have h29:(frW S.ino (nF S.ino))=dI:=hdI.symm;rw[h29];refine Wq aP aH rfl rfl (ho28.ZM hf29) ho29.vw (by rw[hA2,ZR] at p2;omega) (by rw[hA2,ZR] at p2;unfold maxLen;omega) rfl ?_;intro o30 c30 w30 ho30 hf30 hr30 hn30;rw[←hA2] at ho30 ⊢;have hfr30:Fr w25.heap.size o30:=fun a ha=>by rcases hr30 a ha with h|h;exact hfr27 a h;have:=hf29.size;omega
 have hnS30:∀ a,o30=some a→a.block≠gS:=fun a ha=>by rcases hr30 a ha with h|h;exact hn27 a h;have:=hf29.size;omega
 have hgS30:=hf30.obj (hf29.obj hgS28 id) (fun⟨a,ha,e⟩=>hn27 a ha e);have hf2530:aA (· = gS) w25 w30:=(hf2528.trans hf29.any).ZJ hf30 (fun k ⟨a,ha,e⟩=>.inr (by have:=hfr27 a ha;omega));have hz30:=hf2530.size;refine Gz 9 ?_;refine Wl aF rfl rfl rfl hgS30 rfl ?_;intro w31 hgS31 hs31 hf31;have ho31:=ho30.ZN hf31 (fun a ha h=>hnS30 a ha h);have hf2531:aA (· = gS) w25 w31:=hf2530.trans hf31;have hM31:=hM25.ZN hf2531 (fun k hk h=>hk (by have h:k=gS:=h;exact hn15 k (by omega))) (fun _ _=>rfl);refine Gz 8 ?_;refine Wh MY rfl (qI (Ib a15 qs ids (cB qs).files S) _ gm S.lst w31 hM31.rwi2 (by omega)) rfl ?_;rintro _ w32 ⟨o32,c32,rfl,ho32,hfr32,hf32⟩;have ho32:Own b8 5 w32.heap o32 c32 dL:=by rw[hdL];exact ho32
 have h32:(frW S.lst (nF S.lst))=dL:=hdL.symm;rw[h32];refine Wq aP aH rfl rfl (ho31.ZM hf32) ho32.vw (by rw[hA3,ZR] at p3;omega) (by rw[hA3,ZR] at p3;unfold maxLen;omega) rfl ?_;intro o33 c33 w33 ho33 hf33 hr33 hn33;rw[←hA3] at ho33 ⊢;have hfr33:Fr w25.heap.size o33:=fun a ha=>by rcases hr33 a ha with h|h;exact hfr30 a h;have:=hf32.size;omega
 have hnS33:∀ a,o33=some a→a.block≠gS:=fun a ha=>by rcases hr33 a ha with h|h;exact hnS30 a h;have:=hf32.size;omega
 have hgS33:=hf33.obj (hf32.obj hgS31 id) (fun⟨a,ha,e⟩=>hnS30 a ha e);have hf2533:aA (· = gS) w25 w33:=(hf2531.trans hf32.any).ZJ hf33 (fun k ⟨a,ha,e⟩=>.inr (by have:=hfr30 a ha;omega));have hz33:=hf2533.size;refine Gz 9 ?_;refine Wl aF rfl rfl rfl hgS33 rfl ?_;intro w34 hgS34 hs34 hf34;have ho34:=ho33.ZN hf34 (fun a ha h=>hnS33 a ha h);have hf2534:aA (· = gS) w25 w34:=hf2533.trans hf34;have hA34:=hA25.ZN hf2534 (fun k hk h=>by have h:k=gS:=h;rcases hk with h2|h2;have h2:k=gA:=h2;omega;omega);refine Gz 5 ?_;refine Wh MY rfl (zX _ gA (aL pl9 4).1 w34 hA34 (by omega)) rfl ?_;rintro _ w35 ⟨o35,c35,rfl,ho35,hfr35,hf35⟩;have ho35:Own b8 5 w35.heap o35 c35 dP:=by rw[hdP];exact ho35
 have h35:(frW (aL pl9 4).1 (nF (aL pl9 4).1))=dP:=hdP.symm;rw[h35];refine Wq aP aH rfl rfl (ho34.ZM hf35) ho35.vw (by rw[hA4,ZR] at p4;omega) (by rw[hA4,ZR] at p4;unfold maxLen;omega) rfl ?_;intro o36 c36 w36 ho36 hf36 hr36 hn36;rw[←hA4] at ho36 ⊢;have hfr36:Fr w25.heap.size o36:=fun a ha=>by rcases hr36 a ha with h|h;exact hfr33 a h;have:=hf35.size;omega
 have hnS36:∀ a,o36=some a→a.block≠gS:=fun a ha=>by rcases hr36 a ha with h|h;exact hnS33 a h;have:=hf35.size;omega
 have hgS36:=hf36.obj (hf35.obj hgS34 id) (fun⟨a,ha,e⟩=>hnS33 a ha e);have hf2536:aA (· = gS) w25 w36:=(hf2534.trans hf35.any).ZJ hf36 (fun k ⟨a,ha,e⟩=>.inr (by have:=hfr33 a ha;omega));have hz36:=hf2536.size;refine Gz 9 ?_;refine Wl aF rfl rfl rfl hgS36 rfl ?_;intro w37 hgS37 hs37 hf37;have ho37:=ho36.ZN hf37 (fun a ha h=>hnS36 a ha h);have hf2537:aA (· = gS) w25 w37:=hf2536.trans hf37;have hB37:=hB25.ZN hf2537 (fun k hk h=>by have h:k=gS:=h;rcases hk with h2|h2;have h2:k=gB:=h2;omega;omega);refine Gz 5 ?_;refine Wh MY rfl (zX _ gB (aL ids 2).1 w37 hB37 (by omega)) rfl ?_;rintro _ w38 ⟨o38,c38,rfl,ho38,hfr38,hf38⟩;have ho38:Own b8 5 w38.heap o38 c38 dD:=by rw[hdD];exact ho38
 have h38:(frW (aL ids 2).1 (nF (aL ids 2).1))=dD:=hdD.symm;rw[h38];refine Wq aP aH rfl rfl (ho37.ZM hf38) ho38.vw (by rw[hA5,ZR] at p5;omega) (by rw[hA5,ZR] at p5;unfold maxLen;omega) rfl ?_;intro o39 c39 w39 ho39 hf39 hr39 hn39;rw[←hA5] at ho39 ⊢;have hfr39:Fr w25.heap.size o39:=fun a ha=>by rcases hr39 a ha with h|h;exact hfr36 a h;have:=hf38.size;omega
 have hnS39:∀ a,o39=some a→a.block≠gS:=fun a ha=>by rcases hr39 a ha with h|h;exact hnS36 a h;have:=hf38.size;omega
 have hgS39:=hf39.obj (hf38.obj hgS37 id) (fun⟨a,ha,e⟩=>hnS36 a ha e);have hf2539:aA (· = gS) w25 w39:=(hf2537.trans hf38.any).ZJ hf39 (fun k ⟨a,ha,e⟩=>.inr (by have:=hfr36 a ha;omega));have hz39:=hf2539.size;refine Gz 9 ?_;refine Wl aF rfl rfl rfl hgS39 rfl ?_;intro w40 hgS40 hs40 hf40;have ho40:=ho39.ZN hf40 (fun a ha h=>hnS39 a ha h);have hf2540:aA (· = gS) w25 w40:=hf2539.trans hf40;have hM40:=hM25.ZN hf2540 (fun k hk h=>hk (by have h:k=gS:=h;exact hn15 k (by omega))) (fun _ _=>rfl);refine Gz 8 ?_;refine Wh MY rfl (qI (Ia a15 qs ids (cB qs).files S) _ gm S.fur w40 hM40.rwi3 (by omega)) rfl ?_;rintro _ w41 ⟨o41,c41,rfl,ho41,hfr41,hf41⟩;have ho41:Own b8 5 w41.heap o41 c41 dF:=by rw[hdF];exact ho41
 have h41:(frW S.fur (nF S.fur))=dF:=hdF.symm;rw[h41];refine Wq aP aH rfl rfl (ho40.ZM hf41) ho41.vw (by rw[hA6,ZR] at p6;omega) (by rw[hA6,ZR] at p6;unfold maxLen;omega) rfl ?_;intro o42 c42 w42 ho42 hf42 hr42 hn42;rw[←hA6] at ho42 ⊢;have hnS42:∀ a,o42=some a→a.block≠gS:=fun a ha=>by rcases hr42 a ha with h|h;exact hnS39 a h;have:=hf41.size;omega
 have hgS42:=hf42.obj (hf41.obj hgS40 id) (fun⟨a,ha,e⟩=>hnS39 a ha e);have hf2542:aA (· = gS) w25 w42:=(hf2540.trans hf41.any).ZJ hf42 (fun k ⟨a,ha,e⟩=>.inr (by have:=hfr39 a ha;omega));have hz42:=hf2542.size;refine Gz 9 ?_;refine Wl aF rfl rfl rfl hgS42 rfl ?_;intro w43 hgS43 hs43 hf43;have ho43:=ho42.ZN hf43 (fun a ha h=>hnS42 a ha h);have hf2543:aA (· = gS) w25 w43:=hf2542.trans hf43;have hW43:aA nob w1 w43:=hW25.tw hf2543;have hgS43:w43.heap[gS]?=some (.cells (bW (cG qs ids (aI qs ids))).toArray 93 (0,0)):=by rw[hsup];exact hgS43
 refine Gz 6 ?_;refine cL (Wm (u:=iV (64+(A6.length:Int))) (Wk aF rfl (aB (i:=0) hgS43 rfl)) (by rw[hsup];rfl)) ?_;refine fK 0 ?_ ?_<;>intro h212
 ·have hib:uX qs ids=([],3):=by unfold uX;rw[q6,ZP h212]
  refine Gz 12 ?_;refine⟨_,rfl,.inr ⟨hz,?_⟩⟩;rw[←hqs];exact⟨ids,none,0,hIds,by rw[hib];rfl,by rw[hib];exact Zu,Zs,hf1.trans hW43⟩
 have hib:uX qs ids=((jL (cG qs ids (aI qs ids))).1++A6,0):=by unfold uX;rw[q6,ZO h212]
 refine Gz 7 ?_;refine cL (Ws (cs:=bW (cG qs ids (aI qs ids))) cH rfl (aQ hgS43 0 rfl)) ?_;refine cA 0 Sd (Ev (cG qs ids (aI qs ids)) w43) ?_;rintro _ w44 ⟨o44,c44,rfl,ho44,hfr44,hf44⟩;have hpsl:(jL (cG qs ids (aI qs ids))).1.length≤64:=by unfold jL;split;exact Nat.le_of_eq (mS _);exact ZZ _
 refine Gz 11 ?_;refine Wq aP aH rfl rfl ho44 (ho43.ZM hf44).vw (by omega) (by unfold maxLen;omega) rfl ?_;intro o45 c45 w45 ho45 hf45 hr45 hn45;refine Gz 6 ?_;have hfin:aA nob W w45:=((hf1.trans hW43).trans hf44).ZJ hf45 (fun k ⟨a,ha,e⟩=>.inr (by have:=hfr44 a ha;have:=(hf1.trans hW43).size;omega));refine⟨_,rfl,.inr ⟨hz,?_⟩⟩;rw[←hqs];exact⟨ids,o45,c45,hIds,by rw[hib],by rw[hib];exact ho45,fun a ha=>by have:=(hf1.trans hW43).size;rcases hr45 a ha with h|h;have:=hfr44 a h;omega;have:=hf44.size;omega,hfin⟩
end
theorem ImR.recs{H:Array Obj}{y:Nat}{x:Img}(h:ImR H y x):∃ (bo:Option Addr) (bc:Nat) (pv iv:Value) (lo:Option Addr) (lc n:Nat) (qs:List QT),H[y]?=some (.cells (miC bo x.im.length bc x.F pv iv (.slice lo qs.length lc) n).toArray 134 (0,0))∧VwM 15 eO H lo lc qs∧∀ q∈qs,0≤q.1.1.ref∧q.1.1.ref≤4294967295:=by
 obtain⟨ow,n,hM,hp,hmq,hl8,hio,hnw⟩:=h;obtain⟨bo,bc,po,pc,io,ic,lo,lc,qs,hg,_,_,_,ho,hl,hq,hqs,o1⟩:=hM;refine⟨bo,bc,_,_,lo,lc,n,qs,hg,ho.vw eJ,fun q hm=>?_⟩;have hq:qs.map (·.1)=x.recs:=hq;have h2:q.1∈x.recs:=by rw[←hq];exact av.2 ⟨q,hm,rfl⟩
 exact(hp.2.1 q.1 h2).1
theorem NF(bo:Option Addr)(bc:Nat)(b:By)(lo:Option Addr)(lc ln:Nat)(io:Option Addr)(ic il:Nat)(W:World)(hb:Vw b8 W.heap bo bc b)(hbl:b.length≤1073741824)(hm:mnt b=none) :
 CA 22 [.slice bo b.length bc,.slice lo ln lc,.slice io il ic] W fun v w'=>v=.bool true∧aA nob W w':=by
 refine cS 90 [(0,_),(1,_),(2,_)] Tryz.func22 ?_;refine Gz 7 ?_;refine WC b8 aH rfl ?_;intro w1 ho1 hs1 hf1;obtain⟨a1,ea⟩:∃ a,a=W.heap.size:=⟨_,rfl⟩
 rw[←ea] at ho1 ⊢;refine Gz 1 ?_;refine Wq aP aH rfl rfl ho1 (hb.ZM hf1) (by simp only[Z7];omega) (by simp only[Z7];unfold maxLen;omega) rfl ?_;intro o2 c2 w2 ho2 hf2 hr2 hn2;have ho2:Own b8 5 w2.heap o2 c2 b:=ho2;have hF2:aA nob W w2:=hf1.ZJ hf2 (fun k hk=>.inr (by obtain⟨a,ha,e⟩:=hk;cases ha;have e:a1=k:=e;omega));refine cA 0 Pe (uO o2 c2 b w2 ho2.vw hbl) ?_;intro v w3 h3;obtain⟨hf3,h3⟩:=h3.of;obtain⟨rfl,_⟩:=h3.resolve_right (fun⟨x,g,_,h,_⟩=>by rw[hm] at h;cases h);have hF3:=hF2.trans hf3;refine cA 10 R8 (BU bo bc b w3 (hb.ZM hF3) hbl) ?_;rintro v w4 ⟨hf4,h4⟩;obtain⟨rfl,_⟩:=h4.resolve_right (fun⟨x,g,_,h,_⟩=>by rw[hm] at h;cases h);have hF4:=hF3.trans hf4;refine Gz 12 ?_;refine cL (W8 (W4 rfl rfl) (fun h=>h rfl)) ?_;refine Gz 2 ?_;refine cW (WZ LO rfl rfl) ?_;refine Gz 1 ?_;refine cW (WZ Db rfl rfl) ?_;refine cW (Xf ty4 rfl rfl) ?_;refine Gz 10 ?_;refine cL (WZ Db rfl rfl) ?_;refine Gz 11 ?_;exact⟨_,rfl,rfl,hF4⟩
theorem NE(bo:Option Addr)(bc:Nat)(b:By)(lo:Option Addr)(lc:Nat)(L:List Ent)(io:Option Addr)(ic:Nat)(I:List Int)(W:World)(x:Img)(hb:Vw b8 W.heap bo bc b)(hbl:b.length≤1073741824)(hm:mnt b=some x)(hl:VwM 3 bH W.heap lo lc L)
 (hL:∀ q∈L,(-9223372036854775808≤q.2.1∧q.2.1≤9223372036854775807)∧(-9223372036854775808≤q.2.2∧q.2.2≤9223372036854775807))(hi:Vw i64 W.heap io ic I)(hI:∀ z∈I,-9223372036854775808≤z∧z≤9223372036854775807) :
 CA 22 [.slice bo b.length bc,.slice lo L.length lc,.slice io I.length ic] W fun v w'=>v=.bool true∧aA nob W w':=by
 refine cS 90 [(0,_),(1,_),(2,_)] Tryz.func22 ?_;refine Gz 7 ?_;refine WC b8 aH rfl ?_;intro w1 ho1 hs1 hf1;obtain⟨a1,ea⟩:∃ a,a=W.heap.size:=⟨_,rfl⟩
 rw[←ea] at ho1 ⊢;refine Gz 1 ?_;refine Wq aP aH rfl rfl ho1 (hb.ZM hf1) (by simp only[Z7];omega) (by simp only[Z7];unfold maxLen;omega) rfl ?_;intro o2 c2 w2 ho2 hf2 hr2 hn2;have ho2:Own b8 5 w2.heap o2 c2 b:=ho2;have hF2:aA nob W w2:=hf1.ZJ hf2 (fun k hk=>.inr (by obtain⟨a,ha,e⟩:=hk;cases ha;have e:a1=k:=e;omega));refine cA 0 Pe (uO o2 c2 b w2 ho2.vw hbl) ?_;intro v w3 h3;obtain⟨hf3,h3⟩:=h3.of;obtain⟨x2,g,rfl,hx2,_,_,hx⟩:=h3.resolve_left (fun⟨_,h⟩=>by rw[hm] at h;cases h);rw[hm] at hx2;cases hx2;have hF3:=hF2.trans hf3;refine cA 10 R8 (BU bo bc b w3 (hb.ZM hF3) hbl) ?_;rintro v w4 ⟨hf4,h4⟩;obtain⟨x2,y,rfl,hx2,_,_,hy⟩:=h4.resolve_left (fun⟨_,h⟩=>by rw[hm] at h;cases h);rw[hm] at hx2;cases hx2;have hF4:=hF3.trans hf4;have hx4:=hx.ZM hf4;obtain⟨bo2,bc2,pv,iv,ro,rc,nn,qs,hgy,hvq,hqr⟩:=hy.recs;have hq63:=hvq.ZL;refine Gz 12 ?_;refine cL (W8 (W4 rfl rfl) (fun h=>h rfl)) ?_;refine Gz 2 ?_;refine cW (WZ LO rfl rfl) ?_;refine Gz 1 ?_;refine cW (WZ Db rfl rfl) ?_;refine cW (Xf ty4 rfl rfl) ?_;refine Gz 10 ?_;refine cL (WZ Db rfl rfl) ?_;refine Gz 12 ?_;refine Wp (β:=Nat) (fun j=>[(1,.slice lo L.length lc),(2,.slice io I.length ic),(7,pT g),(9,pT y),(11,iV j)]) (fun j w=>j≤qs.length∧aA nob w4 w) (fun j=>qs.length-j) 0 ⟨rfl,rfl,rfl,rfl,rfl,trivial⟩ ⟨ZZ _,Zo 0⟩ ?_;rintro j w6 ⟨hj,hF⟩;refine Gz 7 ?_;refine cL (Wk oZ rfl (aB (hF.obj hgy id) rfl)) ?_;refine fK 1 ?_ ?_<;>intro h45
 ·have hjl:j<qs.length:=by omega
  obtain⟨q,hq⟩:∃ q,qs[j]?=some q:=⟨_,ZQ hjl⟩
  have hqb:=hqr q (ZW hq);have hv0:=hvq.ZM hF;refine Gz 14 ?_;refine cL (Wk oZ rfl (aB (hF.obj hgy id) rfl)) ?_;refine Gz 1 ?_;refine cL (Wj qF rfl rfl hv0.non (by omega)) ?_;refine Gz 1 ?_;refine cL (Wk aF rfl (hv0.rowZ j rfl hq 0 _ rfl)) ?_;refine Gz 1 ?_;refine Wh R7 rfl (Ff g y x q.1.1.ref lo lc L w6 (hx4.ZM hF) (hy.ZM hF) (hl.ZM (hF4.trans hF)) (by constructor<;>omega) hL) rfl ?_;rintro _ w5 ⟨rfl,hf5⟩;refine Gz 6 ?_;refine cL (WQ rfl) ?_;refine Gz 11 ?_;exact aG (j+1) ⟨by omega,hF.trans hf5⟩ (by show qs.length-(j+1)<qs.length-j;omega)
 refine Gz 15 ?_;refine Wp (β:=Nat) (fun k=>[(1,.slice lo L.length lc),(2,.slice io I.length ic),(7,pT g),(9,pT y),(13,iV k)]) (fun k w=>k≤I.length∧aA nob w6 w) (fun k=>I.length-k) 0 ⟨rfl,rfl,rfl,rfl,rfl,trivial⟩ ⟨ZZ _,Zn _ _⟩ ?_;rintro k w7 ⟨hk,hF2b⟩;refine fK 6 ?_ ?_<;>intro h65
 ·have hkl:k<I.length:=by omega
  obtain⟨z,hz⟩:∃ q,I[k]?=some q:=⟨_,ZQ hkl⟩
  have hzb:=hI z (ZW hz);have hzd:I.getD k 0=z:=by rw[Z2,hz];rfl
  have hv0:=hi.ZM (hF4.trans (hF.trans hF2b));refine fW 2 ?_ ?_<;>intro h68
  ·refine Gz 14 ?_;refine cL (Wi bP rfl rfl hv0.non (by omega)) ?_;refine cL (Wk aF rfl (hv0.gz 0 k rfl hkl)) ?_;rw[hzd];refine cA 1 R7 (Ff g y x z lo lc L w7 (hx4.ZM (hF.trans hF2b)) (hy.ZM (hF.trans hF2b)) (hl.ZM (hF4.trans (hF.trans hF2b))) hzb hL) ?_;rintro _ w8 ⟨rfl,hf8⟩;refine Gz 6 ?_;refine cL (WQ rfl) ?_;refine Gz 11 ?_;exact aG (k+1) ⟨by omega,hF2b.trans hf8⟩ (by show I.length-(k+1)<I.length-k;omega)
  refine Gz 10 ?_;refine Wv 9 (fun H=>H[y]?=some (.cells (miC bo2 x.im.length bc2 x.F pv iv (.slice ro qs.length rc) nn).toArray 134 (0,0))) [1] [0,2,3,4,5,6,1,7,8] aK (by kernel_rfl) (((hF.trans hF2b).obj hgy id)) ?_;refine Gz 5 ?_;refine xC rfl (Wt aF rfl (fun H hH=>aB (i:=10) hH rfl)) ?_;refine Wo rfl rfl (Wh Re rfl (wM g x (w7.drewN 1) ((hx4.ZM (hF.trans hF2b)).ZM (Zo 1))) rfl ?_);rintro _ w9 ⟨rfl,hw⟩;subst hw;refine Wu (by exact((hF.trans hF2b).obj hgy id)) ?_;refine xC rfl (Xo (Xn rfl rfl) rfl) ?_;refine Gz 5 ?_;exact⟨_,rfl,rfl,hF4.trans ((hF.trans hF2b).draws 1)⟩
 refine Gz 13 ?_;refine Wv 9 (fun H=>H[y]?=some (.cells (miC bo2 x.im.length bc2 x.F pv iv (.slice ro qs.length rc) nn).toArray 134 (0,0))) [1] [0,2,3,4,5,6,1,7,8] aK (by kernel_rfl) (((hF.trans hF2b).obj hgy id)) ?_;refine Gz 5 ?_;refine xC rfl (Wt aF rfl (fun H hH=>aB (i:=10) hH rfl)) ?_;refine Wo rfl rfl (Wh Re rfl (wM g x (w7.drewN 1) ((hx4.ZM (hF.trans hF2b)).ZM (Zo 1))) rfl ?_);rintro _ w9 ⟨rfl,hw⟩;subst hw;refine Wu (by exact((hF.trans hF2b).obj hgy id)) ?_;refine xC rfl (Xo (Xn rfl rfl) rfl) ?_;refine Gz 5 ?_;exact⟨_,rfl,rfl,hF4.trans ((hF.trans hF2b).draws 1)⟩
theorem IL(bo:Option Addr)(bc:Nat)(b:By)(lo:Option Addr)(lc:Nat)(L:List Ent)(io:Option Addr)(ic:Nat)(I:List Int)(W:World)(hb:Vw b8 W.heap bo bc b)(hbl:b.length≤1073741824)(hl:VwM 3 bH W.heap lo lc L)
 (hL:∀ q∈L,(-9223372036854775808≤q.2.1∧q.2.1≤9223372036854775807)∧(-9223372036854775808≤q.2.2∧q.2.2≤9223372036854775807))(hi:Vw i64 W.heap io ic I)(hI:∀ z∈I,-9223372036854775808≤z∧z≤9223372036854775807) :
 CA 22 [.slice bo b.length bc,.slice lo L.length lc,.slice io I.length ic] W fun v w'=>v=.bool true∧aA nob W w':=by
 cases hm:mnt b with
|none=>exact NF bo bc b lo lc L.length io ic I.length W hb hbl hm
|some x=>exact NE bo bc b lo lc L io ic I W x hb hbl hm hl hL hi hI
section
open Go Go.RowKit Go.Maps
def Mn(n:Nd):Nd:={ n with names:=n.names.take 18,data:=n.data.take 1500,xs:=n.xs.take 10 }
def cT(p:NdH×Nd):NdH×Nd:=(⟨jZ p.1.names 18,jZ p.1.data 1500,jZ p.1.xs 10⟩,Mn p.2)
def Ao(ps:List (NdH×Nd)):List (NdH×Nd):=(ps.take 40).map cT
variable {D:Nat→Prop}
theorem NdV.mfew{H:Array Obj}{p:NdH×Nd}(v:NdV D H p):NdV D H (cT p):=⟨v.1.cut 18,v.2.1.cut 1500,v.2.2.cut 10⟩
theorem smN.mfew{n:Nd}(h:smN n):smN (Mn n):=⟨h.1,fun s hs=>h.2.1 s (dj hs),fun x hx=>h.2.2 x (dj hx)⟩
theorem Mm{R:Nd→Prop}{ps:List (NdH×Nd)}(h:∀ p∈ps,R (Mn p.2)):∀ p∈Ao ps,R p.2:=by
 intro p hp;obtain⟨q,hq,rfl⟩:=av.1 hp;exact h q (dj hq)
theorem Ml(ps:List (NdH×Nd)):(Ao ps).length≤40:=by unfold Ao;rw[aa,ZT];omega
theorem qV{ps:List (NdH×Nd)}{i:Nat}{p:NdH×Nd}(hp:ps[i]?=some p):(ps.take (i+1)).map cT=(ps.take i).map cT++[cT p]:=by rw[tkL hp];simp
theorem OP(lo:Option Addr)(lc:Nat)(ps:List (NdH×Nd))(W:World)(hv:dG D W.heap lo lc ps) :
 CA 10 [.slice lo ps.length lc] W fun v w'=>∃ o c,v=.slice o (Ao ps).length c∧bJ 10 aV 68 w'.heap o c (Ao ps)∧Fr W.heap.size o∧aA nob W w'∧dG D w'.heap o c (Ao ps):=by
 refine cS 50 [(0,_)] Tryz.func10 ?_;refine Gz 7 ?_;refine Xc aE bR rfl ?_;intro w1 ho1 hs1 hf1;refine Gz 10 ?_;refine Wp (β:=Nat×Option Addr×Nat) (fun⟨i,o,c⟩=>[(0,.slice lo ps.length lc),(3,.slice o ((ps.take i).map cT).length c),(4,iV i)]) (fun⟨i,o,c⟩ w=>i≤ps.length∧i≤40∧bJ 10 aV 68 w.heap o c ((ps.take i).map cT)∧Fr W.heap.size o∧aA nob W w) (fun⟨i,o,c⟩=>ps.length-i) ⟨0,some ⟨W.heap.size,0,none⟩,0⟩ ⟨rfl,rfl,rfl,trivial⟩ ⟨ZZ _,ZZ _,ho1,fun a ha=>by cases ha;exact Z0 _,hf1⟩ ?_;rintro⟨i,o,c⟩ w2 ⟨hi,hi60,ho2,hfo,hF2⟩;refine fK 6 ?_ ?_<;>intro h10
 ·refine fW 2 ?_ ?_<;>intro h13
  ·have hil:i<ps.length:=by omega
   obtain⟨p,hp⟩:∃ p,ps[i]?=some p:=⟨_,ZQ hil⟩
   have hpm:=ZW hp;have hv2:=hv.ZM hF2;refine Gz 2 ?_;refine aW [(0,_),(3,_),(4,_),(14,_)] ?_;refine Gz 10 ?_;refine cL (Wj bR rfl rfl hv2.1.non (by omega)) ?_;refine cL (Ws (cs:=aV p) gQ rfl (fun j v hj=>hv2.1.rowZ i rfl hp j v hj)) ?_;refine Wn oT rfl ?_;intro w3 hg3 hs3 hf3;obtain⟨q,hq⟩:∃ q,q=w2.heap.size:=⟨_,rfl⟩
   rw[←hq] at hg3 ⊢;have hqW:W.heap.size≤q:=by rw[hq];exact hF2.size
   refine WP (vs:=aV p) gQ rfl rfl (aE p).2 hg3 rfl ?_;intro w4 hg4 hs4 hf4;have hf24:aA nob w2 w4:=hf3.ZJ hf4 (fun k e=>.inr (by have e:k=q:=e;omega));have hF4:aA nob W w4:=hF2.trans hf24;have hn4:=(hv.ZM hF4).2 p hpm;have ho4:=ho2.ZM hf24;have hoq:∀ a,o=some a→¬ a.block=q:=fun a ha=>by have:=ho2.lt a ha;omega
   refine fK 8 ?_ ?_<;>intro h24
   ·refine Gz 6 ?_;refine cL (Wm (u:=hd ⟨p.1.names.a,18,p.1.names.c⟩) (WE vX rfl rfl (by have:=hn4.1.2.1.le;have:=hn4.1.1;omega)) (by rw[bF];rfl)) ?_;refine Gz 1 ?_;refine Wl lY rfl rfl rfl hg4 rfl ?_;intro w5 hg5 hs5 hf5;have hgA:w5.heap[q]?=some (.cells (aV ((⟨jZ p.1.names 18,p.1.data,p.1.xs⟩:NdH),p.2)).toArray 68 (0,0)):=by rw[fZ (by omega)];exact hg5
    have hF5:aA nob W w5:=hF4.ZJ hf5 (fun k e=>.inr (by have e:k=q:=e;omega));have ho5:=ho4.ZN hf5 hoq;refine Gz 6 ?_;have hn5:=(hv.ZM hF5).2 p hpm;refine cL (Wm (u:=hd p.1.data) (Wk aX rfl (aB hgA rfl)) rfl) ?_;refine fK 1 ?_ ?_<;>intro h32
    ·refine Gz 5 ?_;refine cL (Wm (u:=hd p.1.data) (Wk aX rfl (aB hgA rfl)) rfl) ?_;refine cL (Wm (u:=hd ⟨p.1.data.a,1500,p.1.data.c⟩) (WE aH rfl rfl (by have:=hn5.2.1.2.1.le;have:=hn5.2.1.1;omega)) (by rw[bF];rfl)) ?_;refine Gz 1 ?_;refine Wl aX rfl rfl rfl hgA rfl ?_;intro w6 hg6 hs6 hf6;have hgB:w6.heap[q]?=some (.cells (aV ((⟨jZ p.1.names 18,jZ p.1.data 1500,p.1.xs⟩:NdH),p.2)).toArray 68 (0,0)):=by rw[fZ (n:=1500) (by omega)];exact hg6
     have hF6:aA nob W w6:=hF5.ZJ hf6 (fun k e=>.inr (by have e:k=q:=e;omega));have ho6:=ho5.ZN hf6 hoq;refine Gz 6 ?_;have hn6:=(hv.ZM hF6).2 p hpm;refine cL (Wm (u:=hd p.1.xs) (Wk eK rfl (aB hgB rfl)) rfl) ?_;refine fK 1 ?_ ?_<;>intro h40
     ·refine Gz 5 ?_;refine cL (Wm (u:=hd p.1.xs) (Wk eK rfl (aB hgB rfl)) rfl) ?_;refine cL (Wm (u:=hd ⟨p.1.xs.a,10,p.1.xs.c⟩) (WE iC rfl rfl (by obtain⟨k1,ys,k2,k3,_⟩:=hn6.2.2;have:=k2.le;omega)) (by rw[bF];rfl)) ?_;refine Gz 1 ?_;refine Wl eK rfl rfl rfl hgB rfl ?_;intro w7 hg7 hs7 hf7;have hgC:w7.heap[q]?=some (.cells (aV (cT p)).toArray 68 (0,0)):=by unfold cT;rw[fZ (n:=10) (by omega)];exact hg7
      have hF7:aA nob W w7:=hF6.ZJ hf7 (fun k e=>.inr (by have e:k=q:=e;omega));have ho7:=ho6.ZN hf7 hoq;refine Gz 4 ?_;refine cL (Ws (cs:=aV (cT p)) gQ rfl (aQ hgC 0 rfl)) ?_;obtain⟨y,hy⟩:∃ y,y=cT p:=⟨_,rfl⟩
      rw[←hy];refine WD bR (cs:=(aV y).toArray) oT rfl rfl rfl (by kernel_rfl) rfl ?_;intro w8 hg8 hs8 hf8;have ho8:bJ 10 aV 68 w8.heap (some ⟨w7.heap.size,0,none⟩) 1 [y]:=bS (xs:=[y]) aE (by simpa using hg8) (by show 1≤maxLen;decide);refine Wx aE rfl bR rfl rfl (ho7.ZM hf8) (ho8.vw aE) (by simp only[ZU,aa,ZT];omega) (by simp only[ZU,aa,ZT];unfold maxLen;omega) rfl ?_;intro o9 c9 w9 ho9 hf9 hr9 hn9;rw[hy,←qV hp] at ho9 ⊢;have hF9:aA nob W w9:=(hF7.trans hf8).ZJ hf9 hfo.step;have hfo9:Fr W.heap.size o9:=eX hfo hr9 (by have:=hF7.size;have:=hf8.size;omega);refine Gz 9 ?_;exact aG ⟨i+1,o9,c9⟩ ⟨by omega,by omega,ho9,hfo9,hF9⟩ (by show ps.length-(i+1)<ps.length-i;omega)
     have hgC:w6.heap[q]?=some (.cells (aV (cT p)).toArray 68 (0,0)):=by unfold cT;rw[iK (n:=10) (by omega)];exact hgB
     have hF7:=hF6;have ho7:=ho6
     rename World=>w7
     refine Gz 7 ?_;refine cL (Ws (cs:=aV (cT p)) gQ rfl (aQ hgC 0 rfl)) ?_;obtain⟨y,hy⟩:∃ y,y=cT p:=⟨_,rfl⟩
     rw[←hy];refine WD bR (cs:=(aV y).toArray) oT rfl rfl rfl (by kernel_rfl) rfl ?_;intro w8 hg8 hs8 hf8;have ho8:bJ 10 aV 68 w8.heap (some ⟨w7.heap.size,0,none⟩) 1 [y]:=bS (xs:=[y]) aE (by simpa using hg8) (by show 1≤maxLen;decide);refine Wx aE rfl bR rfl rfl (ho7.ZM hf8) (ho8.vw aE) (by simp only[ZU,aa,ZT];omega) (by simp only[ZU,aa,ZT];unfold maxLen;omega) rfl ?_;intro o9 c9 w9 ho9 hf9 hr9 hn9;rw[hy,←qV hp] at ho9 ⊢;have hF9:aA nob W w9:=(hF7.trans hf8).ZJ hf9 hfo.step;have hfo9:Fr W.heap.size o9:=eX hfo hr9 (by have:=hF7.size;have:=hf8.size;omega);refine Gz 9 ?_;exact aG ⟨i+1,o9,c9⟩ ⟨by omega,by omega,ho9,hfo9,hF9⟩ (by show ps.length-(i+1)<ps.length-i;omega)
    have hgB:w5.heap[q]?=some (.cells (aV ((⟨jZ p.1.names 18,jZ p.1.data 1500,p.1.xs⟩:NdH),p.2)).toArray 68 (0,0)):=by rw[iK (n:=1500) (by omega)];exact hgA
    have hF6:=hF5;have ho6:=ho5
    rename World=>w6
    refine Gz 9 ?_;have hn6:=(hv.ZM hF6).2 p hpm;refine cL (Wm (u:=hd p.1.xs) (Wk eK rfl (aB hgB rfl)) rfl) ?_;refine fK 1 ?_ ?_<;>intro h40
    ·refine Gz 5 ?_;refine cL (Wm (u:=hd p.1.xs) (Wk eK rfl (aB hgB rfl)) rfl) ?_;refine cL (Wm (u:=hd ⟨p.1.xs.a,10,p.1.xs.c⟩) (WE iC rfl rfl (by obtain⟨k1,ys,k2,k3,_⟩:=hn6.2.2;have:=k2.le;omega)) (by rw[bF];rfl)) ?_;refine Gz 1 ?_;refine Wl eK rfl rfl rfl hgB rfl ?_;intro w7 hg7 hs7 hf7;have hgC:w7.heap[q]?=some (.cells (aV (cT p)).toArray 68 (0,0)):=by unfold cT;rw[fZ (n:=10) (by omega)];exact hg7
     have hF7:aA nob W w7:=hF6.ZJ hf7 (fun k e=>.inr (by have e:k=q:=e;omega));have ho7:=ho6.ZN hf7 hoq;refine Gz 4 ?_;refine cL (Ws (cs:=aV (cT p)) gQ rfl (aQ hgC 0 rfl)) ?_;obtain⟨y,hy⟩:∃ y,y=cT p:=⟨_,rfl⟩
     rw[←hy];refine WD bR (cs:=(aV y).toArray) oT rfl rfl rfl (by kernel_rfl) rfl ?_;intro w8 hg8 hs8 hf8;have ho8:bJ 10 aV 68 w8.heap (some ⟨w7.heap.size,0,none⟩) 1 [y]:=bS (xs:=[y]) aE (by simpa using hg8) (by show 1≤maxLen;decide);refine Wx aE rfl bR rfl rfl (ho7.ZM hf8) (ho8.vw aE) (by simp only[ZU,aa,ZT];omega) (by simp only[ZU,aa,ZT];unfold maxLen;omega) rfl ?_;intro o9 c9 w9 ho9 hf9 hr9 hn9;rw[hy,←qV hp] at ho9 ⊢;have hF9:aA nob W w9:=(hF7.trans hf8).ZJ hf9 hfo.step;have hfo9:Fr W.heap.size o9:=eX hfo hr9 (by have:=hF7.size;have:=hf8.size;omega);refine Gz 9 ?_;exact aG ⟨i+1,o9,c9⟩ ⟨by omega,by omega,ho9,hfo9,hF9⟩ (by show ps.length-(i+1)<ps.length-i;omega)
    have hgC:w6.heap[q]?=some (.cells (aV (cT p)).toArray 68 (0,0)):=by unfold cT;rw[iK (n:=10) (by omega)];exact hgB
    have hF7:=hF6;have ho7:=ho6
    rename World=>w7
    refine Gz 7 ?_;refine cL (Ws (cs:=aV (cT p)) gQ rfl (aQ hgC 0 rfl)) ?_;obtain⟨y,hy⟩:∃ y,y=cT p:=⟨_,rfl⟩
    rw[←hy];refine WD bR (cs:=(aV y).toArray) oT rfl rfl rfl (by kernel_rfl) rfl ?_;intro w8 hg8 hs8 hf8;have ho8:bJ 10 aV 68 w8.heap (some ⟨w7.heap.size,0,none⟩) 1 [y]:=bS (xs:=[y]) aE (by simpa using hg8) (by show 1≤maxLen;decide);refine Wx aE rfl bR rfl rfl (ho7.ZM hf8) (ho8.vw aE) (by simp only[ZU,aa,ZT];omega) (by simp only[ZU,aa,ZT];unfold maxLen;omega) rfl ?_;intro o9 c9 w9 ho9 hf9 hr9 hn9;rw[hy,←qV hp] at ho9 ⊢;have hF9:aA nob W w9:=(hF7.trans hf8).ZJ hf9 hfo.step;have hfo9:Fr W.heap.size o9:=eX hfo hr9 (by have:=hF7.size;have:=hf8.size;omega);refine Gz 9 ?_;exact aG ⟨i+1,o9,c9⟩ ⟨by omega,by omega,ho9,hfo9,hF9⟩ (by show ps.length-(i+1)<ps.length-i;omega)
   have hgA:w4.heap[q]?=some (.cells (aV ((⟨jZ p.1.names 18,p.1.data,p.1.xs⟩:NdH),p.2)).toArray 68 (0,0)):=by rw[iK (by omega)];exact hg4
   have hF5:=hF4;have ho5:=ho4
   rename World=>w5
   refine Gz 9 ?_;have hn5:=(hv.ZM hF5).2 p hpm;refine cL (Wm (u:=hd p.1.data) (Wk aX rfl (aB hgA rfl)) rfl) ?_;refine fK 1 ?_ ?_<;>intro h32
   ·refine Gz 5 ?_;refine cL (Wm (u:=hd p.1.data) (Wk aX rfl (aB hgA rfl)) rfl) ?_;refine cL (Wm (u:=hd ⟨p.1.data.a,1500,p.1.data.c⟩) (WE aH rfl rfl (by have:=hn5.2.1.2.1.le;have:=hn5.2.1.1;omega)) (by rw[bF];rfl)) ?_;refine Gz 1 ?_;refine Wl aX rfl rfl rfl hgA rfl ?_;intro w6 hg6 hs6 hf6;have hgB:w6.heap[q]?=some (.cells (aV ((⟨jZ p.1.names 18,jZ p.1.data 1500,p.1.xs⟩:NdH),p.2)).toArray 68 (0,0)):=by rw[fZ (n:=1500) (by omega)];exact hg6
    have hF6:aA nob W w6:=hF5.ZJ hf6 (fun k e=>.inr (by have e:k=q:=e;omega));have ho6:=ho5.ZN hf6 hoq;refine Gz 6 ?_;have hn6:=(hv.ZM hF6).2 p hpm;refine cL (Wm (u:=hd p.1.xs) (Wk eK rfl (aB hgB rfl)) rfl) ?_;refine fK 1 ?_ ?_<;>intro h40
    ·refine Gz 5 ?_;refine cL (Wm (u:=hd p.1.xs) (Wk eK rfl (aB hgB rfl)) rfl) ?_;refine cL (Wm (u:=hd ⟨p.1.xs.a,10,p.1.xs.c⟩) (WE iC rfl rfl (by obtain⟨k1,ys,k2,k3,_⟩:=hn6.2.2;have:=k2.le;omega)) (by rw[bF];rfl)) ?_;refine Gz 1 ?_;refine Wl eK rfl rfl rfl hgB rfl ?_;intro w7 hg7 hs7 hf7;have hgC:w7.heap[q]?=some (.cells (aV (cT p)).toArray 68 (0,0)):=by unfold cT;rw[fZ (n:=10) (by omega)];exact hg7
     have hF7:aA nob W w7:=hF6.ZJ hf7 (fun k e=>.inr (by have e:k=q:=e;omega));have ho7:=ho6.ZN hf7 hoq;refine Gz 4 ?_;refine cL (Ws (cs:=aV (cT p)) gQ rfl (aQ hgC 0 rfl)) ?_;obtain⟨y,hy⟩:∃ y,y=cT p:=⟨_,rfl⟩
     rw[←hy];refine WD bR (cs:=(aV y).toArray) oT rfl rfl rfl (by kernel_rfl) rfl ?_;intro w8 hg8 hs8 hf8;have ho8:bJ 10 aV 68 w8.heap (some ⟨w7.heap.size,0,none⟩) 1 [y]:=bS (xs:=[y]) aE (by simpa using hg8) (by show 1≤maxLen;decide);refine Wx aE rfl bR rfl rfl (ho7.ZM hf8) (ho8.vw aE) (by simp only[ZU,aa,ZT];omega) (by simp only[ZU,aa,ZT];unfold maxLen;omega) rfl ?_;intro o9 c9 w9 ho9 hf9 hr9 hn9;rw[hy,←qV hp] at ho9 ⊢;have hF9:aA nob W w9:=(hF7.trans hf8).ZJ hf9 hfo.step;have hfo9:Fr W.heap.size o9:=eX hfo hr9 (by have:=hF7.size;have:=hf8.size;omega);refine Gz 9 ?_;exact aG ⟨i+1,o9,c9⟩ ⟨by omega,by omega,ho9,hfo9,hF9⟩ (by show ps.length-(i+1)<ps.length-i;omega)
    have hgC:w6.heap[q]?=some (.cells (aV (cT p)).toArray 68 (0,0)):=by unfold cT;rw[iK (n:=10) (by omega)];exact hgB
    have hF7:=hF6;have ho7:=ho6
    rename World=>w7
    refine Gz 7 ?_;refine cL (Ws (cs:=aV (cT p)) gQ rfl (aQ hgC 0 rfl)) ?_;obtain⟨y,hy⟩:∃ y,y=cT p:=⟨_,rfl⟩
    rw[←hy];refine WD bR (cs:=(aV y).toArray) oT rfl rfl rfl (by kernel_rfl) rfl ?_;intro w8 hg8 hs8 hf8;have ho8:bJ 10 aV 68 w8.heap (some ⟨w7.heap.size,0,none⟩) 1 [y]:=bS (xs:=[y]) aE (by simpa using hg8) (by show 1≤maxLen;decide);refine Wx aE rfl bR rfl rfl (ho7.ZM hf8) (ho8.vw aE) (by simp only[ZU,aa,ZT];omega) (by simp only[ZU,aa,ZT];unfold maxLen;omega) rfl ?_;intro o9 c9 w9 ho9 hf9 hr9 hn9;rw[hy,←qV hp] at ho9 ⊢;have hF9:aA nob W w9:=(hF7.trans hf8).ZJ hf9 hfo.step;have hfo9:Fr W.heap.size o9:=eX hfo hr9 (by have:=hF7.size;have:=hf8.size;omega);refine Gz 9 ?_;exact aG ⟨i+1,o9,c9⟩ ⟨by omega,by omega,ho9,hfo9,hF9⟩ (by show ps.length-(i+1)<ps.length-i;omega)
   have hgB:w5.heap[q]?=some (.cells (aV ((⟨jZ p.1.names 18,jZ p.1.data 1500,p.1.xs⟩:NdH),p.2)).toArray 68 (0,0)):=by rw[iK (n:=1500) (by omega)];exact hgA
   have hF6:=hF5;have ho6:=ho5
   rename World=>w6
   refine Gz 9 ?_;have hn6:=(hv.ZM hF6).2 p hpm;refine cL (Wm (u:=hd p.1.xs) (Wk eK rfl (aB hgB rfl)) rfl) ?_;refine fK 1 ?_ ?_<;>intro h40
   ·refine Gz 5 ?_;refine cL (Wm (u:=hd p.1.xs) (Wk eK rfl (aB hgB rfl)) rfl) ?_;refine cL (Wm (u:=hd ⟨p.1.xs.a,10,p.1.xs.c⟩) (WE iC rfl rfl (by obtain⟨k1,ys,k2,k3,_⟩:=hn6.2.2;have:=k2.le;omega)) (by rw[bF];rfl)) ?_;refine Gz 1 ?_;refine Wl eK rfl rfl rfl hgB rfl ?_;intro w7 hg7 hs7 hf7;have hgC:w7.heap[q]?=some (.cells (aV (cT p)).toArray 68 (0,0)):=by unfold cT;rw[fZ (n:=10) (by omega)];exact hg7
    have hF7:aA nob W w7:=hF6.ZJ hf7 (fun k e=>.inr (by have e:k=q:=e;omega));have ho7:=ho6.ZN hf7 hoq;refine Gz 4 ?_;refine cL (Ws (cs:=aV (cT p)) gQ rfl (aQ hgC 0 rfl)) ?_;obtain⟨y,hy⟩:∃ y,y=cT p:=⟨_,rfl⟩
    rw[←hy];refine WD bR (cs:=(aV y).toArray) oT rfl rfl rfl (by kernel_rfl) rfl ?_;intro w8 hg8 hs8 hf8;have ho8:bJ 10 aV 68 w8.heap (some ⟨w7.heap.size,0,none⟩) 1 [y]:=bS (xs:=[y]) aE (by simpa using hg8) (by show 1≤maxLen;decide);refine Wx aE rfl bR rfl rfl (ho7.ZM hf8) (ho8.vw aE) (by simp only[ZU,aa,ZT];omega) (by simp only[ZU,aa,ZT];unfold maxLen;omega) rfl ?_;intro o9 c9 w9 ho9 hf9 hr9 hn9;rw[hy,←qV hp] at ho9 ⊢;have hF9:aA nob W w9:=(hF7.trans hf8).ZJ hf9 hfo.step;have hfo9:Fr W.heap.size o9:=eX hfo hr9 (by have:=hF7.size;have:=hf8.size;omega);refine Gz 9 ?_;exact aG ⟨i+1,o9,c9⟩ ⟨by omega,by omega,ho9,hfo9,hF9⟩ (by show ps.length-(i+1)<ps.length-i;omega)
   have hgC:w6.heap[q]?=some (.cells (aV (cT p)).toArray 68 (0,0)):=by unfold cT;rw[iK (n:=10) (by omega)];exact hgB
   have hF7:=hF6;have ho7:=ho6
   rename World=>w7
   refine Gz 7 ?_;refine cL (Ws (cs:=aV (cT p)) gQ rfl (aQ hgC 0 rfl)) ?_;obtain⟨y,hy⟩:∃ y,y=cT p:=⟨_,rfl⟩
   rw[←hy];refine WD bR (cs:=(aV y).toArray) oT rfl rfl rfl (by kernel_rfl) rfl ?_;intro w8 hg8 hs8 hf8;have ho8:bJ 10 aV 68 w8.heap (some ⟨w7.heap.size,0,none⟩) 1 [y]:=bS (xs:=[y]) aE (by simpa using hg8) (by show 1≤maxLen;decide);refine Wx aE rfl bR rfl rfl (ho7.ZM hf8) (ho8.vw aE) (by simp only[ZU,aa,ZT];omega) (by simp only[ZU,aa,ZT];unfold maxLen;omega) rfl ?_;intro o9 c9 w9 ho9 hf9 hr9 hn9;rw[hy,←qV hp] at ho9 ⊢;have hF9:aA nob W w9:=(hF7.trans hf8).ZJ hf9 hfo.step;have hfo9:Fr W.heap.size o9:=eX hfo hr9 (by have:=hF7.size;have:=hf8.size;omega);refine Gz 9 ?_;exact aG ⟨i+1,o9,c9⟩ ⟨by omega,by omega,ho9,hfo9,hF9⟩ (by show ps.length-(i+1)<ps.length-i;omega)
  refine Gz 2 ?_;refine aW [(0,_),(3,_),(4,_),(14,_)] ?_;refine Gz 15 ?_;have e:ps.take i=ps.take 40:=by
   by_cases k:i=40
   ·rw[k]
   ·rw[Z4 (by omega),Z4 (by omega)]
  rw[e] at ho2 ⊢;refine⟨_,rfl,o,c,rfl,ho2,hfo,hF2,ho2.vw aE,fun p hp=>?_⟩;obtain⟨r,hr,rfl⟩:=av.1 hp;exact((hv.ZM hF2).2 r (dj hr)).mfew
 refine Gz 5 ?_;refine aW [(0,_),(3,_),(4,_),(14,_)] ?_;refine Gz 15 ?_;have e:ps.take i=ps.take 40:=by
  by_cases k:i=40
  ·rw[k]
  ·rw[Z4 (by omega),Z4 (by omega)]
 rw[e] at ho2 ⊢;refine⟨_,rfl,o,c,rfl,ho2,hfo,hF2,ho2.vw aE,fun p hp=>?_⟩;obtain⟨r,hr,rfl⟩:=av.1 hp;exact((hv.ZM hF2).2 r (dj hr)).mfew
theorem I9{qs:List (NdH×Nd)}{ids:List Int}(G:GdT qs)(I:Bx qs ids)(h1:qs.length=1):64+((gJ (aI qs ids) ids).length:Int)≤1048576:=by
 have F:=Dz (qs:=qs) (fun q hq=>⟨G.ino q hq,(G.may q hq).2.2.2.2.2.2.1⟩);obtain⟨S,e,hI,hB,_⟩:=wX G I F;have e:(aI qs ids).s=S:=e;have hA:=IM G I;have hm:S.many≤2:=by
  have h1:=List.length_filter_le (fun r:Int=>decide (0<r)) S.refs;rw[hI.many];unfold uL;rw[hI.rl] at h1;omega
 have h2:=hI.bi;have h3:S.lst.length≤10440*S.many:=hB;have h4:=hI.bf;have hT:=F.tn;have hFB:=F.b;rw[aa] at hT hFB;have hb:=KV F.t (cB qs).ds;have n4:=hA.n4;have n2:=hA.n2;have d1:=sM (aI qs ids).s.ino;have d2:=sM (aI qs ids).s.lst;have d3:=sM (aL (aI qs ids).pl 4).1;have d4:=sM (aL ids 2).1;have d5:=sM (aI qs ids).s.fur;rw[e] at d1 d2 d5;have l1:(mY (aI qs ids)).length=(gC (cB qs).tails (cB qs).ds).1.B.length:=rfl;have l2:(jW (aI qs ids)).length=(mY (aI qs ids)).length+(dnW (aI qs ids).s.ino).length:=ZR;have l3:(jM (aI qs ids)).length=(jW (aI qs ids)).length+(dnW (aI qs ids).s.lst).length:=ZR;have l4:(iX (aI qs ids)).length=(jM (aI qs ids)).length+(dnW (aL (aI qs ids).pl 4).1).length:=ZR;have l5:(iH (aI qs ids) ids).length=(iX (aI qs ids)).length+(dnW (aL ids 2).1).length:=ZR;have l6:(gJ (aI qs ids) ids).length=(iH (aI qs ids) ids).length+(dnW (aI qs ids).s.fur).length:=ZR;rw[e] at l2 l3 l6;omega
theorem Ok{D:Nat→Prop}(H:Array Obj):NdV D H iD:=
 ⟨⟨rfl,Zt 0 (ZZ _),fun h=>absurd rfl h⟩,⟨rfl,Zt 0 (ZZ _),fun h=>absurd rfl h⟩,⟨rfl,[],⟨ZZ _,ZZ _,fun h=>absurd rfl h,fun i x hx=>by simp at hx⟩,rfl,fun h=>absurd rfl h,fun i x y hx=>by simp at hx⟩⟩
theorem OM:mnt []=none:=by
 have h:aJ []=(zF,2):=by unfold aJ;rw[ZO (fun h=>by have:=h.1;simp at this)]
 unfold mnt;rw[h,ZP (by decide)]
theorem Jh{qs:List (NdH×Nd)}{ids:List Int}(M:ImB qs ids)(h1:qs.length=1){s:MSt}(hs:MI qs ids (kM qs 17 0) s):fE ⟨imB qs ids,cG qs ids (aI qs ids),plB qs ids,ids,s.1⟩ ((cG qs ids (aI qs ids)) 9)=([],0):=by
 obtain⟨r,hr,hrn,hrk⟩:=M.G.root;have hF9:(cG qs ids (aI qs ids)) 9=rfB qs ids r.2:=by
  show (stB qs ids).refs.getD (ndB qs ((0:Nat):Int)).ino.toNat 0-1=_;rw[bX hr];rfl
 have hR:=(M.rk hr).2;have hk:cD qs r.2.names qs.length=[]:=by
  apply List.eq_nil_iff_forall_not_mem.2;intro z hz;obtain⟨k,q,rfl,hq,hn⟩:=jO hz;have hk:=(ZS.1 hq).1;obtain rfl:k=0:=by omega
  rw[hr] at hq;cases hq;have:=congrArg cv hn;simp at this
 unfold fE;rw[hF9,M.known hs hr];simp only;rw[hR.kd,hrk,ZO (fun h=>h rfl),hR.ls,hk];rfl
theorem JS(W:World):Calls Tryz.prog 8 #[] W (Ret fun v w'=>v=.bool true∧aA nob W w'):=by
 refine cS 48 [] Tryz.func8 ?_;refine Gz 7 ?_;refine Wh Pe rfl (uO none 0 [] W (Zt 0 (ZZ _)) (by decide)) rfl ?_;intro v w1 h1;obtain⟨hf1,h1⟩:=h1.of;obtain⟨rfl,_⟩:=h1.resolve_right (fun⟨x,g,_,h,_⟩=>by rw[OM] at h;cases h);refine Gz 9 ?_;refine cL (bU (aV iD) RH oT) ?_;refine WD bR (cs:=(aV iD).toArray) oT rfl rfl rfl (by kernel_rfl) rfl ?_;intro w2 hg2 hs2 hf2;have ho2:bJ 10 aV 68 w2.heap (some ⟨w1.heap.size,0,none⟩) 1 [iD]:=bS (xs:=[iD]) aE (by simpa using hg2) (by show 1≤maxLen;decide);refine Wh fn9 rfl (B7 (some ⟨w1.heap.size,0,none⟩) 1 [iD] w2 ⟨ho2.vw aE,by simp only[ai];rintro p rfl;exact Ok _⟩ (by simp only[ai];rintro p rfl;exact Oj) (by decide)) rfl ?_;rintro _ w3 hB;obtain⟨hz,ids,o3,c3,hIds,rfl,ho3,hfr3,hf3⟩:=hB.resolve_left (fun h=>h.1 FW);have hG:=G6 FW (by decide);have hl1:(iR [iD]).length=1:=F0 [iD];have M:ImB (iR [iD]) ids:=⟨hG,hIds,I9 hG hIds hl1⟩
 rw[M.img] at ho3 ⊢;obtain⟨s,hs1,hs2⟩:=M.mnt;have himl:(imB (iR [iD]) ids).length≤1048576:=by unfold imB;rw[ZR,mS];have:=M.sz;omega
 refine Gz 10 ?_;refine Wh Pe rfl (uO o3 c3 (imB (iR [iD]) ids) w3 ho3.vw (by omega)) rfl ?_;intro v w4 h4;obtain⟨hf4,h4⟩:=h4.of;obtain⟨x,g,rfl,hx,_,_,hI⟩:=h4.resolve_left (fun⟨_,h⟩=>by rw[hs1] at h;cases h);rw[hs1] at hx;cases hx;refine Gz 11 ?_;refine cL (WZ LO rfl rfl) ?_;refine Gz 9 ?_;refine Wh Re rfl (wM g _ w4 hI) rfl ?_;rintro _ w5 ⟨rfl,hw⟩;subst hw;have hb9 : -9223372036854775808≤(cG (iR [iD]) ids (aI (iR [iD]) ids)) 9∧(cG (iR [iD]) ids (aI (iR [iD]) ids)) 9≤9223372036854775807:=by have h:=M.may;have:=h.2.2.2.2.2.2.2.1;have:=h.2.2.2.2.2.2.2.2;omega
 refine Wh Rb rfl (wN g _ ((cG (iR [iD]) ids (aI (iR [iD]) ids)) 9) w5 hI hb9) rfl ?_;rintro v6 w6 ⟨hL,_⟩;rw[Jh M hl1 hs2] at hL;obtain⟨o6,c6,rfl,ho6,hfr6,hf6⟩:=hL;refine Gz 10 ?_;refine cL (Xo (Xn rfl rfl) rfl) ?_;refine Gz 2 ?_;refine cW (Xo (Xn rfl rfl) rfl) ?_;refine Gz 4 ?_;refine cW (Xo (Xn rfl rfl) rfl) ?_;refine Gz 3 ?_;refine cW (Xo (Xn rfl rfl) rfl) ?_;refine Gz 6 ?_;exact⟨_,rfl,rfl,(((hf1.trans hf2).trans hf3).trans hf4).trans hf6⟩
end
end Go.Proofs.YthdecfkdgdagcaaGreat
