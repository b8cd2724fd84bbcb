/- lamella: what the law needs. No condition beyond the bounds that each states. -/
import Derived.Shelf.SlSortCmp.InsertionK
import Derived.Shelf.SlSortCmp.WholeK
import Derived.Laws.CopyRow
import Derived.Test.YthmmmagklhiiiaaGreatDoorBuildImagesQ4
namespace Go.Proofs.YthmmmagklhiiiaaGreatDoor
open Go Go.RowKit
set_option linter.unusedVariables false
set_option linter.unusedSectionVars false
set_option maxHeartbeats 64000000
open List renaming getElem?_eq_getElem → WK, length_append → WM, getElem?_eq_some_iff → WN, length_singleton → WP, mem_of_getElem? → WQ, length_take → WR, getD → WW, length_drop → WX, take_of_length_le → WY, length_nil → WZ, length_map → W2, length_cons → W7, getElem?_of_mem → W8, append_assoc → W9, replicate → Xe, mem_singleton → Xg, nil_append → Xi, take_length → Xl, mem_cons → Xo, length → Xp, mem_map → Xq, getElem?_take → Xr, length_replicate → Xt, getElem?_map → Xv, getElem?_set_self → Xx, getElem?_eq_none → Xy, not_mem_nil → XD, getElem_mem → XE, length_set → XH, mem_of_mem_take → XL, flatMap_cons → XM, getElem?_set_ne → XO, ext_getElem? → XR, foldl_cons → XZ, size_toArray → Ye, take_zero → Yr, drop_left' → Yx, take_append → YI, eq_of_mem_replicate → YN, getElem?_replicate → YS, set_set → Zb
open _root_.Array renaming getElem?_eq_some_iff → WS, length_toList → X6, getElem?_eq_getElem → Ym, getElem?_modify → YB, getElem?_toList → YZ
open _root_.Nat renaming le_refl → WT, zero_le → WU, le_trans → Xf, blt → Xs, mul_le_mul_right → Xw, lt_of_lt_of_le → Xz, zero_add → XJ, add_mul → XK, min_eq_left → XT, one_mul → XW, add_sub_cancel_left → Yq, le_succ → Y6
open Classical renaming byContradiction → WV, not_not → Xk
open _root_.Option renaming map_eq_some_iff → Xc, map_some → Y7
open _root_.Int renaming toNat_natCast → Xm, eq_ofNat_of_zero_le → XB
section
open Go Go.RowKit Go.Maps
def BlI(s:BSt):Prop:=s.lst.length≤10440*s.many
structure GdW (qs:List (NdH×Nd))(ids:List Int)(files:List Ino)(s t:BSt)(q:Nd):Prop where
 inv:nG qs ids files t
 bl:BlI t
 ex:Ex s t
 set:0<t.refs.getD q.ino.toNat 0
 ch:∀ m,t.refs.getD m 0≠s.refs.getD m 0→∃ x∈qs,x.2.ino=(m:Int)∧∃ r,x.2.names=q.names++r
section
variable {qs:List (NdH×Nd)}{ids:List Int}{fs:FSt}(G:GdT qs)(I:mX qs ids)(F:FI (nds qs) (qs.length+1) fs)
include G
theorem Fb{wr:Int→BSt→BSt}{S:List By}(IH:∀ (k:Nat) (q:NdH×Nd) (s:BSt),qs[k]?=some q→q.2.names.length=S.length+1→nG qs ids fs.files s→BlI s→GdW qs ids fs.files s (wr k s) q.2) :
 ∀ (ys:List Int) (s:BSt),(∀ z∈ys,z∈bP qs S qs.length)→nG qs ids fs.files s→BlI s→∃ t,wrK wr qs ys s=(t,nD qs t ys)∧nG qs ids fs.files t∧BlI t∧Ex s t∧Ek qs t ys ∧
  ∀ m,t.refs.getD m 0≠s.refs.getD m 0→∃ x∈qs,x.2.ino=(m:Int)∧∃ a r,x.2.names=S++a::r
|[],s,_,h,hb=>⟨s,rfl,h,hb,.rfl,(by intro j hj;cases hj),fun m hm=>absurd rfl hm⟩
|z::r,s,hk,h,hb=>by
   obtain⟨k,q,rfl,hq,hn⟩:=xS (hk z (by simp));have g:=IH k q s hq (by rw[hn];simp) h hb;obtain⟨t,e,i1,i2,i3,i4,i5⟩:=Fb IH r (wr k s) (fun y hy=>hk y (by simp[hy])) g.inv g.bl;have hnd:=eI hq;have hset:0<t.refs.getD q.2.ino.toNat 0:=by rw[i3.r _ g.set];exact g.set
   refine⟨t,?_,i1,i2,g.ex.trans i3,?_,fun m hm=>?_⟩
   · show ((wrK wr qs r (wr k s)).1,(aU (ndB qs k).names,(ndB qs k).kind,(wr k s).refs.getD (ndB qs k).ino.toNat 0-1)::(wrK wr qs r (wr k s)).2)=_
     rw[e];refine Prod.ext rfl ?_;show _::nD qs t r=(aU (ndB qs k).names,(ndB qs k).kind,t.refs.getD (ndB qs k).ino.toNat 0-1)::nD qs t r;rw[hnd,i3.r _ g.set]
   · intro j hj
     rcases Xo.1 hj with rfl|hj
     ·rw[hnd];exact hset
     ·exact i4 j hj
   · by_cases hc:t.refs.getD m 0=(wr k s).refs.getD m 0
     · obtain⟨x,hx,h1,y,h2⟩:=g.ch m (by rw[←hc];exact hm)
       obtain⟨a,ha⟩:∃ a,a=aU q.2.names:=⟨_,rfl⟩
       rw[←ha] at hn;exact⟨x,hx,h1,a,y,by rw[h2,hn];simp⟩
     ·exact i5 m hc
include I F in
theorem Fe:∀ (n:Nat) (k:Nat) (q:NdH×Nd) (s:BSt),qs[k]?=some q→17≤q.2.names.length+n→nG qs ids fs.files s→BlI s→GdW qs ids fs.files s (wrB qs ids fs.files n k s) q.2
|0,k,q,s,hq,hd,h,hb=>by
   have:=G.dep q (WQ hq);omega
|n+1,k,q,s,hq,hd,h,hb=>by
   have hqm:=WQ hq;have hi:=G.ino q hqm;have hn40:=G.n.2;obtain⟨m,hm⟩:=XB (show 0≤q.2.ino by omega);have hmt:q.2.ino.toNat=m:=by omega
   have hX:=(G.may q hqm).2.2.2.2.2.2.2.2;obtain⟨k1,k3⟩:=(G.may q hqm).1;rw[D6 n s hq hm];have one:∀ (s':BSt) (i:Ino),nG qs ids fs.files s'→s'.lst.length≤10440*(s'.many+1)→s'.refs.getD m 0=0→Ex s s'→KiI qs fs.files s' q.2 i →
    (∀ xr,0≤xr→xr≤4294967295→jS (inB qs ids k i xr).1 (inB qs ids k i xr).2)→(∀ a,s'.refs.getD a 0≠s.refs.getD a 0→∃ x∈qs,x.2.ino=(a:Int)∧∃ r,x.2.names=q.2.names++r)→GdW qs ids fs.files s (eW qs ids k i s') q.2:=by
    intro s' i hI hl h0 he hk hmay hch;obtain⟨f1,f2,f3,f4,f5,f6⟩:=JW hI hq hm (by omega) h0 hX hk hmay hn40;refine⟨f1,by unfold BlI;rw[f5,f6];exact hl,he.trans f2,by rw[hmt];exact f3,fun a ha=>?_⟩;by_cases e:a=m
    ·exact⟨q,hqm,by rw[e];exact hm,[],by simp⟩
    ·rw[f4 a e] at ha;exact hch a ha
   by_cases c0:0<s.refs.getD m 0
   · rw[WJ c0]
     exact⟨h,hb,.rfl,by rw[hmt];exact c0,fun a ha=>absurd rfl ha⟩
   · rw[WI c0]
     have h0:s.refs.getD m 0=0:=by have:=h.rn m;omega
     have hbl:s.lst.length≤10440*(s.many+1):=by have:s.lst.length≤10440*s.many:=hb;omega
     have hno:∀ a,s.refs.getD a 0≠s.refs.getD a 0→∃ x∈qs,x.2.ino=(a:Int)∧∃ r,x.2.names=q.2.names++r:=fun a ha=>absurd rfl ha;by_cases c2:q.2.kind=2
     · rw[WJ c2]
       have e:fs.files.getD m cI=fs.files.getD q.2.ino.toNat cI:=by rw[hmt]
       exact one s _ h hbl h0 .rfl ⟨fun _=>e,fun h=>by omega,fun h=>by omega⟩ (fun xr a b=>BL G I F hq ⟨a,b⟩ (fun _=>e) (fun h=>by omega) (fun h=>by omega)) hno
     · rw[WI c2]
       by_cases c3:q.2.kind=3
       · rw[WJ c3]
         exact one s _ h hbl h0 .rfl ⟨fun h=>by omega,fun _=>rfl,fun h=>by omega⟩ (fun xr a b=>BL G I F hq ⟨a,b⟩ (fun h=>by omega) (fun _=>rfl) (fun h=>by omega)) hno
       · rw[WI c3,WJ (by omega)]
         have c1:q.2.kind=1:=by omega
         obtain⟨t,e,i1,i2,i3,i4,i5⟩:=Fb (S:=q.2.names) (ids:=ids) (fs:=fs) G (wr:=wrB qs ids fs.files n) (fun k' q' s' hq' hl h' hb'=>Fe n k' q' s' hq' (by omega) h' hb') (bP qs q.2.names qs.length) s (fun _ hz=>hz) h hb;rw[e];have hch:bM [] (nD qs t (bP qs q.2.names qs.length)):=AY G i1 _ _ (fun _ hz=>hz) (nT _) i4 (fun z hz=>by
          obtain⟨k',q',rfl,hq',hn'⟩:=xS hz;rw[eI hq'];have hv:=(jM (G.nmv q' (WQ hq') (aU q'.2.names) (by rw[hn'];simp[aU]))).2.1;cases hc:aU q'.2.names with
         |nil=>exact absurd hc hv
         |cons a r=>rfl)
         have hp:=(Kb hch).1;have hlen:=J2 (s:=t) G (S:=q.2.names);simp only;rw[hp];simp only;obtain⟨B,hB⟩:∃ B,B=bK (nD qs t (bP qs q.2.names qs.length)):=⟨_,rfl⟩
         rw[←hB] at hlen ⊢;have hex:Ex t { t with lst:=t.lst++B }:=⟨⟨[],by simp⟩,⟨_,rfl⟩,⟨[],by simp⟩,fun _ _=>rfl⟩
         obtain⟨u,hu⟩:∃ u,u = { t with lst:=t.lst++B }:=⟨_,rfl⟩
         rw[←hu] at hex ⊢;have u1:u.ino=t.ino:=by rw[hu]
         have u2:u.refs=t.refs:=by rw[hu]
         have u3:u.fur=t.fur:=by rw[hu]
         have u4:u.sets=t.sets:=by rw[hu]
         have u5:u.many=t.many:=by rw[hu]
         have u6:u.lst=t.lst++B:=by rw[hu]
         have hIu:nG qs ids fs.files u:=⟨fun a ha=>by rw[u2] at ha;exact(i1.std a ha).ex ha hex,by rw[u2];exact i1.rl,fun a=>by rw[u2];exact i1.rn a,fun y hy=>by rw[u4] at hy;rw[u3];exact i1.sets y hy,by rw[u5,i1.many];unfold uT;rw[u2],fun a b=>by rw[u2];exact i1.dist a b,by rw[u1,u5];exact i1.bi,by rw[u3,u5];exact i1.bf,by rw[u4,u5];exact i1.sn,fun y hy=>i1.sh y (by rw[←u4];exact hy)⟩
         have ht0:u.refs.getD m 0=0:=by
          rw[u2];apply WV;intro hne;obtain⟨x,hx,hxi,a,r,hxn⟩:=i5 m (by rw[h0];exact hne);obtain⟨j,hj⟩:=W8 hx;by_cases ej:k=j
          · subst ej;rw[hq] at hj;cases hj
            have:=congrArg Xp hxn;simp at this
          ·exact(G.lnk k j q x ej hq hj (by omega)).1 c1
         have hd1:EX t B=Mn u t.lst.length (bK (nD qs u (bP qs q.2.names qs.length))).length:=by
          have e1:nD qs u (bP qs q.2.names qs.length)=nD qs t (bP qs q.2.names qs.length):=B8 i4 hex;rw[e1,←hB];unfold EX Mn;rw[u6,gK (WT _)]
         have hki:KiI qs fs.files u q.2 (EX t B):=⟨fun h=>by omega,fun h=>by omega,fun _=>⟨i4.ex hex,t.lst.length,hd1,by
          rw[B8 i4 hex,←hB,u6];exact .new _ _⟩⟩
         have hm41:=i1.many41 hn40;have hlt:t.lst.length≤10440*t.many:=i2;refine one u _ hIu (by rw[u6,u5,WM];omega) ht0 (i3.trans hex) hki (fun xr a b=>BL G I F hq ⟨a,b⟩ (fun h=>by omega) (fun h=>by omega) (fun _=>⟨bJ t.lst t.lst.length,B.length,rfl,?_,by omega⟩)) (fun a ha=>?_)
         · have:=tK t.lst (t.lst.length/128)
           unfold bJ;omega
         · rw[u2] at ha
           obtain⟨x,hx,h1,b,r,h2⟩:=i5 a ha;exact⟨x,hx,h1,b::r,h2⟩
omit G in
theorem RR:nG qs ids fs.files (lH (qs.length+1))∧BlI (lH (qs.length+1)):=by
 have hz:∀ m,(lH (qs.length+1)).refs.getD m 0=0:=fun m=>by
  show (Xe (qs.length+1) (0:Int)).getD m 0=0;rw[WW,YS]
  split<;>rfl
 refine⟨⟨fun m hm=>?_,Xt,fun m=>by rw[hz];exact Int.le_refl _,(by intro y hy;cases hy),?_,fun m n hm=>?_,WU _,WU _,WU _,(by intro y hy;cases hy)⟩,WU _⟩
 ·rw[hz] at hm;exact absurd hm (by decide)
 · show 0=(List.filter _ (Xe (qs.length+1) (0:Int))).length
   rw[List.filter_replicate];simp
 ·rw[hz] at hm;exact absurd hm (by decide)
include I F in
theorem oV:∃ S,wrB qs ids fs.files 17 0 (lH (qs.length+1))=S∧nG qs ids fs.files S∧BlI S∧∀ q∈qs,0<S.refs.getD q.2.ino.toNat 0:=by
 obtain⟨r,hr,hr1,hr2⟩:=G.root;obtain⟨a,b⟩:=RR (qs:=qs) (ids:=ids) (fs:=fs);have g:=Fe G I F 17 0 r (lH (qs.length+1)) hr (by omega) a b;refine⟨_,rfl,g.inv,g.bl,?_⟩;obtain⟨S,hS⟩:∃ S,S=wrB qs ids fs.files 17 (0:Nat) (lH (qs.length+1)):=⟨_,rfl⟩
 rw[←hS] at g;show ∀ q∈qs,0<(wrB qs ids fs.files 17 ((0:Nat):Int) (lH (qs.length+1))).refs.getD q.2.ino.toNat 0;rw[←hS];have key:∀ (d:Nat) (q:NdH×Nd),q∈qs→q.2.names.length=d→0<S.refs.getD q.2.ino.toNat 0:=by
  intro d
  induction d with
 |zero=>
    intro q hq hl;obtain⟨j,hj⟩:=W8 hq;have e:=G.inj hr hj (by rw[hr1,List.length_eq_zero_iff.1 hl]);subst e;rw[hr] at hj;cases hj;exact g.set
 |succ d ih=>
    intro q hq hl;obtain⟨j,hj⟩:=W8 hq;have hne:q.2.names≠[]:=fun e=>by rw[e] at hl;cases hl
    obtain⟨p,hp,hpn,hpk⟩:=G.up q hq hne;have hpos:=ih p hp (by rw[hpn,List.length_dropLast];omega);obtain⟨k',q',i,xr,o,h1,h2,h3,h4,h5,h6,h7⟩:=g.inv.std _ hpos;obtain⟨jp,hjp⟩:=W8 hp;have hpi:=G.ino p hp;have e:k'=jp:=WV fun hne=>(G.lnk jp k' p q' (fun h=>hne h.symm) hjp h1 (by omega)).1 hpk;subst e;rw[h1] at hjp;cases hjp;have hk:=(h7.2.2 hpk).1 (j:Int) (NQ hj hne hpn.symm);rw[eI hj] at hk;exact hk
 exact fun q hq=>key _ q hq rfl
end
end
theorem rW{α:Type}{K:Nat}{enc:α→List Value}(hk:∀ x,(enc x).length=K):∀ (xs:List α) (i:Nat) (u:α),i<xs.length→(xs.set i u).flatMap enc=(xs.flatMap enc).take (i*K)++(enc u++(xs.flatMap enc).drop (i*K+K))
|[],i,u,h=>absurd h (Nat.not_lt_zero _)
|x::r,0,u,h=>by
   rw[List.set_cons_zero,XM,XM,Nat.zero_mul,XJ,Yr,Xi,Yx (hk x)]
|x::r,i+1,u,h=>by
   rw[List.set_cons_succ,XM,XM,rW hk r i u (Nat.lt_of_succ_lt_succ h)];have e1:((i+1)*K)=(enc x).length+i*K:=by rw[hk x,XK,XW];omega
   rw[e1,YI,WY (l:=enc x) (by omega),Yq,Nat.add_assoc,List.drop_append,List.drop_of_length_le (l:=enc x) (by omega),Xi,Yq,W9]
theorem Np{α:Type}(cur v:List α){o L:Nat}(h:o+v.length≤L)(hL:L≤cur.length):((cur.take o++v)++cur.drop (o+v.length)).take L=(cur.take L).take o++(v++(cur.take L).drop (o+v.length)):=by
 have e1:(cur.take o++v).length=o+v.length:=by rw[WM,WR];omega
 rw[YI,e1,WY (l:=cur.take o++v) (by omega),List.take_take,XT (by omega),List.drop_take,W9]
section
variable {P:Program}{N:Nt}{Q:Exit→Act→World→Prop}{l:SF}{w:World}{ops:Array Oper}{rest:List Oper}{ty:TypeId}{pos:String}{aft:Array Edge}{x y:Operand}{t:TypeId}{d:Nat}
theorem Vn{α:Type}{K:Nat}{enc:α→List Value}(henc:iF K enc){T:TypeId}{ao:Option Addr}{cap:Nat}{xs:List α}{i:Nat}{u:α}{ad:Addr}(hi:i<xs.length)
 (ht:gT P t (enc u).length=true)(hx:evL l x=some (.pointer (some ad)))(had:ad=adr ao (i*K))(hy:evL l y=some (.agg (enc u).toArray))(ho:bL K enc T w.heap ao cap xs)
 (h:∀ w',bL K enc T w'.heap ao cap (xs.set i u)→w'.heap.size=w.heap.size→aA (blk ao) w w'→Sl P N ops Q rest l w') :
 Sl P N ops Q (⟨none,.store t x y,ty,pos,aft,none⟩::rest) l w:=by
 have hil:=hi;rcases ho with⟨rfl,rfl,rfl⟩|⟨g,cur,rfl,hg,g1,g2,g3,g4⟩
 ·simp at hil
 · have hK:xs.length*K≤cap*K:=Xw K g1
   have hiK:(i+1)*K≤xs.length*K:=Xw K (by omega);rw[XK,XW] at hiK;have hel:(enc u).length=K:=(henc u).1;have hcl:cur.toList.length=cap*K:=by rw[X6,g3]
   have hadr:ad=⟨g,i*K,none⟩:=by
    rw[had];show (⟨g,0,none⟩:Addr).add (i*K)=_;rw[Addr.add_lit,XJ]
   subst hadr;refine UG (cur:=cur.toList) ht hx hy (henc u).2 (by simpa using hg) (by omega) (fun w' q1 q2 q3=>h w' ?_ q2 ?_)
   · refine .inr ⟨g,_,rfl,q1,by simpa using g1,g2,?_,?_⟩
     ·simp only[Ye,WM,WR,WX];omega
     · rw[XH,rW (fun x=>(henc x).1) xs i u hi,←g4]
       have:=Np cur.toList (enc u) (o:=i*K) (L:=xs.length*K) (by omega) (by omega);rw[hel] at this;rw[hel];exact this
   ·exact q3.mono (fun k e=>⟨⟨g,0,none⟩,rfl,e.symm⟩)
theorem Ui{α:Type}{K:Nat}{enc:α→List Value}(henc:iF K enc)(hK:0<K){e:TypeId}(z0:α){bytes:Nat}(ht:aX P t e K bytes)(hz:(P.info? e).map (fun i=>i.zero.map (·.cells))=some (some (enc z0).toArray)){k k':IntKind}{n m:Int}
 (hx:evL l x=some (.int k n))(hy:evL l y=some (.int k' m))(h0:0≤n)(hnm:n≤m)(hn:(bytes:Int)*m≤281474976710656)(hm:m≤9223372036854775807)(hd:Xs d N.n=true)
 (h:∀ w',bL K enc e w'.heap (some ⟨w.heap.size,0,none⟩) m.toNat (Xe n.toNat z0)→w'.heap.size=w.heap.size+1→aA nob w w'→Sl P N ops Q rest ((d,.slice (some ⟨w.heap.size,0,none⟩) n.toNat m.toNat)::l) w') :
 Sl P N ops Q (⟨some d,.makeSlice t x y,ty,pos,aft,none⟩::rest) l w:=by
 obtain⟨i,z,hi,hz1,hzc,h2,h3⟩:=ht.parts;have hc:z.cells=(enc z0).toArray:=by rw[hi] at hz;simp[hz1] at hz;exact hz
 have hr:=run_make (P:=P) w t e i z ht.und hi hz1 k k' n m h0 hnm (by rw[h3];exact hn) hm;have hel:(enc z0).length=K:=(henc z0).1;rw[hc,h2] at hr;refine TJ (w':=w.alloc (.cells (madeCells (enc z0).toArray (m.toNat*K)) e)) (fun a ha=>?_) hd (h _ ?_ (by simp) (aA.alloc _ _ _))
 ·simp only[execOp,ha.ev hx,ha.ev hy,Sem.run_bind,hr,Result.andThen_ok,Sem.run_pure]
 · refine .inr ⟨w.heap.size,_,rfl,heap_alloc_new w _,by simp;omega,by unfold maxLen;omega,size_madeCells _ _,?_⟩
   apply XR;intro q;rw[Xt];have hle:n.toNat*K≤m.toNat*K:=Xw K (by omega);by_cases hq:q<n.toNat*K
   · have h1:q/K<n.toNat:=(Nat.div_lt_iff_lt_mul hK).2 hq
     have h4:q%K<K:=Nat.mod_lt _ hK;have e1:(Xe n.toNat z0)[q/K]?=some z0:=by rw[YS,WJ h1]
     have e2:(enc z0)[q%K]?=some ((enc z0).toArray[q%K]!):=by
      rw[getElem!_pos (enc z0).toArray (q%K) (by rw[Ye];omega)];rw[WK (by omega)];rfl
     have e3:=mQ (fun x=>(henc x).1) (Xe n.toNat z0) (q/K) z0 e1 (q%K) _ e2;rw[Nat.div_add_mod'] at e3;rw[e3,Xr,WJ hq];unfold madeCells;rw[YZ,Array.getElem?_map,Array.getElem?_range,WJ (by omega)];simp only[Y7,Ye,hel]
   ·rw[Xy (by rw[WR];omega),Xy (by rw[cE (fun x=>(henc x).1),Xt];omega)]
end
section
open Go Go.RowKit Go.Maps
theorem sS:∀ (L:List By) (t:By) (s:DS),eF (L++[t]) s=((kO 64 (eF L s).1 t).1,(eF L s).2++[((kO 64 (eF L s).1 t).2:Int)])
|[],t,s=>rfl
|x::r,t,s=>by
   show ((eF (r++[t]) (kO 64 s x).1).1,_::(eF (r++[t]) (kO 64 s x).1).2)=_;rw[sS r t];rfl
theorem Fj{L:List By}(h:zR L)(s:DS):(eF L s).1.B.length≤s.B.length+135*L.length:=by
 obtain⟨z,hz,hl⟩:=sV L s;have key:∀ M:List By,zR M→(M.map (fun t=>(bV t).1.length)).sum≤135*M.length:=by
  intro M
  induction M with
 |nil=>intro _;exact WT _
 |cons x r ih=>
    intro hb;have h1:=ih (fun y hy=>hb y (by simp[hy]));have h2:=hb x (by simp);have h3:=dR (b:=x) h2.2;rw[List.map_cons,List.sum_cons,W7];omega
 have:=key L h;rw[hz,WM];omega
theorem pH(T:By):(dnW T).length≤135*((T.length+127)/128):=tK T (nF T)
theorem MP(n:Nat):∀ (L:List Nd) (s:FSt),(L.foldl dS s).ds.m.length≤s.ds.m.length+L.length
|[],s=>WT _
|x::r,s=>by
   have h:=MP n r (dS s x)
   have h2:(dS s x).ds.m.length≤s.ds.m.length+1:=by
    unfold dS
    split
    ·exact Y6 _
    · show (fO 64 s.ds x.data).1.m.length≤_
      unfold fO HM
      split
      ·exact Y6 _
      · split
        ·exact Y6 _
        · show (s.ds.m++_).length≤_
          rw[WM];exact WT _
   rw[XZ,W7];omega
structure SW (qs:List (NdH×Nd))(ids:List Int):Prop where
 B:(eF (aS qs).tails (aS qs).ds).1.B.length≤200000
 i:(aK qs ids).s.ino.length≤10000
 l:(aK qs ids).s.lst.length≤500000
 f:(aK qs ids).s.fur.length≤200000
 b:bdB (aK qs ids).s
 m:(aK qs ids).s.many≤41
 d:ids.length≤80
 n4:(aJ (aK qs ids).pl 4).1.length≤160
 n2:(aJ ids 2).1.length≤160
 o1:(gN (aK qs ids)).length≤200000
 o2:(gM (aK qs ids)).length≤400000
 o3:(iC (aK qs ids)).length≤1000000
 o4:(iI (aK qs ids)).length≤1100000
 o5:(iY (aK qs ids) ids).length≤1200000
 o6:(gL (aK qs ids) ids).length≤1500000
theorem Az(l:List Int)(w:Nat)(hw:w24 w)(h:inW w l):(aJ l w).1.length=w*l.length:=by rw[CX hw h,Mi]
theorem Cf{qs:List (NdH×Nd)}{ids:List Int}(G:GdT qs)(I:mX qs ids):SW qs ids:=by
 have F:=BZ (qs:=qs) (fun q hq=>⟨G.ino q hq,(G.may q hq).2.2.2.2.2.2.1⟩);obtain⟨S,e,hI,hB,_⟩:=oV G I F;have e:(aK qs ids).s=S:=e;have hn:=G.n.2;have h41:=hI.many41 hn;have hid:=oO I;have h1:=hI.bi;have h2:S.lst.length≤10440*S.many:=hB;have h3:=hI.bf;have h4:=hI.sn;have hT:=F.tn;have hFB:=F.b;rw[W2] at hT hFB;have hb:=Fj F.t (aS qs).ds;have hpl:=kC (aS qs).tails (aS qs).ds;have hpi:inW 4 (aK qs ids).pl:=by
  intro x hx;obtain⟨j,hj,rfl⟩:=List.getElem_of_mem hx;have hj2:j<(aS qs).tails.length:=by have:j<(eF (aS qs).tails (aS qs).ds).2.length:=hj;omega
  obtain⟨pre,rest,a1,a2⟩:=Fk (aS qs).tails (aS qs).ds j hj2;have e:(aK qs ids).pl[j]=(eF (aS qs).tails (aS qs).ds).2.getD j 0:=by
   have e2:(aK qs ids).pl=(eF (aS qs).tails (aS qs).ds).2:=rfl;rw[WW,←e2,WK hj];rfl
  have a3:=congrArg Xp a1;rw[WM] at a3;rw[e,a2];refine⟨by omega,?_⟩;show (64:Int)+pre.length<4294967296;omega
 have hii:inW 2 ids:=by
  intro x hx;have h:=(I.2 x).1 hx;unfold iP at h;obtain⟨q,hq,h1⟩:=List.mem_flatMap.1 h;obtain⟨_,_,_,m2,m3,_⟩:=G.may q hq;simp only[Xo,XD,or_false] at h1;refine⟨by rcases h1 with rfl|rfl<;>omega,?_⟩;show x<65536;rcases h1 with rfl|rfl<;>omega
 have hp4:(aJ (aK qs ids).pl 4).1.length=4*(aK qs ids).pl.length:=Az _ 4 (.inr rfl) hpi;have hp2:(aJ ids 2).1.length=2*ids.length:=Az _ 2 (.inl rfl) hii;have hpl2:(aK qs ids).pl.length=(aS qs).tails.length:=hpl;have d1:=pH (aK qs ids).s.ino;have d2:=pH (aK qs ids).s.lst;have d3:=pH (aJ (aK qs ids).pl 4).1;have d4:=pH (aJ ids 2).1;have d5:=pH (aK qs ids).s.fur;rw[e] at d1 d2 d5;rw[hp4] at d3;rw[hp2] at d4;have l1:(gN (aK qs ids)).length=(eF (aS qs).tails (aS qs).ds).1.B.length:=rfl;have l2:(gM (aK qs ids)).length=(gN (aK qs ids)).length+(dnW (aK qs ids).s.ino).length:=WM;have l3:(iC (aK qs ids)).length=(gM (aK qs ids)).length+(dnW (aK qs ids).s.lst).length:=WM;have l4:(iI (aK qs ids)).length=(iC (aK qs ids)).length+(dnW (aJ (aK qs ids).pl 4).1).length:=WM;have l5:(iY (aK qs ids) ids).length=(iI (aK qs ids)).length+(dnW (aJ ids 2).1).length:=WM;have l6:(gL (aK qs ids) ids).length=(iY (aK qs ids) ids).length+(dnW (aK qs ids).s.fur).length:=WM;rw[e] at l2 l3 l6;refine⟨by omega,by rw[e];omega,by rw[e];omega,by rw[e];omega,by rw[e];exact⟨by omega,by omega,by omega,by omega,by omega⟩,by rw[e];omega,by omega,by omega,by omega,by omega,by omega,by omega,by omega,by omega,by omega⟩
theorem RyO.tight{D B:Nat→Prop}{w:World}{g first:Nat}{s:DS}(h:RyO D w.heap g first s)(hB:∀ k,k<w.heap.size→D k→B k):RyO B w.heap g first s:=h.keepTo (VZ nob _) (fun _ _ _=>id) hB
theorem GN(A:Nat→Prop)(g first:Nat)(s:DS)(bo:Option Addr)(bc:Nat)(b:By)(W:World)(hM:RyO A W.heap g first s)(hv:Vw b8 W.heap bo bc b)(hfi:first≤1000)(hb:s.B.length≤1099511627776)(hbl:b.length≤1048576)(hml:s.m.length≤1048576) :
 CA 31 [pT g,.slice bo b.length bc] W fun v w'=>∃ o c,v=.tuple #[iV ((fO first s b).2:Nat),.slice o (cO b).length c]∧Own b8 5 w'.heap o c (cO b)∧Fr W.heap.size o∧RyO (fun k=>Nx A W w' k∧¬ blk o k) w'.heap g first (fO first s b).1∧aA A W w':=by
 refine(II (fun k=>A k∨W.heap.size≤k) g first s bo bc b W (hM.tight (fun k _ h=>.inl h)) (fun k h=>.inr h) hv hfi hb hbl hml).mono ?_;rintro e w' ⟨v,rfl,o,c,rfl,h1,h2,h3,h4⟩;exact⟨_,rfl,o,c,rfl,h1,h2,h3.tight (fun k hk h=>⟨h.1.imp id (fun h=>⟨h,hk⟩),h.2⟩),h4.nx⟩
theorem CU(A:Nat→Prop)(g first:Nat)(s:DS)(bo:Option Addr)(bc:Nat)(b:By)(W:World)(hM:RyO A W.heap g first s)(hv:Vw b8 W.heap bo bc b)(hfi:first≤1000)(hb:s.B.length≤1099511627776)(hbl:b.length≤128) :
 CA 33 [pT g,.slice bo b.length bc] W fun v w'=>v=iV ((kO first s b).2:Nat)∧RyO (Nx A W w') w'.heap g first (kO first s b).1∧aA A W w':=by
 refine(Eu (fun k=>A k∨W.heap.size≤k) g first s bo bc b W (hM.tight (fun k _ h=>.inl h)) (fun k h=>.inr h) hv hfi hb hbl).mono ?_;rintro e w' ⟨v,rfl,rfl,h3,h4⟩;exact⟨_,rfl,rfl,h3.tight (fun k hk h=>h.imp id (fun h=>⟨h,hk⟩)),h4.nx⟩
theorem RyO.zero{H:Array Obj}{h f:Nat}(hg:H[h]?=some (.cells (rdC f none 0 0 none 0 0).toArray 84 (0,0))):RyO (· = h) H h f ⟨[],[]⟩:=
 ⟨none,0,none,0,[],hg,V8,.inl ⟨rfl,rfl,rfl⟩,⟨rfl,fun i x y hx=>by cases hx⟩,fun⟨a,ha,_⟩=>(by cases ha),fun⟨a,ha,_⟩=>(by cases ha),V4,rfl,fun k ⟨a,ha,_⟩=>(by cases ha),fun k ⟨a,ha,_⟩=>(by cases ha)⟩
theorem uY.zero{H:Array Obj}{p:Nat}(hg:H[p]?=some (.cells #[sN] 86 (0,0))):uY (· = p) H p []:=
 ⟨fun _=>False,none,0,[],hg,V8,⟨rfl,fun i x y hx=>by cases hx⟩,fun⟨a,ha,_⟩=>(by cases ha),rfl,fun k ⟨a,ha,_⟩=>(by cases ha),fun k h=>h.elim⟩
def fs0(n:Nat):FSt:=⟨⟨[],[]⟩,[],Xe n cI⟩
theorem fi0(n:Nat):FI [] n (fs0 n):=⟨zE.zero,(by intro b hb;cases hb),WT _,Xt,WT _,fun i f hf=>.inl (YN (WQ hf)),(by intro x hx;cases hx)⟩
theorem DA{V:List Nd}{n:Nat}{s:FSt}(h:FI V n s):∀ f∈s.files,f.2.length≤200:=by
 intro f hf;obtain⟨i,hi⟩:=W8 hf;rcases h.f i f hi with e|⟨x,_,_,_,st,fr,off,e,_⟩
 ·rw[e];exact WU _
 ·rw[e];exact WU _
theorem xL{qs:List (NdH×Nd)}{k:Nat}{q:NdH×Nd}(h:qs[k]?=some q):nds (qs.take (k+1))=nds (qs.take k)++[q.2]:=by rw[tkL h];simp[nds]
theorem rZ{qs:List (NdH×Nd)}{k:Nat}{q:NdH×Nd}(h:qs[k]?=some q)(s:FSt):(nds (qs.take (k+1))).foldl dS s=dS ((nds (qs.take k)).foldl dS s) q.2:=by rw[xL h,List.foldl_append];rfl
theorem nW{s:FSt}{x:Nd}(h:x.kind≠2∨(s.files.getD x.ino.toNat cI).1 0=2):dS s x=s:=by unfold dS;rw[WJ h]
def sU(z0 mn z2 z3 z4 z5 z6 nid nfr root:Int):List Value:=[iV z0,iV mn,iV z2,iV z3,iV z4,iV z5,iV z6,iV nid,iV nfr,iV root]
theorem Nr(z0 mn z2 z3 z4 z5 z6 nid nfr root:Int):∀ v∈sU z0 mn z2 z3 z4 z5 z6 nid nfr root,v.oneCell'=true:=by
 intro v hv;simp only[sU,Xo,XD,or_false] at hv;rcases hv with rfl|rfl|rfl|rfl|rfl|rfl|rfl|rfl|rfl|rfl<;>rfl
def BuP(W:World)(ps:List (NdH×Nd)):Value→World→Prop:=fun v w'=>
 (chk (nds ps)≠0∧v=.tuple #[sN,iV (chk (nds ps))]∧aA nob W w') ∨
 (chk (nds ps)=0∧∃ ids o c,mX (jU ps) ids∧v=.tuple #[.slice o (pY (jU ps) ids).1.length c,iV (pY (jU ps) ids).2]∧Own b8 5 w'.heap o c (pY (jU ps) ids).1∧Fr W.heap.size o∧aA nob W w')
end
section
open Go Go.RowKit Go.Maps
theorem PiX.calm{z:Nat}{a:PiA}{ow:Nat→Nat}{H:Array Obj}{g tp:Nat}{qs:List (NdH×Nd)}{ids:List Int}{files:List Ino}{s:BSt}(h:PiX z a ow H g tp qs ids files s)(hz:z≠1∧z≠2∧z≠3∧z≠5∧z≠7∧z≠8):PiX 0 a ow H g tp qs ids files s:=by
 obtain⟨b0,b1,b2,b3,c1,c2,c3,⟨c4,c5⟩,⟨c6,c7⟩,c8,c9⟩:=h;exact⟨b0,b1,b2,b3,fun _=>c1 hz.1,fun _=>c2 hz.2.1,fun _=>c3 hz.2.2.1,⟨c4,fun _=>c5 hz.2.2.2.1⟩,⟨c6,fun _=>c7 hz.2.2.2.2.1⟩,c8,fun _=>c9 hz.2.2.2.2.2⟩
theorem jL.mono{D D':Nat→Prop}{H:Array Obj}{p:Nat}{L:List By}(h:jL D H p L)(hd:∀ k,D k→D' k):jL D' H p L:=by
 obtain⟨ao,c,bo,c',h1,h2,h3,h4,h5,h6,h7,h8,h9⟩:=h;exact⟨ao,c,bo,c',h1,h2,h3,h4,h5,h6,hd _ h7,fun k hk=>hd k (h8 k hk),fun k hk=>hd k (h9 k hk)⟩
theorem Ll{D:Nat→Prop}{H:Array Obj}{hs:List Hd}{L:List By}(h:cP D H hs L):cP (fun k=>D k∧k<H.size) H hs L:=
 ⟨h.1,fun i x y hx hy=>by
  obtain⟨a,b,c⟩:=h.2 i x y hx hy;exact⟨a,b,fun hne k hk=>⟨c hne k hk,by obtain⟨z,hz,e⟩:=hk;have:=b.lt hne z hz;omega⟩⟩⟩
theorem E7.put{m:List (I6×Value)}{files:List Ino}(h:E7 m files)(x:I6){f:Ino}(hx:1≤x.1)(hl:x.1.toNat<files.length)(hf:f.1 0=2):E7 (cX m x (BT (fl0 f))) (files.set x.1.toNat f):=by
 intro a ha;rw[kF];by_cases e:a=x
 · subst e
   rw[WJ rfl,WW,Xx hl];show _=if f.1 0=2 then _ else _
   rw[WJ hf];rfl
 · have hne:¬ a.1.toNat=x.1.toNat:=fun h=>e (Subtype.ext (by omega))
   rw[WI e,h a ha];have e2:(files.set x.1.toNat f).getD a.1.toNat cI=files.getD a.1.toNat cI:=by
    rw[WW,XO (fun h=>hne h.symm)];rfl
   rw[e2]
theorem Dx:∀ {L:List By},zR L→L.length≤1048576→L.flatten.length≤1099511627776:=by
 have key:∀ L:List By,zR L→L.flatten.length≤128*L.length:=by
  intro L
  induction L with
 |nil=>intro _;exact WT _
 |cons x r ih=>
    intro h;have h1:=ih (fun y hy=>h y (by simp[hy]));have h2:=(h x (by simp)).2;rw[List.flatten_cons,WM,W7];omega
 intro L h hn;have:=key L h;omega
noncomputable def BQ (W w':World) (z:Nat) (o:Option Addr) (ow:Nat→Nat):Nat→Nat:=fun k=>open Classical in if k<W.heap.size then ow k else if k<w'.heap.size∧¬ blk o k then z else 0
theorem Di{W w':World}{z:Nat}{o:Option Addr}{ow:Nat→Nat}{k:Nat}(h:k<W.heap.size):BQ W w' z o ow k=ow k:=WJ h
theorem Jl{W w':World}{z:Nat}{o:Option Addr}{ow:Nat→Nat}(hs:W.heap.size≤w'.heap.size){k:Nat}(h:w'.heap.size≤k):BQ W w' z o ow k=0:=by unfold BQ;rw[WI (by omega),WI (fun h2=>by have:=h2.1;omega)]
theorem F7{W w':World}{z:Nat}{o:Option Addr}{ow:Nat→Nat}(hn:∀ k,W.heap.size≤k→ow k=0){k:Nat}(h:ow k≠0):BQ W w' z o ow k=ow k:=Di (WV fun hc=>h (hn k (by omega)))
theorem Jm{W w':World}{z:Nat}{o:Option Addr}{ow:Nat→Nat}(hf:Fr W.heap.size o){k:Nat}(h:blk o k):BQ W w' z o ow k=0:=by
 obtain⟨x,hx,rfl⟩:=id h;have:=hf x hx;unfold BQ;rw[WI (by omega),WI (fun h2=>h2.2 h)]
theorem LX{W w':World}{z:Nat}{o:Option Addr}{ow:Nat→Nat}(hn:∀ k,W.heap.size≤k→ow k=0)(hz:z≠0){k:Nat}(h:Nx (fun k=>ow k=z) W w' k∧¬ blk o k):BQ W w' z o ow k=z:=by
 obtain⟨h,hb⟩:=h;rcases h with h|⟨h1,h2⟩
 ·rw[F7 hn (by omega)];exact h
 ·unfold BQ;rw[WI (by omega),WJ ⟨h2,hb⟩]
theorem EC(a:PiA)(ow:Nat→Nat)(g tp:Nat)(qs:List (NdH×Nd))(ids:List Int)(S0:BSt)(dg:Nat)(G:GdT qs)(W:World)(hM:PiX 0 a ow W.heap g tp qs ids (Xe (qs.length+1) cI) S0)(hn:∀ k,W.heap.size≤k→ow k=0)(hD:DwO (fun k=>ow k=9) W.heap dg tp 64 ⟨[],[]⟩) :
 CA 22 [pT g,pT dg] W fun v w'=>∃ o c ow',v=.slice o (eF (aS qs).tails (aS qs).ds).2.length c∧Own i64 3 w'.heap o c (eF (aS qs).tails (aS qs).ds).2∧(∀ k,blk o k→W.heap.size≤k∧ow' k=0)∧PiX 0 a ow' w'.heap g tp qs ids (aS qs).files S0∧DwO (fun k=>ow' k=9) w'.heap dg tp 64 (eF (aS qs).tails (aS qs).ds).1 ∧
  FI (nds qs) (qs.length+1) (aS qs)∧(∀ k,k<W.heap.size→ow' k=ow k)∧(∀ k,w'.heap.size≤k→ow' k=0)∧aA (Lb ow) W w':=by
 have hq40:=G.n.2;have htn:∀ {ow9:Nat→Nat} {H:Array Obj} {files:List Ino} {c:Nat},PiX 0 a ow9 H g tp qs ids files S0→c≠4→¬ ow9 tp=c:=fun h hc e=>by have h4:=h.2.2.2.1.2;rw[h4] at e;exact hc e.symm
 refine cS 86 [(0,_),(1,_)] Tryz.func22 ?_;refine cA 7 Sh (NK W) ?_;rintro _ w1 ⟨rfl,hP1,hf1,hs1⟩;obtain⟨pg,epg⟩:∃ p,p=W.heap.size:=⟨_,rfl⟩
 rw[←epg] at hP1 ⊢;obtain⟨ow1,eo1⟩:∃ o,o=pW W w1 10 ow:=⟨_,rfl⟩
 have o1n:∀ k,ow k≠0→ow1 k=ow k:=fun k hk=>by rw[eo1];exact iT 10 hn hk
 have o1o:∀ k,k<W.heap.size→ow1 k=ow k:=fun k hk=>by rw[eo1];exact kN 10 ow hk
 have o1z:∀ k,w1.heap.size≤k→ow1 k=0:=fun k hk=>by rw[eo1];exact lV 10 ow hf1.size hk
 have hM1:PiX 0 a ow1 w1.heap g tp qs ids (Xe (qs.length+1) cI) S0:=hM.step hf1 0 (by decide) (fun k h=>h.elim) o1n;have hD1:DwO (fun k=>ow1 k=9) w1.heap dg tp 64 ⟨[],[]⟩:=(hD.WG hf1).mono (fun k hk=>by have hk:ow k=9:=hk;rw[o1n k (by omega)];exact hk) (htn hM1 (by decide));have hP1:jL (fun k=>ow1 k=10) w1.heap pg []:=hP1.mono (fun k hk=>by have hk:k=pg:=hk;rw[eo1];exact oM 10 hn (by decide) (.inr ⟨by omega,by omega⟩));refine Gz 9 ?_;refine cL (S2 wN rfl (aD hM1.1.1 rfl)) ?_;refine Gz 5 ?_;refine S4 (β:=Nat×(FSt×(Nat→Nat))) (fun⟨k,⟨s,ow9⟩⟩=>[(0,pT g),(1,pT dg),(5,pT pg),(20,.slice a.lo qs.length a.lc),(21,iV qs.length),(22,iV k)]) (fun⟨k,⟨s,ow9⟩⟩ w=>k≤qs.length∧s=(nds (qs.take k)).foldl dS (fs0 (qs.length+1))∧FI (nds (qs.take k)) (qs.length+1) s∧PiX 0 a ow9 w.heap g tp qs ids s.files S0∧DwO (fun k=>ow9 k=9) w.heap dg tp 64 s.ds∧jL (fun k=>ow9 k=10) w.heap pg s.tails∧(∀ k,k<W.heap.size→ow9 k=ow k)∧(∀ k,w.heap.size≤k→ow9 k=0)∧aA (Lb ow) W w) (fun⟨k,⟨s,ow9⟩⟩=>qs.length-k) ⟨0,⟨fs0 (qs.length+1),ow1⟩⟩ ⟨rfl,rfl,rfl,rfl,rfl,rfl,trivial⟩ ⟨WU _,rfl,fi0 _,hM1,hD1,hP1,o1o,o1z,hf1.any⟩ ?_;rintro⟨k,⟨s,ow9⟩⟩ w9 ⟨hk,hs,hFI,hM,hD9,hP9,hl9,hn9,hF9⟩;refine fK 2 ?_ ?_<;>intro h23
 ·have hkl:k<qs.length:=by omega
  obtain⟨q,hq⟩:∃ q,qs[k]?=some q:=⟨_,WK hkl⟩
  have hqm:=WQ hq;have hqi:=G.ino q hqm;obtain⟨m,hm⟩:=XB (show 0≤q.2.ino by omega);have htm:q.2.ino.toNat=m:=by omega
  have hib : -9223372036854775808≤q.2.ino∧q.2.ino≤9223372036854775807:=by omega
  have hml:m<s.files.length:=by rw[hFI.l];omega
  have hdat:q.2.data.length≤4096:=(G.may q hqm).2.2.2.2.2.2.1;have hnd:=hM.2.1.1;obtain⟨⟨hg9,hg96⟩,_,_,_,_,_,_,_,⟨f97,f91⟩,_⟩:=id hM;obtain⟨mf,hmf,hFM⟩:=f91 (by decide);have hfv:=hFM ⟨q.2.ino,hib⟩ hqi.1;rw[show (⟨q.2.ino,hib⟩:I6).1.toNat=m from htm] at hfv;obtain⟨R0,hR0⟩:∃ R0:Ino,R0=if (s.files.getD m cI).1 0=2 then fl0 (s.files.getD m cI) else cI:=⟨_,rfl⟩
  have hfe:(cQ mf ⟨q.2.ino,hib⟩).getD (BT cI)=BT R0:=by rw[hfv,hR0];split<;>rfl
  have hfs:decide ((cQ mf ⟨q.2.ino,hib⟩).isSome=true)=decide ((s.files.getD m cI).1 0=2):=by
   rw[hfv];by_cases h:(s.files.getD m cI).1 0=2
   ·rw[WJ h,WO h];rfl
   ·rw[WI h,WL h];rfl
  have hs2:=rZ hq (fs0 (qs.length+1));rw[←hs] at hs2;have hFI2:=nX hFI (x:=q.2) ⟨by omega,by omega⟩ hdat;rw[←xL hq] at hFI2;refine Gz 6 ?_;refine Tw (β:=FSt×(Nat→Nat)) (fun⟨s,ow9⟩=>[(0,pT g),(1,pT dg),(5,pT pg),(20,.slice a.lo qs.length a.lc),(21,iV qs.length),(22,iV k)]) (fun⟨s,ow9⟩ w=>s=(nds (qs.take (k+1))).foldl dS (fs0 (qs.length+1))∧FI (nds (qs.take (k+1))) (qs.length+1) s∧PiX 0 a ow9 w.heap g tp qs ids s.files S0∧DwO (fun k=>ow9 k=9) w.heap dg tp 64 s.ds∧jL (fun k=>ow9 k=10) w.heap pg s.tails∧(∀ k,k<W.heap.size→ow9 k=ow k)∧(∀ k,w.heap.size≤k→ow9 k=0)∧aA (Lb ow) W w) ?_ ?_
  ·refine Gz 3 ?_;refine cL (S1 aQ rfl rfl hnd.1.non (by omega)) ?_;refine cL (Tf (cs:=aE q) aZ rfl (fun j v hj=>hnd.1.rowZ k rfl hq j v hj)) ?_;refine S5 eY rfl ?_;intro w10 hg10 hs10 hf10;obtain⟨d,ed⟩:∃ d,d=w9.heap.size:=⟨_,rfl⟩
   rw[←ed] at hg10 ⊢;refine Te (vs:=aE q) aZ rfl rfl (aB q).2 hg10 rfl ?_;intro w11 hd11 hs11 hf11;have hs10b:w10.heap.size=w9.heap.size+1:=hs10;have hs11b:w11.heap.size=w10.heap.size:=hs11;have hf911:aA nob w9 w11:=hf10.tw hf11;have hg11:=hf911.obj hg9 id;have hmf11:=hmf.WH hf911 id;refine Gz 1 ?_;refine aW [(0,_),(1,_),(5,_),(7,_),(20,_),(21,_),(22,_),(23,_)] ?_;refine Gz 3 ?_;refine Tc 13 (fun H=>H[g]?=some (.cells (piC a qs.length ids.length).toArray 62 (0,0))∧H[d]?=some (.cells (aE q).toArray 37 (0,0))∧dM enI H a.f mf) [10,11] [0,1,2,3,4,5,6,7,8,9,10,11,12] aI (by kernel_rfl) (⟨hg11,hd11,hmf11⟩) ?_;refine Gz 6 ?_;refine xC rfl (S3 (u:=.tuple [BT R0,.bool (decide ((s.files.getD m cI).1 0=2))].toArray) (TR mpF uU (a:=⟨q.2.ino,hib⟩) rfl rfl (fun H hH=>hH.2.2)) (by rw[hfe,hfs])) ?_;refine Gz 3 ?_;refine S7 rfl rfl (S5 Cn rfl ?_);intro w12 hg12 hs12 hf12;have hf12:=hf12.WE;refine Tg (by exact⟨hf12.obj hg11 id,hf12.obj hd11 id,hmf11.WH hf12 id⟩) ?_;refine S7 rfl rfl (Te (vs:=oY R0) lD rfl rfl (lY _ _) hg12 rfl ?_);intro w13 hc13 hs13 hf13;have hs12b:w12.heap.size=w11.heap.size+1:=hs12;have hs13b:w13.heap.size=w12.heap.size:=hs13;have hf1113:aA nob w11 w13:=hf12.tw hf13;refine Tg (by exact⟨hf1113.obj hg11 id,hf1113.obj hd11 id,hmf11.WH hf1113 id⟩) ?_;have hf913:=hf911.trans hf1113;have hd13:=hf1113.obj hd11 id;have hn13:∀ k,w13.heap.size≤k→ow9 k=0:=fun k hk=>hn9 k (by omega);refine Gz 5 ?_;refine TE (Tm (Ta rfl)) rfl (fun h36=>?_) (fun h36=>?_)
   ·have h36:=of_decide_eq_true h36;have hsk:dS s q.2=s:=nW (.inr (by rw[htm];exact h36));rw[hsk] at hs2 hFI2;refine Gz 11 ?_;exact aC ⟨s,ow9⟩ ⟨hs2.symm,hFI2,hM.WG hf913,hD9.WG hf913,hP9.WH hf913 (fun _ _=>id),hl9,hn13,hF9.trans hf913.any⟩
   have h36:¬ (s.files.getD m cI).1 0=2:=fun h=>h36 (WO h);refine fW 3 ?_ ?_<;>intro h40
   ·have hsk:dS s q.2=s:=nW (.inl h40);rw[hsk] at hs2 hFI2;refine Gz 7 ?_;exact aC ⟨s,ow9⟩ ⟨hs2.symm,hFI2,hM.WG hf913,hD9.WG hf913,hP9.WH hf913 (fun _ _=>id),hl9,hn13,hF9.trans hf913.any⟩
   have hk2:q.2.kind=2:=Xk.1 h40;have hnf:¬ (q.2.kind≠2∨(s.files.getD q.2.ino.toNat cI).1 0=2):=by rw[htm];rintro(h|h);exact h hk2;exact h36 h
   obtain⟨R1,hR1⟩:∃ R,R=fO 64 s.ds q.2.data:=⟨_,rfl⟩
   obtain⟨R2,hR2⟩:∃ R,R=dK s.tails (cO q.2.data):=⟨_,rfl⟩
   obtain⟨fN,hfN⟩:∃ f:Ino,f=(fun j=>[2,0,0,0,0,0,(R1.2:Int),q.2.data.length,(R2.2.1:Int),(R2.2.2:Int)].getD j 0,[]):=⟨_,rfl⟩
   have hsn:dS s q.2=⟨R1.1,R2.1,s.files.set m fN⟩:=by unfold dS;rw[WI hnf,←hR1,←hR2,hfN,htm]
   rw[hsn] at hs2 hFI2;have hdv:=(hnd.2 q hqm).2.1;have hdn:q.1.data.n=q.2.data.length:=hdv.1;refine Gz 9 ?_;refine cL (S3 (u:=.slice q.1.data.a q.2.data.length q.1.data.c) (S2 aL rfl (aD hd13 rfl)) (by rw[←hdn];rfl)) ?_;refine Gz 1 ?_;refine cL (bU (bN (fun j=>if j=7 then (q.2.data.length:Int) else 0) []) IV Cn) ?_;refine S5 Cn rfl ?_;intro w14 hg14 hs14 hf14;obtain⟨e,ee⟩:∃ d,d=w13.heap.size:=⟨_,rfl⟩
   rw[←ee] at hg14 ⊢;refine sA rfl lD (lY _ _) hg14 ?_;intro w15 he15 hs15 hf15;have hs14b:w14.heap.size=w13.heap.size+1:=hs14;have hs15b:w15.heap.size=w14.heap.size:=hs15;have hf915:aA nob w9 w15:=(hf913.trans hf14).tw hf15;have hf1315:aA nob w13 w15:=hf14.tw hf15;have hd15:=hf1315.obj hd13 id;have hM15:=hM.WG hf915;have hD15:=hD9.WG hf915;have hP15:=hP9.WH hf915 (fun _ _=>id);have hn15:∀ k,w15.heap.size≤k→ow9 k=0:=fun k hk=>hn9 k (by omega);have hel:ow9 e=0:=hn9 e (by omega);have hdl:ow9 d=0:=hn9 d (by omega);refine Gz 6 ?_;refine cL (S3 (u:=.slice q.1.data.a q.2.data.length q.1.data.c) (S2 aL rfl (aD hd15 rfl)) (by rw[←hdn];rfl)) ?_;refine SZ Sg rfl (Kd (fun k=>ow9 k=9) dg tp 64 s.ds q.1.data.a q.1.data.c q.2.data w15 hD15 (hdv.2.1.WG hf915) (by decide) (by have:=hFI.b;rw[W2,WR] at this;omega) (by omega)) rfl ?_;rw[←hR1];rintro _ w16 ⟨o16,c16,rfl,ho16,hfr16,hD16,hf16⟩;have hz16:=hf16.size;obtain⟨ow16,eo16⟩:∃ o,o=BQ w15 w16 9 o16 ow9:=⟨_,rfl⟩
   have o16n:∀ k,ow9 k≠0→ow16 k=ow9 k:=fun k hk=>by rw[eo16];exact F7 hn15 hk
   have o16o:∀ k,k<w15.heap.size→ow16 k=ow9 k:=fun k hk=>by rw[eo16];exact Di hk
   have o16z:∀ k,w16.heap.size≤k→ow16 k=0:=fun k hk=>by rw[eo16];exact Jl hz16 hk
   have o16b:∀ k,blk o16 k→ow16 k=0:=fun k hk=>by rw[eo16];exact Jm hfr16 hk
   have hM16:PiX 0 a ow16 w16.heap g tp qs ids s.files S0:=(hM15.step hf16 9 (by decide) (fun k hk=>.inl hk) o16n).calm (by decide);have hD16:DwO (fun k=>ow16 k=9) w16.heap dg tp 64 R1.1:=hD16.mono (fun k hk=>by rw[eo16];exact LX hn15 (by decide) hk) (htn hM16 (by decide));have hP16:jL (fun k=>ow16 k=10) w16.heap pg s.tails:=(hP15.WH hf16 (fun k hk h=>by have hk:ow9 k=10:=hk;have h:ow9 k=9:=h;omega)).mono (fun k hk=>by have hk:ow9 k=10:=hk;rw[o16n k (by omega)];exact hk);have he16:=hf16.obj he15 (fun h=>by have h:ow9 e=9:=h;omega);have hd16:=hf16.obj hd15 (fun h=>by have h:ow9 d=9:=h;omega);have hel16:ow16 e=0:=by rw[o16o e (by omega)];exact hel
   have hF16:aA (Lb ow) W w16:=lA hl9 (hF9.trans hf915.any) (hf16.mono (fun k h=>by have h:ow9 k=9:=h;unfold Lb;omega));refine Gz 11 ?_;refine S6 aF rfl rfl rfl he16 rfl ?_;intro w17 he17 hs17 hf17;have hs17b:w17.heap.size=w16.heap.size:=hs17;have ke:∀ k,k=e→ow16 k=0:=fun k h=>by rw[h];exact hel16
   have hM17:=hM16.step hf17 0 (by decide) (fun k hk=>.inr (ke k hk)) (fun _ _=>rfl);have hD17:=hD16.WH hf17 (fun k hk h=>by have:=ke k h;omega) (fun h=>by have:=ke tp h;rw[hM16.2.2.2.1.2] at this;omega);have hP17:=hP16.WH hf17 (fun k hk h=>by have:=ke k h;have hk:ow16 k=10:=hk;omega);have hd17:=hf17.obj hd16 (show ¬ d=e by omega);have hfr16l:=ho16.lt;have ho17:=ho16.WH hf17 (fun x hx h=>by have h:x.block=e:=h;have:=hfr16 x hx;omega);have hF17:=hF16.WD hf17 (fun k h=>.inr (by have h:k=e:=h;have:=hF9.size;omega));refine Gz 6 ?_;refine SZ Sf rfl (Oh (fun k=>ow16 k=10) pg s.tails o16 c16 (cO q.2.data) w17 hP17 (fun k hk=>WV fun hc=>by have:=o16z k (by omega);have hk:ow16 k=10:=hk;omega) ho17.vw (fun _ x hx h=>by have h:ow16 x.block=10:=h;rw[o16b _ ⟨x,hx,rfl⟩] at h;omega) (Dx hFI.t (by have:=hFI.tn;rw[W2,WR] at this;omega)) (by have:=hFI.tn;rw[W2,WR] at this;omega)) rfl ?_;rw[←MB,←hR2];rintro _ w18 ⟨rfl,D18,hP18,hD18a,hD18b,hf18⟩;have hz18:=hf18.size;have hn17:∀ k,w17.heap.size≤k→ow16 k=0:=fun k hk=>o16z k (by omega);obtain⟨ow18,eo18⟩:∃ o,o=pW w17 w18 10 ow16:=⟨_,rfl⟩
   have o18n:∀ k,ow16 k≠0→ow18 k=ow16 k:=fun k hk=>by rw[eo18];exact iT 10 hn17 hk
   have o18o:∀ k,k<w17.heap.size→ow18 k=ow16 k:=fun k hk=>by rw[eo18];exact kN 10 ow16 hk
   have o18z:∀ k,w18.heap.size≤k→ow18 k=0:=fun k hk=>by rw[eo18];exact lV 10 ow16 hz18 hk
   have hM18:PiX 0 a ow18 w18.heap g tp qs ids s.files S0:=(hM17.step hf18 10 (by decide) (fun k hk=>.inl hk) o18n).calm (by decide);have hD18:DwO (fun k=>ow18 k=9) w18.heap dg tp 64 R1.1:=(hD17.WH hf18 (fun k hk h=>by have hk:ow16 k=9:=hk;have h:ow16 k=10:=h;omega) (htn hM17 (by decide))).mono (fun k hk=>by have hk:ow16 k=9:=hk;rw[o18n k (by omega)];exact hk) (htn hM18 (by decide));have hP18:jL (fun k=>ow18 k=10) w18.heap pg R2.1:=hP18.mono (fun k hk=>by rw[eo18];exact oM 10 hn17 (by decide) ((hD18a k hk).imp id (fun h=>⟨h,hD18b k hk⟩)));have he18:=hf18.obj he17 (fun h=>by have h:ow16 e=10:=h;omega);have hd18:=hf18.obj hd17 (fun h=>by have h:ow16 d=10:=h;rw[o16o d (by omega)] at h;omega);have hel18:ow18 e=0:=by rw[o18o e (by omega)];exact hel16
   have l16:∀ k,k<W.heap.size→ow16 k=ow k:=fun k hk=>by rw[o16o k (by have:=hF9.size;omega)];exact hl9 k hk
   have l18:∀ k,k<W.heap.size→ow18 k=ow k:=fun k hk=>by rw[o18o k (by have:=hF9.size;omega)];exact l16 k hk
   have hF18:aA (Lb ow) W w18:=lA l16 hF17 (hf18.mono (fun k h=>by have h:ow16 k=10:=h;unfold Lb;omega));have ke18:∀ k,k=e→ow18 k=0:=fun k h=>by rw[h];exact hel18
   refine Gz 4 ?_;refine S6 aF rfl rfl rfl he18 rfl ?_;intro w19 he19 hs19 hf19;have hs19b:w19.heap.size=w18.heap.size:=hs19;refine Gz 1 ?_;refine S6 aF rfl rfl rfl he19 rfl ?_;intro w20 he20 hs20 hf20;have hs20b:w20.heap.size=w19.heap.size:=hs20;have hf1820:aA (· = e) w18 w20:=hf19.trans hf20;have hM20:=hM18.step hf1820 0 (by decide) (fun k hk=>.inr (ke18 k hk)) (fun _ _=>rfl);have hD20:=hD18.WH hf1820 (fun k hk h=>by have:=ke18 k h;omega) (fun h=>by have:=ke18 tp h;rw[hM18.2.2.2.1.2] at this;omega);have hP20:=hP18.WH hf1820 (fun k hk h=>by have:=ke18 k h;have hk:ow18 k=10:=hk;omega);have hd20:=hf1820.obj hd18 (show ¬ d=e by omega);have hF20:=hF18.WD hf1820 (fun k h=>.inr (by have h:k=e:=h;have:=hF9.size;omega));have he20:w20.heap[e]?=some (.cells (oY (fl0 fN)).toArray 88 (0,0)):=by rw[hfN];exact he20
   obtain⟨⟨hg20,_⟩,_,_,_,_,_,_,_,⟨f207,f201⟩,_⟩:=id hM20;obtain⟨mf20,hmf20,hFM20⟩:=f201 (by decide);refine Gz 2 ?_;refine Tc 7 (fun H=>H[g]?=some (.cells (piC a qs.length ids.length).toArray 62 (0,0))∧H[d]?=some (.cells (aE q).toArray 37 (0,0))∧H[e]?=some (.cells (oY (fl0 fN)).toArray 88 (0,0))) [7] [0,1,2,3,4,5,6,7] aI (by kernel_rfl) (⟨hg20,hd20,he20⟩) ?_;refine Gz 6 ?_;refine xC rfl (TX (cs:=oY (fl0 fN)) lD rfl (fun H hH=>bI hH.2.2 0 rfl)) ?_;refine S7 rfl rfl (TH mpF uU (a:=(⟨q.2.ino,hib⟩:I6)) rfl rfl rfl hmf20 ?_);intro w21 hm21 hs21 hf21;refine Tx rfl ?_;have hf21:aA (· = a.f) w20 w21:=hf21.WE;have hz21:=hf21.size;have hfp:=hFM20.put ⟨q.2.ino,hib⟩ (f:=fN) (by show (1:Int)≤q.2.ino;omega) (by show q.2.ino.toNat<s.files.length;omega) (by rw[hfN];rfl);rw[show (⟨q.2.ino,hib⟩:I6).1.toNat=m from htm] at hfp;have kf:∀ k,k=a.f→ow18 k=7:=fun k h=>by rw[h];exact f207
   obtain⟨b0,b1,b2,b3,c1,c2,c3,⟨c4,c5⟩,⟨c6,_⟩,c8,c9⟩:=hM20.step hf21 7 (by decide) (fun k hk=>.inl (kf k hk)) (fun _ _=>rfl);have hM21:PiX 0 a ow18 w21.heap g tp qs ids (s.files.set m fN) S0:=⟨b0,b1,b2,b3,fun _=>c1 (by decide),fun _=>c2 (by decide),fun _=>c3 (by decide),⟨c4,fun _=>c5 (by decide)⟩,⟨c6,fun _=>⟨_,hm21,hfp⟩⟩,c8,fun _=>c9 (by decide)⟩
   have hD21:=hD20.WH hf21 (fun k hk h=>by have:=kf k h;omega) (fun h=>by have:=kf tp h;rw[hM20.2.2.2.1.2] at this;omega);have hP21:=hP20.WH hf21 (fun k hk h=>by have:=kf k h;have hk:ow18 k=10:=hk;omega);have hF21:aA (Lb ow) W w21:=lA l18 hF20 (hf21.mono (fun k h=>by have:=kf k h;unfold Lb;omega));refine Gz 2 ?_;exact aC ⟨⟨R1.1,R2.1,s.files.set m fN⟩,ow18⟩ ⟨hs2.symm,hFI2,hM21,hD21,hP21,l18,fun k hk=>o18z k (by omega),hF21⟩
  rintro⟨s,ow9⟩ w9 ⟨hs,hFI,hM,hD9,hP9,hl9,hn9,hF9⟩;refine Gz 4 ?_;exact aG ⟨k+1,⟨s,ow9⟩⟩ ⟨by omega,hs,hFI,hM,hD9,hP9,hl9,hn9,hF9⟩ (by show qs.length-(k+1)<qs.length-k;omega)
 have hke:k=qs.length:=by omega
 subst hke;rw[Xl] at hs hFI;have hs:s=aS qs:=hs;subst hs;refine Gz 18 ?_;refine SZ Se rfl (HG (fun k=>ow9 k=10) pg (aS qs).tails w9 hP9 (Dx hFI.t (by have:=hFI.tn;rw[W2] at this;omega)) (by have:=hFI.tn;rw[W2] at this;omega)) rfl ?_;rintro _ w20 ⟨go,gc,gs,rfl,hgo,hrw,hgfr,hf20⟩;have hz20:=hf20.size;have hrw:=Ll hrw;obtain⟨L,hL⟩:∃ L,L=(aS qs).tails:=⟨_,rfl⟩
 rw[←hL] at hrw;have hgl:=hrw.1;have hLn:L.length≤40:=by have:=hFI.tn;rw[W2] at this;rw[hL];omega
 have hLb:zR L:=by rw[hL];exact hFI.t
 have hdB:(aS qs).ds.B.length≤172800:=by have:=hFI.b;rw[W2] at this;omega
 have hg63:=hgo.vw.WF;have hgol:=hgo.lt;refine Gz 3 ?_;refine aW [(0,_),(1,_),(5,_),(13,_),(20,_),(21,_),(22,_),(23,_),(72,_),(73,_),(74,_)] ?_;refine Gz 2 ?_;refine S4 (β:=(Nat×(DS×List Int))×((Nat→Nat)×(Option Addr×Nat))) (fun⟨⟨j,⟨d9,pl9⟩⟩,⟨ow11,⟨po,pc⟩⟩⟩=>[(1,pT dg),(13,.slice po pl9.length pc),(72,.slice go gs.length gc),(73,iV gs.length),(74,iV j)]) (fun⟨⟨j,⟨d9,pl9⟩⟩,⟨ow11,⟨po,pc⟩⟩⟩ w=>j≤L.length∧eF (L.take j) (aS qs).ds=(d9,pl9)∧PiX 0 a ow11 w.heap g tp qs ids (aS qs).files S0∧DwO (fun k=>ow11 k=9) w.heap dg tp 64 d9∧(∀ k,k<W.heap.size→ow11 k=ow k)∧(∀ k,w.heap.size≤k→ow11 k=0)∧Own i64 3 w.heap po pc pl9∧(∀ k,blk po k→W.heap.size≤k∧ow11 k=0)∧(∀ k,blk po k→¬ (w9.heap.size≤k∧k<w20.heap.size))∧Own hd 25 w.heap go gc gs∧cP (fun k=>w9.heap.size≤k∧k<w20.heap.size) w.heap gs L∧(∀ k,w9.heap.size≤k→k<w20.heap.size→ow11 k=0)∧w20.heap.size≤w.heap.size∧aA (Lb ow) W w) (fun⟨⟨j,⟨d9,pl9⟩⟩,⟨ow11,⟨po,pc⟩⟩⟩=>L.length-j) ⟨⟨0,⟨(aS qs).ds,[]⟩⟩,⟨ow9,⟨none,0⟩⟩⟩ ⟨rfl,rfl,rfl,rfl,rfl,trivial⟩ ⟨WU _,rfl,hM.WG hf20,hD9.WG hf20,hl9,fun k hk=>hn9 k (by omega),V8,(fun k ⟨x,hx,e⟩=>by cases hx),(fun k ⟨x,hx,e⟩=>by cases hx),hgo,hrw,fun k h _=>hn9 k h,WT _,hF9.trans hf20.any⟩ ?_;rintro⟨⟨j,⟨d9,pl9⟩⟩,⟨ow11,⟨po,pc⟩⟩⟩ w11 ⟨hj,htl,hM11,hD11,hl11,hn11,hpo,hpd,hpx,hgo9,hrw9,hz11,hzz,hF11⟩;refine fK 2 ?_ ?_<;>intro h75
 ·have hjl:j<L.length:=by omega
  have hjg:j<gs.length:=by omega
  obtain⟨t,ht⟩:∃ t,L[j]?=some t:=⟨_,WK hjl⟩
  obtain⟨x,hx⟩:∃ x,gs[j]?=some x:=⟨_,WK hjg⟩
  obtain⟨hxn,hxv,_⟩:=hrw9.2 j x t hx ht;have htb:=hLb t (WQ ht);have htk:L.take (j+1)=L.take j++[t]:=tkL ht;have hsn:=sS (L.take j) t (aS qs).ds;rw[←htk,htl] at hsn;have hdb9:d9.B.length≤200000:=by have h:=Fj (L:=L.take j) (fun b hb=>hLb b (XL hb)) (aS qs).ds;rw[htl,WR] at h;have h:d9.B.length≤_:=h;omega
  have hplj:pl9.length=j:=by have h:=kC (L.take j) (aS qs).ds;rw[htl,WR] at h;have h:pl9.length=_:=h;omega
  refine Gz 10 ?_;refine cL (SY lL rfl rfl hgo9.vw.non (by omega)) ?_;refine cL (S3 (u:=.slice x.a t.length x.c) (S2 aL rfl (hgo9.vw.get j x hx)) (by rw[←hxn];rfl)) ?_;refine Gz 2 ?_;refine aW [(1,_),(13,_),(15,_),(72,_),(73,_),(74,_),(75,_)] ?_;refine Gz 5 ?_;refine SZ Sd rfl (EY (fun k=>ow11 k=9) dg tp 64 d9 x.a x.c t w11 hD11 hxv (by decide) (by omega) htb.2) rfl ?_;obtain⟨R,hR⟩:∃ R,R=kO 64 d9 t:=⟨_,rfl⟩
  rw[←hR] at hsn ⊢;rintro _ w12 ⟨rfl,hD12,hf12⟩;have hz12:=hf12.size;obtain⟨ow12,eo12⟩:∃ o,o=pW w11 w12 9 ow11:=⟨_,rfl⟩
  have o12n:∀ k,ow11 k≠0→ow12 k=ow11 k:=fun k hk=>by rw[eo12];exact iT 9 hn11 hk
  have o12o:∀ k,k<w11.heap.size→ow12 k=ow11 k:=fun k hk=>by rw[eo12];exact kN 9 ow11 hk
  have o12z:∀ k,w12.heap.size≤k→ow12 k=0:=fun k hk=>by rw[eo12];exact lV 9 ow11 hz12 hk
  have hM12:PiX 0 a ow12 w12.heap g tp qs ids (aS qs).files S0:=(hM11.step hf12 9 (by decide) (fun k hk=>.inl hk) o12n).calm (by decide);have hD12:DwO (fun k=>ow12 k=9) w12.heap dg tp 64 R.1:=hD12.mono (fun k hk=>by rw[eo12];exact oM 9 hn11 (by decide) hk) (htn hM12 (by decide));have k12:∀ k,ow11 k=0→¬ (fun k=>ow11 k=9) k:=fun k h h2=>by have h2:ow11 k=9:=h2;omega
  have hpo12:=hpo.WH hf12 (fun y hy=>k12 _ (hpd _ ⟨y,hy,rfl⟩).2);have hgo12:=hgo9.WH hf12 (fun y hy=>k12 _ (hz11 _ (hgfr y hy) (hgol y hy)));have hrw12:=hrw9.WH hf12 (fun k hk=>k12 k (hz11 k hk.1 hk.2));have hpol:=hpo.lt;refine TB (enc:=i64) (u:=(R.2:Int)) aY rfl rfl rfl ?_;intro w13 ho13 hs13 hf13;refine S8 jB aY rfl rfl (hpo12.WG hf13) ho13.vw (by simp only[WP];omega) (by simp only[WP];unfold maxLen;omega) rfl ?_;intro po14 pc14 w14 ho14 hf14 hr14 hn14;have hz13:=hf13.size;have hz14:=hf14.size;have kp:∀ k,blk po k→ow12 k=0∧k<w11.heap.size∧W.heap.size≤k∧¬ (w9.heap.size≤k∧k<w20.heap.size):=fun k ⟨y,hy,e⟩=>by
   have h1:=hpol y hy;have h2:=hpd k ⟨y,hy,e⟩;have h3:=hpx k ⟨y,hy,e⟩;exact⟨by rw[o12o k (by omega)];exact h2.2,by omega,h2.1,h3⟩
  have hM14:=(hM12.WG hf13).step hf14 0 (by decide) (fun k hk=>.inr (kp k hk).1) (fun _ _=>rfl);have hD14:=(hD12.WG hf13).WH hf14 (fun k hk h=>by have:=(kp k h).1;omega) (fun h=>by have:=(kp tp h).1;rw[hM12.2.2.2.1.2] at this;omega);have hgo14:=(hgo12.WG hf13).WH hf14 (fun y hy h=>(kp _ h).2.2.2 ⟨hgfr y hy,hgol y hy⟩);have hrw14:=(hrw12.WH hf13 (fun _ _=>id)).WH hf14 (fun k hk h=>(kp k h).2.2.2 hk);have l12:∀ k,k<W.heap.size→ow12 k=ow k:=fun k hk=>by rw[o12o k (by have:=hF11.size;omega)];exact hl11 k hk
  have hF14:aA (Lb ow) W w14:=((lA hl11 hF11 (hf12.mono (fun k h=>by have h:ow11 k=9:=h;unfold Lb;omega))).trans hf13.any).WD hf14 (fun k h=>.inr (kp k h).2.2.1);have hF11z:=hF11.size;have hpd14:∀ k,blk po14 k→(W.heap.size≤k∧ow12 k=0)∧¬ (w9.heap.size≤k∧k<w20.heap.size):=fun k ⟨y,hy,e⟩=>by
   rcases hr14 y hy with h|h
   ·have:=kp k ⟨y,h,e⟩;exact⟨⟨this.2.2.1,this.1⟩,this.2.2.2⟩
   ·exact⟨⟨by omega,o12z k (by omega)⟩,by omega⟩
  refine Gz 8 ?_;exact aG ⟨⟨j+1,⟨R.1,pl9++[(R.2:Int)]⟩⟩,⟨ow12,⟨po14,pc14⟩⟩⟩ ⟨by omega,hsn,hM14,hD14,l12,fun k hk=>o12z k (by omega),ho14,fun k hk=>(hpd14 k hk).1,fun k hk=>(hpd14 k hk).2,hgo14,hrw14,fun k h1 h2=>by rw[o12o k (by omega)];exact hz11 k h1 h2,by omega,hF14⟩ (by show L.length-(j+1)<L.length-j;omega)
 have hje:j=L.length:=by omega
 subst hje;rw[Xl,hL] at htl;refine Gz 14 ?_;refine aW [(1,_),(4,_),(13,_),(72,_),(73,_),(74,_),(75,_)] ?_;refine Gz 3 ?_;subst epg;refine⟨_,rfl,po,pc,ow11,?_,?_,hpd,hM11,?_,hFI,hl11,hn11,hF11⟩
 ·rw[htl]
 ·rw[htl];exact hpo
 ·rw[htl];exact hD11
end
section
open Go Go.RowKit Go.Maps
structure ImB (qs:List (NdH×Nd))(ids:List Int) where
 G:GdT qs
 I:mX qs ids
 sz:64+((gL (aK qs ids) ids).length:Int)≤1048576
section
variable {qs:List (NdH×Nd)}{ids:List Int}(M:ImB qs ids)
def stB(qs:List (NdH×Nd))(ids:List Int):BSt:=(aK qs ids).s
def plB(qs:List (NdH×Nd))(ids:List Int):List Int:=(aK qs ids).pl
def imB(qs:List (NdH×Nd))(ids:List Int):By:=suB (fM qs ids (aK qs ids))++gL (aK qs ids) ids
include M
theorem ImB.fi:FI (nds qs) (qs.length+1) (aS qs):=BZ (fun q hq=>⟨M.G.ino q hq,(M.G.may q hq).2.2.2.2.2.2.1⟩)
theorem ImB.st:nG qs ids (aS qs).files (stB qs ids)∧(∀ q∈qs,0<(stB qs ids).refs.getD q.2.ino.toNat 0):=by
 obtain⟨S,e,h1,_,h2⟩:=oV M.G M.I M.fi;have e2:stB qs ids=S:=e;rw[e2];exact⟨h1,h2⟩
theorem ImB.pln:(plB qs ids).length=(aS qs).tails.length∧(plB qs ids).length≤40:=by
 have h:=kC (aS qs).tails (aS qs).ds;have h2:=M.fi.tn;have h3:=M.G.n.2;rw[W2] at h2;have e:(plB qs ids).length=(aS qs).tails.length:=h;exact⟨e,by omega⟩
theorem ImB.ids0:1≤ids.length∧ids.length≤80:=by
 obtain⟨r,hr,_⟩:=M.G.root;have h:=(M.I.2 _).2 (vE (WQ hr)).1;have h2:=List.length_pos_of_mem h;have h3:=oO M.I;have h4:=M.G.n.2;omega
theorem ImB.many:1≤(stB qs ids).many∧(stB qs ids).many≤41:=by
 obtain⟨h,h2⟩:=M.st;refine⟨?_,h.many41 M.G.n.2⟩;obtain⟨r,hr,_⟩:=M.G.root;have h3:=h2 r (WQ hr);have h4:=M.G.ino r (WQ hr);rw[h.many];have hm:(stB qs ids).refs.getD r.2.ino.toNat 0∈uT (stB qs ids):=by
  unfold uT;rw[List.mem_filter];have hl:r.2.ino.toNat<(stB qs ids).refs.length:=by rw[h.rl];omega
  exact⟨by rw[WW,WK hl];exact XE _,by simpa using h3⟩
 exact List.length_pos_of_mem hm
theorem ImB.may:gH (fM qs ids (aK qs ids)):=by
 obtain⟨a1,a2⟩:=M.many;obtain⟨b1,b2⟩:=M.ids0;obtain⟨c1,c2⟩:=M.pln;obtain⟨h,h2⟩:=M.st;obtain⟨r,hr,_⟩:=M.G.root;have h3:=h2 r (WQ hr);have h4:=h.ref_le M.G.n.2 h3;have hs:=M.sz;have nd:=eI hr;have l2:(gM (aK qs ids)).length=(gN (aK qs ids)).length+(dnW (aK qs ids).s.ino).length:=WM;have l3:(iC (aK qs ids)).length=(gM (aK qs ids)).length+(dnW (aK qs ids).s.lst).length:=WM;have l4:(iI (aK qs ids)).length=(iC (aK qs ids)).length+(dnW (aJ (aK qs ids).pl 4).1).length:=WM;have l5:(iY (aK qs ids) ids).length=(iI (aK qs ids)).length+(dnW (aJ ids 2).1).length:=WM;have l6:(gL (aK qs ids) ids).length=(iY (aK qs ids) ids).length+(dnW (aK qs ids).s.fur).length:=WM;refine⟨⟨?_,?_,?_,?_,?_,?_,?_⟩,?_,?_,?_,?_,?_,?_,?_,?_⟩
 ·show (64:Int)≤64+((gN (aK qs ids)).length:Int);omega
 ·show 64+((gN (aK qs ids)).length:Int)≤64+((gM (aK qs ids)).length:Int);omega
 ·show 64+((gM (aK qs ids)).length:Int)≤64+((iC (aK qs ids)).length:Int);omega
 ·show 64+((iC (aK qs ids)).length:Int)≤64+((iI (aK qs ids)).length:Int);omega
 ·show 64+((iI (aK qs ids)).length:Int)≤64+((iY (aK qs ids) ids).length:Int);omega
 ·show 64+((iY (aK qs ids) ids).length:Int)≤64+((gL (aK qs ids) ids).length:Int);omega
 ·exact hs
 ·show 1≤((stB qs ids).many:Int);omega
 ·show ((stB qs ids).many:Int)≤1024;omega
 ·show 1≤(ids.length:Int);omega
 ·show (ids.length:Int)≤2048;omega
 ·show 0≤((plB qs ids).length:Int);omega
 ·show ((plB qs ids).length:Int)≤1024;omega
 · show 0≤(stB qs ids).refs.getD (ndB qs ((0:Nat):Int)).ino.toNat 0-1
   rw[nd];omega
 · show (stB qs ids).refs.getD (ndB qs ((0:Nat):Int)).ino.toNat 0-1≤4294967295
   rw[nd];exact h4
theorem ImB.img:pY qs ids=(imB qs ids,0):=by
 unfold pY;rw[WI (by have:=M.sz;omega)];have:(eU (fM qs ids (aK qs ids))).1=suB (fM qs ids (aK qs ids)):=by unfold eU;rw[WJ M.may]
 rw[this];rfl
theorem ImB.sup:fA (imB qs ids)=(fM qs ids (aK qs ids),0):=by
 refine Cv M.may (fun o ho=>?_) _ rfl;show WW [_,_,_,_,_,_,_,_,_,_] o (0:Int)=0;rw[WW,Xy (by simp only[W7,WZ];omega)];rfl
end
end
section
open Go Go.RowKit Go.Maps
theorem lZ(qs:List (NdH×Nd))(i:Nat):(qs.getD i (tD,nd0)).2=(nds qs).getD i nd0:=by
 unfold nds;rw[WW,WW,Xv];cases qs[i]?<;>rfl
section
variable {qs rs:List (NdH×Nd)}(h:nds qs=nds rs)
include h
theorem rM:qs.length=rs.length:=by have:=congrArg Xp h;simpa[nds] using this
theorem vG:ndB qs=ndB rs:=by
 funext k;unfold ndB;rw[lZ,lZ,h]
theorem LF:nmG qs=nmG rs:=by
 funext k;unfold nmG;rw[lZ,lZ,h]
theorem Jo:bP qs=bP rs:=by
 funext s n
 induction n with
|zero=>rfl
|succ n ih=>rw[bP,bP,ih,LF h]
theorem Kk:kR qs=kR rs:=by
 funext z;have e:∀ l:List (NdH×Nd),kR l z=(((nds l).countP (fun n=>decide (n.ino=z)):Nat):Int):=fun l=>by
  unfold kR nds;rw[List.countP_map];rfl
 rw[e,e,h]
theorem Jg:rK qs=rK rs:=by
 funext i;unfold rK;rw[lZ,lZ,h,rM h,Kk h]
theorem JV(ids:List Int):eW qs ids=eW rs ids:=by
 funext k i s;unfold eW inB;rw[vG h,Jg h]
theorem KO(wr:Int→BSt→BSt):wrK wr qs=wrK wr rs:=by
 funext l
 induction l with
|nil=>rfl
|cons j r ih=>
   funext s;rw[wrK,wrK,ih,vG h]
theorem KP(ids:List Int)(files:List Ino):wrB qs ids files=wrB rs ids files:=by
 funext n
 induction n with
|zero=>rfl
|succ n ih=>
   funext k s;rw[wrB,wrB,ih,vG h,JV h,KO h,Jo h,rM h]
theorem JY:aS qs=aS rs:=by unfold aS;rw[h,rM h]
theorem D4(ids:List Int):aK qs ids=aK rs ids:=by
 unfold aK;rw[JY h,KP h,rM h]
theorem rR(ids:List Int):pY qs ids=pY rs ids:=by
 have e:fM qs ids (aK qs ids)=fM rs ids (aK rs ids):=by
  funext j;unfold fM;rw[D4 h,vG h]
 unfold pY;rw[e,D4 h]
end
end
section
open Go Go.RowKit Go.Maps Go.Sort
section
variable {P:Program}{N:Nt}{Q:Exit→Act→World→Prop}{l:SF}{w:World}{ops:Array Oper}{rest:List Oper}{ty:TypeId}{pos:String}{aft:Array Edge}{x:Operand}{v:Value}{d:Nat}
theorem Vf{T:TypeId}(hx:evL l x=some v)(hd:Xs d N.n=true)
 (h:∀ w',w'=w.alloc (.cells v.cells T)→Sl P N ops Q rest ((d,pT w.heap.size)::l) w') :
 Sl P N ops Q (⟨some d,.box T x,ty,pos,aft,none⟩::rest) l w:=by
 refine TJ (w':=w.alloc (.cells v.cells T)) (fun a ha=>?_) hd (h _ rfl);simp[execOp,ha.ev hx,Instr.box,newVar,newRow]
end
theorem HD(p q:NdH×Nd)(W:World){D:Nat→Prop}(hp:NmV D W.heap p.1.names p.2.names)(hq:NmV D W.heap q.1.names q.2.names) :
 CA 58 [.agg (aE p).toArray,.agg (aE q).toArray] W fun v w'=>v=iV (cV p.2.names q.2.names)∧∃ o1 o2,w'=(W.alloc o1).alloc o2:=by
 refine cS 10 [(0,_),(1,_)] Tryz.func58 ?_;refine Gz 2 ?_;refine Vf rfl rfl ?_;intro w1 hw1;have hg1:w1.heap[W.heap.size]?=some (.cells (aE p).toArray 37 (0,0)):=by rw[hw1];exact heap_alloc_new W _
 have hf1:aA nob W w1:=by rw[hw1];exact aA.alloc _ _ _
 obtain⟨g,hg⟩:∃ g,g=W.heap.size:=⟨_,rfl⟩
 rw[←hg] at hg1 ⊢;refine Vf rfl rfl ?_;intro w2 hw2;have hg2:w2.heap[w1.heap.size]?=some (.cells (aE q).toArray 37 (0,0)):=by rw[hw2];exact heap_alloc_new w1 _
 have hf2:aA nob w1 w2:=by rw[hw2];exact aA.alloc _ _ _
 obtain⟨r,hr⟩:∃ r,r=w1.heap.size:=⟨_,rfl⟩
 rw[←hr] at hg2 ⊢;have hgp:=hf2.obj hg1 id;have hp2:=hp.WH (hf1.trans hf2) (fun _ _=>id);have hq2:=hq.WH (hf1.trans hf2) (fun _ _=>id);refine Gz 9 ?_;refine SZ OY rfl ((by show Calls _ _ [Value.slice p.1.names.a p.1.names.n p.1.names.c,Value.slice q.1.names.a q.1.names.n q.1.names.c].toArray _ _;rw[hp2.1,hq2.1];exact yL _ _ _ _ p.2.names q.2.names w2 hp2.2.1 hq2.2.1)) rfl ?_;rintro _ w3 ⟨rfl,hw3⟩;subst w3;refine Gz 5 ?_;exact⟨_,rfl,rfl,_,_,by rw[hw2,hw1]⟩
theorem wJ{α:Type}[Inhabited α](enc:α→List Value)(K:Nat)(W:World)(b m:Nat)(dk:Array α)(os:Array Obj):aA (· = b) W (sortWorldK enc K W b 0 m dk os):=by
 unfold sortWorldK putRowK putRow mapBlock grow Go.Sort.ahead;refine⟨rfl,rfl,rfl,by simp,fun k hk hne=>?_⟩;show (W.heap.modify b _++os)[k]?=_;rw[Array.getElem?_append_left (by simpa using hk),YB,WI (fun e=>hne e.symm)]
theorem AT{α:Type}[Inhabited α]{enc:α→List Value}{K:Nat}(hk:∀ x,(enc x).length=K)(hK:0<K)(d:Array α)(t:Nat)(ht:t<d.size*K):(flatK enc K d)[t]?=(d.toList.flatMap enc)[t]?:=by
 have h1:t/K<d.size:=(Nat.div_lt_iff_lt_mul hK).2 ht;have h2:t%K<K:=Nat.mod_lt _ hK;have e1:d.toList[t/K]?=some d[t/K]!:=by rw[YZ,getElem!_pos d _ h1];exact Ym h1
 have e2:(enc d[t/K]!)[t%K]?=some (enc d[t/K]!)[t%K]!:=by
  have:t%K<(enc d[t/K]!).length:=by rw[hk];exact h2
  rw[WK this];exact congrArg some (getElem!_pos (enc d[t/K]!) (t%K) this).symm
 have e3:=mQ hk d.toList (t/K) _ e1 (t%K) _ e2;rw[Nat.div_add_mod'] at e3;rw[e3];have:t<(flatK enc K d).size:=by rw[size_flatK];exact ht
 rw[Ym this,←getElem!_pos (flatK enc K d) t this,get_flatK enc K d t ht]
theorem G3{α:Type}[Inhabited α]{enc:α→List Value}{K:Nat}(hk:∀ x,(enc x).length=K)(hK:0<K){W:World}{b:Nat}{cur:Array Value}{T:TypeId}{d:Array α}(hg:W.heap[b]?=some (.cells cur T (0,0)))(hc:cur.toList.take (d.size*K)=d.toList.flatMap enc):HoldsK enc K W b 0 d:=by
 intro j hj;rw[size_flatK] at hj;have h1:=AT hk hK d j hj;rw[←hc,Xr,WJ hj,YZ] at h1;have h2:j<(flatK enc K d).size:=by rw[size_flatK];exact hj
 have h3:(flatK enc K d)[j]?=some (flatK enc K d)[j]!:=by rw[getElem!_pos _ j h2];exact Ym h2
 refine⟨?_,?_⟩
 · show World.cell? W ⟨b,0+j,none⟩=some (flatK enc K d)[j]!
   rw[XJ,←h3,h1];simp[World.cell?,hg]
 ·simp[World.frozen?,hg]
theorem Hl{α:Type}[Inhabited α]{enc:α→List Value}{K:Nat}(hk:∀ x,(enc x).length=K)(hK:0<K){W:World}{b cap m:Nat}{cur:Array Value}{T:TypeId}{d:Array α}{os:Array Obj}(hg:W.heap[b]?=some (.cells cur T (0,0)))(hl:d.size≤cap)(hm:cap≤maxLen)(hs:cur.size=cap*K) :
 ∃ cur':Array Value,(sortWorldK enc K W b 0 m d os).heap[b]?=some (.cells cur' T (0,0))∧cur'.size=cap*K∧cur'.toList.take (d.size*K)=d.toList.flatMap enc:=by
 have hb:=(WS.1 hg).1;refine⟨putCells id 0 (flatK enc K d) cur,?_,by simp[putCells,hs],?_⟩
 · unfold sortWorldK putRowK putRow mapBlock grow Go.Sort.ahead
   show (W.heap.modify b _++os)[b]?=_;rw[Array.getElem?_append_left (by simpa using hb),YB,WJ rfl,hg];rfl
 · apply XR
   intro t;have hle:d.size*K≤cap*K:=Xw K hl;by_cases ht:t<d.size*K
   · rw[Xr,WJ ht,YZ,←AT hk hK d t ht]
     have h2:t<(flatK enc K d).size:=by rw[size_flatK];exact ht
     unfold putCells;rw[Array.getElem?_mapIdx,Ym (show t<cur.size by omega),Y7,WJ ⟨WU _,by omega⟩];rw[Ym h2,←getElem!_pos (flatK enc K d) t h2];rfl
   ·rw[Xr,WI ht,Xy (by rw[cE hk,X6];omega)]
end
section
open Go Go.Proofs Go.Shelf
def WA:Go.Shelf.Ren:=⟨fun|6=>57|15=>113|14=>112|28=>162|29=>163|20=>154|21=>155|22=>156|23=>157|24=>158|25=>159|26=>160|27=>161|46=>197|47=>198|48=>199|49=>200|50=>201|57=>221|n=>n,fun|22=>22|24=>37|25=>116|3=>3|39=>97|0=>0|53=>39|55=>227|4=>4|46=>220|45=>219|50=>118|5=>5|9=>9|66=>252|70=>72|76=>273|77=>91|n=>n,fun|n=>n⟩
theorem WB:Go.Proofs.SlLaysF0.n6 Tryz.prog WA where
 mixed:=by kernel_rfl
 f6 := ⟨ "slices.SortFunc[[]lamella/api.Node,lamella/api.Node]", by decide, Tryz.func57.trans (congrArg some (by kernel_rfl))⟩
 f14 := ⟨ "slices.pdqsortCmpFunc[lamella/api.Node]", by decide, Tryz.func112.trans (congrArg some (by kernel_rfl))⟩
 f15:=Tryz.func113.trans (congrArg some (by kernel_rfl))
 f20 := ⟨ "slices.insertionSortCmpFunc[lamella/api.Node]", by decide, Tryz.func154.trans (congrArg some (by kernel_rfl))⟩
 f21 := ⟨ "slices.heapSortCmpFunc[lamella/api.Node]", by decide, Tryz.func155.trans (congrArg some (by kernel_rfl))⟩
 f22 := ⟨ "slices.breakPatternsCmpFunc[lamella/api.Node]", by decide, Tryz.func156.trans (congrArg some (by kernel_rfl))⟩
 f23 := ⟨ "slices.choosePivotCmpFunc[lamella/api.Node]", by decide, Tryz.func157.trans (congrArg some (by kernel_rfl))⟩
 f24 := ⟨ "slices.reverseRangeCmpFunc[lamella/api.Node]", by decide, Tryz.func158.trans (congrArg some (by kernel_rfl))⟩
 f25 := ⟨ "slices.partialInsertionSortCmpFunc[lamella/api.Node]", by decide, Tryz.func159.trans (congrArg some (by kernel_rfl))⟩
 f26 := ⟨ "slices.partitionEqualCmpFunc[lamella/api.Node]", by decide, Tryz.func160.trans (congrArg some (by kernel_rfl))⟩
 f27 := ⟨ "slices.partitionCmpFunc[lamella/api.Node]", by decide, Tryz.func161.trans (congrArg some (by kernel_rfl))⟩
 f28:=Tryz.func162.trans (congrArg some (by kernel_rfl))
 f29:=Tryz.func163.trans (congrArg some (by kernel_rfl))
 f46 := ⟨ "slices.siftDownCmpFunc[lamella/api.Node]", by decide, Tryz.func197.trans (congrArg some (by kernel_rfl))⟩
 f47:=Tryz.func198.trans (congrArg some (by kernel_rfl))
 f48:=Tryz.func199.trans (congrArg some (by kernel_rfl))
 f49 := ⟨ "slices.medianAdjacentCmpFunc[lamella/api.Node]", by decide, Tryz.func200.trans (congrArg some (by kernel_rfl))⟩
 f50 := ⟨ "slices.medianCmpFunc[lamella/api.Node]", by decide, Tryz.func201.trans (congrArg some (by kernel_rfl))⟩
 f57 := ⟨ "slices.order2CmpFunc[lamella/api.Node]", by decide, Tryz.func221.trans (congrArg some (by kernel_rfl))⟩
 t0:=Tryz.underlying0
 a0:=Tryz.isAgg0
 z0:=Tryz.sizeOf0
 v0:=Tryz.zeroValue0
 t3:=Tryz.underlying3
 a3:=Tryz.isAgg3
 z3:=Tryz.sizeOf3
 v3:=Tryz.zeroValue3
 t4:=Tryz.underlying4
 a4:=Tryz.isAgg4
 z4:=Tryz.sizeOf4
 v4:=Tryz.zeroValue4
 t5:=Tryz.underlying5
 a5:=Tryz.isAgg5
 z5:=Tryz.sizeOf5
 v5:=Tryz.zeroValue5
 t9:=Tryz.underlying9
 a9:=Tryz.isAgg9
 z9:=Tryz.sizeOf9
 v9:=Tryz.zeroValue9
 t22:=Tryz.underlying22
 a22:=Tryz.isAgg22
 z22:=Tryz.sizeOf22
 v22:=Tryz.zeroValue22
 t25:=Tryz.underlying116
 a25:=Tryz.isAgg116
 z25:=Tryz.sizeOf116
 v25:=Tryz.zeroValue116
 t39:=Tryz.underlying97
 a39:=Tryz.isAgg97
 z39:=Tryz.sizeOf97
 v39:=Tryz.zeroValue97
 t45:=Tryz.underlying219
 a45:=Tryz.isAgg219
 z45:=Tryz.sizeOf219
 v45:=Tryz.zeroValue219
 t46:=Tryz.underlying220
 a46:=Tryz.isAgg220
 z46:=Tryz.sizeOf220
 v46:=Tryz.zeroValue220
 t50:=Tryz.underlying118
 a50:=Tryz.isAgg118
 z50:=Tryz.sizeOf118
 v50:=Tryz.zeroValue118
 t53:=Tryz.underlying39
 a53:=Tryz.isAgg39
 z53:=Tryz.sizeOf39
 v53:=Tryz.zeroValue39
 t55:=Tryz.underlying227
 a55:=Tryz.isAgg227
 z55:=Tryz.sizeOf227
 v55:=Tryz.zeroValue227
 t66:=Tryz.underlying252
 a66:=Tryz.isAgg252
 z66:=Tryz.sizeOf252
 v66:=Tryz.zeroValue252
 t70:=Tryz.underlying72
 a70:=Tryz.isAgg72
 z70:=Tryz.sizeOf72
 v70:=Tryz.zeroValue72
 t76:=Tryz.underlying273
 a76:=Tryz.isAgg273
 z76:=Tryz.sizeOf273
 v76:=Tryz.zeroValue273
 t77:=Tryz.underlying91
 a77:=Tryz.isAgg91
 z77:=Tryz.sizeOf91
 v77:=Tryz.zeroValue91
end
section
open Go Go.RowKit Go.Maps Go.Sort
def NmB(W:World)(b:Nat)(p:NdH×Nd):Prop:=NmV (fun k=>k≠b∧k<W.heap.size) W.heap p.1.names p.2.names
abbrev NmS(W:World)(b:Nat):={ p:NdH×Nd // NmB W b p }
instance (W:World)(b:Nat):Inhabited (NmS W b):=⟨⟨(tD,nd0),⟨rfl,V7 0 (WU _),fun h=>absurd rfl h⟩⟩⟩
def EW{W:World}{b:Nat}(x:NmS W b):List Value:=aE x.1
def cfS{W:World}{b:Nat}(x y:NmS W b):Int:=cV x.1.2.names y.1.2.names
theorem RF{W:World}{b:Nat}:SWO (Go.Proofs.ltOf (cfS (W:=W) (b:=b))) where
 irrefl x:=tH _
 trans x y z h1 h2:=uH (a:=x.1.2.names) (b:=y.1.2.names) (c:=z.1.2.names) h1 h2
 ntrans x y z h1 h2:=xP (a:=x.1.2.names) (b:=y.1.2.names) (c:=z.1.2.names) h1 h2
theorem Le(b cap:Nat)(xs:List (NdH×Nd))(W:World)(ho:bL 10 aE 37 W.heap (some ⟨b,0,none⟩) cap xs)(hn:∀ p∈xs,NmB W b p)(hl:xs.length≤1024) :
 CA 57 [.slice (some ⟨b,0,none⟩) xs.length cap,.func (.func 58) #[] #[]] W fun v w'=>v=.tuple #[]∧∃ ys:List (NdH×Nd),bL 10 aE 37 w'.heap (some ⟨b,0,none⟩) cap ys∧ys.Perm xs∧ys.Pairwise zL∧aA (· = b) W w':=by
 rcases ho with⟨h,_⟩|⟨g,cur,hg0,hg,g1,g2,g3,g4⟩
 ·cases h
 · cases hg0
   obtain⟨d,hd⟩:∃ d:Array (NmS W b),d=(xs.attach.map fun x=>(⟨x.1,hn x.1 x.2⟩:NmS W b)).toArray:=⟨_,rfl⟩
   have hdl:d.toList.map (·.1)=xs:=by rw[hd];simp only[List.map_map];exact List.attach_map_subtype_val xs
   have hds:d.size=xs.length:=by rw[←hdl];simp
   have hfl:∀ e:Array (NmS W b),e.toList.flatMap EW=(e.toList.map (·.1)).flatMap aE:=fun e=>by rw[List.flatMap_map];rfl
   have hH:HoldsK EW 10 W b 0 d:=G3 (enc:=EW) (K:=10) (fun _=>rfl) (by decide) hg (by rw[hds,hfl,hdl];exact g4);have hcmp:CmpLays Tryz.prog 58 #[] EW 10 cfS b 0 d.size W:=fun m os dk _ x y=>by
    have hf:=wJ EW 10 W b m dk os;refine(HD x.1 y.1 _ (x.2.WH hf (fun k hk e=>hk.1 e)) (y.2.WH hf (fun k hk e=>hk.1 e))).mono ?_;rintro e w' ⟨v,rfl,rfl,o1,o2,rfl⟩;exact⟨rfl,0,#[o1]++#[o2],by rw[alloc_eq_grow,alloc_eq_grow,grow_grow];rfl⟩
   have h:=AnyQ.slices_SortFunc WB 10 Tryz.isAgg37 Tryz.sizeOf37 EW (fun _=>rfl) (fun x v hv=>(aB x.1).2 v hv) cfS RF 58 #[] b 0 cap d W (enters_of Tryz.func58 (by kernel_rfl) rfl) hcmp hH (WS.1 hg).1 (by omega);rw[hds] at h;refine Calls.mono h ?_;rintro e w' ⟨rfl,d',n,os,⟨p1,_,p3⟩,hs,rfl⟩;have q1:d'.size=xs.length:=by rw[p1,hds]
   obtain⟨cur',c1,c2,c3⟩:=Hl (enc:=EW) (K:=10) (m:=n) (d:=d') (os:=os) (fun _=>rfl) (by decide) hg (by rw[q1];exact g1) g2 g3;refine⟨_,rfl,rfl,d'.toList.map (·.1),.inr ⟨b,cur',rfl,c1,by rw[W2,X6,q1];exact g1,g2,c2,?_⟩,?_,?_,wJ _ _ _ _ _ _ _⟩
   ·rw[W2,X6,c3,hfl]
   · rw[←hdl]
     refine List.Perm.map _ ?_;have e1:d'.extract 0 xs.length=d':=by rw[←q1];exact Array.extract_size
     have e2:d.extract 0 xs.length=d:=by rw[←hds];exact Array.extract_size
     rw[e1,e2] at p3;exact p3
   · rw[List.pairwise_iff_getElem]
     intro i j hi hj hij;rw[W2,X6] at hi hj;have h1:=hs i j (WU _) hij (by omega);rw[getElem!_pos d' i hi,getElem!_pos d' j hj] at h1;simp only[List.getElem_map,Array.getElem_toList];exact h1
end
section
open Go Go.RowKit Go.Maps
theorem NO:tW Tryz.prog 58 3 3 (iV 0):=⟨by kernel_rfl,by kernel_rfl⟩
def pA(Z zs:List Int)(m:List (I6×Value)):Prop:=(∀ z:I6,cQ m z=if z.1∈zs then some (iV (jR Z z.1)) else none)∧m.length=(cF zs).length
section
variable {Z zs:List Int}{m:List (I6×Value)}
theorem WC:pA Z [] []:=⟨fun z=>by simp[cQ],rfl⟩
theorem pA.z(h:pA Z zs m)(z:I6):(cQ m z).getD (iV 0)=iV (if z.1∈zs then jR Z z.1 else 0):=by
 rw[h.1 z];split<;>rfl
theorem pA.is(h:pA Z zs m)(z:I6):decide ((cQ m z).isSome=true)=decide (z.1∈zs):=by
 apply decide_eq_decide.2;rw[h.1 z];split<;>simp_all
theorem pA.old(h:pA Z zs m){z:Int}(hz:z∈zs):pA Z (zs++[z]) m:=⟨fun y=>by
 rw[h.1 y];have:(y.1∈zs)↔y.1∈zs++[z]:=by
  rw[List.mem_append,Xg];exact⟨.inl,fun e=>e.elim id (fun e=>e ▸ hz)⟩
 by_cases hy:y.1∈zs
 ·rw[WJ hy,WJ (this.1 hy)]
 ·rw[WI hy,WI (fun e=>hy (this.2 e))],by rw[h.2,mI hz]⟩
theorem pA.new(h:pA Z zs m)(z:I6)(hz:z.1∉zs):pA Z (zs++[z.1]) (cX m z (iV (jR Z z.1))):=by
 have hn:cQ m z=none:=by rw[h.1 z,WI hz]
 refine⟨fun y=>?_,by rw[iM _ hn,WM,h.2,mJ hz];rfl⟩;rw[kF];by_cases e:y=z
 ·subst e;rw[WJ rfl,WJ (by simp)]
 · have e2:¬ y.1=z.1:=fun h=>e (Subtype.ext h)
   rw[WI e,h.1 y];by_cases hy:y.1∈zs
   ·rw[WJ hy,WJ (by simp[hy])]
   ·rw[WI hy,WI (by simp[hy,e2])]
end
theorem IZ{α:Type}{K:Nat}{enc:α→List Value}{T:TypeId}{H:Array Obj}{ao:Option Addr}{cap:Nat}{xs:List α}(h:bL K enc T H ao cap xs)(hne:xs≠[]):∃ b,ao=some ⟨b,0,none⟩:=by
 rcases h with⟨_,_,h⟩|⟨g,_,h,_⟩
 ·exact absurd h hne
 ·exact⟨g,h⟩
theorem NmV.real{D:Nat→Prop}{H:Array Obj}{h:Hd}{l:List By}(v:NmV D H h l):NmV (fun k=>k<H.size) H h l:=⟨v.1,v.2.1,fun hne k ⟨a,ha,e⟩=>by have:=v.2.1.lt hne a ha;show k<H.size;omega⟩
def Cl(b g i:Nat)(Z:List Int)(ys zs:List (NdH×Nd))(w:World):Prop:=zs.length=ys.length∧(∀ j:Nat,i≤j→zs[j]?=ys[j]?)∧∀ (j:Nat) (q p:NdH×Nd),j<i→zs[j]?=some q→ys[j]?=some p→q.2=(cY Z p).2∧NdV (fun k=>k≠b∧k≠g∧k<w.heap.size) w.heap q
theorem Cl.WG{b g i:Nat}{Z:List Int}{ys zs:List (NdH×Nd)}{w w':World}(h:Cl b g i Z ys zs w)(f:aA (fun k=>k=b∨k=g) w w'):Cl b g i Z ys zs w':=
 ⟨h.1,h.2.1,fun j q p hj hq hp=>⟨(h.2.2 j q p hj hq hp).1,((h.2.2 j q p hj hq hp).2.WH f (fun k hk e=>e.elim hk.1 hk.2.1)).mono (fun k hk=>⟨hk.1,hk.2.1,Xz hk.2.2 f.size⟩)⟩⟩
theorem Cl.put{b g i:Nat}{Z:List Int}{ys zs:List (NdH×Nd)}{w:World}{p q:NdH×Nd}(h:Cl b g i Z ys zs w)(hp:ys[i]?=some p)(hq:q.2=(cY Z p).2)(hv:NdV (fun k=>k≠b∧k≠g∧k<w.heap.size) w.heap q):Cl b g (i+1) Z ys (zs.set i q) w:=by
 have hil:=(WN.1 hp).1;refine⟨by rw[XH];exact h.1,fun j hj=>by rw[XO (by omega)];exact h.2.1 j (by omega),fun j r s hj hr hs=>?_⟩;by_cases e:j=i
 · subst e
   rw[Xx (by rw[h.1];exact hil)] at hr;cases hr;rw[hp] at hs;cases hs;exact⟨hq,hv⟩
 · rw[XO (fun h=>e h.symm)] at hr
   exact h.2.2 j r s (by omega) hr hs
theorem Cl.eq{b g:Nat}{ys zs:List (NdH×Nd)}{w:World}(h:Cl b g ys.length (aR ys) ys zs w):nds zs=nds (xI ys):=by
 apply XR;intro j;by_cases hj:j<ys.length
 · have h1:=WK hj
   have h2:zs[j]?=some (zs[j]'(by rw[h.1];exact hj)):=WK _;have h3:=(h.2.2 j _ _ hj h2 h1).1;rw[bE h2,h3];simp[nds,xI,h1]
 ·rw[Xy (by rw[W2,h.1];omega),Xy (by rw[W2,xI,W2];omega)]
theorem Mt{ps:List (NdH×Nd)}(h:chk (nds ps)=0):∀ p∈ps,dY p.2:=by
 intro p hp;have h0:=sK h;rw[aM,h0] at h;rw[WI (show ¬ ((0:Int)≠0) from fun h=>h rfl)] at h;by_cases hm:∃ n∈nds ps,¬ dY n
 ·rw[WJ hm] at h;cases h
 ·exact WV fun hn=>hm ⟨p.2,Xq.2 ⟨p,hp,rfl⟩,hn⟩
theorem FU{n:Nd}(h:dY n){k:Nat}{y:Xa}(hy:n.xs[k]?=some y):y.2.length≤200:=by
 have hk:=(WN.1 hy).1;have h1:=(h.2.2.2.2.2.2.2.2.1 k hk).2.2.2;have e:n.xs.getD k x0=y:=by simp[WW,hy]
 rwa[e] at h1
variable {D:Nat→Prop}
def XrJ(s k:Nat)(xx:List (By×Hd))(X:List Xa)(us:List (By×Hd))(w:World):Prop:=us.length=xx.length∧(∀ j:Nat,k≤j→us[j]?=xx[j]?)∧∀ (j:Nat) (u:By×Hd) (x:Xa),j<k→us[j]?=some u→X[j]?=some x→u.1=x.1∧ByV (fun q=>s≤q∧q<w.heap.size) w.heap u.2 x.2
theorem Ks(lo:Option Addr)(lc:Nat)(ps:List (NdH×Nd))(W:World)(hv:aO D W.heap lo lc ps)(hsm:∀ p∈ps,smN p.2)(hok:∀ p∈ps,okN p.2) :
 CA 18 [.slice lo ps.length lc] W fun v w'=>∃ (o:Option Addr) (c:Nat) (qs:List (NdH×Nd)),v=.tuple [.slice o qs.length c,iV (chk (nds ps))].toArray∧(chk (nds ps)≠0→qs=[])∧(chk (nds ps)=0→nds qs=nds (jU ps))∧aO (fun _=>True) w'.heap o c qs∧Fr W.heap.size o∧aA nob W w':=by
 have hll:(nds ps).length=ps.length:=by simp
 refine cS 102 [(0,_)] Tryz.func18 ?_;refine cA 10 So (Ko lo lc ps W hv hsm hok) ?_;rintro _ w2 ⟨rfl,hf2⟩;refine fK 6 ?_ ?_<;>intro h16
 ·refine Gz 13 ?_;exact⟨_,rfl,none,0,[],rfl,fun _=>rfl,fun h=>absurd h h16,⟨⟨WU _,WU _,fun h=>absurd rfl h,fun i x hx=>by simp at hx⟩,by simp⟩,V6,hf2⟩
 have hz:chk (nds ps)=0:=Xk.1 h16;have hlen:=Cc hz;have ht:=tS hz;have hne:ps≠[]:=fun e=>by subst e;exact absurd hz (by decide +kernel)
 have hmay:∀ p∈ps,dY p.2:=Mt hz;have hnm16:∀ p∈ps,p.2.names.length≤16:=fun p hp=>(jA (xB (sK hz))).2.1 p.2 (Xq.2 ⟨p,hp,rfl⟩);refine Gz 8 ?_;refine SZ Sn rfl (HB lo lc ps w2 (hv.WG hf2).1 (by omega)) rfl ?_;rintro _ w3 ⟨o,c3,rfl,ho3,hfo,hf3⟩;obtain⟨b,rfl⟩:=IZ ho3 hne;have hF3:=hf2.trans hf3;have hbW:W.heap.size≤b:=by have:=hfo _ rfl;have:=hf2.size;exact Xf hf2.size (hfo _ rfl)
 refine Gz 6 ?_;refine SZ Sm rfl (Le b c3 ps w3 ho3 (fun p hp=>(((hv.2 p hp).1.real).WH hF3 (fun _ _=>id)).mono (fun k hk=>⟨fun e=>by omega,Xz hk hF3.size⟩)) (by omega)) rfl ?_;rintro _ w4 ⟨rfl,ys,ho4,hpe,hor,hf4⟩;have hF4:aA nob W w4:=hF3.WD hf4 (fun k e=>.inr (by have e:k=b:=e;omega));have hys:=CI ht hpe hor;have hyl:=hpe.length_eq;obtain⟨Z,hZ⟩:∃ Z,Z=aR ys:=⟨_,rfl⟩
 have hym:∀ p∈ys,p∈ps:=fun p hp=>hpe.mem_iff.1 hp;have hb4:b<w4.heap.size:=ho4.lt _ rfl;refine Gz 4 ?_;refine TN (enc:=enI) rfl ?_;intro w41 hm41 hs41 hf41;obtain⟨g,hg⟩:∃ g,g=w4.heap.size:=⟨_,rfl⟩
 rw[←hg] at hm41 ⊢;have hF41:=hF4.trans hf41;have hbg:b<g:=by omega
 have hgW:W.heap.size≤g:=by have:=hF4.size;omega
 refine Gz 12 ?_;refine S4 (β:=Nat×List (NdH×Nd)×List (I6×Value)) (fun⟨i,zs,m⟩=>[(5,.slice (some ⟨b,0,none⟩) ps.length c3),(6,.map (some g)),(24,iV ps.length),(25,iV i)]) (fun⟨i,zs,m⟩ w=>i≤ps.length∧bL 10 aE 37 w.heap (some ⟨b,0,none⟩) c3 zs∧Cl b g i Z ys zs w∧dM enI w.heap g m∧pA Z (aR (ys.take i)) m∧aA nob W w) (fun⟨i,zs,m⟩=>ps.length-i) ⟨0,ys,[]⟩ ⟨rfl,rfl,rfl,rfl,trivial⟩ ⟨WU _,ho4.WG hf41,⟨rfl,fun _ _=>rfl,fun j _ _ hj=>by omega⟩,hm41,WC,hF41⟩ ?_;rintro⟨i,zs,m⟩ w5 ⟨hi,ho5,hC,hm5,hMI,hF5⟩;refine fK 2 ?_ ?_<;>intro h26
 ·have hil:i<ps.length:=by omega
  obtain⟨p,hp⟩:∃ p,ys[i]?=some p:=⟨_,WK (by omega)⟩
  have hpm:=hym p (WQ hp);have hzi:zs[i]?=some p:=by rw[hC.2.1 i (WT _)];exact hp
  have hv5:=ho5.vw aB;have hzb:=hok p hpm p.2.ino (by simp);have hsl:=Bu (aR (ys.take i));have hil2:(aR (ys.take i)).length=i:=by simp[aR];omega
  have hml:=hMI.2;have hzl:=hC.1;have hizs:i<zs.length:=by omega
  have hpv:=hv.2 p hpm;have hpmay:=hmay p hpm;refine Gz 13 ?_;refine aW [(5,_),(6,_),(7,_),(24,_),(25,_),(26,_)] ?_;refine Gz 5 ?_;refine cL (S1 aQ rfl rfl (fun _=>by simp) (by omega)) ?_;refine Gz 9 ?_;refine cL (S2 aF rfl (hv5.rowZ i rfl hzi 1 _ rfl)) ?_;refine cL (S3 (u:=.tuple [iV (if p.2.ino∈aR (ys.take i) then jR Z p.2.ino else 0),.bool (decide (p.2.ino∈aR (ys.take i)))].toArray) (TR NO uU (a:=(⟨p.2.ino,hzb⟩:I6)) rfl rfl (fun _ e=>by rw[e];exact hm5)) (by rw[hMI.z,hMI.is])) ?_;refine Gz 3 ?_;by_cases h39:p.2.ino∈aR (ys.take i)
  ·rw[WO h39];rw[WJ h39];refine Gz 4 ?_;refine Tw (β:=List (I6×Value)) (fun m2=>[(5,.slice (some ⟨b,0,none⟩) ps.length c3),(6,.map (some g)),(8,.pointer (some (adr (some ⟨b,0,none⟩) (i*10)))),(9,iV (jR Z p.2.ino)),(24,iV ps.length),(25,iV i)]) (fun m2 w=>dM enI w.heap g m2∧pA Z (aR (ys.take (i+1))) m2∧bL 10 aE 37 w.heap (some ⟨b,0,none⟩) c3 zs∧aA (fun k=>k=b∨k=g) w5 w) ?_ ?_
   ·refine Gz 3 ?_;refine cL (Tj rfl) ?_;refine Gz 4 ?_
    first
    |exact aC m ⟨hm5,by rw[jT hp];exact hMI.old h39,ho5,VZ _ _⟩
    |exact TG _ ⟨rfl,rfl,rfl,congrArg (fun z:Int=>some (Value.int .i64 z)) hnew,rfl,rfl,trivial⟩ ⟨hm6,by rw[jT hp];exact hMI.new (⟨p.2.ino,hzb⟩:I6) h39,ho5.WH hf6 (fun a ha e=>by cases ha;have e:b=g:=e;omega),hf6.mono (fun k e=>.inr e)⟩
   rintro m2 w6 ⟨hm6,hMI2,ho6,hH6⟩;refine Gz 6 ?_;refine TQ aB (i:=i) (j:=1) (x':=cY Z p) hzi (by decide) rfl aF rfl rfl rfl rfl ho6 ?_;intro w7 ho7 hs7 hf7;have hH7:aA (fun k=>k=b∨k=g) w5 w7:=hH6.step hf7 (fun k ⟨a,ha,e⟩=>.inl (.inl (by cases ha;exact e.symm)));have hzi7:(zs.set i (cY Z p))[i]?=some (cY Z p):=Xx (by omega);have hm7:=hm6.WH hf7 (fun⟨a,ha,e⟩=>by cases ha;have e:b=g:=e;omega);refine Gz 3 ?_;obtain⟨hxn0,xx,hxv,hxl,hxd,hxx⟩:=hpv.2.2;have hxn:p.1.xs.n=xx.length:=by rw[hxn0,hxl]
   have hx8:p.2.xs.length≤8:=hpmay.2.2.2.2.2.2.2.2.2;have hG7:aA nob W w7:=hF5.WD hH7 (fun k e=>.inr (by rcases e with e|e<;>omega));refine T0 20 [6,11,16] (fun H=>VwM 10 aE H (some ⟨b,0,none⟩) c3 (zs.set i (cY Z p))) [7,12,17,20,23,26] [0,1,2,3,4,5,6,8,9,10,11,13,14,15,16] (.alt 7 [] (.alt 12 [] (.alt 17 [18,19] (.alt 20 [21,22] (.alt 23 [24,25] (.alt 26 [] .fin .stop) .stop) .stop) .stop) .stop) .stop) aI (by kernel_rfl) ((ho7.vw aB)) ?_;have hH0:aA (fun k=>k=b∨k=g) w5 (w7.drewN 1):=hH7.draws 1;have hG0:aA nob W (w7.drewN 1):=hG7.draws 1;have ho0:bL 10 aE 37 (w7.drewN 1).heap (some ⟨b,0,none⟩) c3 (zs.set i (cY Z p)):=ho7;have hm0:dM enI (w7.drewN 1).heap g m2:=hm7;generalize w7.drewN 1=v0 at hH0 hG0 ho0 hm0 ⊢;refine Sz.calm rfl rfl (Ta rfl) rfl ?_;refine Sz.calm rfl rfl (Ta rfl) rfl ?_;refine Sz.calm rfl rfl (Ta rfl) rfl ?_;refine Sz.calm rfl rfl (Ta rfl) rfl ?_;refine Sz.calm rfl rfl (Tq rfl) rfl ?_;refine Sz.calm rfl rfl (TA vR.h rfl) rfl ?_;refine Sz.calm rfl rfl (S9 dW rfl (fun H (hH:VwM 10 aE H (some ⟨b,0,none⟩) c3 (zs.set i (cY Z p)))=>hH.rowZ i rfl hzi7 0 _ rfl)) rfl ?_;refine Sz.calm rfl rfl (Ta rfl) rfl ?_;refine Sz.calm rfl rfl (Tq rfl) rfl ?_;refine Sz.calm rfl rfl (TA vQ.h rfl) rfl ?_;refine Sz.calm rfl rfl (S9 aL rfl (fun H (hH:VwM 10 aE H (some ⟨b,0,none⟩) c3 (zs.set i (cY Z p)))=>hH.rowZ i rfl hzi7 6 _ rfl)) rfl ?_;refine Sz.calm rfl rfl (Ta rfl) rfl ?_;refine Sz.calm rfl rfl (Tq rfl) rfl ?_;refine Sz.calm rfl rfl (TA oQ.h rfl) rfl ?_;refine Sz.calm rfl rfl (S9 cK rfl (fun H (hH:VwM 10 aE H (some ⟨b,0,none⟩) c3 (zs.set i (cY Z p)))=>hH.rowZ i rfl hzi7 8 _ rfl)) rfl ?_;refine Sz.alt ?_ ?_
   ·refine Wp rfl rfl (SZ OX rfl ((by show Calls _ _ [Value.slice p.1.names.a p.1.names.n p.1.names.c].toArray _ _;rw[hpv.1.1];exact Bf _ _ p.2.names v0 (hpv.WG hG0).1.2.1 (by have:=hnm16 p hpm;omega))) rfl ?_);rintro _ v1 ⟨on,cn,rfl,hon1,hfn,hf1⟩;have hH1:aA (fun k=>k=b∨k=g) w5 v1:=hH0.step hf1 (fun _ h=>h.elim);have hG1:=hG0.trans hf1;have ho1:=ho0.WG hf1;have hm1:=hm0.WH hf1 id;refine Sz.on (by exact(ho1.vw aB)) ?_;refine Sz.alt ?_ ?_
    ·refine Wp rfl rfl (SZ EP rfl ((by show Calls _ _ [Value.slice p.1.data.a p.1.data.n p.1.data.c].toArray _ _;rw[hpv.2.1.1];exact oU _ _ p.2.data v1 (hpv.WG hG1).2.1.2.1 (by have:=hpmay.2.2.2.2.2.2.1;omega))) rfl ?_);rintro _ v2 ⟨od,cd,rfl,hod2,hfd,hf2b⟩;have hH2:aA (fun k=>k=b∨k=g) w5 v2:=hH1.step hf2b (fun _ h=>h.elim);have hG2:=hG1.trans hf2b;have ho2:=ho1.WG hf2b;have hm2b:=hm1.WH hf2b id;have hon2:=hon1.WG hf2b;refine Sz.on (by exact(ho2.vw aB)) ?_;refine Sz.alt ?_ ?_
     ·refine Wp rfl rfl (SZ OW rfl ((by show Calls _ _ [Value.slice p.1.xs.a p.1.xs.n p.1.xs.c].toArray _ _;rw[hxn];exact Be _ _ xx v2 (hxv.keep' hG2 (fun _ _ _=>id)) (by omega))) rfl ?_);rintro _ v3 ⟨ox,cx,rfl,hox3,hfx,hf3b⟩;have hH3:aA (fun k=>k=b∨k=g) w5 v3:=hH2.step hf3b (fun _ h=>h.elim);have hG3:=hG2.trans hf3b;have ho3b:=ho2.WG hf3b;have hm3b:=hm2b.WH hf3b id;have hon3:=hon2.WG hf3b;have hod3:=hod2.WG hf3b;have hfx5:∀ a,ox=some a→w5.heap.size≤a.block:=fun a ha=>by have h1:v2.heap.size≤a.block:=hfx a ha;have:=hH2.size;omega
      have hnx:∀ a c:Addr,on=some a→ox=some c→c.block=a.block→False:=fun a c ha hc e=>by have h1:v2.heap.size≤c.block:=hfx c hc;have h2:=hon2.lt a ha;omega
      have hdx:∀ a c:Addr,od=some a→ox=some c→c.block=a.block→False:=fun a c ha hc e=>by have h1:v2.heap.size≤c.block:=hfx c hc;have h2:=hod2.lt a ha;omega
      have hb0:b<v0.heap.size:=ho0.lt _ rfl;have hg0:g<v0.heap.size:=hm0.obj;have hfn:∀ a,on=some a→b<a.block∧g<a.block:=fun a ha=>by have:=hfn a ha;omega
      have hfd:∀ a,od=some a→b<a.block∧g<a.block:=fun a ha=>by have:=hfd a ha;have:=hf1.size;omega
      have hfx:∀ a,ox=some a→b<a.block∧g<a.block:=fun a ha=>by have:=hfx a ha;have:=hf1.size;have:=hf2b.size;omega
      refine Sz.on (by exact(ho3b.vw aB)) ?_;refine Sz.calm rfl rfl (Tq rfl) rfl ?_;refine Sz.calm rfl rfl (TA vR.h rfl) rfl ?_;refine Sz.alt ?_ ?_
      ·refine Wp rfl rfl (TQ aB (i:=i) (j:=0) (x':=((⟨⟨on,p.2.names.length,cn⟩,p.1.data,p.1.xs⟩:NdH),(cY Z p).2)) hzi7 (by decide) rfl dW rfl rfl rfl rfl ho3b ?_);intro v4 ho4v hs4v hf4v;rw[Zb] at ho4v;have hz4:=Xx (a:=(((⟨⟨on,p.2.names.length,cn⟩,p.1.data,p.1.xs⟩:NdH),(cY Z p).2):NdH×Nd)) hizs;have hH4:aA (fun k=>k=b∨k=g) w5 v4:=hH3.step hf4v (fun k ⟨a,ha,e⟩=>.inl (.inl (by cases ha;exact e.symm)));have hm4v:=hm3b.WH hf4v (fun⟨a,ha,e⟩=>by cases ha;have e:b=g:=e;omega);have hon4:=hon3.WH hf4v (fun a ha ⟨c,hc,e⟩=>by cases hc;have e:b=a.block:=e;have:=hfn a ha;omega);have hod4:=hod3.WH hf4v (fun a ha ⟨c,hc,e⟩=>by cases hc;have e:b=a.block:=e;have:=hfd a ha;omega);have hox4:=hox3.WH hf4v (fun a ha ⟨c,hc,e⟩=>by cases hc;have e:b=a.block:=e;have:=hfx a ha;omega);refine Sz.off rfl ?_;refine Sz.calm rfl rfl (Tq rfl) rfl ?_;refine Sz.calm rfl rfl (TA vQ.h rfl) rfl ?_;refine Sz.alt ?_ ?_
       ·refine Wp rfl rfl (TQ aB (i:=i) (j:=6) (x':=((⟨⟨on,p.2.names.length,cn⟩,⟨od,p.2.data.length,cd⟩,p.1.xs⟩:NdH),(cY Z p).2)) hz4 (by decide) rfl aL rfl rfl rfl rfl ho4v ?_);intro v5 ho5v hs5v hf5v;rw[Zb] at ho5v;have hz5:=Xx (a:=(((⟨⟨on,p.2.names.length,cn⟩,⟨od,p.2.data.length,cd⟩,p.1.xs⟩:NdH),(cY Z p).2):NdH×Nd)) hizs;have hH5:aA (fun k=>k=b∨k=g) w5 v5:=hH4.step hf5v (fun k ⟨a,ha,e⟩=>.inl (.inl (by cases ha;exact e.symm)));have hm5v:=hm4v.WH hf5v (fun⟨a,ha,e⟩=>by cases ha;have e:b=g:=e;omega);have hon5:=hon4.WH hf5v (fun a ha ⟨c,hc,e⟩=>by cases hc;have e:b=a.block:=e;have:=hfn a ha;omega);have hod5:=hod4.WH hf5v (fun a ha ⟨c,hc,e⟩=>by cases hc;have e:b=a.block:=e;have:=hfd a ha;omega);have hox5:=hox4.WH hf5v (fun a ha ⟨c,hc,e⟩=>by cases hc;have e:b=a.block:=e;have:=hfx a ha;omega);refine Sz.off rfl ?_;refine Sz.calm rfl rfl (Tq rfl) rfl ?_;refine Sz.calm rfl rfl (TA oQ.h rfl) rfl ?_;refine Sz.alt ?_ ?_
        ·refine Wp rfl rfl (TQ aB (i:=i) (j:=8) (x':=((⟨⟨on,p.2.names.length,cn⟩,⟨od,p.2.data.length,cd⟩,⟨ox,xx.length,cx⟩⟩:NdH),(cY Z p).2)) hz5 (by decide) rfl cK rfl rfl rfl rfl ho5v ?_);intro v6 ho6v hs6v hf6v;rw[Zb] at ho6v;have hH6v:aA (fun k=>k=b∨k=g) w5 v6:=hH5.step hf6v (fun k ⟨a,ha,e⟩=>.inl (.inl (by cases ha;exact e.symm)));have hm6v:=hm5v.WH hf6v (fun⟨a,ha,e⟩=>by cases ha;have e:b=g:=e;omega);have hon6:=hon5.WH hf6v (fun a ha ⟨c,hc,e⟩=>by cases hc;have e:b=a.block:=e;have:=hfn a ha;omega);have hod6:=hod5.WH hf6v (fun a ha ⟨c,hc,e⟩=>by cases hc;have e:b=a.block:=e;have:=hfd a ha;omega);have hox6:=hox5.WH hf6v (fun a ha ⟨c,hc,e⟩=>by cases hc;have e:b=a.block:=e;have:=hfx a ha;omega);obtain⟨pz,hpz⟩:∃ pz:NdH×Nd,pz=((⟨⟨on,p.2.names.length,cn⟩,⟨od,p.2.data.length,cd⟩,⟨ox,xx.length,cx⟩⟩:NdH),(cY Z p).2):=⟨_,rfl⟩
         rw[←hpz] at ho6v;have hzi6:(zs.set i pz)[i]?=some pz:=Xx (by omega);have hG6:aA nob W v6:=hF5.WD hH6v (fun k e=>.inr (by rcases e with e|e<;>omega));refine Sz.off rfl ?_;refine Wq ?_;refine Gz 6 ?_;refine cL (S3 (u:=.slice ox xx.length cx) (S2 cK rfl ((ho6v.vw aB).rowZ i rfl hzi6 8 _ rfl)) (by rw[hpz];rfl)) ?_;refine Gz 5 ?_;have hb6:b<v6.heap.size:=ho6v.lt _ rfl;have hg6:g<v6.heap.size:=hm6v.obj;refine S4 (β:=Nat×List (By×Hd)) (fun⟨k,us⟩=>[(5,.slice (some ⟨b,0,none⟩) ps.length c3),(6,.map (some g)),(8,.pointer (some (adr (some ⟨b,0,none⟩) (i*10)))),(24,iV ps.length),(25,iV i),(82,.slice ox xx.length cx),(83,iV xx.length),(84,iV k)]) (fun⟨k,us⟩ w=>k≤xx.length∧bL 2 fY 123 w.heap ox cx us∧XrJ v6.heap.size k xx p.2.xs us w∧aA (blk ox) v6 w) (fun⟨k,us⟩=>xx.length-k) ⟨0,xx⟩ ⟨rfl,rfl,rfl,rfl,rfl,rfl,rfl,rfl,trivial⟩ ⟨WU _,hox6,⟨rfl,fun _ _=>rfl,fun j _ _ hj=>by omega⟩,VZ _ _⟩ ?_;rintro⟨k,us⟩ w8 ⟨hk,hou,hXI,hI8⟩;refine fK 2 ?_ ?_<;>intro h85
         ·have hkx:k<xx.length:=by omega
          obtain⟨x,hx⟩:∃ x,xx[k]?=some x:=⟨_,WK hkx⟩
          obtain⟨y,hy⟩:∃ y,p.2.xs[k]?=some y:=⟨_,WK (by omega)⟩
          have hux:us[k]?=some x:=by rw[hXI.2.1 k (WT _)];exact hx
          have hvu:=hou.vw cR;have hul:=hXI.1;have hxy:=hxx k x y hx hy;have hyl4:y.2.length≤200:=FU hpmay hy;refine Gz 11 ?_;refine cL (S1 gZ rfl rfl (by rw[←hul];exact hvu.non) (by omega)) ?_;refine cL (Tf (cs:=fY x) eK rfl (fun j v hj=>hvu.rowZ k rfl hux j v hj)) ?_;refine S5 tY rfl ?_;intro w9 hg9 hs9 hf9;obtain⟨qx,hqx⟩:∃ qx,qx=w8.heap.size:=⟨_,rfl⟩
          rw[←hqx] at hg9 ⊢;refine Gz 1 ?_;refine Te (vs:=fY x) eK rfl rfl (cR x).2 hg9 rfl ?_;intro wA hgA hsA hfA;have hf8A:aA nob w8 wA:=hf9.WD hfA (fun k e=>.inr (by have e:k=qx:=e;omega));have hI_A:aA (blk ox) v6 wA:=hI8.step hf8A (fun _ h=>h.elim);have hoz8:=ho6v.WH hI8 (fun a ha ⟨c,hc,e⟩=>by cases ha;have:=hfx c hc;have e:c.block=b:=e;omega);have hozA:=hoz8.WG hf8A;have houA:=hou.WG hf8A;have hqv:v6.heap.size≤qx:=by rw[hqx];exact hI8.size
          refine Gz 1 ?_;refine aW [(5,_),(6,_),(8,_),(11,_),(12,_),(24,_),(25,_),(82,_),(83,_),(84,_),(85,_)] ?_;refine Gz 1 ?_;refine T0 10 [3,6] (fun H=>VwM 10 aE H (some ⟨b,0,none⟩) c3 (zs.set i pz)∧H[qx]?=some (.cells (fY x).toArray 123 (0,0))) [7,10] [0,1,2,3,4,5,6] (.alt 7 [8,9] (.alt 10 [] .fin .stop) .stop) aI (by kernel_rfl) (⟨hozA.vw aB,hgA⟩) ?_;refine Sz.calm rfl rfl (Ta rfl) rfl ?_;refine Sz.calm rfl rfl (Tq rfl) rfl ?_;refine Sz.calm rfl rfl (TA oQ.h rfl) rfl ?_;refine Sz.calm rfl rfl (S3 (u:=.slice ox xx.length cx) (S9 cK rfl (fun H (hH:VwM 10 aE H (some ⟨b,0,none⟩) c3 (zs.set i pz)∧H[qx]?=some (.cells (fY x).toArray 123 (0,0)))=>hH.1.rowZ i rfl hzi6 8 _ rfl)) (by rw[hpz];rfl)) rfl ?_;refine Sz.calm rfl rfl (Ta rfl) rfl ?_;refine Sz.calm rfl rfl (TA rT.h rfl) rfl ?_;refine Sz.calm rfl rfl (S3 (u:=.slice x.2.a y.2.length x.2.c) (S9 aL rfl (fun H (hH:VwM 10 aE H (some ⟨b,0,none⟩) c3 (zs.set i pz)∧H[qx]?=some (.cells (fY x).toArray 123 (0,0)))=>aD hH.2 rfl)) (by rw[←hxy.2.1];rfl)) rfl ?_;refine Sz.alt ?_ ?_
          ·refine Wp rfl rfl (SZ EP rfl (oU _ _ y.2 _ ((hxy.2.WH (hG6.WD hI_A (fun k ⟨a,ha,e⟩=>.inr (by have:=hfx a ha;omega))) (fun _ _=>id)).2.1) (by omega)) rfl ?_);rintro _ wB ⟨oB,cB,rfl,hoB,hfB,hfBf⟩;have hfBf:aA nob wA wB:=hfBf.WE;have hozB:=hozA.WG hfBf;have houB:=houA.WG hfBf;refine Sz.on (by exact⟨hozB.vw aB,hfBf.obj hgA id⟩) ?_;refine Sz.calm rfl rfl (S1 gZ rfl rfl (by rw[←hul];exact hvu.non) (by omega)) rfl ?_;refine Sz.calm rfl rfl (TA rT.h rfl) rfl ?_;refine Sz.alt ?_ ?_
           ·refine Wp rfl rfl (TQ cR (i:=k) (j:=1) (x':=(x.1,(⟨oB,y.2.length,cB⟩:Hd))) hux (by decide) rfl aL rfl rfl rfl rfl houB ?_);intro wC houC hsC hfC;have hI_C:aA (blk ox) v6 wC:=(hI_A.step hfBf (fun _ h=>h.elim)).trans hfC;have hoBC:=hoB.WH hfC (fun a ha ⟨c,hc,e⟩=>by have h1:=hfB a ha;have h2:=hou.lt c hc;have h3:=hf8A.size;have e:c.block=a.block:=e;have h1:wA.heap.size≤a.block:=h1;omega);refine Sz.off rfl ?_;refine Wq ?_;refine Gz 6 ?_;refine aG ⟨k+1,us.set k (x.1,(⟨oB,y.2.length,cB⟩:Hd))⟩ ⟨by omega,houC,⟨by rw[XH];exact hul,fun j hj=>by rw[XO (by omega)];exact hXI.2.1 j (by omega),fun j u z hj hu hz=>?_⟩,hI_C⟩ (by show xx.length-(k+1)<xx.length-k;omega);by_cases e:j=k
            · subst e
              rw[Xx (by omega)] at hu;cases hu;rw[hy] at hz;cases hz;exact⟨hxy.1,rfl,hoBC.vw,fun _ q ⟨a,ha,e⟩=>⟨by have h1:wA.heap.size≤a.block:=hfB a ha;have:=hI_A.size;omega,by have:=hoBC.lt a ha;omega⟩⟩
            · rw[XO (fun h=>e h.symm)] at hu
              obtain⟨h1,h2⟩:=hXI.2.2 j u z (by omega) hu hz;have hfAC:aA (blk ox) w8 wC:=((hf8A.mono (fun _ h=>h.elim)).trans (hfBf.mono (fun _ h=>h.elim))).trans hfC;exact⟨h1,(h2.WH hfAC (fun q hq ⟨a,ha,e⟩=>by have:=hox6.lt a ha;have:=hq.1;omega)).mono (fun q hq=>⟨hq.1,Xz hq.2 hfAC.size⟩)⟩
           exact Sz.stop
          exact Sz.stop
         have hke:k=xx.length:=by omega
         subst hke;refine Gz 14 ?_;have hH8:aA (fun k=>k=b∨k=g) w5 w8:=hH6v.step hI8 (fun k ⟨a,ha,e⟩=>.inr (by have:=hfx5 a ha;omega));have hI8s:=hI8.size;have hfoot:=hI8;have hon8:=hon6.WH hI8 (fun a ha ⟨c,hc,e⟩=>hnx a c ha hc e);have hod8:=hod6.WH hI8 (fun a ha ⟨c,hc,e⟩=>hdx a c ha hc e);have hoz8:=ho6v.WH hI8 (fun a ha ⟨c,hc,e⟩=>by cases ha;have:=hfx c hc;have e:c.block=b:=e;omega);have hm8:=hm6v.WH hI8 (fun⟨a,ha,e⟩=>by have:=hfx a ha;omega);have hpzv:NdV (fun k=>k≠b∧k≠g∧k<w8.heap.size) w8.heap pz:=by
          rw[hpz];refine⟨⟨rfl,hon8.vw,fun _ k ⟨a,ha,e⟩=>?_⟩,⟨rfl,hod8.vw,fun _ k ⟨a,ha,e⟩=>?_⟩,⟨hxl,us,hou.vw cR,hXI.1.trans hxl,fun _ k ⟨a,ha,e⟩=>?_,fun j u x hu hx=>?_⟩⟩
          ·have h1:=hfn a ha;have h2:=hon8.lt a ha;exact⟨by omega,by omega,by omega⟩
          ·have h1:=hfd a ha;have h2:=hod8.lt a ha;exact⟨by omega,by omega,by omega⟩
          ·have h1:=hfx a ha;have h2:=hou.lt a ha;exact⟨by omega,by omega,by omega⟩
          · obtain⟨h1,h2⟩:=hXI.2.2 j u x (by have:=(WN.1 hu).1;have:=hXI.1;omega) hu hx
            exact⟨h1,h2.mono (fun k hk=>⟨by have:=hk.1;omega,by have:=hk.1;omega,hk.2⟩)⟩
         exact aG ⟨i+1,zs.set i pz,m2⟩ ⟨by omega,hoz8,(hC.WG hH8).put hp (by rw[hpz]) hpzv,hm8,hMI2,hF5.WD hH8 (fun k e=>.inr (by rcases e with e|e<;>omega))⟩ (by show ps.length-(i+1)<ps.length-i;omega)
        exact Sz.stop
       exact Sz.stop
      exact Sz.stop
     exact Sz.stop
    exact Sz.stop
   exact Sz.stop
  rw[WL h39];rw[WI h39];have hnew:((m.length:Nat):Int)+1=jR Z p.2.ino:=by rw[hml,hZ,mO hp,xG h39]
  refine Gz 4 ?_;refine Tw (β:=List (I6×Value)) (fun m2=>[(5,.slice (some ⟨b,0,none⟩) ps.length c3),(6,.map (some g)),(8,.pointer (some (adr (some ⟨b,0,none⟩) (i*10)))),(9,iV (jR Z p.2.ino)),(24,iV ps.length),(25,iV i)]) (fun m2 w=>dM enI w.heap g m2∧pA Z (aR (ys.take (i+1))) m2∧bL 10 aE 37 w.heap (some ⟨b,0,none⟩) c3 zs∧aA (fun k=>k=b∨k=g) w5 w) ?_ ?_
  ·refine Gz 3 ?_;refine cL (Tj rfl) ?_;refine Gz 6 ?_;refine cL (UI NO rfl (fun _ e=>by rw[e];exact hm5)) ?_;refine Gz 9 ?_;refine cL (S2 aF rfl (hv5.rowZ i rfl hzi 1 _ rfl)) ?_;refine Gz 1 ?_;refine TH NO uU (a:=(⟨p.2.ino,hzb⟩:I6)) rfl rfl rfl hm5 ?_;intro w6 hm6 hs6 hf6;rw[hnew] at hm6;refine Gz 1 ?_
   first
   |exact aC m ⟨hm5,by rw[jT hp];exact hMI.old h39,ho5,VZ _ _⟩
   |exact TG _ ⟨rfl,rfl,rfl,congrArg (fun z:Int=>some (Value.int .i64 z)) hnew,rfl,rfl,trivial⟩ ⟨hm6,by rw[jT hp];exact hMI.new (⟨p.2.ino,hzb⟩:I6) h39,ho5.WH hf6 (fun a ha e=>by cases ha;have e:b=g:=e;omega),hf6.mono (fun k e=>.inr e)⟩
  rintro m2 w6 ⟨hm6,hMI2,ho6,hH6⟩;refine Gz 6 ?_;refine TQ aB (i:=i) (j:=1) (x':=cY Z p) hzi (by decide) rfl aF rfl rfl rfl rfl ho6 ?_;intro w7 ho7 hs7 hf7;have hH7:aA (fun k=>k=b∨k=g) w5 w7:=hH6.step hf7 (fun k ⟨a,ha,e⟩=>.inl (.inl (by cases ha;exact e.symm)));have hzi7:(zs.set i (cY Z p))[i]?=some (cY Z p):=Xx (by omega);have hm7:=hm6.WH hf7 (fun⟨a,ha,e⟩=>by cases ha;have e:b=g:=e;omega);refine Gz 3 ?_;obtain⟨hxn0,xx,hxv,hxl,hxd,hxx⟩:=hpv.2.2;have hxn:p.1.xs.n=xx.length:=by rw[hxn0,hxl]
  have hx8:p.2.xs.length≤8:=hpmay.2.2.2.2.2.2.2.2.2;have hG7:aA nob W w7:=hF5.WD hH7 (fun k e=>.inr (by rcases e with e|e<;>omega));refine T0 20 [6,11,16] (fun H=>VwM 10 aE H (some ⟨b,0,none⟩) c3 (zs.set i (cY Z p))) [7,12,17,20,23,26] [0,1,2,3,4,5,6,8,9,10,11,13,14,15,16] (.alt 7 [] (.alt 12 [] (.alt 17 [18,19] (.alt 20 [21,22] (.alt 23 [24,25] (.alt 26 [] .fin .stop) .stop) .stop) .stop) .stop) .stop) aI (by kernel_rfl) ((ho7.vw aB)) ?_;have hH0:aA (fun k=>k=b∨k=g) w5 (w7.drewN 1):=hH7.draws 1;have hG0:aA nob W (w7.drewN 1):=hG7.draws 1;have ho0:bL 10 aE 37 (w7.drewN 1).heap (some ⟨b,0,none⟩) c3 (zs.set i (cY Z p)):=ho7;have hm0:dM enI (w7.drewN 1).heap g m2:=hm7;generalize w7.drewN 1=v0 at hH0 hG0 ho0 hm0 ⊢;refine Sz.calm rfl rfl (Ta rfl) rfl ?_;refine Sz.calm rfl rfl (Ta rfl) rfl ?_;refine Sz.calm rfl rfl (Ta rfl) rfl ?_;refine Sz.calm rfl rfl (Ta rfl) rfl ?_;refine Sz.calm rfl rfl (Tq rfl) rfl ?_;refine Sz.calm rfl rfl (TA vR.h rfl) rfl ?_;refine Sz.calm rfl rfl (S9 dW rfl (fun H (hH:VwM 10 aE H (some ⟨b,0,none⟩) c3 (zs.set i (cY Z p)))=>hH.rowZ i rfl hzi7 0 _ rfl)) rfl ?_;refine Sz.calm rfl rfl (Ta rfl) rfl ?_;refine Sz.calm rfl rfl (Tq rfl) rfl ?_;refine Sz.calm rfl rfl (TA vQ.h rfl) rfl ?_;refine Sz.calm rfl rfl (S9 aL rfl (fun H (hH:VwM 10 aE H (some ⟨b,0,none⟩) c3 (zs.set i (cY Z p)))=>hH.rowZ i rfl hzi7 6 _ rfl)) rfl ?_;refine Sz.calm rfl rfl (Ta rfl) rfl ?_;refine Sz.calm rfl rfl (Tq rfl) rfl ?_;refine Sz.calm rfl rfl (TA oQ.h rfl) rfl ?_;refine Sz.calm rfl rfl (S9 cK rfl (fun H (hH:VwM 10 aE H (some ⟨b,0,none⟩) c3 (zs.set i (cY Z p)))=>hH.rowZ i rfl hzi7 8 _ rfl)) rfl ?_;refine Sz.alt ?_ ?_
  ·refine Wp rfl rfl (SZ OX rfl ((by show Calls _ _ [Value.slice p.1.names.a p.1.names.n p.1.names.c].toArray _ _;rw[hpv.1.1];exact Bf _ _ p.2.names v0 (hpv.WG hG0).1.2.1 (by have:=hnm16 p hpm;omega))) rfl ?_);rintro _ v1 ⟨on,cn,rfl,hon1,hfn,hf1⟩;have hH1:aA (fun k=>k=b∨k=g) w5 v1:=hH0.step hf1 (fun _ h=>h.elim);have hG1:=hG0.trans hf1;have ho1:=ho0.WG hf1;have hm1:=hm0.WH hf1 id;refine Sz.on (by exact(ho1.vw aB)) ?_;refine Sz.alt ?_ ?_
   ·refine Wp rfl rfl (SZ EP rfl ((by show Calls _ _ [Value.slice p.1.data.a p.1.data.n p.1.data.c].toArray _ _;rw[hpv.2.1.1];exact oU _ _ p.2.data v1 (hpv.WG hG1).2.1.2.1 (by have:=hpmay.2.2.2.2.2.2.1;omega))) rfl ?_);rintro _ v2 ⟨od,cd,rfl,hod2,hfd,hf2b⟩;have hH2:aA (fun k=>k=b∨k=g) w5 v2:=hH1.step hf2b (fun _ h=>h.elim);have hG2:=hG1.trans hf2b;have ho2:=ho1.WG hf2b;have hm2b:=hm1.WH hf2b id;have hon2:=hon1.WG hf2b;refine Sz.on (by exact(ho2.vw aB)) ?_;refine Sz.alt ?_ ?_
    ·refine Wp rfl rfl (SZ OW rfl ((by show Calls _ _ [Value.slice p.1.xs.a p.1.xs.n p.1.xs.c].toArray _ _;rw[hxn];exact Be _ _ xx v2 (hxv.keep' hG2 (fun _ _ _=>id)) (by omega))) rfl ?_);rintro _ v3 ⟨ox,cx,rfl,hox3,hfx,hf3b⟩;have hH3:aA (fun k=>k=b∨k=g) w5 v3:=hH2.step hf3b (fun _ h=>h.elim);have hG3:=hG2.trans hf3b;have ho3b:=ho2.WG hf3b;have hm3b:=hm2b.WH hf3b id;have hon3:=hon2.WG hf3b;have hod3:=hod2.WG hf3b;have hfx5:∀ a,ox=some a→w5.heap.size≤a.block:=fun a ha=>by have h1:v2.heap.size≤a.block:=hfx a ha;have:=hH2.size;omega
     have hnx:∀ a c:Addr,on=some a→ox=some c→c.block=a.block→False:=fun a c ha hc e=>by have h1:v2.heap.size≤c.block:=hfx c hc;have h2:=hon2.lt a ha;omega
     have hdx:∀ a c:Addr,od=some a→ox=some c→c.block=a.block→False:=fun a c ha hc e=>by have h1:v2.heap.size≤c.block:=hfx c hc;have h2:=hod2.lt a ha;omega
     have hb0:b<v0.heap.size:=ho0.lt _ rfl;have hg0:g<v0.heap.size:=hm0.obj;have hfn:∀ a,on=some a→b<a.block∧g<a.block:=fun a ha=>by have:=hfn a ha;omega
     have hfd:∀ a,od=some a→b<a.block∧g<a.block:=fun a ha=>by have:=hfd a ha;have:=hf1.size;omega
     have hfx:∀ a,ox=some a→b<a.block∧g<a.block:=fun a ha=>by have:=hfx a ha;have:=hf1.size;have:=hf2b.size;omega
     refine Sz.on (by exact(ho3b.vw aB)) ?_;refine Sz.calm rfl rfl (Tq rfl) rfl ?_;refine Sz.calm rfl rfl (TA vR.h rfl) rfl ?_;refine Sz.alt ?_ ?_
     ·refine Wp rfl rfl (TQ aB (i:=i) (j:=0) (x':=((⟨⟨on,p.2.names.length,cn⟩,p.1.data,p.1.xs⟩:NdH),(cY Z p).2)) hzi7 (by decide) rfl dW rfl rfl rfl rfl ho3b ?_);intro v4 ho4v hs4v hf4v;rw[Zb] at ho4v;have hz4:=Xx (a:=(((⟨⟨on,p.2.names.length,cn⟩,p.1.data,p.1.xs⟩:NdH),(cY Z p).2):NdH×Nd)) hizs;have hH4:aA (fun k=>k=b∨k=g) w5 v4:=hH3.step hf4v (fun k ⟨a,ha,e⟩=>.inl (.inl (by cases ha;exact e.symm)));have hm4v:=hm3b.WH hf4v (fun⟨a,ha,e⟩=>by cases ha;have e:b=g:=e;omega);have hon4:=hon3.WH hf4v (fun a ha ⟨c,hc,e⟩=>by cases hc;have e:b=a.block:=e;have:=hfn a ha;omega);have hod4:=hod3.WH hf4v (fun a ha ⟨c,hc,e⟩=>by cases hc;have e:b=a.block:=e;have:=hfd a ha;omega);have hox4:=hox3.WH hf4v (fun a ha ⟨c,hc,e⟩=>by cases hc;have e:b=a.block:=e;have:=hfx a ha;omega);refine Sz.off rfl ?_;refine Sz.calm rfl rfl (Tq rfl) rfl ?_;refine Sz.calm rfl rfl (TA vQ.h rfl) rfl ?_;refine Sz.alt ?_ ?_
      ·refine Wp rfl rfl (TQ aB (i:=i) (j:=6) (x':=((⟨⟨on,p.2.names.length,cn⟩,⟨od,p.2.data.length,cd⟩,p.1.xs⟩:NdH),(cY Z p).2)) hz4 (by decide) rfl aL rfl rfl rfl rfl ho4v ?_);intro v5 ho5v hs5v hf5v;rw[Zb] at ho5v;have hz5:=Xx (a:=(((⟨⟨on,p.2.names.length,cn⟩,⟨od,p.2.data.length,cd⟩,p.1.xs⟩:NdH),(cY Z p).2):NdH×Nd)) hizs;have hH5:aA (fun k=>k=b∨k=g) w5 v5:=hH4.step hf5v (fun k ⟨a,ha,e⟩=>.inl (.inl (by cases ha;exact e.symm)));have hm5v:=hm4v.WH hf5v (fun⟨a,ha,e⟩=>by cases ha;have e:b=g:=e;omega);have hon5:=hon4.WH hf5v (fun a ha ⟨c,hc,e⟩=>by cases hc;have e:b=a.block:=e;have:=hfn a ha;omega);have hod5:=hod4.WH hf5v (fun a ha ⟨c,hc,e⟩=>by cases hc;have e:b=a.block:=e;have:=hfd a ha;omega);have hox5:=hox4.WH hf5v (fun a ha ⟨c,hc,e⟩=>by cases hc;have e:b=a.block:=e;have:=hfx a ha;omega);refine Sz.off rfl ?_;refine Sz.calm rfl rfl (Tq rfl) rfl ?_;refine Sz.calm rfl rfl (TA oQ.h rfl) rfl ?_;refine Sz.alt ?_ ?_
       ·refine Wp rfl rfl (TQ aB (i:=i) (j:=8) (x':=((⟨⟨on,p.2.names.length,cn⟩,⟨od,p.2.data.length,cd⟩,⟨ox,xx.length,cx⟩⟩:NdH),(cY Z p).2)) hz5 (by decide) rfl cK rfl rfl rfl rfl ho5v ?_);intro v6 ho6v hs6v hf6v;rw[Zb] at ho6v;have hH6v:aA (fun k=>k=b∨k=g) w5 v6:=hH5.step hf6v (fun k ⟨a,ha,e⟩=>.inl (.inl (by cases ha;exact e.symm)));have hm6v:=hm5v.WH hf6v (fun⟨a,ha,e⟩=>by cases ha;have e:b=g:=e;omega);have hon6:=hon5.WH hf6v (fun a ha ⟨c,hc,e⟩=>by cases hc;have e:b=a.block:=e;have:=hfn a ha;omega);have hod6:=hod5.WH hf6v (fun a ha ⟨c,hc,e⟩=>by cases hc;have e:b=a.block:=e;have:=hfd a ha;omega);have hox6:=hox5.WH hf6v (fun a ha ⟨c,hc,e⟩=>by cases hc;have e:b=a.block:=e;have:=hfx a ha;omega);obtain⟨pz,hpz⟩:∃ pz:NdH×Nd,pz=((⟨⟨on,p.2.names.length,cn⟩,⟨od,p.2.data.length,cd⟩,⟨ox,xx.length,cx⟩⟩:NdH),(cY Z p).2):=⟨_,rfl⟩
        rw[←hpz] at ho6v;have hzi6:(zs.set i pz)[i]?=some pz:=Xx (by omega);have hG6:aA nob W v6:=hF5.WD hH6v (fun k e=>.inr (by rcases e with e|e<;>omega));refine Sz.off rfl ?_;refine Wq ?_;refine Gz 6 ?_;refine cL (S3 (u:=.slice ox xx.length cx) (S2 cK rfl ((ho6v.vw aB).rowZ i rfl hzi6 8 _ rfl)) (by rw[hpz];rfl)) ?_;refine Gz 5 ?_;have hb6:b<v6.heap.size:=ho6v.lt _ rfl;have hg6:g<v6.heap.size:=hm6v.obj;refine S4 (β:=Nat×List (By×Hd)) (fun⟨k,us⟩=>[(5,.slice (some ⟨b,0,none⟩) ps.length c3),(6,.map (some g)),(8,.pointer (some (adr (some ⟨b,0,none⟩) (i*10)))),(24,iV ps.length),(25,iV i),(82,.slice ox xx.length cx),(83,iV xx.length),(84,iV k)]) (fun⟨k,us⟩ w=>k≤xx.length∧bL 2 fY 123 w.heap ox cx us∧XrJ v6.heap.size k xx p.2.xs us w∧aA (blk ox) v6 w) (fun⟨k,us⟩=>xx.length-k) ⟨0,xx⟩ ⟨rfl,rfl,rfl,rfl,rfl,rfl,rfl,rfl,trivial⟩ ⟨WU _,hox6,⟨rfl,fun _ _=>rfl,fun j _ _ hj=>by omega⟩,VZ _ _⟩ ?_;rintro⟨k,us⟩ w8 ⟨hk,hou,hXI,hI8⟩;refine fK 2 ?_ ?_<;>intro h85
        ·have hkx:k<xx.length:=by omega
         obtain⟨x,hx⟩:∃ x,xx[k]?=some x:=⟨_,WK hkx⟩
         obtain⟨y,hy⟩:∃ y,p.2.xs[k]?=some y:=⟨_,WK (by omega)⟩
         have hux:us[k]?=some x:=by rw[hXI.2.1 k (WT _)];exact hx
         have hvu:=hou.vw cR;have hul:=hXI.1;have hxy:=hxx k x y hx hy;have hyl4:y.2.length≤200:=FU hpmay hy;refine Gz 11 ?_;refine cL (S1 gZ rfl rfl (by rw[←hul];exact hvu.non) (by omega)) ?_;refine cL (Tf (cs:=fY x) eK rfl (fun j v hj=>hvu.rowZ k rfl hux j v hj)) ?_;refine S5 tY rfl ?_;intro w9 hg9 hs9 hf9;obtain⟨qx,hqx⟩:∃ qx,qx=w8.heap.size:=⟨_,rfl⟩
         rw[←hqx] at hg9 ⊢;refine Gz 1 ?_;refine Te (vs:=fY x) eK rfl rfl (cR x).2 hg9 rfl ?_;intro wA hgA hsA hfA;have hf8A:aA nob w8 wA:=hf9.WD hfA (fun k e=>.inr (by have e:k=qx:=e;omega));have hI_A:aA (blk ox) v6 wA:=hI8.step hf8A (fun _ h=>h.elim);have hoz8:=ho6v.WH hI8 (fun a ha ⟨c,hc,e⟩=>by cases ha;have:=hfx c hc;have e:c.block=b:=e;omega);have hozA:=hoz8.WG hf8A;have houA:=hou.WG hf8A;have hqv:v6.heap.size≤qx:=by rw[hqx];exact hI8.size
         refine Gz 1 ?_;refine aW [(5,_),(6,_),(8,_),(11,_),(12,_),(24,_),(25,_),(82,_),(83,_),(84,_),(85,_)] ?_;refine Gz 1 ?_;refine T0 10 [3,6] (fun H=>VwM 10 aE H (some ⟨b,0,none⟩) c3 (zs.set i pz)∧H[qx]?=some (.cells (fY x).toArray 123 (0,0))) [7,10] [0,1,2,3,4,5,6] (.alt 7 [8,9] (.alt 10 [] .fin .stop) .stop) aI (by kernel_rfl) (⟨hozA.vw aB,hgA⟩) ?_;refine Sz.calm rfl rfl (Ta rfl) rfl ?_;refine Sz.calm rfl rfl (Tq rfl) rfl ?_;refine Sz.calm rfl rfl (TA oQ.h rfl) rfl ?_;refine Sz.calm rfl rfl (S3 (u:=.slice ox xx.length cx) (S9 cK rfl (fun H (hH:VwM 10 aE H (some ⟨b,0,none⟩) c3 (zs.set i pz)∧H[qx]?=some (.cells (fY x).toArray 123 (0,0)))=>hH.1.rowZ i rfl hzi6 8 _ rfl)) (by rw[hpz];rfl)) rfl ?_;refine Sz.calm rfl rfl (Ta rfl) rfl ?_;refine Sz.calm rfl rfl (TA rT.h rfl) rfl ?_;refine Sz.calm rfl rfl (S3 (u:=.slice x.2.a y.2.length x.2.c) (S9 aL rfl (fun H (hH:VwM 10 aE H (some ⟨b,0,none⟩) c3 (zs.set i pz)∧H[qx]?=some (.cells (fY x).toArray 123 (0,0)))=>aD hH.2 rfl)) (by rw[←hxy.2.1];rfl)) rfl ?_;refine Sz.alt ?_ ?_
         ·refine Wp rfl rfl (SZ EP rfl (oU _ _ y.2 _ ((hxy.2.WH (hG6.WD hI_A (fun k ⟨a,ha,e⟩=>.inr (by have:=hfx a ha;omega))) (fun _ _=>id)).2.1) (by omega)) rfl ?_);rintro _ wB ⟨oB,cB,rfl,hoB,hfB,hfBf⟩;have hfBf:aA nob wA wB:=hfBf.WE;have hozB:=hozA.WG hfBf;have houB:=houA.WG hfBf;refine Sz.on (by exact⟨hozB.vw aB,hfBf.obj hgA id⟩) ?_;refine Sz.calm rfl rfl (S1 gZ rfl rfl (by rw[←hul];exact hvu.non) (by omega)) rfl ?_;refine Sz.calm rfl rfl (TA rT.h rfl) rfl ?_;refine Sz.alt ?_ ?_
          ·refine Wp rfl rfl (TQ cR (i:=k) (j:=1) (x':=(x.1,(⟨oB,y.2.length,cB⟩:Hd))) hux (by decide) rfl aL rfl rfl rfl rfl houB ?_);intro wC houC hsC hfC;have hI_C:aA (blk ox) v6 wC:=(hI_A.step hfBf (fun _ h=>h.elim)).trans hfC;have hoBC:=hoB.WH hfC (fun a ha ⟨c,hc,e⟩=>by have h1:=hfB a ha;have h2:=hou.lt c hc;have h3:=hf8A.size;have e:c.block=a.block:=e;have h1:wA.heap.size≤a.block:=h1;omega);refine Sz.off rfl ?_;refine Wq ?_;refine Gz 6 ?_;refine aG ⟨k+1,us.set k (x.1,(⟨oB,y.2.length,cB⟩:Hd))⟩ ⟨by omega,houC,⟨by rw[XH];exact hul,fun j hj=>by rw[XO (by omega)];exact hXI.2.1 j (by omega),fun j u z hj hu hz=>?_⟩,hI_C⟩ (by show xx.length-(k+1)<xx.length-k;omega);by_cases e:j=k
           · subst e
             rw[Xx (by omega)] at hu;cases hu;rw[hy] at hz;cases hz;exact⟨hxy.1,rfl,hoBC.vw,fun _ q ⟨a,ha,e⟩=>⟨by have h1:wA.heap.size≤a.block:=hfB a ha;have:=hI_A.size;omega,by have:=hoBC.lt a ha;omega⟩⟩
           · rw[XO (fun h=>e h.symm)] at hu
             obtain⟨h1,h2⟩:=hXI.2.2 j u z (by omega) hu hz;have hfAC:aA (blk ox) w8 wC:=((hf8A.mono (fun _ h=>h.elim)).trans (hfBf.mono (fun _ h=>h.elim))).trans hfC;exact⟨h1,(h2.WH hfAC (fun q hq ⟨a,ha,e⟩=>by have:=hox6.lt a ha;have:=hq.1;omega)).mono (fun q hq=>⟨hq.1,Xz hq.2 hfAC.size⟩)⟩
          exact Sz.stop
         exact Sz.stop
        have hke:k=xx.length:=by omega
        subst hke;refine Gz 14 ?_;have hH8:aA (fun k=>k=b∨k=g) w5 w8:=hH6v.step hI8 (fun k ⟨a,ha,e⟩=>.inr (by have:=hfx5 a ha;omega));have hI8s:=hI8.size;have hfoot:=hI8;have hon8:=hon6.WH hI8 (fun a ha ⟨c,hc,e⟩=>hnx a c ha hc e);have hod8:=hod6.WH hI8 (fun a ha ⟨c,hc,e⟩=>hdx a c ha hc e);have hoz8:=ho6v.WH hI8 (fun a ha ⟨c,hc,e⟩=>by cases ha;have:=hfx c hc;have e:c.block=b:=e;omega);have hm8:=hm6v.WH hI8 (fun⟨a,ha,e⟩=>by have:=hfx a ha;omega);have hpzv:NdV (fun k=>k≠b∧k≠g∧k<w8.heap.size) w8.heap pz:=by
         rw[hpz];refine⟨⟨rfl,hon8.vw,fun _ k ⟨a,ha,e⟩=>?_⟩,⟨rfl,hod8.vw,fun _ k ⟨a,ha,e⟩=>?_⟩,⟨hxl,us,hou.vw cR,hXI.1.trans hxl,fun _ k ⟨a,ha,e⟩=>?_,fun j u x hu hx=>?_⟩⟩
         ·have h1:=hfn a ha;have h2:=hon8.lt a ha;exact⟨by omega,by omega,by omega⟩
         ·have h1:=hfd a ha;have h2:=hod8.lt a ha;exact⟨by omega,by omega,by omega⟩
         ·have h1:=hfx a ha;have h2:=hou.lt a ha;exact⟨by omega,by omega,by omega⟩
         · obtain⟨h1,h2⟩:=hXI.2.2 j u x (by have:=(WN.1 hu).1;have:=hXI.1;omega) hu hx
           exact⟨h1,h2.mono (fun k hk=>⟨by have:=hk.1;omega,by have:=hk.1;omega,hk.2⟩)⟩
        exact aG ⟨i+1,zs.set i pz,m2⟩ ⟨by omega,hoz8,(hC.WG hH8).put hp (by rw[hpz]) hpzv,hm8,hMI2,hF5.WD hH8 (fun k e=>.inr (by rcases e with e|e<;>omega))⟩ (by show ps.length-(i+1)<ps.length-i;omega)
       exact Sz.stop
      exact Sz.stop
     exact Sz.stop
    exact Sz.stop
   exact Sz.stop
  exact Sz.stop
 have hie:i=ps.length:=by omega
 subst hie;refine Gz 15 ?_;refine aW [(2,_),(3,_),(5,_),(6,_),(24,_),(25,_),(26,_)] ?_;refine Gz 3 ?_;have hle:zs.length=ps.length:=by rw[hC.1,hyl]
 refine⟨_,rfl,some ⟨b,0,none⟩,c3,zs,by rw[hle,hz],fun h=>absurd hz h,fun _=>?_,⟨ho5.vw aB,fun q hq=>?_⟩,fun a ha=>by cases ha;exact hbW,hF5⟩
 ·rw[←hyl,hZ] at hC;rw[hC.eq,hys];rfl
 · obtain⟨j,hj⟩:=W8 hq
   have hjl:=(WN.1 hj).1;exact(hC.2.2 j q _ (by omega) hj (WK (by omega))).2.mono (fun _ _=>trivial)
end
section
variable {P:Program}{N:Nt}{ops:Array Oper}{Q:Exit→Act→World→Prop}{rest:List Oper}{l:SF}{w:World}{d:Nat}{ty:TypeId}{pos:String}{aft:Array Edge}{x y:Operand}{t:TypeId}
theorem VA{α:Type}{enc:α→Value}(henc:∀ x,(enc x).oneCell'=true){e:TypeId}{bytes g:Nat}(ht:aX P t e 1 bytes){b:Addr}{cap bcap:Nat}{xs ys:List α}
 (hx:evL l x=some (.slice (some ⟨g,0,none⟩) xs.length cap))(hy:evL l y=some (.slice (some b) ys.length bcap))(ho:Own enc e w.heap (some ⟨g,0,none⟩) cap xs)(hv:Vw enc w.heap (some b) bcap ys)(hl:ys.length≤xs.length)(hd:Xs d N.n=true)
 (h:∀ w',Own enc e w'.heap (some ⟨g,0,none⟩) cap (ys++xs.drop ys.length)→w'.heap.size=w.heap.size→aA (· = g) w w'→Sl P N ops Q rest ((d,iV (ys.length:Nat))::l) w') :
 Sl P N ops Q (⟨some d,.call ⟨.builtin .copy,#[x,y],#[t,t]⟩,ty,pos,aft,none⟩::rest) l w:=by
 obtain⟨i,z,hi,h1,hz,h2,h3⟩:=ht.parts;rcases ho with⟨h,_⟩|⟨g',cur,he,hg,g1,g2,g3,g4⟩
 ·cases h
 cases he;have hnews:∀ j v,(ys.map enc)[j]?=some v→w.cell? (b.add j)=some v:=by
  intro j v hv2;rw[Xv] at hv2;obtain⟨u,hu,rfl⟩:=Xc.1 hv2;exact hv.get j u hu
 have hr:=run_copy_row (P:=P) w t t ty e g 0 xs.length cap b ys.length bcap cur e (ys.map enc) ht.und (by rw[hi];simp[h2]) hg (by rw[W2];exact(XT hl).symm) hnews (by rw[W2];omega)
  (fun v hv2=>by obtain⟨u,_,rfl⟩:=Xq.1 hv2;exact henc u)
 refine TJ (w':=_) (v:=iV (ys.length:Nat)) (fun a ha=>?_) hd (h (w.setRow g (cur.toList.take 0++ys.map enc++cur.toList.drop (0+(ys.map enc).length)).toArray) ?_ ?_ ?_)
 ·simp[execOp,ha.ev hx,ha.ev hy,resolve,invoke,builtin,hr,goInt]
 · refine .inr ⟨g,_,rfl,setRow_heap w g cur _ e _ hg,?_,g2,?_,?_⟩
   ·rw[WM,WX];omega
   ·simp only[Ye,WM,WR,WX,W2,X6];omega
   · have e1:(ys++xs.drop ys.length).length=xs.length:=by rw[WM,WX];omega
     rw[e1,List.map_append,List.map_drop,←g4];simp only[Yr,Xi,W2,XJ];rw[YI,W2,WY (by rw[W2];exact hl),List.drop_take]
 ·simp[World.setRow]
 ·exact⟨rfl,rfl,rfl,by simp[World.setRow],fun k hk hn=>setRow_other w g k _ (fun e=>hn e)⟩
end
section
open Go Go.RowKit Go.Maps
theorem ByV.lts{D:Nat→Prop}{H:Array Obj}{h:Hd}{l:By}(v:ByV D H h l):ByV (fun k=>k<H.size) H h l:=⟨v.1,v.2.1,fun hne k ⟨a,ha,e⟩=>by have:=v.2.1.lt hne a ha;show k<H.size;omega⟩
theorem XsV.lts{D:Nat→Prop}{H:Array Obj}{h:Hd}{X:List Xa}(v:XsV D H h X):XsV (fun k=>k<H.size) H h X:=by
 obtain⟨h1,ys,h2,h3,h4,h5⟩:=v;exact⟨h1,ys,h2,h3,fun hne k ⟨a,ha,e⟩=>by have:=h2.lt hne (fun x e=>by cases e) a ha;show k<H.size;omega,fun i x y hx hy=>⟨(h5 i x y hx hy).1,(h5 i x y hx hy).2.lts⟩⟩
theorem aO.lts{D:Nat→Prop}{H:Array Obj}{ao:Option Addr}{c:Nat}{ps:List (NdH×Nd)}(v:aO D H ao c ps):aO (fun k=>k<H.size) H ao c ps:=⟨v.1,fun p hp=>⟨(v.2 p hp).1.real,(v.2 p hp).2.1.lts,(v.2 p hp).2.2.lts⟩⟩
theorem lR{qs rs:List (NdH×Nd)}(h:nds qs=nds rs){i:Nat}{q:NdH×Nd}(hq:qs[i]?=some q):∃ r,rs[i]?=some r∧r.2=q.2:=by
 have h1:=bE hq;rw[h] at h1;unfold nds at h1;rw[Xv] at h1;obtain⟨r,hr,e⟩:=Xc.1 h1;exact⟨r,hr,e⟩
theorem jY{qs rs:List (NdH×Nd)}(h:nds qs=nds rs){q:NdH×Nd}(hq:q∈qs):∃ r∈rs,r.2=q.2:=by
 obtain⟨i,hi⟩:=W8 hq;obtain⟨r,hr,e⟩:=lR h hi;exact⟨r,WQ hr,e⟩
theorem GdT.nds{rs qs:List (NdH×Nd)}(G:GdT rs)(h:nds qs=nds rs):GdT qs:=by
 have hl:=rM h;refine⟨by rw[hl];exact G.n,fun q hq=>?_,fun q hq=>?_,fun q hq=>?_,fun q hq=>?_,fun i j p q hij hp hq=>?_,fun i j p q hij hp hq e=>?_,?_,fun q hq hne=>?_⟩
 · obtain⟨r,hr,e⟩:=jY h hq
   rw[←e,hl];exact G.ino r hr
 · obtain⟨r,hr,e⟩:=jY h hq
   rw[←e];exact G.may r hr
 · obtain⟨r,hr,e⟩:=jY h hq
   rw[←e];exact G.nmv r hr
 · obtain⟨r,hr,e⟩:=jY h hq
   rw[←e];exact G.dep r hr
 · obtain⟨r,hr,e⟩:=lR h hp
   obtain⟨t,ht,e2⟩:=lR h hq;rw[←e,←e2];exact G.lt i j r t hij hr ht
 · obtain⟨r,hr,e1⟩:=lR h hp
   obtain⟨t,ht,e2⟩:=lR h hq;rw[←e1,←e2] at e ⊢;exact G.lnk i j r t hij hr ht e
 · obtain⟨q,hq,h1,h2⟩:=G.root
   obtain⟨r,hr,e⟩:=lR h.symm hq;exact⟨r,hr,by rw[e];exact h1,by rw[e];exact h2⟩
 · obtain⟨r,hr,e⟩:=jY h hq
   rw[←e] at hne;obtain⟨p,hp,h1,h2⟩:=G.up r hr hne;obtain⟨t,ht,e2⟩:=jY h.symm hp;exact⟨t,ht,by rw[e2,h1,e],by rw[e2];exact h2⟩
theorem FL(ps:List (NdH×Nd)):iP ps=(nds ps).flatMap (fun n=>[n.ud,n.gd]):=by simp[iP,nds,List.flatMap_map]
theorem mX.nds{qs rs:List (NdH×Nd)}{ids:List Int}(h:mX qs ids)(e:nds qs=nds rs):mX rs ids:=⟨h.1,fun z=>by rw[h.2 z,FL,FL,e]⟩
theorem GdT.okN{qs:List (NdH×Nd)}(G:GdT qs):∀ q∈qs,okN q.2:=by
 intro q hq z hz;obtain⟨⟨k1,k2⟩,_,⟨m1,m2⟩,⟨u1,u2⟩,⟨g1,g2⟩,_⟩:=G.may q hq;have:=G.ino q hq;have hn:=G.n.2;simp only[Xo,XD,or_false] at hz;rcases hz with rfl|rfl|rfl|rfl|rfl<;>omega
theorem NX{qs:List (NdH×Nd)}{ids:List Int}(G:GdT qs)(I:mX qs ids)(F:FI (nds qs) (qs.length+1) (aS qs)):GdP qs ids (aS qs).files where
 B:=G.gdB F.l (DA F)
 xs:=fun q hq=>(G.may q hq).2.2.2.2.2.2.2.2
 tg:=fun q hq hk=>by
  have h:=(G.may q hq).2.2.2.2.2.2.2.1;unfold okT at h;rw[WI hk] at h;exact h
 kd:=fun q hq=>by have:=(G.may q hq).1;omega
 fo:=fun q hq hk=>F.a q.2 (Xq.2 ⟨q,hq,rfl⟩) hk
 fz:=fun q hq hk h=>by
  by_cases hl:q.2.ino.toNat<(aS qs).files.length
  · have he:=WK hl
    have hd:(aS qs).files.getD q.2.ino.toNat cI=(aS qs).files[q.2.ino.toNat]:=by rw[WW,he];rfl
    rcases F.f _ _ he with e|⟨x,hx,hx2,hxi,_⟩
    ·rw[hd,e] at h;cases h
    · obtain⟨y,hy,rfl⟩:=Xq.1 hx
      have h1:=G.ino q hq;have h2:=G.ino y hy;exact hk (by rw[←(G.same hq hy (by omega)).1];exact hx2)
  ·rw[WW,Xy (by omega)] at h;cases h
 ft:=fun f hf=>by
  obtain⟨i,hi⟩:=W8 hf;rcases F.f i f hi with e|⟨x,_,_,_,st,fr,off,e,_⟩
  ·rw[e];rfl
  ·rw[e]
 ir:=I.1
 io:=fun q hq=>⟨(I.2 _).2 (vE hq).1,(I.2 _).2 (vE hq).2⟩
 il:=by have:=oO I;have:=G.n.2;omega
theorem FP(tp:Nat)(lo:Option Addr)(lc:Nat)(l:List Int)(wide:Int)(W:World)(ht:TbV W.heap tp)(hv:Vw i64 W.heap lo lc l)(hl:l.length≤1000)(hb:(aJ l wide).1.length≤100000) :
 Calls Tryz.prog 24 (([.slice lo l.length lc,iV wide]:List Value)++([pT tp]:List Value)).toArray W (Ret (iR W (dnW (aJ l wide).1))):=by
 simp only[List.cons_append,Xi];have htl:=(WS.1 ht).1;refine cS 21 [(0,_),(1,_),(2,_)] Tryz.func24 ?_;refine cA 7 Ma (rH tp W ht) ?_;rintro _ w1 ⟨rfl,hM1,hf1⟩;have hz1:=hf1.size;refine Gz 7 ?_;refine SZ SG rfl (Ez lo lc l wide w1 (hv.WG hf1) (by omega)) rfl ?_;rintro _ w2 ⟨o2,c2,rfl,ho2,hfr2,hf2⟩;have hM2:=hM1.WH hf2 (fun _ _=>id) id;have hz2:=hf2.size;refine Gz 11 ?_;refine SZ L8 rfl (rJ (fun k=>W.heap.size≤k∧k<w1.heap.size) W.heap.size tp [] o2 c2 (aJ l wide).1 w2 hM2 ho2.vw (by rw[WZ];omega)) rfl ?_;rintro _ w3 ⟨rfl,hM3,hf3⟩;rw[Xi] at hM3;have hz3:=hf3.size;refine Gz 5 ?_;refine SZ L7 rfl (oJ (Nx (fun k=>W.heap.size≤k∧k<w1.heap.size) w2 w3) W.heap.size tp (aJ l wide).1 w3 hM3 (by omega)) rfl ?_;rintro _ w4 ⟨o4,c4,rfl,ho4,hfr4,hf4⟩;refine Gz 5 ?_;have hF3:aA nob W w3:=(hf1.trans hf2).WD hf3 (fun k h=>.inr h.1);exact⟨_,rfl,o4,c4,rfl,ho4,hfr4.mono (by omega),hF3.trans hf4⟩
def owB(B1 B2 B3 B4 B5 B6:Nat):Nat→Nat:=fun k=>if k<B1 then 4 else if k<B2 then 1 else if k<B3 then 2 else if k<B4 then 3 else if k<B5 then 4 else if k=B5 then 5 else if k=B5+1 then 7 else if k=B5+2 then 8 else if k=B5+3 then 6 else if k<B6 then 9 else 0
section
variable {B1 B2 B3 B4 B5 B6:Nat}(h:B1≤B2∧B2≤B3∧B3≤B4∧B4≤B5∧B5+4≤B6){k:Nat}
theorem RM(hk:k<B1):owB B1 B2 B3 B4 B5 B6 k=4:=WJ hk
theorem RP(hk:B1≤k∧k<B2):owB B1 B2 B3 B4 B5 B6 k=1:=by unfold owB;rw[WI (by omega),WJ (by omega)]
include h
theorem RO(hk:B2≤k∧k<B3):owB B1 B2 B3 B4 B5 B6 k=2:=by unfold owB;rw[WI (by omega),WI (by omega),WJ (by omega)]
theorem RN(hk:B3≤k∧k<B4):owB B1 B2 B3 B4 B5 B6 k=3:=by unfold owB;rw[WI (by omega),WI (by omega),WI (by omega),WJ (by omega)]
theorem OM(hk:B4≤k∧k<B5):owB B1 B2 B3 B4 B5 B6 k=4:=by unfold owB;rw[WI (by omega),WI (by omega),WI (by omega),WI (by omega),WJ (by omega)]
theorem RL:owB B1 B2 B3 B4 B5 B6 B5=5:=by unfold owB;rw[WI (by omega),WI (by omega),WI (by omega),WI (by omega),WI (by omega),WJ rfl]
theorem RJ:owB B1 B2 B3 B4 B5 B6 (B5+1)=7:=by unfold owB;rw[WI (by omega),WI (by omega),WI (by omega),WI (by omega),WI (by omega),WI (by omega),WJ rfl]
theorem RI:owB B1 B2 B3 B4 B5 B6 (B5+2)=8:=by unfold owB;rw[WI (by omega),WI (by omega),WI (by omega),WI (by omega),WI (by omega),WI (by omega),WI (by omega),WJ rfl]
theorem RK:owB B1 B2 B3 B4 B5 B6 (B5+3)=6:=by unfold owB;rw[WI (by omega),WI (by omega),WI (by omega),WI (by omega),WI (by omega),WI (by omega),WI (by omega),WI (by omega),WJ rfl]
theorem RH(hk:B5+4≤k∧k<B6):owB B1 B2 B3 B4 B5 B6 k=9:=by unfold owB;rw[WI (by omega),WI (by omega),WI (by omega),WI (by omega),WI (by omega),WI (by omega),WI (by omega),WI (by omega),WI (by omega),WJ (by omega)]
theorem RQ(hk:B6≤k):owB B1 B2 B3 B4 B5 B6 k=0:=by unfold owB;rw[WI (by omega),WI (by omega),WI (by omega),WI (by omega),WI (by omega),WI (by omega),WI (by omega),WI (by omega),WI (by omega),WI (by omega)]
end
theorem PiX.relab{a:PiA}{ow ow':Nat→Nat}{H:Array Obj}{g tp:Nat}{qs:List (NdH×Nd)}{ids:List Int}{files:List Ino}{s:BSt}(h:PiX 0 a ow H g tp qs ids files s)(kz:∀ c,c≠0→c≤8→∀ k,ow k=c→ow' k=c):PiX 0 a ow' H g tp qs ids files s:=by
 obtain⟨⟨b1,b2⟩,⟨⟨n0,n1⟩,n2⟩,⟨i1,i2⟩,⟨t1,t2⟩,w1,w2,w3,⟨r1,r2⟩,⟨f1,f2⟩,z1,z2⟩:=h;have k4:=kz 4 (by decide) (by decide);have tn:∀ c,c≠4→¬ ow' tp=c:=fun c hc=>by rw[k4 tp t2];exact fun h=>hc h.symm
 exact⟨⟨b1,kz 6 (by decide) (by decide) g b2⟩,⟨⟨n0,fun p hp=>(n1 p hp).mono k4⟩,fun hne k hk=>k4 k (n2 hne k hk)⟩,⟨i1,fun hne k hk=>k4 k (i2 hne k hk)⟩,⟨t1,k4 tp t2⟩,
  fun hc=>(w1 hc).mono (kz 1 (by decide) (by decide)) (tn 1 (by decide)),fun hc=>(w2 hc).mono (kz 2 (by decide) (by decide)) (tn 2 (by decide)),fun hc=>(w3 hc).mono (kz 3 (by decide) (by decide)) (tn 3 (by decide)),
  ⟨kz 5 (by decide) (by decide) _ r1,r2⟩,⟨kz 7 (by decide) (by decide) _ f1,f2⟩,kz 8 (by decide) (by decide) _ z1,z2⟩
theorem zS.zero(n:Nat):zS [] (Xe n 0):=fun a _=>by
 have e:(Xe n (0:Int)).getD a.1.toNat 0=0:=by rw[WW,YS];split<;>rfl
 rw[e];rfl
theorem E7.zero(n:Nat):E7 [] (Xe n cI):=fun a _=>by
 have e:(Xe n cI).getD a.1.toNat cI=cI:=by rw[WW,YS];split<;>rfl
 rw[e];rfl
theorem E5.zero:E5 [] []:=fun X _ _=>rfl
theorem GT(n:Nat):(uT (lH n)).length=0:=by
 unfold uT lH;rw[List.filter_replicate];rfl
def oB:List Nat:=[2,3,4,5,6,0]
def ffB(F:Nat→Int)(Ps:List By):Nat→(Nat→Int)
|0=>F
|i+1=>upd (ffB F Ps i) (oB.getD i 0) (64+((Ps.take (i+1)).flatten.length:Nat))
theorem MO{i:Nat}(h:i<6):oB.getD i 0<10:=by
 match i,h with
|0,_|1,_|2,_|3,_|4,_|5,_=>decide
theorem Mb{Ps:List By}{i:Nat}{x:By}(h:Ps[i]?=some x):(Ps.take (i+1)).flatten=(Ps.take i).flatten++x:=by rw[tkL h];simp
def eH(A:zG)(ids:List Int):List By:=[A.d.B,dnW A.s.ino,dnW A.s.lst,dnW (aJ A.pl 4).1,dnW (aJ ids 2).1,dnW A.s.fur]
theorem pO(A:zG)(ids:List Int):(eH A ids).flatten=gL A ids:=by
 unfold eH gL iY iI iC gM gN;simp only[List.flatten_cons,List.flatten_nil,List.append_nil,W9]
theorem Mg(A:zG)(qs:List (NdH×Nd))(ids:List Int)(F:Nat→Int)(hF:F=fun j=>[0,(A.s.many:Int),0,0,0,0,0,(ids.length:Int),(A.pl.length:Int),A.s.refs.getD (ndB qs 0).ino.toNat 0-1].getD j 0):cM (ffB F (eH A ids) 6)=cM (fM qs ids A):=by
 have e1:((eH A ids).take 1).flatten=gN A:=by simp[eH,gN]
 have e2:((eH A ids).take 2).flatten=gM A:=by simp[eH,gN,gM]
 have e3:((eH A ids).take 3).flatten=iC A:=by simp[eH,gN,gM,iC]
 have e4:((eH A ids).take 4).flatten=iI A:=by simp[eH,gN,gM,iC,iI]
 have e5:((eH A ids).take 5).flatten=iY A ids:=by simp[eH,gN,gM,iC,iI,iY]
 have e6:((eH A ids).take 6).flatten=gL A ids:=by rw[←pO];rfl
 have e:ffB F (eH A ids) 6=upd (upd (upd (upd (upd (upd F 2 (64+((gN A).length:Nat))) 3 (64+((gM A).length:Nat))) 4 (64+((iC A).length:Nat))) 5 (64+((iI A).length:Nat))) 6 (64+((iY A ids).length:Nat))) 0 (64+((gL A ids).length:Nat)):=by
  rw[←e1,←e2,←e3,←e4,←e5,←e6];rfl
 rw[e,hF];rfl
end
section
open Go Go.RowKit Go.Maps
theorem AC(lo0:Option Addr)(lc0:Nat)(ps:List (NdH×Nd))(W:World)(hv:aO (fun k=>k<W.heap.size) W.heap lo0 lc0 ps)(hsm:∀ p∈ps,smN p.2)(hok:∀ p∈ps,okN p.2)(hl:ps.length≤40) :
 CA 10 [.slice lo0 ps.length lc0] W (BuP W ps):=by
 refine cS 127 [(0,_)] Tryz.func10 ?_;refine cA 9 SL (Ks lo0 lc0 ps W hv hsm hok) ?_;rintro _ w1 ⟨lo,lc,qs,rfl,_,hq1,hvq,hfrq,hf1⟩;refine fK 11 ?_ ?_<;>intro h23
 ·refine Gz 13 ?_;exact⟨_,rfl,.inl ⟨h23,rfl,hf1⟩⟩
 have hz:chk (nds ps)=0:=Xk.1 h23;have hqs:=hq1 hz;have G:=(EN hz hl).nds hqs;have hq40:=G.n.2;have hq0:=G.n.1;have hvq:=hvq.lts;refine cA 7 PQ (Bb w1) ?_;rintro _ w2 ⟨rfl,hf2⟩;refine S5 KM rfl ?_;intro w3 hg3 hs3 hf3;refine Te (vs:=tab) yU rfl rfl Bo hg3 (by rw[vB,Xt]) ?_;intro w4 hg4 hs4 hf4;obtain⟨tp,hp⟩:∃ p,p=w2.heap.size:=⟨_,rfl⟩
 have hF4:aA nob w1 w4:=(hf2.trans hf3).WD hf4 (fun k hk=>.inr (by have h:k=w2.heap.size:=hk;have:=hf2.size;omega));rw[←hp] at hg4 ⊢;have ht4:TbV w4.heap tp:=hg4;have htl:=(WS.1 hg4).1;have hz4:=hF4.size;have hvq4:=hvq.WG hF4;refine cA 4 Ma (rH tp w4 ht4) ?_;rintro _ w5 ⟨rfl,hW1,hf5⟩;have ht5:=hf5.obj ht4 id;have hz5:=hf5.size;refine cA 0 Ma (rH tp w5 ht5) ?_;rintro _ w6 ⟨rfl,hW2,hf6⟩;have ht6:=hf6.obj ht5 id;have hz6:=hf6.size;refine cA 0 Ma (rH tp w6 ht6) ?_;rintro _ w7 ⟨rfl,hW3,hf7⟩;have ht7:=hf7.obj ht6 id;have hz7:=hf7.size;have hf47:=(hf5.trans hf6).trans hf7;have hvq7:=hvq4.WG hf47;refine cL (TC (cs:=#[pT w4.heap.size,pT w5.heap.size,pT w6.heap.size]) OK RE rfl (by kernel_rfl)) ?_;refine Gz 2 ?_;refine SZ SJ rfl (NT lo lc qs w7 hvq7.1 G.okN (by omega)) rfl ?_;rintro _ w8 ⟨io,ic,ids,rfl,hI8,hfI,hIds,hf8⟩;have hz8:=hf8.size;have hIl:=hI8.lt;have hid80:=oO hIds;refine TN (enc:=enI) rfl ?_;intro w9 hm9 hs9 hf9;refine TN (enc:=enI) rfl ?_;intro w10 hm10 hs10 hf10;refine TN (enc:=enS) rfl ?_;intro w11 hm11 hs11 hf11;refine cL (bU (piC ⟨lo,lc,io,ic,w4.heap.size,w5.heap.size,w6.heap.size,w8.heap.size,w9.heap.size,w10.heap.size⟩ qs.length ids.length) OJ RD) ?_;refine To rfl rfl ?_;intro w12 hg12 hs12 hf12;obtain⟨a,ea⟩:∃ a:PiA,a=⟨lo,lc,io,ic,w4.heap.size,w5.heap.size,w6.heap.size,w8.heap.size,w9.heap.size,w10.heap.size⟩:=⟨_,rfl⟩
 have hg12:w12.heap[w11.heap.size]?=some (.cells (piC a qs.length ids.length).toArray 62 (0,0)):=by rw[ea];exact hg12
 obtain⟨g,eg⟩:∃ g,g=w11.heap.size:=⟨_,rfl⟩
 rw[←eg] at hg12 ⊢;have hf812:=((hf9.trans hf10).trans hf11).trans hf12;have hf712:=hf8.trans hf812;have ht12:=hf712.obj ht7 id;refine cA 5 SI (J9 tp 64 w12 ht12) ?_;rintro _ w13 ⟨rfl,hD13,hf13⟩;have hz13:=hf13.size;obtain⟨ow,how⟩:∃ o,o=owB w4.heap.size w5.heap.size w6.heap.size w7.heap.size w8.heap.size w13.heap.size:=⟨_,rfl⟩
 have hB:w4.heap.size≤w5.heap.size∧w5.heap.size≤w6.heap.size∧w6.heap.size≤w7.heap.size∧w7.heap.size≤w8.heap.size∧w8.heap.size+4≤w13.heap.size:=by omega
 have hf713:=hf712.trans hf13;have hf813:=hf812.trans hf13;have o4:∀ k,k<w4.heap.size→ow k=4:=fun k hk=>by rw[how];exact RM hk
 have otp:=o4 tp htl;have hn13:∀ k,w13.heap.size≤k→ow k=0:=fun k hk=>by rw[how];exact RQ hB hk
 have ntp:∀ c,c≠4→¬ ow tp=c:=fun c hc h=>hc (by rw[←h,otp]);have hM13:PiX 0 a ow w13.heap g tp qs ids (Xe (qs.length+1) cI) (lH (qs.length+1)):=by
  rw[ea] at hg12 ⊢;refine⟨⟨hf13.obj hg12 id,by rw[eg,show w11.heap.size=w8.heap.size+3 by omega,how];exact RK hB⟩,⟨⟨(hvq7.1.keep' hf713 (fun _ _ _=>id)),fun p hp=>((hvq7.2 p hp).WG hf713).mono (fun k hk=>o4 k (by omega))⟩,fun hne k ⟨x,hx,e⟩=>o4 k (by have:=hvq.1.lt hne (fun x e=>by cases e) x hx;omega)⟩,⟨(hI8.WG hf813).vw,fun _ k ⟨x,hx,e⟩=>by have h1:=hfI x hx;have h2:=hIl x hx;rw[how];exact OM hB ⟨by omega,by omega⟩⟩,⟨hf13.obj ht12 id,otp⟩,fun _=>?_,fun _=>?_,fun _=>?_,⟨by rw[how];exact RL hB,fun _=>⟨[],(((hm9.WH hf10 id).WH hf11 id).WH hf12 id).WH hf13 id,zS.zero _,(GT _).symm⟩⟩,⟨by show ow w9.heap.size=7;rw[show w9.heap.size=w8.heap.size+1 by omega,how];exact RJ hB,fun _=>⟨[],((hm10.WH hf11 id).WH hf12 id).WH hf13 id,E7.zero _⟩⟩,by show ow w10.heap.size=8;rw[show w10.heap.size=w8.heap.size+2 by omega,how];exact RI hB,fun _=>⟨[],(hm11.WH hf12 id).WH hf13 id,E5.zero⟩⟩
  ·exact(((hW1.WH hf6 (fun _ _=>id) id).WH hf7 (fun _ _=>id) id).WH hf713 (fun _ _=>id) id).mono (fun k hk=>by rw[how];exact RP hk) (ntp 1 (by decide))
  ·exact((hW2.WH hf7 (fun _ _=>id) id).WH hf713 (fun _ _=>id) id).mono (fun k hk=>by rw[how];exact RO hB hk) (ntp 2 (by decide))
  ·exact(hW3.WH hf713 (fun _ _=>id) id).mono (fun k hk=>by rw[how];exact RN hB hk) (ntp 3 (by decide))
 obtain⟨dg,edg⟩:∃ d,d=w12.heap.size+1:=⟨_,rfl⟩
 rw[←edg] at hD13 ⊢;have hD13:DwO (fun k=>ow k=9) w13.heap dg tp 64 ⟨[],[]⟩:=hD13.mono (fun k hk=>by rw[how];exact RH hB ⟨by omega,hk.2⟩) (ntp 9 (by decide));refine cA 7 SH (EC a ow g tp qs ids (lH (qs.length+1)) dg G w13 hM13 hn13 hD13) ?_;rintro _ w14 ⟨po,pc,ow14,rfl,hpo,hpd,hM14,hD14,hFI,hl14,hn14,hf14⟩;obtain⟨S,eS,hInv,_,hpos⟩:=oV G hIds hFI;have hAll:=Cf G hIds;have hGP:=NX G hIds hFI;have hz14:=hf14.size;obtain⟨pl,epl⟩:∃ l,l=(eF (aS qs).tails (aS qs).ds).2:=⟨_,rfl⟩
 obtain⟨ds,eds⟩:∃ d,d=(eF (aS qs).tails (aS qs).ds).1:=⟨_,rfl⟩
 rw[←epl] at hpo ⊢;rw[←eds] at hD14;have hpll:pl.length≤40:=by have h1:=kC (aS qs).tails (aS qs).ds;have h2:=hFI.tn;rw[W2] at h2;rw[epl];omega
 have hdsl:ds.B.length≤200000:=by rw[eds];exact hAll.B
 have eAll:aK qs ids=⟨ds,pl,S⟩:=by unfold aK;rw[←eds,←epl,eS]
 obtain⟨q0,hq00,hq0n,hq0k⟩:=G.root;have hnd0:=eI hq00;obtain⟨ow15,eo15⟩:∃ o:Nat→Nat,o=fun k=>if ow14 k≤8 then ow14 k else 0:=⟨_,rfl⟩
 have o15e:∀ k,ow15 k=if ow14 k≤8 then ow14 k else 0:=fun k=>by rw[eo15]
 have o15a:∀ k,ow14 k≤8→ow15 k=ow14 k:=fun k h=>by rw[o15e,WJ h]
 have o15b:∀ k,8<ow14 k→ow15 k=0:=fun k h=>by rw[o15e,WI (by omega)]
 have hM15:=hM14.relab (ow':=ow15) (fun c _ hc k hk=>by rw[o15a k (by omega)];exact hk);have hn15:∀ k,w14.heap.size≤k→ow15 k=0:=fun k hk=>by have:=hn14 k hk;rw[o15a k (by omega)];exact this
 have hokS:okS qs (lH (qs.length+1)):=⟨Xt,⟨fun z hz=>by have hz:=YN hz;omega,fun y hy=>by cases hy⟩,fun y hy=>by cases hy⟩
 have hbd:bdB (wrB qs ids (aS qs).files 17 0 (lH (qs.length+1))):=hAll.b;refine Gz 6 ?_;refine SZ O8 rfl (Ax a g tp qs ids (aS qs).files hGP 17 ow15 (lH (qs.length+1)) 0 w14 hM15 hn15 ⟨by omega,by omega⟩ (by omega) hokS hbd) rfl ?_;rw[eS];rintro _ w15 ⟨rfl,ow16,hM16,hl16,hn16,hf15⟩;have hz15:=hf15.size;have nLb:∀ k,ow14 k=0∨ow14 k=9∨ow14 k=4→¬ Lb ow15 k:=fun k h h2=>by
  rcases h with h|h|h
  ·exact h2.1 (by rw[o15a k (by omega)];exact h)
  ·exact h2.1 (o15b k (by omega))
  ·exact h2.2 (by rw[o15a k (by omega)];exact h)
 have hD15:=hD14.WH hf15 (fun k hk=>nLb k (.inr (.inl hk))) (nLb tp (.inr (.inr hM14.2.2.2.1.2)));have hpo15:=hpo.WH hf15 (fun x hx=>nLb _ (.inl (hpd _ ⟨x,hx,rfl⟩).2));have hpol:=hpo.lt;obtain⟨⟨hg15,hg6⟩,_,⟨i15,_⟩,⟨ht15,ht154⟩,cw1,cw2,cw3,⟨_,c5⟩,_⟩:=id hM16;obtain⟨mr,hmr,_,hmrl⟩:=c5 (by decide);have hmany:mr.length=S.many:=by rw[hmrl,hInv.many]
 have hW15:aA (fun k=>w1.heap.size≤k) w1 w15:=by
  have f0:aA nob w1 w13:=(hF4.trans hf47).trans hf713;refine(f0.any.WD hf14 (fun k h=>?_)).WD hf15 (fun k h=>?_)
  · by_cases hk:k<w4.heap.size
    ·exact absurd (o4 k hk) h.2
    ·exact .inr (by omega)
  · by_cases hk:k<w4.heap.size
    ·exact absurd (by rw[o15a k (by rw[hl14 k (by omega),o4 k hk];decide),hl14 k (by omega)];exact o4 k hk) h.2
    ·exact .inr (by omega)
 have hg15l:=(WS.1 hg15).1;refine Gz 5 ?_;refine cL (Ua (vs:=[pT tp]) rfl) ?_;refine Gz 4 ?_;refine Tc 15 (fun H=>H[g]?=some (.cells (piC a qs.length ids.length).toArray 62 (0,0))∧dM enI H a.r mr) [14,15] [0,1,2,3,4,5,6,7,8,9,10,11,12,13,14,15] aI (by kernel_rfl) (⟨hg15,hmr⟩) ?_;refine Gz 4 ?_;refine xC rfl (S3 (u:=iV (S.many:Nat)) (UI mpQ rfl (fun H hH=>hH.2)) (by rw[hmany])) ?_;refine Gz 8 ?_;refine xC rfl (bU (cM (fun j=>[0,(S.many:Int),0,0,0,0,0,(ids.length:Int),(pl.length:Int),S.refs.getD (ndB qs 0).ino.toNat 0-1].getD j 0)) qX qH) ?_;obtain⟨F0,hF0⟩:∃ F:Nat→Int,F=fun j=>[0,(S.many:Int),0,0,0,0,0,(ids.length:Int),(pl.length:Int),S.refs.getD (ndB qs 0).ino.toNat 0-1].getD j 0:=⟨_,rfl⟩
 rw[←hF0];refine S7 rfl rfl (S5 qH rfl ?_);intro w16 hg16 hs16 hf16;have hf16:aA nob w15 w16:=hf16.WE;refine Tg (by exact⟨hf16.obj hg15 id,hmr.WH hf16 id⟩) ?_;obtain⟨gS,egS⟩:∃ x,x=w15.heap.size:=⟨_,rfl⟩
 rw[show (w15.drewN 1).heap.size=gS from egS.symm] at hg16 ⊢;refine S7 rfl rfl (Te (vs:=cM F0) dT rfl rfl (by exact fR _) hg16 rfl ?_);intro w17 hS17 hs17 hf17;refine Tx rfl ?_;have hf17:aA (· = gS) w16 w17:=hf17;have hs16b:w16.heap.size=w15.heap.size+1:=hs16;have hs17b:w17.heap.size=w16.heap.size:=hs17;have hf1517:aA nob w15 w17:=hf16.tw hf17;refine Gz 4 ?_;refine Ud b8 (0:UInt8) aH z5 rfl rfl rfl (by decide) (by decide) (by decide) (by decide) rfl ?_;intro w18 ho18 hs18 hf18;have ho18:Own b8 5 w18.heap (some ⟨w17.heap.size,0,none⟩) 64 (Xe 64 0):=ho18;have hs18b:w18.heap.size=w17.heap.size+1:=hs18;have hf1518:=hf1517.trans hf18;have hg18:=hf1518.obj hg15 id;have hS18:=hf18.obj hS17 id;have n4:=hAll.n4;have n2:=hAll.n2;have li:=hAll.i;have ll:=hAll.l;have lf:=hAll.f;have o6:=hAll.o6;rw[eAll] at n4 li ll lf o6
 replace n4:(aJ pl 4).1.length≤160:=n4
 replace li:S.ino.length≤10000:=li
 replace ll:S.lst.length≤500000:=ll
 replace lf:S.fur.length≤200000:=lf
 refine Gz 4 ?_;refine Tc 31 (fun H=>H[g]?=some (.cells (piC a qs.length ids.length).toArray 62 (0,0))) [1,7,13,16,22,28,29] [0,2,3,4,5,6,8,9,10,11,12,14,15,17,18,19,20,21,23,24,25,26,27,1,7,13,16,22,28,29,30] aI (by kernel_rfl) (hg18) ?_;refine Gz 5 ?_;refine xC rfl (S9 wM rfl (fun H hH=>by rw[uO];exact aD (i:=0) hH rfl)) ?_;refine Gz 4 ?_;refine xC rfl (S9 wM rfl (fun H hH=>by rw[uO];exact aD (i:=1) hH rfl)) ?_;refine Gz 11 ?_;refine xC rfl (S9 wM rfl (fun H hH=>by rw[uO];exact aD (i:=2) hH rfl)) ?_;refine S7 rfl rfl (SZ SE rfl (Kc (fun k=>ow14 k=9) dg tp 64 ds (w18.drewN 1) (hD15.WG (hf1518.draws 1)) (by omega)) rfl ?_);rintro _ w19 ⟨o1,c1,rfl,ho1,hfr1,hf19⟩;have hf19:aA nob w18 w19:=hf19.WE;have hfr1:Fr w18.heap.size o1:=hfr1;have hf1519:=hf1518.trans hf19;have hz19:=hf19.size;refine Tg (by exact hf1519.obj hg15 id) ?_;refine S7 rfl rfl (SZ L7 rfl (oJ (fun k=>ow16 k=1) a.g1 tp S.ino w19 ((cw1 (by decide)).WH hf1519 (fun _ _=>id) id) (by omega)) rfl ?_);rintro _ w20 ⟨o2,c2,rfl,ho2,hfr2,hf20⟩;have hf1520:=hf1519.trans hf20;have hz20:=hf20.size;refine Tg (by exact hf1520.obj hg15 id) ?_;refine S7 rfl rfl (SZ L7 rfl (oJ (fun k=>ow16 k=2) a.g2 tp S.lst w20 ((cw2 (by decide)).WH hf1520 (fun _ _=>id) id) (by omega)) rfl ?_);rintro _ w21 ⟨o3,c3,rfl,ho3,hfr3,hf21⟩;have hf1521:=hf1520.trans hf21;have hz21:=hf21.size;refine Tg (by exact hf1521.obj hg15 id) ?_;refine S7 rfl rfl (TS O6 rfl rfl (FP tp po pc pl 4 w21 (hf1521.obj ht15 id) (hpo15.WG hf1521).vw (by omega) (by omega)) rfl ?_);intro v22 w22 hr22;obtain⟨o4,c4,rfl,ho4,hfr4,hf22⟩:=hr22;have hf1522:=hf1521.trans hf22;have hz22:=hf22.size;refine Tg (by exact hf1522.obj hg15 id) ?_;refine S7 rfl rfl (TS O6 rfl rfl (FP tp a.io a.ic ids 2 w22 (hf1522.obj ht15 id) (i15.WG hf1522) (by omega) (by omega)) rfl ?_);intro v23 w23 hr23;obtain⟨o5,c5,rfl,ho5,hfr5,hf23⟩:=hr23;have hf1523:=hf1522.trans hf23;have hz23:=hf23.size;refine Tg (by exact hf1523.obj hg15 id) ?_;refine S7 rfl rfl (SZ L7 rfl (oJ (fun k=>ow16 k=3) a.g3 tp S.fur w23 ((cw3 (by decide)).WH hf1523 (fun _ _=>id) id) (by omega)) rfl ?_);rintro _ w24 ⟨o6b,c6,rfl,ho6,hfr6,hf24⟩;have hf1524:=hf1523.trans hf24;have hz24:=hf24.size;refine Tg (by exact hf1524.obj hg15 id) ?_;refine S7 rfl rfl (Tu lL (cs:=([(⟨o1,ds.B.length,c1⟩:Hd),⟨o2,(dnW S.ino).length,c2⟩,⟨o3,(dnW S.lst).length,c3⟩,⟨o4,(dnW (aJ pl 4).1).length,c4⟩,⟨o5,(dnW (aJ ids 2).1).length,c5⟩,⟨o6b,(dnW S.fur).length,c6⟩].map hd).toArray) On rfl rfl rfl (by kernel_rfl) rfl ?_);intro w25 hg25 hs25 hf25;have hf1525:=hf1524.trans hf25;have hs25b:w25.heap.size=w24.heap.size+1:=hs25;refine Tg (by exact hf1525.obj hg15 id) ?_;obtain⟨hs,ehs⟩:∃ l:List Hd,l=[⟨o1,ds.B.length,c1⟩,⟨o2,(dnW S.ino).length,c2⟩,⟨o3,(dnW S.lst).length,c3⟩,⟨o4,(dnW (aJ pl 4).1).length,c4⟩,⟨o5,(dnW (aJ ids 2).1).length,c5⟩,⟨o6b,(dnW S.fur).length,c6⟩]:=⟨_,rfl⟩
 have hhs6:hs.length=6:=by rw[ehs];rfl
 have hp25:Own hd 25 w25.heap (some ⟨w24.heap.size,0,none⟩) 6 hs:=by rw[ehs];exact iB hg25 (show 6≤maxLen by decide)
 have hPl:(eH ⟨ds,pl,S⟩ ids).length=6:=rfl;have hrw25:cP (fun k=>w18.heap.size≤k∧k<w25.heap.size) w25.heap hs (eH ⟨ds,pl,S⟩ ids):=by
  have k:∀ {o:Option Addr} {c:Nat} {x:By} {u v:World},Own b8 5 v.heap o c x→aA nob v w25→Fr u.heap.size o→w18.heap.size≤u.heap.size→Vw b8 w25.heap o c x∧(x≠[]→∀ k,blk o k→w18.heap.size≤k∧k<w25.heap.size):=fun h f hfr hu=>⟨(h.WG f).vw,fun _ k ⟨y,hy,e⟩=>by have:=hfr y hy;have:=h.lt y hy;have:=f.size;omega⟩
  have k6:=k ho6 hf25 hfr6 (by omega);have k5:=k ho5 (hf24.trans hf25) hfr5 (by omega);have k4:=k ho4 ((hf23.trans hf24).trans hf25) hfr4 (by omega);have k3:=k ho3 (((hf22.trans hf23).trans hf24).trans hf25) hfr3 (by omega);have k2:=k ho2 ((((hf21.trans hf22).trans hf23).trans hf24).trans hf25) hfr2 (by omega);have k1:=k ho1 (((((hf20.trans hf21).trans hf22).trans hf23).trans hf24).trans hf25) hfr1 (by omega);rw[ehs];exact((((((Wd (H:=w25.heap)).snoc (x:=⟨o1,ds.B.length,c1⟩) rfl k1.1 k1.2).snoc (x:=⟨o2,(dnW S.ino).length,c2⟩) rfl k2.1 k2.2).snoc (x:=⟨o3,(dnW S.lst).length,c3⟩) rfl k3.1 k3.2).snoc (x:=⟨o4,(dnW (aJ pl 4).1).length,c4⟩) rfl k4.1 k4.2).snoc (x:=⟨o5,(dnW (aJ ids 2).1).length,c5⟩) rfl k5.1 k5.2).snoc (x:=⟨o6b,(dnW S.fur).length,c6⟩) rfl k6.1 k6.2
 have hS25:w25.heap[gS]?=some (.cells (cM F0).toArray 44 (0,0)):=(((((((hf19.trans hf20).trans hf21).trans hf22).trans hf23).trans hf24).trans hf25)).obj hS18 id;refine Gz 12 ?_;refine Tu Bt (cs:=(oB.map (ptO gS)).toArray) Ni rfl rfl rfl (by kernel_rfl) rfl ?_;intro w26 hg26 hs26 hf26;have hs26b:w26.heap.size=w25.heap.size+1:=hs26;have hq26:Own (ptO gS) 72 w26.heap (some ⟨w25.heap.size,0,none⟩) 6 oB:=iB (xs:=oB) hg26 (by decide);have hf1826:=((((((hf19.trans hf20).trans hf21).trans hf22).trans hf23).trans hf24).trans hf25).trans hf26;have hN15:aA nob W w15:=hf1.WD hW15 (fun k h=>.inr (by have:=hf1.size;omega));have hN26:aA nob W w26:=(hN15.trans hf1518).trans hf1826;obtain⟨Ps,ePs⟩:∃ P,P=eH ⟨ds,pl,S⟩ ids:=⟨_,rfl⟩
 rw[←ePs] at hrw25 hPl;have hPf:Ps.flatten.length≤1500000:=by rw[ePs,pO];exact o6
 have hzW:=hN15.size;refine Gz 5 ?_;refine S4 (β:=Nat×(Option Addr×Nat)) (fun⟨i,⟨oo,oc⟩⟩=>[(5,pT tp),(11,pT gS),(12,.slice oo (Xe 64 (0:UInt8)++(Ps.take i).flatten).length oc),(13,.slice (some ⟨w24.heap.size,0,none⟩) 6 6),(96,.slice (some ⟨w25.heap.size,0,none⟩) 6 6),(97,iV 6),(98,iV i)]) (fun⟨i,⟨oo,oc⟩⟩ w=>i≤6∧Own b8 5 w.heap oo oc (Xe 64 (0:UInt8)++(Ps.take i).flatten)∧(∀ k,blk oo k→k=w17.heap.size∨w26.heap.size≤k)∧w.heap[gS]?=some (.cells (cM (ffB F0 Ps i)).toArray 44 (0,0))∧Own hd 25 w.heap (some ⟨w24.heap.size,0,none⟩) 6 hs∧Own (ptO gS) 72 w.heap (some ⟨w25.heap.size,0,none⟩) 6 oB∧cP (fun k=>w18.heap.size≤k∧k<w25.heap.size) w.heap hs Ps∧TbV w.heap tp∧w26.heap.size≤w.heap.size∧aA nob W w) (fun⟨i,⟨oo,oc⟩⟩=>6-i) ⟨0,⟨some ⟨w17.heap.size,0,none⟩,64⟩⟩ ⟨rfl,rfl,rfl,rfl,rfl,rfl,rfl,trivial⟩ ⟨by decide,by rw[show Xe 64 (0:UInt8)++(Ps.take 0).flatten=Xe 64 0 by simp];exact ho18.WG hf1826,fun k ⟨z,hz,e⟩=>by cases hz;exact .inl e.symm,hf26.obj hS25 id,hp25.WG hf26,hq26,hrw25.WH hf26 (fun _ _=>id),(hf1518.trans hf1826).obj ht15 id,WT _,hN26⟩ ?_;rintro⟨i,⟨oo,oc⟩⟩ w27 ⟨hi,hoo,hob,hS,hp,hq,hrw,ht27,hz27,hN⟩;refine fK 2 ?_ ?_<;>intro h99
 ·have hi6:i<6:=by omega
  obtain⟨x,hx⟩:∃ x,Ps[i]?=some x:=⟨_,WK (by omega)⟩
  obtain⟨y,hy⟩:∃ y,hs[i]?=some y:=⟨_,WK (by omega)⟩
  obtain⟨hyn,hyv,_⟩:=hrw.2 i y x hy hx;have hft:=Mb hx;have hfl:=nC Ps (i+1);have hfl2:(Ps.take i).flatten.length+x.length≤1500000:=by have h:=congrArg Xp hft;rw[WM] at h;omega
  refine Gz 11 ?_;refine cL (SY Bt rfl rfl hq.vw.non (by have e:oB.length=6:=rfl;omega)) ?_;refine cL (S2 Al rfl (hq.vw.gz 0 i rfl (by show i<6;exact hi6))) ?_;refine Gz 3 ?_;refine aW [(5,_),(11,_),(12,_),(13,_),(14,_),(15,_),(96,_),(97,_),(98,_),(99,_)] ?_;refine Gz 6 ?_;refine cL (SY lL rfl rfl (fun _=>by simp) (by omega)) ?_;refine cL (S3 (u:=.slice y.a x.length y.c) (S2 aL rfl (hp.vw.get i y hy)) (by rw[←hyn];rfl)) ?_;refine S8 aN aH rfl rfl hoo hyv (by simp only[WM,Xt];omega) (by simp only[WM,Xt];unfold maxLen;omega) rfl ?_;intro o28 c28 w28 ho28 hf28 hr28 hn28;have eL:Xe 64 (0:UInt8)++(Ps.take i).flatten++x=Xe 64 0++(Ps.take (i+1)).flatten:=by rw[hft,W9]
  rw[eL] at ho28 ⊢;have hz28:=hf28.size;have kd:∀ k,k<w26.heap.size→k≠w17.heap.size→¬ blk oo k:=fun k h1 h2 h3=>by rcases hob k h3 with h|h;exact h2 h;omega
  have hS28:=hf28.obj hS (kd gS (by omega) (by omega));have hp28:=hp.WH hf28 (fun z hz=>by cases hz;exact kd w24.heap.size (by omega) (by omega));have hq28:=hq.WH hf28 (fun z hz=>by cases hz;exact kd w25.heap.size (by omega) (by omega));have hrw28:=hrw.WH hf28 (fun k hk=>kd k (by omega) (by omega));have hN28:aA nob W w28:=hN.WD hf28 (fun k h=>.inr (by rcases hob k h with h|h;omega;have:=hN26.size;omega));have hob28:∀ k,blk o28 k→k=w17.heap.size∨w26.heap.size≤k:=fun k ⟨z,hz,e⟩=>by
   rcases hr28 z hz with h|h
   ·exact hob k ⟨z,h,e⟩
   ·exact .inr (by omega)
  refine Gz 6 ?_;refine cL (S3 (u:=iV (64+((Ps.take (i+1)).flatten.length:Nat))) (Uz aH rfl) (by rw[WM,Xt];rfl)) ?_;refine Gz 1 ?_;refine S6 aF rfl rfl rfl hS28 (by have:=MO hi6;rw[Nat.blt_eq];exact this) ?_;intro w29 hS29 hs29 hf29;have hS29:w29.heap[gS]?=some (.cells (cM (ffB F0 Ps (i+1))).toArray 44 (0,0)):=by rw[show ffB F0 Ps (i+1)=upd (ffB F0 Ps i) (oB.getD i 0) (64+((Ps.take (i+1)).flatten.length:Nat)) from rfl,←Cz _ (MO hi6)];exact hS29
  have hf29:aA (· = gS) w28 w29:=hf29;have hs29b:w29.heap.size=w28.heap.size:=hs29;refine Gz 7 ?_;exact aG ⟨i+1,⟨o28,c28⟩⟩ ⟨by omega,ho28.WH hf29 (fun z hz h=>by have h:z.block=gS:=h;rcases hob28 _ ⟨z,hz,h⟩ with h2|h2<;>omega),hob28,hS29,hp28.WH hf29 (fun z hz h=>by cases hz;have h:w24.heap.size=gS:=h;omega),hq28.WH hf29 (fun z hz h=>by cases hz;have h:w25.heap.size=gS:=h;omega),hrw28.WH hf29 (fun k hk h=>by have h:k=gS:=h;omega),hf29.obj (hf28.obj ht27 (kd tp (by omega) (by omega))) (show ¬ tp=gS by omega),by omega,hN28.tw hf29⟩ (by show 6-(i+1)<6-i;omega)
 have hi6:i=6:=by omega
 subst hi6;refine Gz 13 ?_;have hfin:Ps.flatten=gL (aK qs ids) ids:=by rw[ePs,pO,eAll]
 have htk6:Ps.take 6=Ps:=WY (by omega);have eT:(Ps.take 6).flatten=gL (aK qs ids) ids:=by rw[htk6,hfin]
 have hff:cM (ffB F0 Ps 6)=cM (fM qs ids (aK qs ids)):=by rw[ePs,eAll];exact Mg _ qs ids F0 hF0
 rw[hff] at hS;refine cL (S3 (u:=iV (64+((gL (aK qs ids) ids).length:Int))) (S2 aF rfl (aD (i:=0) hS rfl)) rfl) ?_;refine fK 0 ?_ ?_<;>intro h116
 ·have hib:pY qs ids=([],3):=by unfold pY;rw[WJ h116]
  refine Gz 1 ?_;refine aW [(5,_),(11,_),(12,_),(13,_),(96,_),(97,_),(98,_),(99,_),(116,_)] ?_;refine Gz 11 ?_;refine⟨_,rfl,.inr ⟨hz,ids,none,0,hIds.nds hqs,?_,?_,V6,hN⟩⟩
  ·rw[←rR hqs ids,hib];rfl
  ·rw[←rR hqs ids,hib];exact V8
 have M:ImB qs ids:=⟨G,hIds,by omega⟩
 refine Gz 1 ?_;refine aW [(5,_),(11,_),(12,_),(13,_),(96,_),(97,_),(98,_),(99,_),(116,_)] ?_;refine Gz 6 ?_;refine cL (Tf (cs:=cM (fM qs ids (aK qs ids))) dT rfl (bI hS 0 rfl)) ?_;refine cA 0 SD (H4 tp (fM qs ids (aK qs ids)) w27 ht27) ?_;rintro _ w31 ⟨o31,c31,rfl,ho31,hfr31,hf31⟩;have ep:eU (fM qs ids (aK qs ids))=(suB (fM qs ids (aK qs ids)),0):=WJ M.may;rw[ep] at ho31 ⊢;have hsl:=qO (fM qs ids (aK qs ids));obtain⟨b31,rfl⟩:∃ b,o31=some b:=by
  cases o31 with
 |none=>exact absurd rfl (ho31.vw.non (by rw[show ((suB (fM qs ids (aK qs ids)),(0:Int)):By×Int).1=suB (fM qs ids (aK qs ids)) from rfl,hsl];decide))
 |some b=>exact⟨b,rfl⟩
 have hoo31:=hoo.WG hf31;obtain⟨bb,rfl⟩:∃ b,oo=some (⟨b,0,none⟩:Addr):=by
  rcases hoo31 with⟨_,_,h⟩|⟨x,_,h,_⟩
  · have h:=congrArg Xp h
    rw[WM,Xt,WZ] at h;omega
  ·exact⟨x,h⟩
 refine Gz 11 ?_;refine VA aN aH (b:=b31) (ys:=suB (fM qs ids (aK qs ids))) rfl rfl hoo31 ho31.vw (by rw[hsl,WM,Xt];omega) rfl ?_;intro w32 ho32 hs32 hf32;refine Gz 12 ?_;have hbW:W.heap.size≤bb:=by rcases hob bb ⟨_,rfl,rfl⟩ with h|h<;>omega
 have efin:suB (fM qs ids (aK qs ids))++(Xe 64 (0:UInt8)++(Ps.take 6).flatten).drop (suB (fM qs ids (aK qs ids))).length=imB qs ids:=by rw[hsl,eT,Yx Xt];rfl
 have elen:(Xe 64 (0:UInt8)++(Ps.take 6).flatten).length=(imB qs ids).length:=by unfold imB;rw[eT,WM,WM,Xt,hsl]
 refine⟨_,rfl,.inr ⟨hz,ids,some ⟨bb,0,none⟩,oc,hIds.nds hqs,?_,?_,fun z hz=>by cases hz;exact hbW,(hN.trans hf31).tw hf32⟩⟩
 · rw[←rR hqs ids,M.img]
   show _=Value.tuple #[.slice _ (imB qs ids).length oc,iV 0];rw[←elen]
 · rw[←rR hqs ids,M.img]
   show Own b8 5 w32.heap (some ⟨bb,0,none⟩) oc (imB qs ids);rw[←efin];exact ho32
end
section
open Go Go.RowKit Go.Maps
theorem GQ(lo0:Option Addr)(lc0:Nat)(ps:List (NdH×Nd))(W:World)(hv:aO (fun k=>k<W.heap.size) W.heap lo0 lc0 ps)(hsm:∀ p∈ps,smN p.2)(hl:ps.length≤40) :
 CA 11 [.slice lo0 ps.length lc0] W (BuP W ps):=by
 refine cS 221 [(0,_)] Tryz.func11 ?_;refine cA 9 SM (GP lo0 lc0 ps W hv hsm) ?_;rintro _ w1 ⟨lo,lc,qs,rfl,hqs,hvq,hf1⟩;refine fK 11 ?_ ?_<;>intro h30
 ·refine Gz 13 ?_;exact⟨_,rfl,.inl ⟨h30,rfl,hf1⟩⟩
 have hz:chk (nds ps)=0:=Xk.1 h30;rw[WJ hz] at hqs;have G:=EN hz hl;rw[←hqs] at G;have hq40:=G.n.2;have hq0:=G.n.1;have hqne:qs≠[]:=fun e=>by rw[e] at hq0;exact absurd hq0 (by decide)
 have hlo1:∀ k,blk lo k→k<w1.heap.size:=fun k ⟨a,ha,e⟩=>by have:=hvq.1.lt hqne (fun x e=>by cases e) a ha;omega
 have hz1:=hf1.size;have hq1n:((qs.length:Int)+1).toNat=qs.length+1:=by omega
 have hq63:=hvq.1.WF;refine Gz 5 ?_;refine Tw (β:=(List Int×(Option Addr×Nat))×(Nat×(Nat×Nat))) (fun⟨⟨ids,⟨io,ic⟩⟩,⟨gr,⟨gf,gm⟩⟩⟩=>[(0,.slice lo qs.length lc),(5,pT gm)]) (fun⟨⟨ids,⟨io,ic⟩⟩,⟨gr,⟨gf,gm⟩⟩⟩ w=>mX qs ids∧Own i64 3 w.heap io ic ids∧Own i64 3 w.heap (some ⟨gr,0,none⟩) (qs.length+1) (Xe (qs.length+1) 0)∧bL 11 oY 88 w.heap (some ⟨gf,0,none⟩) (qs.length+1) (Xe (qs.length+1) cI)∧w.heap[gm]?=some (.cells (biC (.slice lo qs.length lc) (.slice io ids.length ic) sN sN sN sN sN sN (.slice (some ⟨gr,0,none⟩) (qs.length+1) (qs.length+1)) (.slice (some ⟨gf,0,none⟩) (qs.length+1) (qs.length+1)) sN sN 0).toArray 81 (0,0))∧(w1.heap.size≤gr∧w1.heap.size≤gf∧gr<gm∧gf<gm∧gf≠gr∧w.heap.size=gm+1)∧(∀ a,io=some a→a.block<gm)∧(∀ a,io=some a→a.block≠gr)∧(∀ a,io=some a→a.block≠gf)∧aA nob w1 w) ?_ ?_
 ·refine U6 (fun _=>True) [2,6,10,12] [0,1,3,4,5,7,8,9] (.alt 2 [] (.alt 6 [] (.alt 10 [11] (.alt 12 [13] .fin .stop) .stop) (.alt 10 [] (.alt 6 [11] (.alt 12 [13] .fin .stop) .stop) .stop)) (.alt 6 [] (.alt 2 [] (.alt 10 [11] (.alt 12 [13] .fin .stop) .stop) (.alt 10 [] (.alt 2 [11] (.alt 12 [13] .fin .stop) .stop) .stop)) (.alt 10 [] (.alt 2 [] (.alt 6 [11] (.alt 12 [13] .fin .stop) .stop) (.alt 6 [] (.alt 2 [11] (.alt 12 [13] .fin .stop) .stop) .stop)) .stop))) aI (by kernel_rfl) (trivial) ?_;have hG0:aA nob w1 (w1.drewN 1):=V2 1;generalize w1.drewN 1=v0 at hG0 ⊢;refine Tn rfl rfl (Ta rfl) rfl ?_;refine Tn rfl rfl (Ta rfl) rfl ?_;refine Tn rfl rfl (Ta rfl) rfl ?_;refine Tn rfl rfl (Uz aQ rfl) rfl ?_;refine Tn rfl rfl (TO rfl rfl (by omega)) rfl ?_;refine Tn rfl rfl (Ta rfl) rfl ?_;refine Tn rfl rfl (Uz aQ rfl) rfl ?_;refine Tn rfl rfl (TO rfl rfl (by omega)) rfl ?_;refine Tt ?_ ?_
  ·refine Ts rfl rfl (SZ JM rfl (qT lo lc qs v0 (hvq.1.keep' hG0 (fun _ _ _=>id)) (by omega)) rfl ?_);rintro _ v1 ⟨io,ic,ids,rfl,hI1,hfI,hIds,hfx⟩;have hG1:=hG0.trans hfx;refine TD (by exact trivial) ?_;refine Tt ?_ ?_
   ·refine Ts rfl rfl (Ud i64 0 aY z3 rfl rfl rfl (by omega) (by omega) (by omega) (by omega) rfl ?_);intro v2 hR2 hsx hfx;rw[hq1n] at hR2 ⊢;obtain⟨gr,hgre⟩:∃ x,x=v1.heap.size:=⟨_,rfl⟩
    rw[←hgre] at hR2 ⊢;have hG2:=hG1.trans hfx;have hgr2:gr<v2.heap.size:=hR2.lt _ rfl;have hgrW:w1.heap.size≤gr:=by rw[hgre];exact hG1.size
    have hI2:=hI1.WG hfx;have hnI:∀ a,io=some a→a.block≠gr:=fun a ha=>by have:=hI1.lt a ha;omega
    refine TD (by exact trivial) ?_;refine Tt ?_ ?_
    ·refine Ts rfl rfl (Ui dX (by decide) cI Bs (by kernel_rfl) rfl rfl (by omega) (by omega) (by omega) (by omega) rfl ?_);intro v3 hF3 hsx hfx;rw[hq1n] at hF3 ⊢;obtain⟨gf,hgfe⟩:∃ x,x=v2.heap.size:=⟨_,rfl⟩
     rw[←hgfe] at hF3 ⊢;have hG3:=hG2.trans hfx;have hgf3:gf<v3.heap.size:=hF3.lt _ rfl;have hgfW:w1.heap.size≤gf:=by rw[hgfe];exact hG2.size
     have hI3:=hI2.WG hfx;have hR3:=hR2.WG hfx;have hgr3:gr<v3.heap.size:=hR3.lt _ rfl;have hnF:∀ a,io=some a→a.block≠gf:=fun a ha=>by have:=hI2.lt a ha;omega
     have hrf:gf≠gr:=by omega
     refine TD (by exact trivial) ?_;refine Tn rfl rfl (bU (biC (.slice lo qs.length lc) (.slice io ids.length ic) sN sN sN sN sN sN (.slice (some ⟨gr,0,none⟩) (qs.length+1) (qs.length+1)) (.slice (some ⟨gf,0,none⟩) (qs.length+1) (qs.length+1)) sN sN 0) AB Gv) rfl ?_;refine Tt ?_ ?_
     ·refine Ts rfl rfl (To rfl rfl ?_);intro v4 hgm hsx hfx;obtain⟨gm,hgme⟩:∃ x,x=v3.heap.size:=⟨_,rfl⟩
      rw[←hgme] at hgm ⊢;have hG4:=hG3.trans hfx;have hI4:=hI3.WG hfx;have hR4:=hR3.WG hfx;have hF4:=hF3.WG hfx;refine TD (by exact trivial) ?_;have hsx:v4.heap.size=v3.heap.size+1:=hsx;have hgr4:gr<gm:=by rw[hgme];exact hR3.lt _ rfl
      have hgf4:gf<gm:=by rw[hgme];exact hF3.lt _ rfl
      have hI3l:∀ a,io=some a→a.block<gm:=fun a ha=>by rw[hgme];exact hI3.lt a ha
      refine Tn rfl rfl (TP rfl) rfl ?_;refine Ue ?_;exact aC ⟨⟨ids,⟨io,ic⟩⟩,⟨gr,⟨gf,gm⟩⟩⟩ ⟨hIds,hI4,hR4,hF4,hgm,⟨hgrW,hgfW,hgr4,hgf4,hrf,by omega⟩,hI3l,hnI,hnF,hG4⟩
     exact Tp
    exact Tp
   refine Tt ?_ ?_
   ·refine Ts rfl rfl (Ui dX (by decide) cI Bs (by kernel_rfl) rfl rfl (by omega) (by omega) (by omega) (by omega) rfl ?_);intro v2 hF2 hsx hfx;rw[hq1n] at hF2 ⊢;obtain⟨gf,hgfe⟩:∃ x,x=v1.heap.size:=⟨_,rfl⟩
    rw[←hgfe] at hF2 ⊢;have hG2:=hG1.trans hfx;have hgf2:gf<v2.heap.size:=hF2.lt _ rfl;have hgfW:w1.heap.size≤gf:=by rw[hgfe];exact hG1.size
    have hI2:=hI1.WG hfx;have hnF:∀ a,io=some a→a.block≠gf:=fun a ha=>by have:=hI1.lt a ha;omega
    refine TD (by exact trivial) ?_;refine Tt ?_ ?_
    ·refine Ts rfl rfl (Ud i64 0 aY z3 rfl rfl rfl (by omega) (by omega) (by omega) (by omega) rfl ?_);intro v3 hR3 hsx hfx;rw[hq1n] at hR3 ⊢;obtain⟨gr,hgre⟩:∃ x,x=v2.heap.size:=⟨_,rfl⟩
     rw[←hgre] at hR3 ⊢;have hG3:=hG2.trans hfx;have hgr3:gr<v3.heap.size:=hR3.lt _ rfl;have hgrW:w1.heap.size≤gr:=by rw[hgre];exact hG2.size
     have hI3:=hI2.WG hfx;have hF3:=hF2.WG hfx;have hgf3:gf<v3.heap.size:=hF3.lt _ rfl;have hnI:∀ a,io=some a→a.block≠gr:=fun a ha=>by have:=hI2.lt a ha;omega
     have hrf:gf≠gr:=by omega
     refine TD (by exact trivial) ?_;refine Tn rfl rfl (bU (biC (.slice lo qs.length lc) (.slice io ids.length ic) sN sN sN sN sN sN (.slice (some ⟨gr,0,none⟩) (qs.length+1) (qs.length+1)) (.slice (some ⟨gf,0,none⟩) (qs.length+1) (qs.length+1)) sN sN 0) AB Gv) rfl ?_;refine Tt ?_ ?_
     ·refine Ts rfl rfl (To rfl rfl ?_);intro v4 hgm hsx hfx;obtain⟨gm,hgme⟩:∃ x,x=v3.heap.size:=⟨_,rfl⟩
      rw[←hgme] at hgm ⊢;have hG4:=hG3.trans hfx;have hI4:=hI3.WG hfx;have hR4:=hR3.WG hfx;have hF4:=hF3.WG hfx;refine TD (by exact trivial) ?_;have hsx:v4.heap.size=v3.heap.size+1:=hsx;have hgr4:gr<gm:=by rw[hgme];exact hR3.lt _ rfl
      have hgf4:gf<gm:=by rw[hgme];exact hF3.lt _ rfl
      have hI3l:∀ a,io=some a→a.block<gm:=fun a ha=>by rw[hgme];exact hI3.lt a ha
      refine Tn rfl rfl (TP rfl) rfl ?_;refine Ue ?_;exact aC ⟨⟨ids,⟨io,ic⟩⟩,⟨gr,⟨gf,gm⟩⟩⟩ ⟨hIds,hI4,hR4,hF4,hgm,⟨hgrW,hgfW,hgr4,hgf4,hrf,by omega⟩,hI3l,hnI,hnF,hG4⟩
     exact Tp
    exact Tp
   exact Tp
  refine Tt ?_ ?_
  ·refine Ts rfl rfl (Ud i64 0 aY z3 rfl rfl rfl (by omega) (by omega) (by omega) (by omega) rfl ?_);intro v1 hR1 hsx hfx;rw[hq1n] at hR1 ⊢;obtain⟨gr,hgre⟩:∃ x,x=v0.heap.size:=⟨_,rfl⟩
   rw[←hgre] at hR1 ⊢;have hG1:=hG0.trans hfx;have hgr1:gr<v1.heap.size:=hR1.lt _ rfl;have hgrW:w1.heap.size≤gr:=by rw[hgre];exact hG0.size
   refine TD (by exact trivial) ?_;refine Tt ?_ ?_
   ·refine Ts rfl rfl (SZ JM rfl (qT lo lc qs v1 (hvq.1.keep' hG1 (fun _ _ _=>id)) (by omega)) rfl ?_);rintro _ v2 ⟨io,ic,ids,rfl,hI2,hfI,hIds,hfx⟩;have hG2:=hG1.trans hfx;have hR2:=hR1.WG hfx;have hgr2:gr<v2.heap.size:=hR2.lt _ rfl;have hnI:∀ a,io=some a→a.block≠gr:=fun a ha=>by have:=hfI a ha;omega
    refine TD (by exact trivial) ?_;refine Tt ?_ ?_
    ·refine Ts rfl rfl (Ui dX (by decide) cI Bs (by kernel_rfl) rfl rfl (by omega) (by omega) (by omega) (by omega) rfl ?_);intro v3 hF3 hsx hfx;rw[hq1n] at hF3 ⊢;obtain⟨gf,hgfe⟩:∃ x,x=v2.heap.size:=⟨_,rfl⟩
     rw[←hgfe] at hF3 ⊢;have hG3:=hG2.trans hfx;have hgf3:gf<v3.heap.size:=hF3.lt _ rfl;have hgfW:w1.heap.size≤gf:=by rw[hgfe];exact hG2.size
     have hI3:=hI2.WG hfx;have hR3:=hR2.WG hfx;have hgr3:gr<v3.heap.size:=hR3.lt _ rfl;have hnF:∀ a,io=some a→a.block≠gf:=fun a ha=>by have:=hI2.lt a ha;omega
     have hrf:gf≠gr:=by omega
     refine TD (by exact trivial) ?_;refine Tn rfl rfl (bU (biC (.slice lo qs.length lc) (.slice io ids.length ic) sN sN sN sN sN sN (.slice (some ⟨gr,0,none⟩) (qs.length+1) (qs.length+1)) (.slice (some ⟨gf,0,none⟩) (qs.length+1) (qs.length+1)) sN sN 0) AB Gv) rfl ?_;refine Tt ?_ ?_
     ·refine Ts rfl rfl (To rfl rfl ?_);intro v4 hgm hsx hfx;obtain⟨gm,hgme⟩:∃ x,x=v3.heap.size:=⟨_,rfl⟩
      rw[←hgme] at hgm ⊢;have hG4:=hG3.trans hfx;have hI4:=hI3.WG hfx;have hR4:=hR3.WG hfx;have hF4:=hF3.WG hfx;refine TD (by exact trivial) ?_;have hsx:v4.heap.size=v3.heap.size+1:=hsx;have hgr4:gr<gm:=by rw[hgme];exact hR3.lt _ rfl
      have hgf4:gf<gm:=by rw[hgme];exact hF3.lt _ rfl
      have hI3l:∀ a,io=some a→a.block<gm:=fun a ha=>by rw[hgme];exact hI3.lt a ha
      refine Tn rfl rfl (TP rfl) rfl ?_;refine Ue ?_;exact aC ⟨⟨ids,⟨io,ic⟩⟩,⟨gr,⟨gf,gm⟩⟩⟩ ⟨hIds,hI4,hR4,hF4,hgm,⟨hgrW,hgfW,hgr4,hgf4,hrf,by omega⟩,hI3l,hnI,hnF,hG4⟩
     exact Tp
    exact Tp
   refine Tt ?_ ?_
   ·refine Ts rfl rfl (Ui dX (by decide) cI Bs (by kernel_rfl) rfl rfl (by omega) (by omega) (by omega) (by omega) rfl ?_);intro v2 hF2 hsx hfx;rw[hq1n] at hF2 ⊢;obtain⟨gf,hgfe⟩:∃ x,x=v1.heap.size:=⟨_,rfl⟩
    rw[←hgfe] at hF2 ⊢;have hG2:=hG1.trans hfx;have hgf2:gf<v2.heap.size:=hF2.lt _ rfl;have hgfW:w1.heap.size≤gf:=by rw[hgfe];exact hG1.size
    have hR2:=hR1.WG hfx;have hgr2:gr<v2.heap.size:=hR2.lt _ rfl;have hrf:gf≠gr:=by omega
    refine TD (by exact trivial) ?_;refine Tt ?_ ?_
    ·refine Ts rfl rfl (SZ JM rfl (qT lo lc qs v2 (hvq.1.keep' hG2 (fun _ _ _=>id)) (by omega)) rfl ?_);rintro _ v3 ⟨io,ic,ids,rfl,hI3,hfI,hIds,hfx⟩;have hG3:=hG2.trans hfx;have hR3:=hR2.WG hfx;have hgr3:gr<v3.heap.size:=hR3.lt _ rfl;have hF3:=hF2.WG hfx;have hgf3:gf<v3.heap.size:=hF3.lt _ rfl;have hnI:∀ a,io=some a→a.block≠gr:=fun a ha=>by have:=hfI a ha;omega
     have hnF:∀ a,io=some a→a.block≠gf:=fun a ha=>by have:=hfI a ha;omega
     refine TD (by exact trivial) ?_;refine Tn rfl rfl (bU (biC (.slice lo qs.length lc) (.slice io ids.length ic) sN sN sN sN sN sN (.slice (some ⟨gr,0,none⟩) (qs.length+1) (qs.length+1)) (.slice (some ⟨gf,0,none⟩) (qs.length+1) (qs.length+1)) sN sN 0) AB Gv) rfl ?_;refine Tt ?_ ?_
     ·refine Ts rfl rfl (To rfl rfl ?_);intro v4 hgm hsx hfx;obtain⟨gm,hgme⟩:∃ x,x=v3.heap.size:=⟨_,rfl⟩
      rw[←hgme] at hgm ⊢;have hG4:=hG3.trans hfx;have hI4:=hI3.WG hfx;have hR4:=hR3.WG hfx;have hF4:=hF3.WG hfx;refine TD (by exact trivial) ?_;have hsx:v4.heap.size=v3.heap.size+1:=hsx;have hgr4:gr<gm:=by rw[hgme];exact hR3.lt _ rfl
      have hgf4:gf<gm:=by rw[hgme];exact hF3.lt _ rfl
      have hI3l:∀ a,io=some a→a.block<gm:=fun a ha=>by rw[hgme];exact hI3.lt a ha
      refine Tn rfl rfl (TP rfl) rfl ?_;refine Ue ?_;exact aC ⟨⟨ids,⟨io,ic⟩⟩,⟨gr,⟨gf,gm⟩⟩⟩ ⟨hIds,hI4,hR4,hF4,hgm,⟨hgrW,hgfW,hgr4,hgf4,hrf,by omega⟩,hI3l,hnI,hnF,hG4⟩
     exact Tp
    exact Tp
   exact Tp
  refine Tt ?_ ?_
  ·refine Ts rfl rfl (Ui dX (by decide) cI Bs (by kernel_rfl) rfl rfl (by omega) (by omega) (by omega) (by omega) rfl ?_);intro v1 hF1 hsx hfx;rw[hq1n] at hF1 ⊢;obtain⟨gf,hgfe⟩:∃ x,x=v0.heap.size:=⟨_,rfl⟩
   rw[←hgfe] at hF1 ⊢;have hG1:=hG0.trans hfx;have hgf1:gf<v1.heap.size:=hF1.lt _ rfl;have hgfW:w1.heap.size≤gf:=by rw[hgfe];exact hG0.size
   refine TD (by exact trivial) ?_;refine Tt ?_ ?_
   ·refine Ts rfl rfl (SZ JM rfl (qT lo lc qs v1 (hvq.1.keep' hG1 (fun _ _ _=>id)) (by omega)) rfl ?_);rintro _ v2 ⟨io,ic,ids,rfl,hI2,hfI,hIds,hfx⟩;have hG2:=hG1.trans hfx;have hF2:=hF1.WG hfx;have hgf2:gf<v2.heap.size:=hF2.lt _ rfl;have hnF:∀ a,io=some a→a.block≠gf:=fun a ha=>by have:=hfI a ha;omega
    refine TD (by exact trivial) ?_;refine Tt ?_ ?_
    ·refine Ts rfl rfl (Ud i64 0 aY z3 rfl rfl rfl (by omega) (by omega) (by omega) (by omega) rfl ?_);intro v3 hR3 hsx hfx;rw[hq1n] at hR3 ⊢;obtain⟨gr,hgre⟩:∃ x,x=v2.heap.size:=⟨_,rfl⟩
     rw[←hgre] at hR3 ⊢;have hG3:=hG2.trans hfx;have hgr3:gr<v3.heap.size:=hR3.lt _ rfl;have hgrW:w1.heap.size≤gr:=by rw[hgre];exact hG2.size
     have hI3:=hI2.WG hfx;have hF3:=hF2.WG hfx;have hgf3:gf<v3.heap.size:=hF3.lt _ rfl;have hnI:∀ a,io=some a→a.block≠gr:=fun a ha=>by have:=hI2.lt a ha;omega
     have hrf:gf≠gr:=by omega
     refine TD (by exact trivial) ?_;refine Tn rfl rfl (bU (biC (.slice lo qs.length lc) (.slice io ids.length ic) sN sN sN sN sN sN (.slice (some ⟨gr,0,none⟩) (qs.length+1) (qs.length+1)) (.slice (some ⟨gf,0,none⟩) (qs.length+1) (qs.length+1)) sN sN 0) AB Gv) rfl ?_;refine Tt ?_ ?_
     ·refine Ts rfl rfl (To rfl rfl ?_);intro v4 hgm hsx hfx;obtain⟨gm,hgme⟩:∃ x,x=v3.heap.size:=⟨_,rfl⟩
      rw[←hgme] at hgm ⊢;have hG4:=hG3.trans hfx;have hI4:=hI3.WG hfx;have hR4:=hR3.WG hfx;have hF4:=hF3.WG hfx;refine TD (by exact trivial) ?_;have hsx:v4.heap.size=v3.heap.size+1:=hsx;have hgr4:gr<gm:=by rw[hgme];exact hR3.lt _ rfl
      have hgf4:gf<gm:=by rw[hgme];exact hF3.lt _ rfl
      have hI3l:∀ a,io=some a→a.block<gm:=fun a ha=>by rw[hgme];exact hI3.lt a ha
      refine Tn rfl rfl (TP rfl) rfl ?_;refine Ue ?_;exact aC ⟨⟨ids,⟨io,ic⟩⟩,⟨gr,⟨gf,gm⟩⟩⟩ ⟨hIds,hI4,hR4,hF4,hgm,⟨hgrW,hgfW,hgr4,hgf4,hrf,by omega⟩,hI3l,hnI,hnF,hG4⟩
     exact Tp
    exact Tp
   refine Tt ?_ ?_
   ·refine Ts rfl rfl (Ud i64 0 aY z3 rfl rfl rfl (by omega) (by omega) (by omega) (by omega) rfl ?_);intro v2 hR2 hsx hfx;rw[hq1n] at hR2 ⊢;obtain⟨gr,hgre⟩:∃ x,x=v1.heap.size:=⟨_,rfl⟩
    rw[←hgre] at hR2 ⊢;have hG2:=hG1.trans hfx;have hgr2:gr<v2.heap.size:=hR2.lt _ rfl;have hgrW:w1.heap.size≤gr:=by rw[hgre];exact hG1.size
    have hF2:=hF1.WG hfx;have hgf2:gf<v2.heap.size:=hF2.lt _ rfl;have hrf:gf≠gr:=by omega
    refine TD (by exact trivial) ?_;refine Tt ?_ ?_
    ·refine Ts rfl rfl (SZ JM rfl (qT lo lc qs v2 (hvq.1.keep' hG2 (fun _ _ _=>id)) (by omega)) rfl ?_);rintro _ v3 ⟨io,ic,ids,rfl,hI3,hfI,hIds,hfx⟩;have hG3:=hG2.trans hfx;have hR3:=hR2.WG hfx;have hgr3:gr<v3.heap.size:=hR3.lt _ rfl;have hF3:=hF2.WG hfx;have hgf3:gf<v3.heap.size:=hF3.lt _ rfl;have hnI:∀ a,io=some a→a.block≠gr:=fun a ha=>by have:=hfI a ha;omega
     have hnF:∀ a,io=some a→a.block≠gf:=fun a ha=>by have:=hfI a ha;omega
     refine TD (by exact trivial) ?_;refine Tn rfl rfl (bU (biC (.slice lo qs.length lc) (.slice io ids.length ic) sN sN sN sN sN sN (.slice (some ⟨gr,0,none⟩) (qs.length+1) (qs.length+1)) (.slice (some ⟨gf,0,none⟩) (qs.length+1) (qs.length+1)) sN sN 0) AB Gv) rfl ?_;refine Tt ?_ ?_
     ·refine Ts rfl rfl (To rfl rfl ?_);intro v4 hgm hsx hfx;obtain⟨gm,hgme⟩:∃ x,x=v3.heap.size:=⟨_,rfl⟩
      rw[←hgme] at hgm ⊢;have hG4:=hG3.trans hfx;have hI4:=hI3.WG hfx;have hR4:=hR3.WG hfx;have hF4:=hF3.WG hfx;refine TD (by exact trivial) ?_;have hsx:v4.heap.size=v3.heap.size+1:=hsx;have hgr4:gr<gm:=by rw[hgme];exact hR3.lt _ rfl
      have hgf4:gf<gm:=by rw[hgme];exact hF3.lt _ rfl
      have hI3l:∀ a,io=some a→a.block<gm:=fun a ha=>by rw[hgme];exact hI3.lt a ha
      refine Tn rfl rfl (TP rfl) rfl ?_;refine Ue ?_;exact aC ⟨⟨ids,⟨io,ic⟩⟩,⟨gr,⟨gf,gm⟩⟩⟩ ⟨hIds,hI4,hR4,hF4,hgm,⟨hgrW,hgfW,hgr4,hgf4,hrf,by omega⟩,hI3l,hnI,hnF,hG4⟩
     exact Tp
    exact Tp
   exact Tp
  exact Tp
 rintro⟨⟨ids,⟨io,ic⟩⟩,⟨gr,⟨gf,gm⟩⟩⟩ v4 ⟨hIds,hI4,hR4,hF4,hgm,⟨hgrW,hgfW,hgr4,hgf4,hrf,hsx⟩,hI3l,hnI,hnF,hG4⟩;have hz4:=hG4.size;have hvq4:aO (fun k=>k<W.heap.size) v4.heap lo lc qs:=cZ hvq hG4 (fun _ _=>id) (fun _ _ _=>id) (fun _=>id);have hid80:=oO hIds;have hrep:∀ z∈Xe (qs.length+1) (0:Int),z=0:=fun z hz=>YN hz;refine Gz 2 ?_;refine cL (TC (cs:=#[iV 64,sN,sN]) OI Ok rfl (by kernel_rfl)) ?_;refine S5 Ok rfl ?_;intro w5 hg5 hs5 hf5;obtain⟨g7,hg7e⟩:∃ x,x=v4.heap.size:=⟨_,rfl⟩
 rw[←hg7e] at hg5 ⊢;refine sA rfl QH (by simp[Value.oneCell']) hg5 ?_;intro w6 hg6 hs6 hf6;have hF46:aA nob v4 w6:=hf5.tw hf6;have hR6:RyO (· = g7) w6.heap g7 64 ⟨[],[]⟩:=RyO.zero hg6;have hs5b:w5.heap.size=v4.heap.size+1:=hs5;have hs6b:w6.heap.size=w5.heap.size:=hs6;refine Gz 4 ?_;refine cL (TC (cs:=#[sN]) OH Oj rfl (by kernel_rfl)) ?_;refine S5 Oj rfl ?_;intro w7 hg7 hs7 hf7;obtain⟨g8,hg8e⟩:∃ x,x=w6.heap.size:=⟨_,rfl⟩
 rw[←hg8e] at hg7 ⊢;refine sA rfl QG (by simp[Value.oneCell']) hg7 ?_;intro w8 hg8 hs8 hf8;have hF68:aA nob w6 w8:=hf7.tw hf8;have hP8:uY (· = g8) w8.heap g8 []:=uY.zero hg8;have hR8:=hR6.WH hF68 (fun _ _ _=>id);have hF48:=hF46.trans hF68;have hs7b:w7.heap.size=w6.heap.size+1:=hs7;have hs8b:w8.heap.size=w7.heap.size:=hs8;refine Gz 9 ?_;refine S4 (β:=(Nat×FSt)×((Nat→Prop)×(Nat→Prop))) (fun⟨⟨k,s⟩,⟨D7,D8⟩⟩=>[(0,.slice lo qs.length lc),(5,pT gm),(6,pT g7),(7,pT g8),(8,iV k)]) (fun⟨⟨k,s⟩,⟨D7,D8⟩⟩ w=>k≤qs.length∧s=(nds (qs.take k)).foldl dS (fs0 (qs.length+1))∧s.ds.m.length≤k∧FI (nds (qs.take k)) (qs.length+1) s∧RyO D7 w.heap g7 64 s.ds∧uY D8 w.heap g8 s.tails∧(∀ k,D7 k→v4.heap.size≤k∧k<w.heap.size)∧(∀ k,D8 k→v4.heap.size≤k∧k<w.heap.size)∧(∀ k,D7 k→¬ D8 k)∧bL 11 oY 88 w.heap (some ⟨gf,0,none⟩) (qs.length+1) s.files∧aA (· = gf) v4 w) (fun⟨⟨k,s⟩,⟨D7,D8⟩⟩=>qs.length-k) ⟨⟨0,fs0 (qs.length+1)⟩,⟨(· = g7),(· = g8)⟩⟩ ⟨rfl,rfl,rfl,rfl,rfl,trivial⟩ ⟨WU _,rfl,WU _,fi0 _,hR8,hP8,fun k h=>by have h:k=g7:=h;omega,fun k h=>by have h:k=g8:=h;omega,fun k h h2=>by have h:k=g7:=h;have h2:k=g8:=h2;omega,hF4.WG hF48,hF48.any⟩ ?_;rintro⟨⟨k,s⟩,⟨D7,D8⟩⟩ w9 ⟨hk,hs,hmc,hFI,hM,hP,hd7,hd8,hd78,hFf,hF9⟩;refine fK 6 ?_ ?_<;>intro h50
 ·have hkl:k<qs.length:=by omega
  obtain⟨q,hq⟩:∃ q,qs[k]?=some q:=⟨_,WK hkl⟩
  have hqm:=WQ hq;have hqi:=G.ino q hqm;obtain⟨m,hm⟩:=XB (show 0≤q.2.ino by omega);have hml:m<s.files.length:=by rw[hFI.l];omega
  obtain⟨f,hf⟩:∃ f,s.files[m]?=some f:=⟨_,WK hml⟩
  have hfd:s.files.getD q.2.ino.toNat cI=f:=by rw[show q.2.ino.toNat=m by omega,WW,hf];rfl
  have hdat:q.2.data.length≤4096:=(G.may q hqm).2.2.2.2.2.2.1;have hnd:aO (fun k=>k<W.heap.size) w9.heap lo lc qs:=cZ hvq4 hF9 (fun k hk h=>by have h:k=gf:=h;have hk:k<W.heap.size:=hk;omega) (fun _ k hk h=>by have h:k=gf:=h;have:=hlo1 k hk;omega) (fun _=>id);have hgm9:=hF9.obj hgm (fun h=>by have h:gm=gf:=h;omega);have hz9:=hF9.size;obtain⟨hqv1,hqv2,hqv3⟩:=hnd.2 q hqm;have hFl:=hFI.l;refine Gz 1 ?_;refine aW [(0,_),(5,_),(6,_),(7,_),(8,_),(50,_)] ?_;refine Gz 4 ?_;refine Tw (β:=FSt×((Nat→Prop)×(Nat→Prop))) (fun⟨s,⟨D7,D8⟩⟩=>[(0,.slice lo qs.length lc),(5,pT gm),(6,pT g7),(7,pT g8),(8,iV k)]) (fun⟨s,⟨D7,D8⟩⟩ w=>s=(nds (qs.take (k+1))).foldl dS (fs0 (qs.length+1))∧s.ds.m.length≤k+1∧FI (nds (qs.take (k+1))) (qs.length+1) s∧RyO D7 w.heap g7 64 s.ds∧uY D8 w.heap g8 s.tails∧(∀ k,D7 k→v4.heap.size≤k∧k<w.heap.size)∧(∀ k,D8 k→v4.heap.size≤k∧k<w.heap.size)∧(∀ k,D7 k→¬ D8 k)∧bL 11 oY 88 w.heap (some ⟨gf,0,none⟩) (qs.length+1) s.files∧aA (· = gf) v4 w) ?_ ?_
  ·refine Gz 5 ?_;refine cL (S1 aQ rfl rfl hnd.1.non (by omega)) ?_;refine cL (Tf (cs:=aE q) aZ rfl (fun j v hj=>hnd.1.rowZ k rfl hq j v hj)) ?_;refine S5 eY rfl ?_;intro w10 hg10 hs10 hf10;obtain⟨gn,hgne⟩:∃ x,x=w9.heap.size:=⟨_,rfl⟩
   rw[←hgne] at hg10 ⊢;refine Te (vs:=aE q) aZ rfl rfl (aB q).2 hg10 rfl ?_;intro w11 hgn hs11 hf11;have hf911:aA nob w9 w11:=hf10.tw hf11;have hgm11:=hf911.obj hgm9 id;have hFf11:=hFf.WG hf911;have hM11:=hM.WH hf911 (fun _ _ _=>id);have hP11:=hP.WH hf911 (fun _ _=>id);have hs10b:w10.heap.size=w9.heap.size+1:=hs10;have hs11b:w11.heap.size=w10.heap.size:=hs11;have hFv:=hFf11.vw dX;have hF11:aA (· = gf) v4 w11:=hF9.trans hf911.any;refine Gz 4 ?_;refine Tk 15 [0,1,2,3,4,5,6,7,8,9,10,11,12,13,14] aI (by kernel_rfl) ?_;refine Gz 1 ?_;refine xC rfl (S2 aF rfl (aD hgn rfl)) ?_;refine xK 0 ?_ ?_<;>intro h59
   ·have hsk:dS s q.2=s:=nW (.inl h59);refine Gz 18 ?_;have hs2:=rZ hq (fs0 (qs.length+1));rw[←hs] at hs2;have hFI2:=nX hFI (x:=q.2) ⟨by omega,by omega⟩ hdat;rw[←xL hq] at hFI2;rw[hsk] at hs2 hFI2;exact aC ⟨s,⟨D7,D8⟩⟩ ⟨hs2.symm,by omega,hFI2,hM11,hP11,fun k hk=>by have:=hd7 k hk;exact⟨by omega,by show k<w11.heap.size;omega⟩,fun k hk=>by have:=hd8 k hk;exact⟨by omega,by show k<w11.heap.size;omega⟩,hd78,hFf11,hF11.draws 1⟩
   have hk2:q.2.kind=2:=Xk.1 h59;have hf11d:aA nob w11 (w11.drewN 1):=V2 1;refine Gz 4 ?_;refine xV rfl (S2 MI rfl (aD hgm11 rfl)) ?_;refine Gz 1 ?_;refine xV rfl (S2 aF rfl (aD hgn rfl)) ?_;refine xV rfl (S1 Bs rfl rfl (by simp) (by omega)) ?_;refine Gz 1 ?_;refine xV rfl (S2 aF rfl (hFv.rowZ m hm hf 0 _ rfl)) ?_;refine xW 0 ?_ ?_<;>intro h70
   ·have hsk:dS s q.2=s:=nW (.inr (by rw[hfd];exact h70));refine Gz 7 ?_;have hs2:=rZ hq (fs0 (qs.length+1));rw[←hs] at hs2;have hFI2:=nX hFI (x:=q.2) ⟨by omega,by omega⟩ hdat;rw[←xL hq] at hFI2;rw[hsk] at hs2 hFI2;exact aC ⟨s,⟨D7,D8⟩⟩ ⟨hs2.symm,by omega,hFI2,hM11,hP11,fun k hk=>by have:=hd7 k hk;exact⟨by omega,by show k<w11.heap.size;omega⟩,fun k hk=>by have:=hd8 k hk;exact⟨by omega,by show k<w11.heap.size;omega⟩,hd78,hFf11,hF11.draws 1⟩
   have hnf:¬ (q.2.kind≠2∨(s.files.getD q.2.ino.toNat cI).1 0=2):=by rw[hfd];rintro(h|h);exact h hk2;exact h70 h
   obtain⟨R1,hR1⟩:∃ R,R=fO 64 s.ds q.2.data:=⟨_,rfl⟩
   obtain⟨R2,hR2⟩:∃ R,R=dK s.tails (cO q.2.data):=⟨_,rfl⟩
   obtain⟨fN,hfN⟩:∃ f:Ino,f=(fun j=>[2,0,0,0,0,0,(R1.2:Int),q.2.data.length,(R2.2.1:Int),(R2.2.2:Int)].getD j 0,[]):=⟨_,rfl⟩
   have hsn:dS s q.2=⟨R1.1,R2.1,s.files.set m fN⟩:=by unfold dS;rw[WI hnf,←hR1,←hR2,hfN,show q.2.ino.toNat=m by omega]
   refine Gz 9 ?_;refine cL (S3 (u:=.slice q.1.data.a q.2.data.length q.1.data.c) (S2 aL rfl (aD hgn rfl)) (by rw[←hqv2.1];rfl)) ?_;refine SZ SC rfl (GN D7 g7 64 s.ds q.1.data.a q.1.data.c q.2.data (w11.drewN 1) (hM11.WH hf11d (fun _ _ _=>id)) ((hqv2.2.1.WG hf911).WG hf11d) (by decide) (by have:=hFI.b;rw[W2,WR] at this;omega) (by omega) (by omega)) rfl ?_;rw[←hR1];rintro _ w12 ⟨o12,c12,rfl,ho12,hfr12,hM12,hf12⟩;have hf12:=hf12.WE;have hfr12:Fr w11.heap.size o12:=hfr12;have hM12:RyO (fun k=>Nx D7 w11 w12 k∧¬ blk o12 k) w12.heap g7 64 R1.1:=hM12;have hz12:=hf12.size;have hP12:=hP11.WH hf12 (fun k hk h=>hd78 k h hk);refine Gz 10 ?_;refine SZ SB rfl (Lw D8 g8 s.tails o12 c12 (cO q.2.data) w12 hP12 (fun k hk=>by have:=hd8 k hk;omega) ho12.vw (by have:=hFI.tn;rw[W2,WR] at this;omega) (fun x hx=>by have:=hFI.t x hx;omega)) rfl ?_;rw[←hR2];rintro _ w13 ⟨rfl,D8b,hP13,hD8a,hD8b,hf13⟩;have hz13:=hf13.size;have hgm13:=hf13.obj (hf12.obj hgm11 (fun h=>by have:=hd7 gm h;omega)) (fun h=>by have:=hd8 gm h;omega);have hgn13:=hf13.obj (hf12.obj hgn (fun h=>by have:=hd7 gn h;omega)) (fun h=>by have:=hd8 gn h;omega);have hFf13:=(hFf11.WH hf12 (fun a ha h=>by cases ha;have:=hd7 gf h;omega)).WH hf13 (fun a ha h=>by cases ha;have:=hd8 gf h;omega);have hM13:=hM12.WH hf13 (fun k _ hk h=>by rcases hk.1 with h2|h2;exact hd78 k h2 h;have:=hd8 k h;omega);have hFf13v:=hFf13.vw dX;have hF13:aA (· = gf) v4 w13:=(hF11.WD hf12 (fun k h=>.inr (hd7 k h).1)).WD hf13 (fun k h=>.inr (hd8 k h).1);refine Gz 7 ?_;refine Tc 14 (fun H=>H[gm]?=some (.cells (biC (.slice lo qs.length lc) (.slice io ids.length ic) sN sN sN sN sN sN (.slice (some ⟨gr,0,none⟩) (qs.length+1) (qs.length+1)) (.slice (some ⟨gf,0,none⟩) (qs.length+1) (qs.length+1)) sN sN 0).toArray 81 (0,0))∧H[gn]?=some (.cells (aE q).toArray 37 (0,0))) [14] [0,1,2,3,4,5,6,7,8,9,10,11,12,13,14] aI (by kernel_rfl) (⟨hgm13,hgn13⟩) ?_;refine Gz 8 ?_;refine xC rfl (S3 (u:=.slice q.1.data.a q.2.data.length q.1.data.c) (S9 aL rfl (fun H hH=>aD hH.2 rfl)) (by rw[←hqv2.1];rfl)) ?_;refine Gz 3 ?_;refine xC rfl (bU (oY (fun j=>[2,0,0,0,0,0,(R1.2:Int),q.2.data.length,(R2.2.1:Int),(R2.2.2:Int)].getD j 0,[])) IV Cn) ?_;rw[←hfN];refine xC rfl (S1 Bs rfl rfl (by simp) (by omega)) ?_;refine S7 rfl rfl (Vn dX (u:=fN) (i:=m) hml lD rfl (by rw[hm,Xm]) rfl hFf13 ?_);intro w14 ho14 hs14 hf14;refine Tx rfl ?_;have hs14b:w14.heap.size=w13.heap.size:=hs14;have hgb:∀ k,blk (some (⟨gf,0,none⟩:Addr)) k→k=gf:=fun k ⟨a,ha,e⟩=>by cases ha;exact e.symm
   have hf14:=hf14.WE;have hM14:=hM13.WH (hf14.mono hgb) (fun k _ hk h=>by rw[h] at hk;rcases hk.1 with h2|h2;have:=hd7 gf h2;omega;omega);have hP14:=hP13.WH (hf14.mono hgb) (fun k hk h=>by have h:k=gf:=h;rw[h] at hk;rcases hD8a gf hk with h2|h2;have:=hd8 gf h2;omega;omega);have hF14:aA (· = gf) v4 w14:=hF13.trans (hf14.mono hgb);refine Gz 2 ?_;have hs2:=rZ hq (fs0 (qs.length+1));rw[←hs] at hs2;have hFI2:=nX hFI (x:=q.2) ⟨by omega,by omega⟩ hdat;rw[←xL hq] at hFI2;have hmm:=MP 0 [q.2] s;have hmm:(dS s q.2).ds.m.length≤s.ds.m.length+1:=hmm;rw[hsn] at hs2 hFI2 hmm;exact aC ⟨⟨R1.1,R2.1,s.files.set m fN⟩,⟨(fun k=>Nx D7 w11 w12 k∧¬ blk o12 k),D8b⟩⟩ ⟨hs2.symm,by omega,hFI2,hM14,hP14,fun k hk=>by rcases hk.1 with h|h;have:=hd7 k h;omega;omega,fun k hk=>by have:=hD8b k hk;rcases hD8a k hk with h|h;have:=hd8 k h;omega;omega,fun k hk h=>by rcases hD8a k h with h2|h2;rcases hk.1 with h3|h3;exact hd78 k h3 h2;have:=hd8 k h2;omega;rcases hk.1 with h3|h3;have:=hd7 k h3;omega;omega,ho14,hF14⟩
  rintro⟨s,⟨D7,D8⟩⟩ w15 ⟨hs,hmc,hFI,hM,hP,hd7,hd8,hd78,hFf,hF9⟩;refine Gz 5 ?_;exact aG ⟨⟨k+1,s⟩,⟨D7,D8⟩⟩ ⟨by omega,hs,hmc,hFI,hM,hP,hd7,hd8,hd78,hFf,hF9⟩ (by show qs.length-(k+1)<qs.length-k;omega)
 have hke:k=qs.length:=by omega
 subst hke;rw[Xl] at hs hFI;have hs:s=aS qs:=hs;subst hs;have hz9:=hF9.size;refine Gz 1 ?_;refine aW [(0,_),(5,_),(6,_),(7,_),(8,_),(50,_)] ?_;refine Gz 9 ?_;refine TF i64 aY rfl ?_;intro w10 ho10 hs10 hf10;obtain⟨pb,hpb⟩:∃ x,x=w9.heap.size:=⟨_,rfl⟩
 rw[←hpb] at ho10 ⊢;obtain⟨L,hL⟩:∃ L,L=(aS qs).tails:=⟨_,rfl⟩
 have hLn:L.length≤40:=by have:=hFI.tn;rw[W2] at this;rw[hL];omega
 have hLb:zR L:=by rw[hL];exact hFI.t
 have hdB:(aS qs).ds.B.length≤172800:=by have:=hFI.b;rw[W2] at this;omega
 have hs10b:w10.heap.size=w9.heap.size+1:=hs10;rw[←hL] at hP;refine Gz 10 ?_;refine S4 (β:=(Nat×(DS×List Int))×((Nat→Prop)×(Option Addr×Nat))) (fun⟨⟨j,⟨d9,pl9⟩⟩,⟨D9,⟨po,pc⟩⟩⟩=>[(0,.slice lo qs.length lc),(5,pT gm),(6,pT g7),(7,pT g8),(14,.slice po pl9.length pc),(15,iV j)]) (fun⟨⟨j,⟨d9,pl9⟩⟩,⟨D9,⟨po,pc⟩⟩⟩ w=>j≤L.length∧eF (L.take j) (aS qs).ds=(d9,pl9)∧w9.heap.size≤w.heap.size∧RyO D9 w.heap g7 64 d9∧uY D8 w.heap g8 L∧(∀ k,D9 k→v4.heap.size≤k∧k<w.heap.size)∧(∀ k,D9 k→¬ D8 k)∧Own i64 3 w.heap po pc pl9∧(∀ k,blk po k→v4.heap.size≤k∧¬ D9 k∧¬ D8 k)∧bL 11 oY 88 w.heap (some ⟨gf,0,none⟩) (qs.length+1) (aS qs).files∧aA (· = gf) v4 w) (fun⟨⟨j,⟨d9,pl9⟩⟩,⟨D9,⟨po,pc⟩⟩⟩=>L.length-j) ⟨⟨0,⟨(aS qs).ds,[]⟩⟩,⟨D7,⟨some ⟨pb,0,none⟩,0⟩⟩⟩ ⟨rfl,rfl,rfl,rfl,rfl,rfl,trivial⟩ ⟨WU _,rfl,by omega,hM.WH hf10 (fun _ _ _=>id),hP.WH hf10 (fun _ _=>id),fun k h=>by have:=hd7 k h;omega,hd78,ho10,fun k ⟨a,ha,e⟩=>by cases ha;have e:pb=k:=e;exact⟨by omega,fun h=>by have:=hd7 k h;omega,fun h=>by have:=hd8 k h;omega⟩,hFf.WG hf10,hF9.trans hf10.any⟩ ?_;rintro⟨⟨j,⟨d9,pl9⟩⟩,⟨D9,⟨po,pc⟩⟩⟩ w11 ⟨hj,htl,hz911,hM9,hPr,hd9,hd98,hpo,hpd,hFl,hF11⟩;obtain⟨Din,ao,ac,gs,hgT,hgo,hrw,_⟩:=id hPr;have hgl:=hrw.1;have hg63:=hgo.vw.WF;refine fK 7 ?_ ?_<;>intro h102
 ·have hjl:j<L.length:=by omega
  have hjg:j<gs.length:=by omega
  obtain⟨t,ht⟩:∃ t,L[j]?=some t:=⟨_,WK hjl⟩
  obtain⟨g,hg⟩:∃ g,gs[j]?=some g:=⟨_,WK hjg⟩
  obtain⟨hgn,hgv,_⟩:=hrw.2 j g t hg ht;have htb:=hLb t (WQ ht);have htk:L.take (j+1)=L.take j++[t]:=tkL ht;have hsn:=sS (L.take j) t (aS qs).ds;rw[←htk,htl] at hsn;have hdb9:d9.B.length≤200000:=by have h:=Fj (L:=L.take j) (fun b hb=>hLb b (XL hb)) (aS qs).ds;rw[htl,WR] at h;have h:d9.B.length≤_:=h;omega
  have hplj:pl9.length=j:=by have h:=kC (L.take j) (aS qs).ds;rw[htl,WR] at h;have h:pl9.length=_:=h;omega
  refine Gz 1 ?_;refine aW [(0,_),(5,_),(6,_),(7,_),(14,_),(15,_),(102,_)] ?_;refine Gz 11 ?_;refine cL (SY lL rfl rfl hgo.vw.non (by omega)) ?_;refine cL (S3 (u:=.slice g.a t.length g.c) (S2 aL rfl (by rw[Xm];exact hgo.vw.get j g hg)) (by rw[←hgn];rfl)) ?_;refine SZ SA rfl (CU D9 g7 64 d9 g.a g.c t w11 hM9 hgv (by decide) (by omega) htb.2) rfl ?_;obtain⟨R,hR⟩:∃ R,R=kO 64 d9 t:=⟨_,rfl⟩
  rw[←hR] at hsn ⊢;rintro _ w12 ⟨rfl,hM12,hf12⟩;have hz12:=hf12.size;have hpo12:=hpo.WH hf12 (fun a ha h=>(hpd _ ⟨a,ha,rfl⟩).2.1 h);have hP12:=hPr.WH hf12 (fun k hk h=>hd98 k h hk);refine TB (enc:=i64) (u:=(R.2:Int)) aY rfl rfl rfl ?_;intro w13 ho13 hs13 hf13;refine S8 jB aY rfl rfl (hpo12.WG hf13) ho13.vw (by simp only[WP];omega) (by simp only[WP];unfold maxLen;omega) rfl ?_;intro po14 pc14 w14 ho14 hf14 hr14 hn14;have hz13:=hf13.size;have hz14:=hf14.size;have hnx:∀ k,Nx D9 w11 w12 k→v4.heap.size≤k∧k<w14.heap.size∧¬ D8 k∧¬ blk po k:=fun k hk=>by
   rcases hk with h|h
   ·have:=hd9 k h;exact⟨by omega,by omega,hd98 k h,fun hb=>(hpd k hb).2.1 h⟩
   ·exact⟨by omega,by omega,fun h2=>by have:=hd8 k h2;omega,fun⟨a,ha,e⟩=>by have:=hpo.lt a ha;omega⟩
  have hM14:=(hM12.WH hf13 (fun _ _ _=>id)).WH hf14 (fun k _ hk=>(hnx k hk).2.2.2);have hP14:=(hP12.WH hf13 (fun _ _=>id)).WH hf14 (fun k hk hb=>(hpd k hb).2.2 hk);have hF14:aA (· = gf) v4 w14:=((hF11.WD hf12 (fun k h=>.inr (hd9 k h).1)).trans hf13.any).WD hf14 (fun k h=>.inr (hpd k h).1);have hpd14:∀ k,blk po14 k→v4.heap.size≤k∧¬ Nx D9 w11 w12 k∧¬ D8 k:=fun k ⟨a,ha,e⟩=>by
   rcases hr14 a ha with h|h
   ·have:=hpd k ⟨a,h,e⟩;exact⟨this.1,fun h2=>(hnx k h2).2.2.2 ⟨a,h,e⟩,this.2.2⟩
   ·exact⟨by omega,fun h2=>by rcases h2 with h2|h2;have:=hd9 k h2;omega;omega,fun h2=>by have:=hd8 k h2;omega⟩
  refine Gz 9 ?_;exact aG ⟨⟨j+1,⟨R.1,pl9++[(R.2:Int)]⟩⟩,⟨Nx D9 w11 w12,⟨po14,pc14⟩⟩⟩ ⟨by omega,hsn,by omega,hM14,hP14,fun k hk=>by have:=hnx k hk;omega,fun k hk=>(hnx k hk).2.2.1,ho14,hpd14,((hFl.WH hf12 (fun a ha h=>by cases ha;have:=hd9 gf h;omega)).WG hf13).WH hf14 (fun a ha h=>by cases ha;have:=(hpd gf h).1;omega),hF14⟩ (by show L.length-(j+1)<L.length-j;omega)
 have hje:j=L.length:=by omega
 subst hje;rw[Xl] at htl;refine Gz 1 ?_;refine aW [(0,_),(5,_),(6,_),(7,_),(14,_),(15,_),(102,_)] ?_;refine Gz 10 ?_;have hz11:=hF11.size;have hAll:=Cf G hIds;have hGd:=G.gdB hFI.l (DA hFI);have htl2:eF (aS qs).tails (aS qs).ds=(d9,pl9):=by rw[←hL];exact htl
 have hpl9:pl9.length=L.length:=by have h:=kC L (aS qs).ds;rw[htl] at h;exact h
 obtain⟨ow0,how⟩:∃ f:Nat→Nat,f=fun k=>if k=gm then 6 else if k=gr then 5 else if k<v4.heap.size then 4 else 0:=⟨_,rfl⟩
 have o6:ow0 gm=6:=by rw[how];exact WJ rfl
 have o4:∀ k,k<v4.heap.size→k≠gm→k≠gr→ow0 k=4:=fun k h1 h2 h3=>by rw[how];show (if k=gm then 6 else if k=gr then 5 else if k<v4.heap.size then 4 else 0)=4;rw[WI h2,WI h3,WJ h1]
 have o0:∀ k,v4.heap.size≤k→ow0 k=0:=fun k h=>by rw[how];show (if k=gm then 6 else if k=gr then 5 else if k<v4.heap.size then 4 else 0)=0;rw[WI (by omega),WI (by omega),WI (by omega)]
 have o5:ow0 gr=5:=by rw[how];show (if gr=gm then 6 else if gr=gr then 5 else if gr<v4.heap.size then 4 else 0)=5;rw[WI (by omega),WJ rfl]
 have hn0:∀ k,w11.heap.size≤k→ow0 k=0:=fun k hk=>o0 k (by omega);have hnd11:aO (fun k=>ow0 k=4) w11.heap lo lc qs:=cZ hvq4 hF11 (fun k hk h=>by have h:k=gf:=h;have hk:k<W.heap.size:=hk;omega) (fun _ k hk h=>by have h:k=gf:=h;have:=hlo1 k hk;omega) (fun k hk=>o4 k (by omega) (by omega) (by omega));have hI11:=hI4.WH hF11 (fun a ha h=>by have h:a.block=gf:=h;exact absurd h (hnF a ha));have hR11:=hR4.WH hF11 (fun a ha h=>by cases ha;exact hrf h.symm);have hgm11:=hF11.obj hgm (fun h=>by have h:gm=gf:=h;omega);obtain⟨a0,ha0⟩:∃ a:BiA,a=⟨lo,lc,io,ic,none,0,none,0,none,0,none,0,none,0,none,0,some ⟨gr,0,none⟩,qs.length+1,some ⟨gf,0,none⟩,qs.length+1,none,0,none,0,[]⟩:=⟨_,rfl⟩
 have hW0:∀ z,WrM ow0 z w11.heap [] none 0 none 0:=fun z=>by
  have e:aP [] []=(([]:By),([]:By)):=cJ (by decide);unfold WrM;rw[e];exact⟨V8,V8,V4,fun k ⟨a,ha,_⟩=>(by cases ha),fun k ⟨a,ha,_⟩=>(by cases ha)⟩
 have hBi:BiW a0 ow0 w11.heap gm qs ids (aS qs).files (lH (qs.length+1)):=by
  have e:aP [] []=(([]:By),([]:By)):=cJ (by decide);subst ha0;refine⟨?_,o6,⟨hnd11,fun _ k hk=>o4 k (by have:=hlo1 k hk;omega) (by have:=hlo1 k hk;omega) (by have:=hlo1 k hk;omega)⟩,⟨hI11.vw,fun k ⟨a,ha,e⟩=>o4 k (by have:=hI3l a ha;omega) (by have:=hI3l a ha;omega) (by have:=hnI a ha;omega)⟩,⟨hFl.vw dX,fun k ⟨a,ha,e⟩=>by cases ha;have e:gf=k:=e;rw[←e];exact o4 gf (by omega) (by omega) hrf⟩,hW0 1,hW0 2,hW0 3,⟨hR11,fun k ⟨a,ha,e⟩=>by cases ha;have e:gr=k:=e;rw[←e];exact o5⟩,⟨V8,fun k ⟨a,ha,_⟩=>(by cases ha)⟩,⟨rfl,fun i h y hh _=>(by cases hh)⟩,V8,fun k ⟨a,ha,_⟩=>(by cases ha)⟩;unfold biK;rw[hFI.l];have e1:(lH (qs.length+1)).refs.length=qs.length+1:=Xt;rw[e1];show w11.heap[gm]?=some (.cells (biC _ _ (.slice none (aP [] []).1.length 0) (.slice none (aP [] []).2.length 0) (.slice none (aP [] []).1.length 0) (.slice none (aP [] []).2.length 0) (.slice none (aP [] []).1.length 0) (.slice none (aP [] []).2.length 0) _ _ _ _ _).toArray _ _);rw[e];exact hgm11
 have hok0:okS qs (lH (qs.length+1)):=⟨Xt,⟨fun z hz=>by rw[hrep z hz];decide,fun y hy=>(by cases hy)⟩,fun y hy=>(by cases hy)⟩
 refine SZ O5 rfl (Am gm qs ids (aS qs).files hGd 17 a0 ow0 (lH (qs.length+1)) ((0:Nat):Int) w11 hBi hn0 ⟨by omega,by omega⟩ (by omega) hok0 hAll.b) rfl ?_;rintro _ w15 hP15;obtain⟨S,hS⟩:∃ S,S=wrB qs ids (aS qs).files 17 ((0:Nat):Int) (lH (qs.length+1)):=⟨_,rfl⟩
 rw[←hS] at hP15;obtain⟨hf15,a15,ow15,hM15,hl15,hn15,hbr15⟩:=hP15;have hz15:=hf15.size;have hAs:(aK qs ids).s=S:=hS.symm;have hAd:(aK qs ids).d=d9:=by show (eF (aS qs).tails (aS qs).ds).1=d9;rw[htl2]
 have hAp:(aK qs ids).pl=pl9:=by show (eF (aS qs).tails (aS qs).ds).2=pl9;rw[htl2]
 have hAm:=hAll.m;have hAi:=hAll.i;have hAl:=hAll.l;have hAf:=hAll.f;rw[hAs] at hAm hAi hAl hAf;have hAn4:=hAll.n4;have hAn2:=hAll.n2;rw[hAp] at hAn4;have hv15:=hnd11.1.keep' hf15 (fun hne a ha h=>h.2 (o4 a.block (by have:=hlo1 _ ⟨a,ha,rfl⟩;omega) (by have:=hlo1 _ ⟨a,ha,rfl⟩;omega) (by have:=hlo1 _ ⟨a,ha,rfl⟩;omega)));have hd9o:∀ k,D9 k→¬ Lb ow0 k:=fun k hk h=>h.1 (o0 k (hd9 k hk).1);have hM15b:=hM9.WH hf15 (fun k _ hk=>hd9o k hk);have hpo15:=hpo.WH hf15 (fun a ha h=>h.1 (o0 _ (hpd _ ⟨a,ha,rfl⟩).1));have hFw:aA nob w1 w15:=(hG4.any (S:=nob)).WD ((hF11.mono (S':=fun k=>k=gf∨Lb ow0 k) (fun k h=>.inl h)).WD hf15 (fun k h=>.inl (.inr h))) (fun k h=>.inr (by rcases h with h|h;omega;have h2:=h.1;have h3:=h.2;by_cases hk:k<w1.heap.size;exact absurd (o4 k (by omega) (by omega) (by omega)) h3;omega));refine Gz 4 ?_;refine cL (TC (cs:=#[sN,sN]) MN KL rfl (by kernel_rfl)) ?_;refine S5 KL rfl ?_;intro w16 hg16 hs16 hf16;obtain⟨gA,hgA⟩:∃ x,x=w15.heap.size:=⟨_,rfl⟩
 rw[←hgA] at hg16 ⊢;refine sA rfl Ng (by simp[Value.oneCell']) hg16 ?_;intro w17 hg17 hs17 hf17;have hf1517:aA nob w15 w17:=hf16.tw hf17;have hA17:=RwO.zero hg17;have hs16b:w16.heap.size=w15.heap.size+1:=hs16;have hs17b:w17.heap.size=w16.heap.size:=hs17;refine Gz 5 ?_;refine SZ O4 rfl (uE po pc pl9 4 w17 (hpo15.WG hf1517).vw (by omega)) rfl ?_;rintro _ w18 ⟨o18,c18,rfl,ho18,hfr18,hf18⟩;have hz18:=hf18.size;refine Gz 10 ?_;refine SZ JL rfl (As (· = gA) gA [] o18 c18 (aJ pl9 4).1 w18 (hA17.WH hf18 (fun _ _=>id)) ho18.vw (fun _ k ⟨a,ha,e⟩ h=>by have:=hfr18 a ha;have h:k=gA:=h;omega) (by simp only[WZ];omega)) rfl ?_;rw[Xi];rintro _ w19 ⟨_,hA19,hf19⟩;have hz19:=hf19.size;refine Gz 4 ?_;refine cL (TC (cs:=#[sN,sN]) MN KL rfl (by kernel_rfl)) ?_;refine S5 KL rfl ?_;intro w20 hg20 hs20 hf20;obtain⟨gB,hgB⟩:∃ x,x=w19.heap.size:=⟨_,rfl⟩
 rw[←hgB] at hg20 ⊢;refine sA rfl Ng (by simp[Value.oneCell']) hg20 ?_;intro w21 hg21 hs21 hf21;have hf1921:aA nob w19 w21:=hf20.tw hf21;have hB21:=RwO.zero hg21;have hs20b:w20.heap.size=w19.heap.size+1:=hs20;have hs21b:w21.heap.size=w20.heap.size:=hs21;have hA21:=hA19.WH hf1921 (fun _ _=>id);have hf1519:aA (· = gA) w15 w19:=(((hf1517.trans hf18).any)).trans hf19;have hf1521:aA (· = gA) w15 w21:=hf1519.trans hf1921.any;have hn15s:∀ k,w15.heap.size≤k→ow15 k=0:=hn15;have hM21:=hM15.WH hf1521 (fun k hk h=>hk (by have h:k=gA:=h;exact hn15 k (by omega))) (fun _ _=>rfl);refine Gz 7 ?_;refine cL (S2 kY rfl (aD hM21.1 rfl)) ?_;refine SZ O4 rfl (uE a15.io a15.ic ids 2 w21 hM21.2.2.2.1.1 (by omega)) rfl ?_;rintro _ w22 ⟨o22,c22,rfl,ho22,hfr22,hf22⟩;have hz22:=hf22.size;refine Gz 9 ?_;refine SZ JL rfl (As (· = gB) gB [] o22 c22 (aJ ids 2).1 w22 (hB21.WH hf22 (fun _ _=>id)) ho22.vw (fun _ k ⟨a,ha,e⟩ h=>by have:=hfr22 a ha;have h:k=gB:=h;omega) (by simp only[WZ];omega)) rfl ?_;rw[Xi];rintro _ w23 ⟨_,hB23,hf23⟩;have hz23:=hf23.size;have hnB:∀ k,ow15 k≠0→¬ k=gB:=fun k hk h=>hk (hn15 k (by omega));have hM23:=(hM21.WG hf22).WH hf23 (fun k hk h=>hnB k hk h) (fun _ _=>rfl);have hA23:=(hA21.WH hf22 (fun _ _=>id)).WH hf23 (fun k hk h=>by have h:k=gB:=h;rcases hk with h2|h2;have h2:k=gA:=h2;omega;omega);have hf1523:aA (fun k=>k=gA∨k=gB) w15 w23:=((hf1521.mono (fun k h=>.inl h)).trans hf22.any).trans (hf23.mono (fun k h=>.inr h));have hM23b:=hM15b.WH hf1523 (fun k hk _ h=>by rcases h with h|h<;>omega);have hv23:=hv15.keep' hf1523 (fun hne a ha h=>by have:=hlo1 _ ⟨a,ha,rfl⟩;rcases h with h|h<;>omega);obtain⟨r0,hr0,hr0n,hr0k⟩:=G.root;have hi0:=G.ino r0 (WQ hr0);obtain⟨m0,hm0⟩:=XB (show 0≤r0.2.ino by omega);have hrl:S.refs.length=qs.length+1:=by have h:=(pI (qs:=qs) (ids:=ids) (files:=(aS qs).files) 17 ((0:Nat):Int) (lH (qs.length+1))).r;rw[←hS] at h;rw[h];exact Xt
 have hz0:0≤S.refs.getD m0 0∧S.refs.getD m0 0≤1152921504606846977:=hbr15.1 _ (by rw[WW,WK (by omega)];exact XE _);refine Gz 3 ?_;refine Tc 24 (fun H=>H[gm]?=some (.cells (biK a15 qs ids (aS qs).files S).toArray 81 (0,0))∧VwM 10 aE H lo lc qs∧Vw i64 H a15.ro a15.rc S.refs) [23,24] [0,1,2,3,4,5,6,7,8,9,10,11,12,13,14,15,16,17,18,19,20,21,22,23,24] aI (by kernel_rfl) (⟨hM23.1,hv23,hM23.2.2.2.2.2.2.2.2.1.1.vw⟩) ?_;refine Gz 16 ?_;refine xC rfl (S1 aQ rfl rfl hv23.non (by omega)) ?_;refine Gz 1 ?_;refine xC rfl (S9 aF rfl (fun H hH=>hH.2.1.rowZ 0 rfl hr0 1 _ rfl)) ?_;refine xC rfl (SY aY rfl rfl hM23.2.2.2.2.2.2.2.2.1.1.vw.non (by omega)) ?_;refine xC rfl (S9 aF rfl (fun H hH=>hH.2.2.gz 0 m0 hm0 (by omega))) ?_;refine Gz 1 ?_;refine xC rfl (bU (sU 0 S.many 0 0 0 0 0 ids.length pl9.length (S.refs.getD m0 0-1)) qX qH) ?_;refine S7 rfl rfl (S5 qH rfl ?_);intro w24 hg24 hs24 hf24;have hf24:=hf24.WE;obtain⟨gS,hgS⟩:∃ x,x=w23.heap.size:=⟨_,rfl⟩
 rw[show (w23.drewN 1).heap.size=gS from hgS.symm] at hg24 ⊢;refine Tg (by exact⟨(hM23.WG hf24).1,hv23.WG hf24,(hM23.WG hf24).2.2.2.2.2.2.2.2.1.1.vw⟩) ?_;refine S7 rfl rfl (Te (vs:=sU 0 S.many 0 0 0 0 0 ids.length pl9.length (S.refs.getD m0 0-1)) dT rfl rfl (Nr _ _ _ _ _ _ _ _ _ _) hg24 rfl ?_);intro w25 hg25 hs25 hf25;refine Tx rfl ?_;have hf2325:aA nob w23 w25:=hf24.tw hf25;have hM25:=hM23.WG hf2325;have hA25:=hA23.WH hf2325 (fun _ _=>id);have hB25:=hB23.WH hf2325 (fun _ _=>id);have hM25b:=hM23b.WH hf2325 (fun _ _ _=>id);have hs24b:w24.heap.size=w23.heap.size+1:=hs24;have hs25b:w25.heap.size=w24.heap.size:=hs25;obtain⟨bo,bc,ro,rc,ys,hg7c,hB7,_⟩:=hM25b;have hg7c25:=hg7c;obtain⟨dI,hdI⟩:∃ d,d=dnW S.ino:=⟨_,rfl⟩
 obtain⟨dL,hdL⟩:∃ d,d=dnW S.lst:=⟨_,rfl⟩
 obtain⟨dP,hdP⟩:∃ d,d=dnW (aJ pl9 4).1:=⟨_,rfl⟩
 obtain⟨dD,hdD⟩:∃ d,d=dnW (aJ ids 2).1:=⟨_,rfl⟩
 obtain⟨dF,hdF⟩:∃ d,d=dnW S.fur:=⟨_,rfl⟩
 have q1:gN (aK qs ids)=d9.B:=by unfold gN;rw[hAd]
 have q2:gM (aK qs ids)=d9.B++dI:=by unfold gM;rw[q1,hAs,←hdI]
 have q3:iC (aK qs ids)=d9.B++dI++dL:=by unfold iC;rw[q2,hAs,←hdL]
 have q4:iI (aK qs ids)=d9.B++dI++dL++dP:=by unfold iI;rw[q3,hAp,←hdP]
 have q5:iY (aK qs ids) ids=d9.B++dI++dL++dP++dD:=by unfold iY;rw[q4,←hdD]
 have q6:gL (aK qs ids) ids=d9.B++dI++dL++dP++dD++dF:=by unfold gL;rw[q5,hAs,←hdF]
 have p1:=hAll.o1;have p2:=hAll.o2;have p3:=hAll.o3;have p4:=hAll.o4;have p5:=hAll.o5;have p6:=hAll.o6;rw[q1] at p1;rw[q2] at p2;rw[q3] at p3;rw[q4] at p4;rw[q5] at p5;rw[q6] at p6;have hsup:fM qs ids (aK qs ids)=fun j=>[64+(((d9.B++dI++dL++dP++dD++dF).length:Nat):Int),S.many,64+((d9.B.length:Nat):Int),64+(((d9.B++dI).length:Nat):Int),64+(((d9.B++dI++dL).length:Nat):Int),64+(((d9.B++dI++dL++dP).length:Nat):Int),64+(((d9.B++dI++dL++dP++dD).length:Nat):Int),ids.length,pl9.length,S.refs.getD m0 0-1].getD j 0:=by
  have hnd0:(ndB qs 0).ino.toNat=m0:=by rw[show ndB qs 0=ndB qs ((0:Nat):Int) from rfl,eI hr0];omega
  unfold fM;rw[q1,q2,q3,q4,q5,q6,hAs,hAp,hnd0]
 obtain⟨A1,hA1⟩:∃ x,x=d9.B:=⟨_,rfl⟩
 obtain⟨A2,hA2⟩:∃ x,x=A1++dI:=⟨_,rfl⟩
 obtain⟨A3,hA3⟩:∃ x,x=A2++dL:=⟨_,rfl⟩
 obtain⟨A4,hA4⟩:∃ x,x=A3++dP:=⟨_,rfl⟩
 obtain⟨A5,hA5⟩:∃ x,x=A4++dD:=⟨_,rfl⟩
 obtain⟨A6,hA6⟩:∃ x,x=A5++dF:=⟨_,rfl⟩
 rw[←hA1,←hA2,←hA3,←hA4,←hA5,←hA6] at hsup;rw[←hA1,←hA2,←hA3,←hA4,←hA5,←hA6] at p6 q6;rw[←hA1,←hA2,←hA3,←hA4,←hA5] at p5;rw[←hA1,←hA2,←hA3,←hA4] at p4;rw[←hA1,←hA2,←hA3] at p3;rw[←hA1,←hA2] at p2;rw[←hA1] at p1 hg7c25 hB7;have hW25:aA nob w1 w25:=(hFw.WD hf1523 (fun k h=>.inr (by have:=hFw.size;rcases h with h|h<;>omega))).trans hf2325;have hzW:=hFw.size;refine Gz 4 ?_;refine TF b8 aH rfl ?_;intro w26 ho26 hs26 hf26;obtain⟨gO,hgO⟩:∃ x,x=w25.heap.size:=⟨_,rfl⟩
 rw[←hgO] at ho26 ⊢;refine Gz 1 ?_;refine cL (S2 aL rfl (aD (hf26.obj hg7c25 id) rfl)) ?_;refine S8 aN aH rfl rfl ho26 (hB7.WG hf26).vw (by simp only[WZ];omega) (by simp only[WZ];unfold maxLen;omega) rfl ?_;intro o27 c27 w27 ho27 hf27 hr27 hn27;rw[Xi] at ho27 ⊢;have hfr27:Fr w25.heap.size o27:=fun a ha=>by rcases hr27 a ha with h|h;cases h;exact Nat.le_of_eq hgO.symm;exact Xf hf26.size h
 have hf2527:aA nob w25 w27:=hf26.WD hf27 (fun k ⟨a,ha,e⟩=>.inr (by cases ha;have e:gO=k:=e;omega));have hgS27:=hf2527.obj hg25 id;have hn27:∀ a,o27=some a→a.block≠gS:=fun a ha=>by have:=hfr27 a ha;omega
 refine Gz 9 ?_;refine S6 aF rfl rfl rfl hgS27 rfl ?_;intro w28 hgS28 hs28 hf28;have ho28:=ho27.WH hf28 (fun a ha h=>hn27 a ha h);have hf2528:aA (· = gS) w25 w28:=hf2527.any.trans hf28;have hs28b:w28.heap.size=w27.heap.size:=hs28;have hz27:=hf2527.size;have hM28:=hM25.WH hf2528 (fun k hk h=>hk (by have h:k=gS:=h;exact hn15 k (by omega))) (fun _ _=>rfl);refine Gz 8 ?_;refine SZ JK rfl (nN (F3 a15 qs ids (aS qs).files S) _ gm S.ino w28 hM28.rwi1 (by omega)) rfl ?_;rintro _ w29 ⟨o29,c29,rfl,ho29,hfr29,hf29⟩;have ho29:Own b8 5 w29.heap o29 c29 dI:=by rw[hdI];exact ho29
 have h29:(frW S.ino (nF S.ino))=dI:=hdI.symm;rw[h29];refine S8 aN aH rfl rfl (ho28.WG hf29) ho29.vw (by rw[hA2,WM] at p2;omega) (by rw[hA2,WM] at p2;unfold maxLen;omega) rfl ?_;intro o30 c30 w30 ho30 hf30 hr30 hn30;rw[←hA2] at ho30 ⊢;have hfr30:Fr w25.heap.size o30:=fun a ha=>by rcases hr30 a ha with h|h;exact hfr27 a h;have:=hf29.size;omega
 have hnS30:∀ a,o30=some a→a.block≠gS:=fun a ha=>by rcases hr30 a ha with h|h;exact hn27 a h;have:=hf29.size;omega
 have hgS30:=hf30.obj (hf29.obj hgS28 id) (fun⟨a,ha,e⟩=>hn27 a ha e);have hf2530:aA (· = gS) w25 w30:=(hf2528.trans hf29.any).WD hf30 (fun k ⟨a,ha,e⟩=>.inr (by have:=hfr27 a ha;omega));have hz30:=hf2530.size;refine Gz 9 ?_;refine S6 aF rfl rfl rfl hgS30 rfl ?_;intro w31 hgS31 hs31 hf31;have ho31:=ho30.WH hf31 (fun a ha h=>hnS30 a ha h);have hf2531:aA (· = gS) w25 w31:=hf2530.trans hf31;have hs31b:w31.heap.size=w30.heap.size:=hs31;have hM31:=hM25.WH hf2531 (fun k hk h=>hk (by have h:k=gS:=h;exact hn15 k (by omega))) (fun _ _=>rfl);refine Gz 8 ?_;refine SZ JK rfl (nN (F1 a15 qs ids (aS qs).files S) _ gm S.lst w31 hM31.rwi2 (by omega)) rfl ?_;rintro _ w32 ⟨o32,c32,rfl,ho32,hfr32,hf32⟩;have ho32:Own b8 5 w32.heap o32 c32 dL:=by rw[hdL];exact ho32
 have h32:(frW S.lst (nF S.lst))=dL:=hdL.symm;rw[h32];refine S8 aN aH rfl rfl (ho31.WG hf32) ho32.vw (by rw[hA3,WM] at p3;omega) (by rw[hA3,WM] at p3;unfold maxLen;omega) rfl ?_;intro o33 c33 w33 ho33 hf33 hr33 hn33;rw[←hA3] at ho33 ⊢;have hfr33:Fr w25.heap.size o33:=fun a ha=>by rcases hr33 a ha with h|h;exact hfr30 a h;have:=hf32.size;omega
 have hnS33:∀ a,o33=some a→a.block≠gS:=fun a ha=>by rcases hr33 a ha with h|h;exact hnS30 a h;have:=hf32.size;omega
 have hgS33:=hf33.obj (hf32.obj hgS31 id) (fun⟨a,ha,e⟩=>hnS30 a ha e);have hf2533:aA (· = gS) w25 w33:=(hf2531.trans hf32.any).WD hf33 (fun k ⟨a,ha,e⟩=>.inr (by have:=hfr30 a ha;omega));have hz33:=hf2533.size;refine Gz 9 ?_;refine S6 aF rfl rfl rfl hgS33 rfl ?_;intro w34 hgS34 hs34 hf34;have ho34:=ho33.WH hf34 (fun a ha h=>hnS33 a ha h);have hf2534:aA (· = gS) w25 w34:=hf2533.trans hf34;have hs34b:w34.heap.size=w33.heap.size:=hs34;have hA34:=hA25.WH hf2534 (fun k hk h=>by have h:k=gS:=h;rcases hk with h2|h2;have h2:k=gA:=h2;omega;omega);refine Gz 5 ?_;refine SZ JK rfl (wR _ gA (aJ pl9 4).1 w34 hA34 (by omega)) rfl ?_;rintro _ w35 ⟨o35,c35,rfl,ho35,hfr35,hf35⟩;have ho35:Own b8 5 w35.heap o35 c35 dP:=by rw[hdP];exact ho35
 have h35:(frW (aJ pl9 4).1 (nF (aJ pl9 4).1))=dP:=hdP.symm;rw[h35];refine S8 aN aH rfl rfl (ho34.WG hf35) ho35.vw (by rw[hA4,WM] at p4;omega) (by rw[hA4,WM] at p4;unfold maxLen;omega) rfl ?_;intro o36 c36 w36 ho36 hf36 hr36 hn36;rw[←hA4] at ho36 ⊢;have hfr36:Fr w25.heap.size o36:=fun a ha=>by rcases hr36 a ha with h|h;exact hfr33 a h;have:=hf35.size;omega
 have hnS36:∀ a,o36=some a→a.block≠gS:=fun a ha=>by rcases hr36 a ha with h|h;exact hnS33 a h;have:=hf35.size;omega
 have hgS36:=hf36.obj (hf35.obj hgS34 id) (fun⟨a,ha,e⟩=>hnS33 a ha e);have hf2536:aA (· = gS) w25 w36:=(hf2534.trans hf35.any).WD hf36 (fun k ⟨a,ha,e⟩=>.inr (by have:=hfr33 a ha;omega));have hz36:=hf2536.size;refine Gz 9 ?_;refine S6 aF rfl rfl rfl hgS36 rfl ?_;intro w37 hgS37 hs37 hf37;have ho37:=ho36.WH hf37 (fun a ha h=>hnS36 a ha h);have hf2537:aA (· = gS) w25 w37:=hf2536.trans hf37;have hs37b:w37.heap.size=w36.heap.size:=hs37;have hB37:=hB25.WH hf2537 (fun k hk h=>by have h:k=gS:=h;rcases hk with h2|h2;have h2:k=gB:=h2;omega;omega);refine Gz 5 ?_;refine SZ JK rfl (wR _ gB (aJ ids 2).1 w37 hB37 (by omega)) rfl ?_;rintro _ w38 ⟨o38,c38,rfl,ho38,hfr38,hf38⟩;have ho38:Own b8 5 w38.heap o38 c38 dD:=by rw[hdD];exact ho38
 have h38:(frW (aJ ids 2).1 (nF (aJ ids 2).1))=dD:=hdD.symm;rw[h38];refine S8 aN aH rfl rfl (ho37.WG hf38) ho38.vw (by rw[hA5,WM] at p5;omega) (by rw[hA5,WM] at p5;unfold maxLen;omega) rfl ?_;intro o39 c39 w39 ho39 hf39 hr39 hn39;rw[←hA5] at ho39 ⊢;have hfr39:Fr w25.heap.size o39:=fun a ha=>by rcases hr39 a ha with h|h;exact hfr36 a h;have:=hf38.size;omega
 have hnS39:∀ a,o39=some a→a.block≠gS:=fun a ha=>by rcases hr39 a ha with h|h;exact hnS36 a h;have:=hf38.size;omega
 have hgS39:=hf39.obj (hf38.obj hgS37 id) (fun⟨a,ha,e⟩=>hnS36 a ha e);have hf2539:aA (· = gS) w25 w39:=(hf2537.trans hf38.any).WD hf39 (fun k ⟨a,ha,e⟩=>.inr (by have:=hfr36 a ha;omega));have hz39:=hf2539.size;refine Gz 9 ?_;refine S6 aF rfl rfl rfl hgS39 rfl ?_;intro w40 hgS40 hs40 hf40;have ho40:=ho39.WH hf40 (fun a ha h=>hnS39 a ha h);have hf2540:aA (· = gS) w25 w40:=hf2539.trans hf40;have hs40b:w40.heap.size=w39.heap.size:=hs40;have hM40:=hM25.WH hf2540 (fun k hk h=>hk (by have h:k=gS:=h;exact hn15 k (by omega))) (fun _ _=>rfl);refine Gz 8 ?_;refine SZ JK rfl (nN (FZ a15 qs ids (aS qs).files S) _ gm S.fur w40 hM40.rwi3 (by omega)) rfl ?_;rintro _ w41 ⟨o41,c41,rfl,ho41,hfr41,hf41⟩;have ho41:Own b8 5 w41.heap o41 c41 dF:=by rw[hdF];exact ho41
 have h41:(frW S.fur (nF S.fur))=dF:=hdF.symm;rw[h41];refine S8 aN aH rfl rfl (ho40.WG hf41) ho41.vw (by rw[hA6,WM] at p6;omega) (by rw[hA6,WM] at p6;unfold maxLen;omega) rfl ?_;intro o42 c42 w42 ho42 hf42 hr42 hn42;rw[←hA6] at ho42 ⊢;have hfr42:Fr w25.heap.size o42:=fun a ha=>by rcases hr42 a ha with h|h;exact hfr39 a h;have:=hf41.size;omega
 have hnS42:∀ a,o42=some a→a.block≠gS:=fun a ha=>by rcases hr42 a ha with h|h;exact hnS39 a h;have:=hf41.size;omega
 have hgS42:=hf42.obj (hf41.obj hgS40 id) (fun⟨a,ha,e⟩=>hnS39 a ha e);have hf2542:aA (· = gS) w25 w42:=(hf2540.trans hf41.any).WD hf42 (fun k ⟨a,ha,e⟩=>.inr (by have:=hfr39 a ha;omega));have hz42:=hf2542.size;refine Gz 9 ?_;refine S6 aF rfl rfl rfl hgS42 rfl ?_;intro w43 hgS43 hs43 hf43;have ho43:=ho42.WH hf43 (fun a ha h=>hnS42 a ha h);have hf2543:aA (· = gS) w25 w43:=hf2542.trans hf43;have hs43b:w43.heap.size=w42.heap.size:=hs43;have hW43:aA nob w1 w43:=hW25.tw hf2543;have hgS43:w43.heap[gS]?=some (.cells (cM (fM qs ids (aK qs ids))).toArray 44 (0,0)):=by rw[hsup];exact hgS43
 refine Gz 6 ?_;refine cL (S3 (u:=iV (64+(A6.length:Int))) (S2 aF rfl (aD (i:=0) hgS43 rfl)) (by rw[hsup];rfl)) ?_;refine fK 0 ?_ ?_<;>intro h212
 ·have hib:pY qs ids=([],3):=by unfold pY;rw[q6,WJ h212]
  refine Gz 12 ?_;refine⟨_,rfl,.inr ⟨hz,?_⟩⟩;rw[←hqs];exact⟨ids,none,0,hIds,by rw[hib];rfl,by rw[hib];exact V8,V6,hf1.trans hW43⟩
 have hib:pY qs ids=((eU (fM qs ids (aK qs ids))).1++A6,0):=by unfold pY;rw[q6,WI h212]
 refine Gz 7 ?_;refine cL (Tf (cs:=cM (fM qs ids (aK qs ids))) dT rfl (bI hgS43 0 rfl)) ?_;refine cA 0 Sw (Ip (fM qs ids (aK qs ids)) w43) ?_;rintro _ w44 ⟨o44,c44,rfl,ho44,hfr44,hf44⟩;have hpsl:(eU (fM qs ids (aK qs ids))).1.length≤64:=by unfold eU;split;exact Nat.le_of_eq (qO _);exact WU _
 refine Gz 11 ?_;refine S8 aN aH rfl rfl ho44 (ho43.WG hf44).vw (by omega) (by unfold maxLen;omega) rfl ?_;intro o45 c45 w45 ho45 hf45 hr45 hn45;refine Gz 6 ?_;have hfin:aA nob W w45:=((hf1.trans hW43).trans hf44).WD hf45 (fun k ⟨a,ha,e⟩=>.inr (by have:=hfr44 a ha;have:=(hf1.trans hW43).size;omega));refine⟨_,rfl,.inr ⟨hz,?_⟩⟩;rw[←hqs];exact⟨ids,o45,c45,hIds,by rw[hib],by rw[hib];exact ho45,fun a ha=>by have:=(hf1.trans hW43).size;rcases hr45 a ha with h|h;have:=hfr44 a h;omega;have:=hf44.size;omega,hfin⟩
end
section
open Go Go.RowKit Go.Maps
def MQ(n:Nd):Nd:={ n with names:=n.names.take 18,data:=n.data.take 1500,xs:=n.xs.take 10 }
def bZ(p:NdH×Nd):NdH×Nd:=(⟨iK p.1.names 18,iK p.1.data 1500,iK p.1.xs 10⟩,MQ p.2)
def nB(ps:List (NdH×Nd)):List (NdH×Nd):=(ps.take 40).map bZ
variable {D:Nat→Prop}
theorem NdV.mfew{H:Array Obj}{p:NdH×Nd}(v:NdV D H p):NdV D H (bZ p):=⟨v.1.cut 18,v.2.1.cut 1500,v.2.2.cut 10⟩
theorem smN.mfew{n:Nd}(h:smN n):smN (MQ n):=⟨h.1,fun s hs=>h.2.1 s (XL hs),fun x hx=>h.2.2 x (XL hx)⟩
theorem Jb(ps:List (NdH×Nd)):(nB ps).length≤40:=by unfold nB;rw[W2,WR];omega
theorem nP{ps:List (NdH×Nd)}{i:Nat}{p:NdH×Nd}(hp:ps[i]?=some p):(ps.take (i+1)).map bZ=(ps.take i).map bZ++[bZ p]:=by rw[tkL hp];simp
theorem LO(lo:Option Addr)(lc:Nat)(ps:List (NdH×Nd))(W:World)(hv:aO D W.heap lo lc ps) :
 CA 9 [.slice lo ps.length lc] W fun v w'=>∃ o c,v=.slice o (nB ps).length c∧bL 10 aE 37 w'.heap o c (nB ps)∧Fr W.heap.size o∧aA nob W w'∧aO D w'.heap o c (nB ps):=by
 have h63:=hv.1.WF;refine cS 50 [(0,_)] Tryz.func9 ?_;refine Gz 7 ?_;refine TT aB aQ rfl ?_;intro w1 ho1 hs1 hf1;refine Gz 10 ?_;refine S4 (β:=Nat×Option Addr×Nat) (fun⟨i,o,c⟩=>[(0,.slice lo ps.length lc),(3,.slice o ((ps.take i).map bZ).length c),(4,iV i)]) (fun⟨i,o,c⟩ w=>i≤ps.length∧i≤40∧bL 10 aE 37 w.heap o c ((ps.take i).map bZ)∧Fr W.heap.size o∧aA nob W w) (fun⟨i,o,c⟩=>ps.length-i) ⟨0,some ⟨W.heap.size,0,none⟩,0⟩ ⟨rfl,rfl,rfl,trivial⟩ ⟨WU _,WU _,ho1,fun a ha=>by cases ha;exact WT _,hf1⟩ ?_;rintro⟨i,o,c⟩ w2 ⟨hi,hi60,ho2,hfo,hF2⟩;refine fK 6 ?_ ?_<;>intro h10
 ·refine fW 2 ?_ ?_<;>intro h13
  ·have hil:i<ps.length:=by omega
   obtain⟨p,hp⟩:∃ p,ps[i]?=some p:=⟨_,WK hil⟩
   have hpm:=WQ hp;have hv2:=hv.WG hF2;refine Gz 2 ?_;refine aW [(0,_),(3,_),(4,_),(14,_)] ?_;refine Gz 10 ?_;refine cL (S1 aQ rfl rfl hv2.1.non (by omega)) ?_;refine cL (Tf (cs:=aE p) aZ rfl (fun j v hj=>hv2.1.rowZ i rfl hp j v hj)) ?_;refine S5 eY rfl ?_;intro w3 hg3 hs3 hf3;obtain⟨q,hq⟩:∃ q,q=w2.heap.size:=⟨_,rfl⟩
   rw[←hq] at hg3 ⊢;have hqW:W.heap.size≤q:=by rw[hq];exact hF2.size
   refine Te (vs:=aE p) aZ rfl rfl (aB p).2 hg3 rfl ?_;intro w4 hg4 hs4 hf4;have hf24:aA nob w2 w4:=hf3.WD hf4 (fun k e=>.inr (by have e:k=q:=e;omega));have hF4:aA nob W w4:=hF2.trans hf24;have hn4:=(hv.WG hF4).2 p hpm;have ho4:=ho2.WG hf24;have hoq:∀ a,o=some a→¬ a.block=q:=fun a ha=>by have:=ho2.lt a ha;omega
   refine fK 8 ?_ ?_<;>intro h24
   ·refine Gz 6 ?_;refine cL (S3 (u:=hd ⟨p.1.names.a,18,p.1.names.c⟩) (Tl jH rfl rfl (by have:=hn4.1.2.1.le;have:=hn4.1.1;omega)) (by rw[aV];rfl)) ?_;refine Gz 1 ?_;refine S6 dW rfl rfl rfl hg4 rfl ?_;intro w5 hg5 hs5 hf5;have hgA:w5.heap[q]?=some (.cells (aE ((⟨iK p.1.names 18,p.1.data,p.1.xs⟩:NdH),p.2)).toArray 37 (0,0)):=by rw[eD (by omega)];exact hg5
    have hF5:aA nob W w5:=hF4.WD hf5 (fun k e=>.inr (by have e:k=q:=e;omega));have ho5:=ho4.WH hf5 hoq;refine Gz 6 ?_;have hn5:=(hv.WG hF5).2 p hpm;refine cL (S3 (u:=hd p.1.data) (S2 aL rfl (aD hgA rfl)) rfl) ?_;refine fK 1 ?_ ?_<;>intro h32
    ·refine Gz 5 ?_;refine cL (S3 (u:=hd p.1.data) (S2 aL rfl (aD hgA rfl)) rfl) ?_;refine cL (S3 (u:=hd ⟨p.1.data.a,1500,p.1.data.c⟩) (Tl aH rfl rfl (by have:=hn5.2.1.2.1.le;have:=hn5.2.1.1;omega)) (by rw[aV];rfl)) ?_;refine Gz 1 ?_;refine S6 aL rfl rfl rfl hgA rfl ?_;intro w6 hg6 hs6 hf6;have hgB:w6.heap[q]?=some (.cells (aE ((⟨iK p.1.names 18,iK p.1.data 1500,p.1.xs⟩:NdH),p.2)).toArray 37 (0,0)):=by rw[eD (n:=1500) (by omega)];exact hg6
     have hF6:aA nob W w6:=hF5.WD hf6 (fun k e=>.inr (by have e:k=q:=e;omega));have ho6:=ho5.WH hf6 hoq;refine Gz 6 ?_;have hn6:=(hv.WG hF6).2 p hpm;refine cL (S3 (u:=hd p.1.xs) (S2 cK rfl (aD hgB rfl)) rfl) ?_;refine fK 1 ?_ ?_<;>intro h40
     ·refine Gz 5 ?_;refine cL (S3 (u:=hd p.1.xs) (S2 cK rfl (aD hgB rfl)) rfl) ?_;refine cL (S3 (u:=hd ⟨p.1.xs.a,10,p.1.xs.c⟩) (Tl gZ rfl rfl (by obtain⟨k1,ys,k2,k3,_⟩:=hn6.2.2;have:=k2.le;omega)) (by rw[aV];rfl)) ?_;refine Gz 1 ?_;refine S6 cK rfl rfl rfl hgB rfl ?_;intro w7 hg7 hs7 hf7;have hgC:w7.heap[q]?=some (.cells (aE (bZ p)).toArray 37 (0,0)):=by unfold bZ;rw[eD (n:=10) (by omega)];exact hg7
      have hF7:aA nob W w7:=hF6.WD hf7 (fun k e=>.inr (by have e:k=q:=e;omega));have ho7:=ho6.WH hf7 hoq;refine Gz 4 ?_;refine cL (Tf (cs:=aE (bZ p)) aZ rfl (bI hgC 0 rfl)) ?_;obtain⟨y,hy⟩:∃ y,y=bZ p:=⟨_,rfl⟩
      rw[←hy];refine Tu aQ (cs:=(aE y).toArray) eY rfl rfl rfl (by kernel_rfl) rfl ?_;intro w8 hg8 hs8 hf8;have ho8:bL 10 aE 37 w8.heap (some ⟨w7.heap.size,0,none⟩) 1 [y]:=bS (xs:=[y]) aB (by simpa using hg8) (by show 1≤maxLen;decide);refine Th aB rfl aQ rfl rfl (ho7.WG hf8) (ho8.vw aB) (by simp only[WP,W2,WR];omega) (by simp only[WP,W2,WR];unfold maxLen;omega) rfl ?_;intro o9 c9 w9 ho9 hf9 hr9 hn9;rw[hy,←nP hp] at ho9 ⊢;have hF9:aA nob W w9:=(hF7.trans hf8).WD hf9 hfo.step;have hfo9:Fr W.heap.size o9:=cU hfo hr9 (by have:=hF7.size;have:=hf8.size;omega);refine Gz 9 ?_;exact aG ⟨i+1,o9,c9⟩ ⟨by omega,by omega,ho9,hfo9,hF9⟩ (by show ps.length-(i+1)<ps.length-i;omega)
     have hgC:w6.heap[q]?=some (.cells (aE (bZ p)).toArray 37 (0,0)):=by unfold bZ;rw[gC (n:=10) (by omega)];exact hgB
     have hF7:=hF6;have ho7:=ho6
     rename World=>w7
     refine Gz 7 ?_;refine cL (Tf (cs:=aE (bZ p)) aZ rfl (bI hgC 0 rfl)) ?_;obtain⟨y,hy⟩:∃ y,y=bZ p:=⟨_,rfl⟩
     rw[←hy];refine Tu aQ (cs:=(aE y).toArray) eY rfl rfl rfl (by kernel_rfl) rfl ?_;intro w8 hg8 hs8 hf8;have ho8:bL 10 aE 37 w8.heap (some ⟨w7.heap.size,0,none⟩) 1 [y]:=bS (xs:=[y]) aB (by simpa using hg8) (by show 1≤maxLen;decide);refine Th aB rfl aQ rfl rfl (ho7.WG hf8) (ho8.vw aB) (by simp only[WP,W2,WR];omega) (by simp only[WP,W2,WR];unfold maxLen;omega) rfl ?_;intro o9 c9 w9 ho9 hf9 hr9 hn9;rw[hy,←nP hp] at ho9 ⊢;have hF9:aA nob W w9:=(hF7.trans hf8).WD hf9 hfo.step;have hfo9:Fr W.heap.size o9:=cU hfo hr9 (by have:=hF7.size;have:=hf8.size;omega);refine Gz 9 ?_;exact aG ⟨i+1,o9,c9⟩ ⟨by omega,by omega,ho9,hfo9,hF9⟩ (by show ps.length-(i+1)<ps.length-i;omega)
    have hgB:w5.heap[q]?=some (.cells (aE ((⟨iK p.1.names 18,iK p.1.data 1500,p.1.xs⟩:NdH),p.2)).toArray 37 (0,0)):=by rw[gC (n:=1500) (by omega)];exact hgA
    have hF6:=hF5;have ho6:=ho5
    rename World=>w6
    refine Gz 9 ?_;have hn6:=(hv.WG hF6).2 p hpm;refine cL (S3 (u:=hd p.1.xs) (S2 cK rfl (aD hgB rfl)) rfl) ?_;refine fK 1 ?_ ?_<;>intro h40
    ·refine Gz 5 ?_;refine cL (S3 (u:=hd p.1.xs) (S2 cK rfl (aD hgB rfl)) rfl) ?_;refine cL (S3 (u:=hd ⟨p.1.xs.a,10,p.1.xs.c⟩) (Tl gZ rfl rfl (by obtain⟨k1,ys,k2,k3,_⟩:=hn6.2.2;have:=k2.le;omega)) (by rw[aV];rfl)) ?_;refine Gz 1 ?_;refine S6 cK rfl rfl rfl hgB rfl ?_;intro w7 hg7 hs7 hf7;have hgC:w7.heap[q]?=some (.cells (aE (bZ p)).toArray 37 (0,0)):=by unfold bZ;rw[eD (n:=10) (by omega)];exact hg7
     have hF7:aA nob W w7:=hF6.WD hf7 (fun k e=>.inr (by have e:k=q:=e;omega));have ho7:=ho6.WH hf7 hoq;refine Gz 4 ?_;refine cL (Tf (cs:=aE (bZ p)) aZ rfl (bI hgC 0 rfl)) ?_;obtain⟨y,hy⟩:∃ y,y=bZ p:=⟨_,rfl⟩
     rw[←hy];refine Tu aQ (cs:=(aE y).toArray) eY rfl rfl rfl (by kernel_rfl) rfl ?_;intro w8 hg8 hs8 hf8;have ho8:bL 10 aE 37 w8.heap (some ⟨w7.heap.size,0,none⟩) 1 [y]:=bS (xs:=[y]) aB (by simpa using hg8) (by show 1≤maxLen;decide);refine Th aB rfl aQ rfl rfl (ho7.WG hf8) (ho8.vw aB) (by simp only[WP,W2,WR];omega) (by simp only[WP,W2,WR];unfold maxLen;omega) rfl ?_;intro o9 c9 w9 ho9 hf9 hr9 hn9;rw[hy,←nP hp] at ho9 ⊢;have hF9:aA nob W w9:=(hF7.trans hf8).WD hf9 hfo.step;have hfo9:Fr W.heap.size o9:=cU hfo hr9 (by have:=hF7.size;have:=hf8.size;omega);refine Gz 9 ?_;exact aG ⟨i+1,o9,c9⟩ ⟨by omega,by omega,ho9,hfo9,hF9⟩ (by show ps.length-(i+1)<ps.length-i;omega)
    have hgC:w6.heap[q]?=some (.cells (aE (bZ p)).toArray 37 (0,0)):=by unfold bZ;rw[gC (n:=10) (by omega)];exact hgB
    have hF7:=hF6;have ho7:=ho6
    rename World=>w7
    refine Gz 7 ?_;refine cL (Tf (cs:=aE (bZ p)) aZ rfl (bI hgC 0 rfl)) ?_;obtain⟨y,hy⟩:∃ y,y=bZ p:=⟨_,rfl⟩
    rw[←hy];refine Tu aQ (cs:=(aE y).toArray) eY rfl rfl rfl (by kernel_rfl) rfl ?_;intro w8 hg8 hs8 hf8;have ho8:bL 10 aE 37 w8.heap (some ⟨w7.heap.size,0,none⟩) 1 [y]:=bS (xs:=[y]) aB (by simpa using hg8) (by show 1≤maxLen;decide);refine Th aB rfl aQ rfl rfl (ho7.WG hf8) (ho8.vw aB) (by simp only[WP,W2,WR];omega) (by simp only[WP,W2,WR];unfold maxLen;omega) rfl ?_;intro o9 c9 w9 ho9 hf9 hr9 hn9;rw[hy,←nP hp] at ho9 ⊢;have hF9:aA nob W w9:=(hF7.trans hf8).WD hf9 hfo.step;have hfo9:Fr W.heap.size o9:=cU hfo hr9 (by have:=hF7.size;have:=hf8.size;omega);refine Gz 9 ?_;exact aG ⟨i+1,o9,c9⟩ ⟨by omega,by omega,ho9,hfo9,hF9⟩ (by show ps.length-(i+1)<ps.length-i;omega)
   have hgA:w4.heap[q]?=some (.cells (aE ((⟨iK p.1.names 18,p.1.data,p.1.xs⟩:NdH),p.2)).toArray 37 (0,0)):=by rw[gC (by omega)];exact hg4
   have hF5:=hF4;have ho5:=ho4
   rename World=>w5
   refine Gz 9 ?_;have hn5:=(hv.WG hF5).2 p hpm;refine cL (S3 (u:=hd p.1.data) (S2 aL rfl (aD hgA rfl)) rfl) ?_;refine fK 1 ?_ ?_<;>intro h32
   ·refine Gz 5 ?_;refine cL (S3 (u:=hd p.1.data) (S2 aL rfl (aD hgA rfl)) rfl) ?_;refine cL (S3 (u:=hd ⟨p.1.data.a,1500,p.1.data.c⟩) (Tl aH rfl rfl (by have:=hn5.2.1.2.1.le;have:=hn5.2.1.1;omega)) (by rw[aV];rfl)) ?_;refine Gz 1 ?_;refine S6 aL rfl rfl rfl hgA rfl ?_;intro w6 hg6 hs6 hf6;have hgB:w6.heap[q]?=some (.cells (aE ((⟨iK p.1.names 18,iK p.1.data 1500,p.1.xs⟩:NdH),p.2)).toArray 37 (0,0)):=by rw[eD (n:=1500) (by omega)];exact hg6
    have hF6:aA nob W w6:=hF5.WD hf6 (fun k e=>.inr (by have e:k=q:=e;omega));have ho6:=ho5.WH hf6 hoq;refine Gz 6 ?_;have hn6:=(hv.WG hF6).2 p hpm;refine cL (S3 (u:=hd p.1.xs) (S2 cK rfl (aD hgB rfl)) rfl) ?_;refine fK 1 ?_ ?_<;>intro h40
    ·refine Gz 5 ?_;refine cL (S3 (u:=hd p.1.xs) (S2 cK rfl (aD hgB rfl)) rfl) ?_;refine cL (S3 (u:=hd ⟨p.1.xs.a,10,p.1.xs.c⟩) (Tl gZ rfl rfl (by obtain⟨k1,ys,k2,k3,_⟩:=hn6.2.2;have:=k2.le;omega)) (by rw[aV];rfl)) ?_;refine Gz 1 ?_;refine S6 cK rfl rfl rfl hgB rfl ?_;intro w7 hg7 hs7 hf7;have hgC:w7.heap[q]?=some (.cells (aE (bZ p)).toArray 37 (0,0)):=by unfold bZ;rw[eD (n:=10) (by omega)];exact hg7
     have hF7:aA nob W w7:=hF6.WD hf7 (fun k e=>.inr (by have e:k=q:=e;omega));have ho7:=ho6.WH hf7 hoq;refine Gz 4 ?_;refine cL (Tf (cs:=aE (bZ p)) aZ rfl (bI hgC 0 rfl)) ?_;obtain⟨y,hy⟩:∃ y,y=bZ p:=⟨_,rfl⟩
     rw[←hy];refine Tu aQ (cs:=(aE y).toArray) eY rfl rfl rfl (by kernel_rfl) rfl ?_;intro w8 hg8 hs8 hf8;have ho8:bL 10 aE 37 w8.heap (some ⟨w7.heap.size,0,none⟩) 1 [y]:=bS (xs:=[y]) aB (by simpa using hg8) (by show 1≤maxLen;decide);refine Th aB rfl aQ rfl rfl (ho7.WG hf8) (ho8.vw aB) (by simp only[WP,W2,WR];omega) (by simp only[WP,W2,WR];unfold maxLen;omega) rfl ?_;intro o9 c9 w9 ho9 hf9 hr9 hn9;rw[hy,←nP hp] at ho9 ⊢;have hF9:aA nob W w9:=(hF7.trans hf8).WD hf9 hfo.step;have hfo9:Fr W.heap.size o9:=cU hfo hr9 (by have:=hF7.size;have:=hf8.size;omega);refine Gz 9 ?_;exact aG ⟨i+1,o9,c9⟩ ⟨by omega,by omega,ho9,hfo9,hF9⟩ (by show ps.length-(i+1)<ps.length-i;omega)
    have hgC:w6.heap[q]?=some (.cells (aE (bZ p)).toArray 37 (0,0)):=by unfold bZ;rw[gC (n:=10) (by omega)];exact hgB
    have hF7:=hF6;have ho7:=ho6
    rename World=>w7
    refine Gz 7 ?_;refine cL (Tf (cs:=aE (bZ p)) aZ rfl (bI hgC 0 rfl)) ?_;obtain⟨y,hy⟩:∃ y,y=bZ p:=⟨_,rfl⟩
    rw[←hy];refine Tu aQ (cs:=(aE y).toArray) eY rfl rfl rfl (by kernel_rfl) rfl ?_;intro w8 hg8 hs8 hf8;have ho8:bL 10 aE 37 w8.heap (some ⟨w7.heap.size,0,none⟩) 1 [y]:=bS (xs:=[y]) aB (by simpa using hg8) (by show 1≤maxLen;decide);refine Th aB rfl aQ rfl rfl (ho7.WG hf8) (ho8.vw aB) (by simp only[WP,W2,WR];omega) (by simp only[WP,W2,WR];unfold maxLen;omega) rfl ?_;intro o9 c9 w9 ho9 hf9 hr9 hn9;rw[hy,←nP hp] at ho9 ⊢;have hF9:aA nob W w9:=(hF7.trans hf8).WD hf9 hfo.step;have hfo9:Fr W.heap.size o9:=cU hfo hr9 (by have:=hF7.size;have:=hf8.size;omega);refine Gz 9 ?_;exact aG ⟨i+1,o9,c9⟩ ⟨by omega,by omega,ho9,hfo9,hF9⟩ (by show ps.length-(i+1)<ps.length-i;omega)
   have hgB:w5.heap[q]?=some (.cells (aE ((⟨iK p.1.names 18,iK p.1.data 1500,p.1.xs⟩:NdH),p.2)).toArray 37 (0,0)):=by rw[gC (n:=1500) (by omega)];exact hgA
   have hF6:=hF5;have ho6:=ho5
   rename World=>w6
   refine Gz 9 ?_;have hn6:=(hv.WG hF6).2 p hpm;refine cL (S3 (u:=hd p.1.xs) (S2 cK rfl (aD hgB rfl)) rfl) ?_;refine fK 1 ?_ ?_<;>intro h40
   ·refine Gz 5 ?_;refine cL (S3 (u:=hd p.1.xs) (S2 cK rfl (aD hgB rfl)) rfl) ?_;refine cL (S3 (u:=hd ⟨p.1.xs.a,10,p.1.xs.c⟩) (Tl gZ rfl rfl (by obtain⟨k1,ys,k2,k3,_⟩:=hn6.2.2;have:=k2.le;omega)) (by rw[aV];rfl)) ?_;refine Gz 1 ?_;refine S6 cK rfl rfl rfl hgB rfl ?_;intro w7 hg7 hs7 hf7;have hgC:w7.heap[q]?=some (.cells (aE (bZ p)).toArray 37 (0,0)):=by unfold bZ;rw[eD (n:=10) (by omega)];exact hg7
    have hF7:aA nob W w7:=hF6.WD hf7 (fun k e=>.inr (by have e:k=q:=e;omega));have ho7:=ho6.WH hf7 hoq;refine Gz 4 ?_;refine cL (Tf (cs:=aE (bZ p)) aZ rfl (bI hgC 0 rfl)) ?_;obtain⟨y,hy⟩:∃ y,y=bZ p:=⟨_,rfl⟩
    rw[←hy];refine Tu aQ (cs:=(aE y).toArray) eY rfl rfl rfl (by kernel_rfl) rfl ?_;intro w8 hg8 hs8 hf8;have ho8:bL 10 aE 37 w8.heap (some ⟨w7.heap.size,0,none⟩) 1 [y]:=bS (xs:=[y]) aB (by simpa using hg8) (by show 1≤maxLen;decide);refine Th aB rfl aQ rfl rfl (ho7.WG hf8) (ho8.vw aB) (by simp only[WP,W2,WR];omega) (by simp only[WP,W2,WR];unfold maxLen;omega) rfl ?_;intro o9 c9 w9 ho9 hf9 hr9 hn9;rw[hy,←nP hp] at ho9 ⊢;have hF9:aA nob W w9:=(hF7.trans hf8).WD hf9 hfo.step;have hfo9:Fr W.heap.size o9:=cU hfo hr9 (by have:=hF7.size;have:=hf8.size;omega);refine Gz 9 ?_;exact aG ⟨i+1,o9,c9⟩ ⟨by omega,by omega,ho9,hfo9,hF9⟩ (by show ps.length-(i+1)<ps.length-i;omega)
   have hgC:w6.heap[q]?=some (.cells (aE (bZ p)).toArray 37 (0,0)):=by unfold bZ;rw[gC (n:=10) (by omega)];exact hgB
   have hF7:=hF6;have ho7:=ho6
   rename World=>w7
   refine Gz 7 ?_;refine cL (Tf (cs:=aE (bZ p)) aZ rfl (bI hgC 0 rfl)) ?_;obtain⟨y,hy⟩:∃ y,y=bZ p:=⟨_,rfl⟩
   rw[←hy];refine Tu aQ (cs:=(aE y).toArray) eY rfl rfl rfl (by kernel_rfl) rfl ?_;intro w8 hg8 hs8 hf8;have ho8:bL 10 aE 37 w8.heap (some ⟨w7.heap.size,0,none⟩) 1 [y]:=bS (xs:=[y]) aB (by simpa using hg8) (by show 1≤maxLen;decide);refine Th aB rfl aQ rfl rfl (ho7.WG hf8) (ho8.vw aB) (by simp only[WP,W2,WR];omega) (by simp only[WP,W2,WR];unfold maxLen;omega) rfl ?_;intro o9 c9 w9 ho9 hf9 hr9 hn9;rw[hy,←nP hp] at ho9 ⊢;have hF9:aA nob W w9:=(hF7.trans hf8).WD hf9 hfo.step;have hfo9:Fr W.heap.size o9:=cU hfo hr9 (by have:=hF7.size;have:=hf8.size;omega);refine Gz 9 ?_;exact aG ⟨i+1,o9,c9⟩ ⟨by omega,by omega,ho9,hfo9,hF9⟩ (by show ps.length-(i+1)<ps.length-i;omega)
  refine Gz 2 ?_;refine aW [(0,_),(3,_),(4,_),(14,_)] ?_;refine Gz 15 ?_;have e:ps.take i=ps.take 40:=by
   by_cases k:i=40
   ·rw[k]
   ·rw[WY (by omega),WY (by omega)]
  rw[e] at ho2 ⊢;refine⟨_,rfl,o,c,rfl,ho2,hfo,hF2,ho2.vw aB,fun p hp=>?_⟩;obtain⟨r,hr,rfl⟩:=Xq.1 hp;exact((hv.WG hF2).2 r (XL hr)).mfew
 refine Gz 5 ?_;refine aW [(0,_),(3,_),(4,_),(14,_)] ?_;refine Gz 15 ?_;have e:ps.take i=ps.take 40:=by
  by_cases k:i=40
  ·rw[k]
  ·rw[WY (by omega),WY (by omega)]
 rw[e] at ho2 ⊢;refine⟨_,rfl,o,c,rfl,ho2,hfo,hF2,ho2.vw aB,fun p hp=>?_⟩;obtain⟨r,hr,rfl⟩:=Xq.1 hp;exact((hv.WG hF2).2 r (XL hr)).mfew
theorem GC{qs:List (NdH×Nd)}{ids:List Int}(G:GdT qs)(I:mX qs ids)(h1:qs.length≤3):64+((gL (aK qs ids) ids).length:Int)≤1048576:=by
 have F:=BZ (qs:=qs) (fun q hq=>⟨G.ino q hq,(G.may q hq).2.2.2.2.2.2.1⟩);obtain⟨S,e,hI,hB,_⟩:=oV G I F;have e:(aK qs ids).s=S:=e;have hA:=Cf G I;have hm:S.many≤4:=by
  have h1:=List.length_filter_le (fun r:Int=>decide (0<r)) S.refs;rw[hI.many];unfold uT;rw[hI.rl] at h1;omega
 have h2:=hI.bi;have h3:S.lst.length≤10440*S.many:=hB;have h4:=hI.bf;have hT:=F.tn;have hFB:=F.b;rw[W2] at hT hFB;have hb:=Fj F.t (aS qs).ds;have n4:=hA.n4;have n2:=hA.n2;have d1:=pH (aK qs ids).s.ino;have d2:=pH (aK qs ids).s.lst;have d3:=pH (aJ (aK qs ids).pl 4).1;have d4:=pH (aJ ids 2).1;have d5:=pH (aK qs ids).s.fur;rw[e] at d1 d2 d5;have l1:(gN (aK qs ids)).length=(eF (aS qs).tails (aS qs).ds).1.B.length:=rfl;have l2:(gM (aK qs ids)).length=(gN (aK qs ids)).length+(dnW (aK qs ids).s.ino).length:=WM;have l3:(iC (aK qs ids)).length=(gM (aK qs ids)).length+(dnW (aK qs ids).s.lst).length:=WM;have l4:(iI (aK qs ids)).length=(iC (aK qs ids)).length+(dnW (aJ (aK qs ids).pl 4).1).length:=WM;have l5:(iY (aK qs ids) ids).length=(iI (aK qs ids)).length+(dnW (aJ ids 2).1).length:=WM;have l6:(gL (aK qs ids) ids).length=(iY (aK qs ids) ids).length+(dnW (aK qs ids).s.fur).length:=WM;rw[e] at l2 l3 l6;omega
theorem Lp{D:Nat→Prop}(H:Array Obj):NdV D H bY:=
 ⟨⟨rfl,V7 0 (WU _),fun h=>absurd rfl h⟩,⟨rfl,V7 0 (WU _),fun h=>absurd rfl h⟩,⟨rfl,[],⟨WU _,WU _,fun h=>absurd rfl h,fun i x hx=>by simp at hx⟩,rfl,fun h=>absurd rfl h,fun i x y hx=>by simp at hx⟩⟩
theorem Jf{qs:List (NdH×Nd)}{ids:List Int}(M:ImB qs ids)(hall:∀ m:Nat,1≤m→m≤qs.length→∃ q∈qs,q.2.ino.toNat=m):(aK qs ids).s.many=qs.length:=by
 obtain⟨h,h2⟩:=M.st;show (stB qs ids).many=qs.length;rw[h.many];unfold uT;have hl:=h.rl;have h0:¬ 0<(stB qs ids).refs.getD 0 0:=fun hc=>by
  obtain⟨k,q,i,xr,o,hq,hi,_⟩:=h.std 0 hc;have:=M.G.ino q (WQ hq);omega
 have hp:∀ m:Nat,1≤m→m≤qs.length→0<(stB qs ids).refs.getD m 0:=fun m h1 hm=>by
  obtain⟨q,hq,e⟩:=hall m h1 hm;rw[←e];exact h2 q hq
 generalize (stB qs ids).refs=L at hl h0 hp ⊢
 match L,hl with
|x::r,hl=>
   rw[List.filter_cons_of_neg (by simpa using h0),List.filter_eq_self.2 (fun z hz=>?_)]
   ·rw[W7] at hl;omega
   · obtain⟨i,hi⟩:=W8 hz
     have hil:=(WN.1 hi).1;rw[W7] at hl;have h:=hp (i+1) (by omega) (by omega);rw[WW,List.getElem?_cons_succ,hi] at h;simpa using h
theorem Dz:∀ (L:List Nd) (s:FSt),(∀ x∈L,x.kind≠2)→L.foldl dS s=s
|[],_,_=>rfl
|x::r,s,h=>by
   rw[XZ,nW (.inl (h x (by simp)))];exact Dz r s (fun y hy=>h y (by simp[hy]))
theorem Ju{l:List Int}(hp:l.Pairwise (· < ·))(h:∀ z∈l,z=0):l.length≤1:=by
 match l,hp,h with
|[],_,_=>exact WU _
|[_],_,_=>exact WT _
|a::b::_,hp,h=>
   have h1:=h a (by simp);have h2:=h b (by simp);have h3:=(List.pairwise_cons.1 hp).1 b (by simp);omega
theorem HE:jU [bY]=[bY]:=by
 unfold jU;rw[show jG [bY]=[bY] from List.mergeSort_singleton _];rfl
theorem Is{ids:List Int}(M:ImB [bY] ids):(fM [bY] ids (aK [bY] ids)) 1=1∧(fM [bY] ids (aK [bY] ids)) 7=1∧(fM [bY] ids (aK [bY] ids)) 8=0∧(fM [bY] ids (aK [bY] ids)) 2=64:=by
 have ef:aS [bY]=⟨⟨[],[]⟩,[],Xe 2 cI⟩:=Dz [bY.2] _ (fun x hx=>by rw[Xg] at hx;subst hx;decide);have e1:=Jf M (fun m h1 hm=>⟨bY,by simp,by have:m≤1:=hm;show (1:Int).toNat=m;omega⟩);have e2:ids.length=1:=by
  have h1:=M.ids0.1;have h2:=Ju M.I.1 (fun z hz=>by have h:=(M.I.2 z).1 hz;simpa[iP,bY,nd0] using h);omega
 refine⟨?_,?_,?_,?_⟩
 · show ((aK [bY] ids).s.many:Int)=1
   rw[e1];rfl
 · show (ids.length:Int)=1
   rw[e2];rfl
 · show (((eF (aS [bY]).tails (aS [bY]).ds).2.length:Nat):Int)=0
   rw[ef];rfl
 · show 64+(((eF (aS [bY]).tails (aS [bY]).ds).1.B.length:Nat):Int)=64
   rw[ef];rfl
theorem HF(W:World):Calls Tryz.prog 8 #[] W (Ret fun v w'=>v=.bool true∧aA nob W w'):=by
 refine cS 44 [] Tryz.func8 ?_;refine Gz 7 ?_;refine cL (bU (aE bY) OL eY) ?_;refine Tu aQ (cs:=(aE bY).toArray) eY rfl rfl rfl (by kernel_rfl) rfl ?_;intro w2 hg2 hs2 hf2;have ho2:bL 10 aE 37 w2.heap (some ⟨W.heap.size,0,none⟩) 1 [bY]:=bS (xs:=[bY]) aB (by simpa using hg2) (by show 1≤maxLen;decide);refine SZ Qa rfl (AC (some ⟨W.heap.size,0,none⟩) 1 [bY] w2 ⟨ho2.vw aB,by simp only[Xg];rintro p rfl;exact Lp _⟩ (by simp only[Xg];rintro p rfl;exact Ln) (by simp only[Xg];rintro p rfl;exact Lo) (by decide)) rfl ?_;rintro _ w3 hB;obtain⟨hz,ids,o3,c3,hIds,rfl,ho3,hfr3,hf3⟩:=hB.resolve_left (fun h=>h.1 DR);have hG:=EN DR (by decide);rw[HE] at hG hIds ho3 ⊢;have M:ImB [bY] ids:=⟨hG,hIds,GC hG hIds (by decide)⟩
 rw[M.img] at ho3 ⊢;obtain⟨s1,s2,s3,s4⟩:=Is M;have himl:(imB [bY] ids).length≤1048576:=by unfold imB;rw[WM,qO];have:=M.sz;omega
 obtain⟨F,hF⟩:∃ F,F=fM [bY] ids (aK [bY] ids):=⟨_,rfl⟩
 have hsp:=M.sup;rw[←hF] at hsp s1 s2 s3 s4;refine cA 9 PQ (Bb w3) ?_;rintro _ w4 ⟨rfl,hf4⟩;refine S5 KM rfl ?_;intro w5 hg5 hs5 hf5;refine Te (vs:=tab) yU rfl rfl Bo hg5 (by rw[vB,Xt]) ?_;intro w6 hg6 hs6 hf6;obtain⟨tp,hp⟩:∃ p,p=w4.heap.size:=⟨_,rfl⟩
 have hF6:aA nob w3 w6:=(hf4.trans hf5).WD hf6 (fun k hk=>.inr (by have h:k=w4.heap.size:=hk;have:=hf4.size;omega));rw[←hp] at hg6 ⊢;have ht6:TbV w6.heap tp:=hg6;refine Gz 5 ?_;refine SZ SN rfl (GA tp o3 c3 (imB [bY] ids) w6 ht6 (ho3.WG hF6).vw (by omega)) rfl ?_;rw[hsp];rintro _ w7 ⟨rfl,hf7⟩;refine Gz 3 ?_;refine S5 qH rfl ?_;intro w8 hg8 hs8 hf8;obtain⟨b,eb⟩:∃ b,b=w7.heap.size:=⟨_,rfl⟩
 rw[←eb] at hg8 ⊢;refine sA rfl dT (by exact fR _) hg8 ?_;intro w9 hg9 hs9 hf9;have hF9:aA nob w7 w9:=hf8.tw hf9;refine Gz 6 ?_;refine cL (TY (TU rfl rfl) rfl) ?_;refine Gz 2 ?_;refine cW (TY (TU rfl rfl) rfl) ?_;refine Gz 3 ?_;refine cW (S2 aF rfl (aD (i:=1) hg9 rfl)) ?_;refine cW (TY (TU rfl rfl) s1) ?_;refine Gz 3 ?_;refine cW (S2 aF rfl (aD (i:=7) hg9 rfl)) ?_;refine cW (TY (TU rfl rfl) s2) ?_;refine Gz 3 ?_;refine cW (S2 aF rfl (aD (i:=8) hg9 rfl)) ?_;refine cW (TY (TU rfl rfl) s3) ?_;refine Gz 3 ?_;refine cW (S2 aF rfl (aD (i:=2) hg9 rfl)) ?_;refine cW (TY (TU rfl rfl) s4) ?_;refine Gz 6 ?_;exact⟨_,rfl,rfl,(((hf2.trans hf3).trans hF6).trans hf7).trans hF9⟩
end
section
open Go Go.RowKit Go.Maps
def MD(ps:List (NdH×Nd))(r:By×Int):Prop:=(chk (nds ps)≠0∧r=([],chk (nds ps)))∨(chk (nds ps)=0∧∃ ids,mX (jU ps) ids∧r=pY (jU ps) ids)
theorem MD.uniq{ps:List (NdH×Nd)}{r t:By×Int}(h:MD ps r)(k:MD ps t):r=t:=by
 rcases h with⟨h1,rfl⟩|⟨h1,i,hi,rfl⟩
 · rcases k with⟨_,rfl⟩|⟨k1,_⟩
   ·rfl
   ·exact absurd k1 h1
 · rcases k with⟨k1,_⟩|⟨_,j,hj,rfl⟩
   ·exact absurd h1 k1
   ·rw[hi.eq hj]
theorem BuP.res{W w':World}{ps:List (NdH×Nd)}{v:Value}(h:BuP W ps v w'):∃ (r:By×Int) (o:Option Addr) (c:Nat),v=.tuple #[.slice o r.1.length c,iV r.2]∧MD ps r∧Own b8 5 w'.heap o c r.1∧Fr W.heap.size o∧aA nob W w':=by
 rcases h with⟨h1,rfl,h2⟩|⟨h1,ids,o,c,h2,rfl,h3,h4,h5⟩
 ·exact⟨([],chk (nds ps)),none,0,rfl,.inl ⟨h1,rfl⟩,V8,V6,h2⟩
 ·exact⟨_,o,c,rfl,.inr ⟨h1,ids,h2,rfl⟩,h3,h4,h5⟩
theorem aO.old{W w:World}{o:Option Addr}{c:Nat}{ps:List (NdH×Nd)}(h:aO (fun k=>k<W.heap.size) w.heap o c ps)(hs:W.heap.size≤w.heap.size):aO (fun k=>k<w.heap.size) w.heap o c ps:=⟨h.1,fun p hp=>(h.2 p hp).mono (fun k hk=>Xz hk hs)⟩
theorem LE{ps:List (NdH×Nd)}(h:∀ p∈ps,okN p.2∧smN p.2):∀ p∈nB ps,okN p.2:=by
 intro p hp;obtain⟨q,hq,rfl⟩:=Xq.1 hp;exact(h q (XL hq)).1
theorem Fy{ps:List (NdH×Nd)}(h:∀ p∈ps,okN p.2∧smN p.2):∀ p∈nB ps,smN p.2:=by
 intro p hp;obtain⟨q,hq,rfl⟩:=Xq.1 hp;exact(h q (XL hq)).2.mfew
theorem yQ(a0:Option Addr)(cap0:Nat)(x0:List (NdH×Nd))(W:World)(hv0:aO (fun k=>k<W.heap.size) W.heap a0 cap0 x0)(hw0:∀ p∈x0,okN p.2∧smN p.2) :
 CA 3 [.slice a0 x0.length cap0] W fun v w'=>v=.bool true∧aA nob W w':=by
 have hfl:=Jb x0;refine cS 45 [(0,_)] Tryz.func3 ?_;refine cA 7 fn8 (HF W) ?_;rintro _ w1 ⟨rfl,hf1⟩;refine cA 6 fn9 (LO a0 cap0 x0 w1 (hv0.WG hf1)) ?_;rintro _ w2 ⟨o,c,rfl,ho,hfo,hf2,hvf⟩;have hz1:=hf1.size;have hz2:=hf2.size;refine Gz 5 ?_;refine TT aB aQ rfl ?_;intro w3 ho3 hs3 hf3;have hvf3:=hvf.WG hf3;refine Gz 1 ?_;refine Th aB rfl aQ rfl rfl ho3 hvf3.1 (by simp only[WZ];omega) (by simp only[WZ];unfold maxLen;omega) rfl ?_;intro o4 c4 w4 ho4 hf4 hr4 hn4;rw[Xi] at ho4 ⊢;have hf24:aA nob w2 w4:=hf3.WD hf4 (mP _).step;have hvf4:=hvf.WG hf24;have hvo:aO (fun k=>k<W.heap.size) w4.heap o4 c4 (nB x0):=⟨ho4.vw aB,hvf4.2⟩
 have hz4:=hf24.size;refine Gz 6 ?_;refine SZ Qa rfl (AC o4 c4 (nB x0) w4 (hvo.old (by omega)) (Fy hw0) (LE hw0) hfl) rfl ?_;rintro _ w5 hA;obtain⟨r,oa,ca,rfl,hra,hoa,hfra,hf5⟩:=hA.res;have hz5:=hf5.size;refine Gz 10 ?_;refine SZ SP rfl (GQ o c (nB x0) w5 ((hvf4.WG hf5).old (by omega)) (Fy hw0) hfl) rfl ?_;rintro _ w6 hB;obtain⟨r2,ob,cb,rfl,hrb,hob,hfrb,hf6⟩:=hB.res;obtain rfl:=hra.uniq hrb;refine cA 11 SO (GG o4 o c4 c (nB x0) (nB x0) w6 ((hvo.WG hf5).WG hf6) ((hvf4.WG hf5).WG hf6)) ?_;rintro _ w7 ⟨hs2,⟨b2,rfl⟩,hf7⟩;obtain rfl:b2=true:=by simpa using hs2.2 rfl
 refine Gz 8 ?_;refine cW (TM aH ty5 ty9 rfl (((hoa.WG hf6).WG hf7).vw)) ?_;refine Gz 1 ?_;refine cW (TM aH ty5 ty9 rfl ((hob.WG hf7).vw)) ?_;refine cW (TY (TW rfl rfl) rfl) ?_;refine Gz 4 ?_;refine cW (TY (TU rfl rfl) rfl) ?_;refine Gz 9 ?_;exact⟨_,rfl,rfl,(((((hf1.trans hf2).trans hf24).trans hf5).trans hf6).trans hf7)⟩
end
end Go.Proofs.YthmmmagklhiiiaaGreatDoor
