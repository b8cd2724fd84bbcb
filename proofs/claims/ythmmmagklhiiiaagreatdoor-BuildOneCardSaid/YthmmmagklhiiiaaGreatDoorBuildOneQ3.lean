/- lamella: what the law needs. No condition beyond the bounds that each states. -/
import Derived.Shelf.SlIterI.Sorted
import Derived.Shelf.SortM.Plain
import Derived.Shelf.SortM.SortNone
import Derived.Test.YthmmmagklhiiiaaGreatDoorBuildOneQ2
namespace Go.Proofs.YthmmmagklhiiiaaGreatDoor
open Go Go.RowKit
set_option linter.unusedVariables false
set_option linter.unusedSectionVars false
set_option maxHeartbeats 64000000
open List renaming getElem?_eq_getElem → Wv, length_append → Ww, getElem?_eq_some_iff → Wy, mem_of_getElem? → Wz, length_take → WB, length_drop → WE, length_singleton → WF, getD → WI, take_of_length_le → WJ, length_map → WK, append_assoc → WL, length_eq_zero_iff → WM, length_pos_iff → WN, getElem?_of_mem → WO, eq_nil_of_length_eq_zero → WQ, mem_map → WS, length_cons → WT, take_succ_eq_append_getElem → WV, take_append_drop → WX, mem_singleton → WY, mem_append → WZ, length_nil → W2, replicate → W4, mem_cons → W5, length → W6, getElem?_map → W7, pairwise_iff_getElem → W8, nil_append → Xc, getElem?_eq_none → Xe, getElem?_take → Xf, take_length → Xg, length_replicate → Xl, not_mem_nil → Xm, getElem_of_mem → Xn, map_cons → Xo, cons_append → Xq, range → Xr, drop_left' → Xs, take_append_of_le_length → Xt, drop_eq_getElem_cons → Xv, getElem_mem → Xw, ext_getElem? → Xy, take_left' → Xz, foldl_cons → XA, mem_range → XB, drop_drop → XC, flatMap_cons → XD, length_set → XH, mem_cons_of_mem → XI, map_map → XL, getElem?_append_left → XM, foldl_append → XO, take_take → XS, mem_flatMap → XZ, getElem?_drop → X0, drop_append_of_le_length → X1, pairwise_map → X2, map_congr_left → X5, pairwise_cons → X9, flatMap_append → Yg, map_append → Yo, pairwise_append → Yu, all_eq_true → Yy, range_succ → YD, append_inj → YR, take_drop → YX, idxOf_lt_length_iff → Y7
open _root_.Nat renaming le_refl → WC, zero_le → WG, le_trans → W9, blt → Xb, mul_le_mul_right → Xh, lt_of_lt_of_le → Xk, zero_add → Xp, add_mul → Xx, min_eq_left → XG, lt_trichotomy → XN, blt_eq → XP, succ_eq_add_one → XU, one_mul → XW, beq → X7, mul_comm → Yc, add_zero → Yd, lt_or_ge → Yj, mul_assoc → YA, eq_zero_or_pos → YF, ble_eq → YN, add_sub_cancel → YW, add_sub_cancel_left → Zb
open _root_.Array renaming getElem?_eq_some_iff → WD, replicate → X4, setIfInBounds_comm → YB, getElem?_eq_none → YK
open Classical renaming byContradiction → WH, not_not → W3
open UInt8 renaming ofNat → WP, toNat_ofNat' → Xj, toNat_inj → XV
open _root_.Option renaming map_eq_some_iff → WR, map_some → Ym
open Go.Op renaming bytesLess → WU
open _root_.Bool renaming and_eq_true → WW, or_eq_true → X3, not_eq_true' → Yt
open _root_.Int renaming toNat_natCast → Xd
open Prod renaming ext → Yl
inductive OT where
|fin:OT
|stop:OT
|alt (i:Nat) (pre:List Nat) (t u:OT):OT
def OT.heads:OT→List Nat
|.alt i _ _ u=>i::u.heads
|_=>[]
def OT.dep:OT→Nat
|.alt _ pre t u=>Nat.max (pre.length+t.dep+1) u.dep
|_=>0
section
variable {P:Program}{ops:Array Oper}{CH:Array Obj→Prop}{N:Nt}{effs:List Nat}{K0:Act→World→Prop}{Q:Exit→Act→World→Prop}{l:SF}{w:World}
def Sy(P:Program)(N:Nt)(ops:Array Oper)(CH:Array Obj→Prop)(effs:List Nat)(K0:Act→World→Prop):List Nat→SF→World→Prop
|[],l,w=>∀ a,bQ N l a→K0 a w
|i::r,l,w=>∃ o,ops[i]?=some o ∧
   (bif effs.contains i then Sl P N ops (iR fun a w=>∃ l',bQ N l' a∧CH w.heap∧Sy P N ops CH effs K0 r l' w) [o] l w
    else ∃ v,(∀ a,bQ N l a→YC P ops CH o v a)∧∃ l',(∀ a,bQ N l a→bQ N l' (a.put o.dst v))∧Sy P N ops CH effs K0 r l' w)
def KT(P:Program)(N:Nt)(ops:Array Oper)(CH:Array Obj→Prop)(effs:List Nat)(K0:Act→World→Prop):OT→Act→World→Prop
|.fin,a,w=>K0 a w
|.stop,_,_=>True
|.alt i pre t u,a,w=>(∃ l',bQ N l' a∧Sy P N ops CH effs (KT P N ops CH effs K0 t) (i::pre) l' w)∧KT P N ops CH effs K0 u a w
def Bc(ops:Array Oper)(effs:List Nat):List Nat→Array Bool→Option (Array Bool)
|[],L=>some L
|k::r,L=>bif (!effs.contains k) && (Region.ready .any ops L).contains k && Region.free .any ops L k && Xb k ops.size then Bc ops effs r (L.setIfInBounds k true) else none
def okO(ops:Array Oper)(effs:List Nat):Bool→OT→Array Bool→Bool
|_,.fin,L=>(Region.ready .any ops L).isEmpty
|top,.stop,_=>!top
|top,.alt i pre t u,L=>(!top || (Region.ready .any ops L).all (i::u.heads).contains) && effs.contains i && (Region.ready .any ops L).contains i && Xb i ops.size &&
   (match Bc ops effs pre (L.setIfInBounds i true) with|some L'=>okO ops effs true t L'|none=>false) && okO ops effs false u L
theorem SA(ops:Array Oper):yW ops ops.size=true:=by simp[yW]
theorem Bb(hsel:Region.noSelect ops=true){K:Act→World→Prop}{L':Array Bool}{m:Nat}
 (hK:∀ (f:Nat) (a:Act) (w:World),m≤f→HeadInv .any ops ops.size L'→CH w.heap→K a w→bF P .any ops ops.size CH K0 f L' a w) :
 ∀ (pre:List Nat) (f:Nat) (L:Array Bool) (l:SF) (a:Act) (w:World),pre.length+m≤f→Bc ops effs pre L=some L'→bQ N l a→HeadInv .any ops ops.size L→CH w.heap→Sy P N ops CH effs K pre l w→bF P .any ops ops.size CH K0 f L a w
|[],f,L,l,a,w,hf,hp,ha,inv,hc,h=>by
   simp only[Bc,Option.some.injEq] at hp;subst hp;exact hK f a w (by simpa using hf) inv hc (h a ha)
|k::r,0,L,l,a,w,hf,hp,ha,inv,hc,h=>by simp at hf
|k::r,f+1,L,l,a,w,hf,hp,ha,inv,hc,h=>by
   obtain⟨o,ho,h⟩:=h;cases hb:((!effs.contains k) && (Region.ready .any ops L).contains k && Region.free .any ops L k && Xb k ops.size) with
  |false=>simp only[Bc,hb,cond_false] at hp;cases hp
  |true=>
     simp only[Bc,hb,cond_true] at hp;simp only[WW,Yt] at hb;obtain⟨⟨⟨he,m1⟩,m2⟩,m3⟩:=hb;rw[he] at h;simp only[cond_false] at h;obtain⟨v,hy,l',hl',hs⟩:=h;have hin:k<ops.size:=by simpa[XP] using m3
     have hir:k∈Region.ready .any ops L:=by simpa using m1
     exact pJ ho (Region.noSelect_spec hsel) (SA ops) hin f L a w inv hc (Region.free_spec ho m2) hir (hy a ha) (Bb hsel hK r f _ l' _ w (by simp at hf;omega) hp (hl' a ha) (inv.set hir hin) hc hs)
theorem Lm{i:Nat}{pre:List Nat}{K:Act→World→Prop}{f:Nat}{L:Array Bool}{a:Act}(he:effs.contains i=true)(ha:bQ N l a)
 (key:∀ l' a' w',bQ N l' a'→CH w'.heap→Sy P N ops CH effs K pre l' w'→bF P .any ops ops.size CH K0 f (L.setIfInBounds i true) a' w')
 (h:Sy P N ops CH effs K (i::pre) l w):wpOp P ops (iR K0) i (bF P .any ops ops.size CH K0 f (L.setIfInBounds i true)) a w:=by
 obtain⟨o,ho,h⟩:=h;rw[he] at h;simp only[cond_true] at h;have h1:=h a ha;unfold wpList at h1;unfold wpOp;simp only[ho];have key2:∀ a' w',wpList P ops (iR fun a w=>∃ l',bQ N l' a∧CH w.heap∧Sy P N ops CH effs K pre l' w) [] a' w'→bF P .any ops ops.size CH K0 f (L.setIfInBounds i true) a' w':=by
  intro a' w' h2;obtain⟨l',h3,h4,h5⟩:=h2;exact key l' a' w' h3 h4 h5
 split
 · rename_i hw
   rw[Wu hw] at h1;rcases h1 with h1|⟨_,_,_,h1⟩
   ·exact .inl (VS key2 h1)
   ·exact h1.elim
 · rename_i hw
   rw[Wt hw] at h1;exact key2 _ _ h1
theorem oK(hsel:Region.noSelect ops=true):∀ (t:OT) (top:Bool) (f:Nat) (L:Array Bool) (a:Act) (w:World),t.dep≤f→okO ops effs top t L=true→HeadInv .any ops ops.size L→CH w.heap→KT P N ops CH effs K0 t a w →
 (top=true→bF P .any ops ops.size CH K0 f L a w)∧∀ k∈t.heads,∃ f',f=f'+1∧wpOp P ops (iR K0) k (bF P .any ops ops.size CH K0 f' (L.setIfInBounds k true)) a w
|.fin,top,f,L,a,w,hf,hm,inv,hc,h=>by
   have hr:Region.ready .any ops L=[]:=by simpa[okO] using hm
   refine⟨fun _=>?_,fun k hk=>by cases hk⟩;cases f with
  |zero=>exact⟨fun _=>hc,hr,h⟩
  |succ f=>exact⟨fun _=>hc,fun _=>h,by rw[hr];simp⟩
|.stop,top,f,L,a,w,hf,hm,inv,hc,h=>by
   refine⟨fun e=>by subst e;simp[okO] at hm,fun k hk=>by cases hk⟩
|.alt i pre t u,top,f,L,a,w,hf,hm,inv,hc,h=>by
   simp only[okO,WW] at hm;obtain⟨⟨⟨⟨⟨m1,m2⟩,m3⟩,m4⟩,m5⟩,m6⟩:=hm;have hf1:pre.length+t.dep+1≤f:=W9 (Nat.le_max_left _ _) hf;have hf2:u.dep≤f:=W9 (Nat.le_max_right _ _) hf;obtain⟨f',rfl⟩:∃ f',f=f'+1:=⟨f-1,by omega⟩
   obtain⟨⟨l',ha,h1⟩,h2⟩:=h;have hi:i<ops.size:=by simpa[XP] using m4
   have hr:i∈Region.ready .any ops L:=by simpa using m3
   have hu:=oK hsel u false (f'+1) L a w hf2 m6 inv hc h2
   have hhead:∀ k∈i::u.heads,∃ f'',f'+1=f''+1∧wpOp P ops (iR K0) k (bF P .any ops ops.size CH K0 f'' (L.setIfInBounds k true)) a w:=by
    intro k hk;rcases W5.1 hk with rfl|hk
    · refine⟨f',rfl,Lm m2 ha (fun l2 a2 w2 hl2 hc2 hs2=>?_) h1⟩
      cases hp:Bc ops effs pre (L.setIfInBounds k true) with
     |none=>rw[hp] at m5;cases m5
     |some L'=>
        rw[hp] at m5;exact Bb hsel (m:=t.dep) (fun f3 a3 w3 hf3 inv3 hc3 hk3=>(oK hsel t true f3 L' a3 w3 hf3 m5 inv3 hc3 hk3).1 rfl) pre f' _ l2 a2 w2 (by omega) hp hl2 (inv.set hr hi) hc2 hs2
    ·exact hu.2 k hk
   refine⟨fun e=>?_,hhead⟩;subst e;refine⟨fun _=>hc,fun h0=>(by rw[h0] at hr;cases hr),fun k hk=>?_⟩;simp only[Bool.not_true,Bool.false_or,Yy] at m1;obtain⟨f'',e1,hw⟩:=hhead k (by simpa using m1 k hk);obtain rfl:f'=f'':=by omega
   exact hw
theorem Vh{id:Nat}{lops:List Oper}(CH:Array Obj→Prop)(effs pre:List Nat)(t:OT)(hm:P.follows .mixedOrders=true)(hs:(Region.noSelect lops.toArray &&
 (match Bc lops.toArray effs pre (X4 lops.length false) with|some L'=>okO lops.toArray effs true t L'|none=>false) && Nat.ble (pre.length+t.dep) lops.length)=true)(hc:CH w.heap)
 (h:Sy P N lops.toArray CH effs (KT P N lops.toArray CH effs (fun a w=>Q .normal a w) t) pre l (w.drewN 1)):Sc P N (.region id lops.toArray true) Q l w:=fun a ha=>by
 simp only[WW] at hs;obtain⟨⟨hs,hok⟩,hlen⟩:=hs
 have h1:bF P .any lops.toArray lops.toArray.size CH (fun a w=>Q .normal a w) lops.length (X4 lops.length false) a (w.drewN 1):=by
  cases hp:Bc lops.toArray effs pre (X4 lops.length false) with
 |none=>rw[hp] at hok;cases hok
 |some L'=>
    rw[hp] at hok;exact Bb hs (m:=t.dep) (fun f3 a3 w3 hf3 inv3 hc3 hk3=>(oK hs t true f3 L' a3 w3 hf3 hok inv3 hc3 hk3).1 rfl) pre lops.length _ l a _ (by simpa[YN] using hlen) hp ha
     (by have:=C5 (ops:=lops.toArray) (n:=lops.toArray.size);simpa using this) hc h
 have h2:=wp_region_any (P:=P) (id:=id) (ops:=lops.toArray) (Q:=iR fun a w=>Q .normal a w) (a:=a) (w:=w) hm (by
  have:=h1.any;simpa[World.drewN] using this)
 refine wp_mono h2 ?_;intro e a' w' hq;cases e<;>first|exact hq|exact hq.elim
variable {r:List Nat}{i:Nat}{op:Op}{ty:TypeId}{pos:String}{aft:Array Edge}{d:Nat}{v:Value}{t u:OT}
theorem TA(hi:ops[i]?=some ⟨some d,op,ty,pos,aft,none⟩)(he:effs.contains i=false)(hv:Cm P N CH l ⟨some d,op,ty,pos,aft,none⟩ v)(hd:Xb d N.n=true)
 (h:Sy P N ops CH effs K0 r ((d,v)::l) w):Sy P N ops CH effs K0 (i::r) l w:=
 ⟨_,hi,by rw[he];exact⟨v,fun a ha=>.inl ⟨by simp[Region.wanted],fun w hw=>hv a w ha hw⟩,_,fun a ha=>ha.put hd v,h⟩⟩
def KY(P:Program)(N:Nt)(ops:Array Oper)(CH:Array Obj→Prop)(effs:List Nat)(K0:Act→World→Prop)(r:List Nat):Exit→Act→World→Prop:=iR fun a w=>∃ l',bQ N l' a∧CH w.heap∧Sy P N ops CH effs K0 r l' w
theorem TB{o:Oper}(hi:ops[i]?=some o)(he:effs.contains i=true)(h:Sl P N ops (KY P N ops CH effs K0 r) [o] l w):Sy P N ops CH effs K0 (i::r) l w:=
 ⟨_,hi,by rw[he];exact h⟩
theorem TP(hc:CH w.heap)(h:Sy P N ops CH effs K0 r l w):Sl P N ops (KY P N ops CH effs K0 r) [] l w:=fun _ ha=>⟨l,ha,hc,h⟩
theorem UN(h:At N .normal Q l w):Sy P N ops CH effs (KT P N ops CH effs (fun a w=>Q .normal a w) .fin) [] l w:=fun a ha=>h a ha
theorem TC{pre:List Nat}(h1:Sy P N ops CH effs (KT P N ops CH effs K0 t) (i::pre) l w)(h2:Sy P N ops CH effs (KT P N ops CH effs K0 u) [] l w):Sy P N ops CH effs (KT P N ops CH effs K0 (.alt i pre t u)) [] l w:=fun a ha=>⟨⟨l,ha,h1⟩,h2 a ha⟩
theorem Tv:Sy P N ops CH effs (KT P N ops CH effs K0 .stop) [] l w:=fun _ _=>trivial
end
section
open Go Go.RowKit Go.Maps
theorem rX{a b:Nd}:a=b↔a.names=b.names∧Alk a b∧a.ino=b.ino:=by
 constructor
 ·rintro rfl;exact⟨rfl,V5 _,rfl⟩
 · rintro⟨h1,⟨h2,⟨h3,h4,h5⟩,h6,h7,h8,h9⟩,h10⟩
   cases a;cases b;simp_all
variable {D D':Nat→Prop}
theorem GM(lo mo:Option Addr)(lc mc:Nat)(ps qs:List (NdH×Nd))(W:World)(hp:aQ D W.heap lo lc ps)(hq:aQ D' W.heap mo mc qs) :
 CA 12 [.slice lo ps.length lc,.slice mo qs.length mc] W fun v w'=>(v=.bool true↔nds ps=nds qs)∧(∃ b,v=.bool b)∧aA nob W w':=by
 have h63:=hp.1.Wq;have hll:(nds ps).length=ps.length:=by simp
 have hlq:(nds qs).length=qs.length:=by simp
 have no:∀ w',¬ nds ps=nds qs→aA nob W w'→Ret (fun v w'=>(v=.bool true↔nds ps=nds qs)∧(∃ b,v=.bool b)∧aA nob W w') (.returned (.bool false)) w':=fun w' h f=>⟨_,rfl,⟨fun e=>by simp at e,fun e=>absurd e h⟩,⟨_,rfl⟩,f⟩
 refine cS 58 [(0,_),(1,_)] Tryz.func12 ?_;refine fK 12 ?_ ?_<;>intro h12
 ·refine Gz 11 ?_
  first
  |exact no _ (fun e=>by have:=congrArg W6 e;omega) (VK _ _)
  |(refine no _ (fun e=>?_) (hF4.draws 1);have e2:=bE hpi;rw[e,bE hqi] at e2;have e3:=rX.1 (Option.some.inj e2);first|exact h39 e3.1.symm|exact h42 e3.2.1.symm|exact h56 e3.2.2.symm)
  |exact⟨_,rfl,⟨fun _=>iN (by omega) (by omega) hsm,fun _=>rfl⟩,⟨_,rfl⟩,hF2⟩
 refine Gz 12 ?_;have hle:ps.length=qs.length:=by omega
 refine SO (β:=Nat) (fun i=>[(0,.slice lo ps.length lc),(1,.slice mo qs.length mc),(5,iV i)]) (fun i w=>i≤ps.length∧(∀ j:Nat,j<i→(nds ps)[j]?=(nds qs)[j]?)∧aA nob W w) (fun i=>ps.length-i) 0 ⟨rfl,rfl,rfl,trivial⟩ ⟨WG _,fun j hj=>by omega,VK _ _⟩ ?_;rintro i w2 ⟨hi,hsm,hF2⟩;refine fK 6 ?_ ?_<;>intro h16
 ·have hil:i<ps.length:=by omega
  obtain⟨p,hpi⟩:∃ p,ps[i]?=some p:=⟨_,Wv hil⟩
  obtain⟨q,hqi⟩:∃ q,qs[i]?=some q:=⟨_,Wv (by omega)⟩
  have hpm:=Wz hpi;have hqm:=Wz hqi;have hp2:=hp.Wr hF2;have hq2:=hq.Wr hF2;have hpn:=(hp2.2 p hpm).1;have hqn:=(hq2.2 q hqm).1;refine Gz 8 ?_;refine SZ 12 (fun H=>VwM 10 aF H lo lc ps∧VwM 10 aF H mo mc qs) [10] [0,1,2,3,4,5,6,7,8,9,10,11] aL (by kernel_rfl) (⟨hp2.1,hq2.1⟩) ?_;refine Gz 2 ?_;refine xC rfl (SL aS rfl rfl hp2.1.non (by omega)) ?_;refine Gz 1 ?_;refine xC rfl (SR eW rfl (fun H hH=>hH.1.rowZ i rfl hpi 0 _ rfl)) ?_;refine Gz 2 ?_;refine xC rfl (SL aS rfl rfl hq2.1.non (by omega)) ?_;refine Gz 1 ?_;refine xC rfl (SR eW rfl (fun H hH=>hH.2.rowZ i rfl hqi 0 _ rfl)) ?_;refine SU rfl rfl (SJ Pw rfl ((by show Calls _ _ [Value.slice p.1.names.a p.1.names.n p.1.names.c,Value.slice q.1.names.a q.1.names.n q.1.names.c].toArray _ _;rw[hpn.1,hqn.1];exact Co _ _ _ _ p.2.names q.2.names _ hpn.2.1 hqn.2.1)) rfl ?_);rintro _ w3 ⟨rfl,hf3⟩;have hF3:=(hF2.draws 1).trans hf3;have hp3:=hp.Wr hF3;have hq3:=hq.Wr hF3;refine S5 (by exact⟨hp3.1,hq3.1⟩) ?_;refine Gz 4 ?_;refine SZ 10 (fun H=>VwM 10 aF H lo lc ps∧VwM 10 aF H mo mc qs) [8] [0,1,2,3,4,5,6,7,8,9] aL (by kernel_rfl) (⟨hp3.1,hq3.1⟩) ?_;refine Gz 2 ?_;refine xC rfl (SL aS rfl rfl hp3.1.non (by omega)) ?_;refine xC rfl (TN (cs:=aF p) bB rfl (fun H hH j v hj=>hH.1.rowZ i rfl hpi j v hj)) ?_;refine Gz 2 ?_;refine xC rfl (SL aS rfl rfl hq3.1.non (by omega)) ?_;refine xC rfl (TN (cs:=aF q) bB rfl (fun H hH j v hj=>hH.2.rowZ i rfl hqi j v hj)) ?_;refine SU rfl rfl (SJ Pv rfl (zX (D:=fun k=>D k∨D' k) p q _ (NdV.mono (hp3.2 p hpm) (fun k h=>.inl h)) (NdV.mono (hq3.2 q hqm) (fun k h=>.inr h))) rfl ?_);rintro _ w4 ⟨rfl,hf4⟩;have hF4:=(hF3.draws 1).trans hf4;have hp4:=hp.Wr hF4;have hq4:=hq.Wr hF4;refine S5 (by exact⟨hp4.1,hq4.1⟩) ?_;refine Gz 4 ?_;refine Tg 19 [0,1,2,3,4,5,6,7,8,9,10,11,12,13,14,15,16,17,18] aL (by kernel_rfl) ?_;refine Gz 1 ?_;by_cases h39:p.2.names=q.2.names
  ·rw[WA h39];refine xC rfl (S3 rfl) ?_;refine Gz 2 ?_;by_cases h42:Alk p.2 q.2
   ·rw[WA h42];refine xV rfl (S3 rfl) ?_;refine Gz 4 ?_;refine xV rfl (SL aS rfl rfl hp4.1.non (by omega)) ?_;refine Gz 1 ?_;refine xV rfl (SM aN rfl (hp4.1.rowZ i rfl hpi 1 _ rfl)) ?_;refine Gz 2 ?_;refine xV rfl (SL aS rfl rfl hq4.1.non (by omega)) ?_;refine Gz 1 ?_;refine xV rfl (SM aN rfl (hq4.1.rowZ i rfl hqi 1 _ rfl)) ?_;refine xW 0 ?_ ?_<;>intro h56
    ·refine Gz 16 ?_
     first
     |exact no _ (fun e=>by have:=congrArg W6 e;omega) (VK _ _)
     |(refine no _ (fun e=>?_) (hF4.draws 1);have e2:=bE hpi;rw[e,bE hqi] at e2;have e3:=rX.1 (Option.some.inj e2);first|exact h39 e3.1.symm|exact h42 e3.2.1.symm|exact h56 e3.2.2.symm)
     |exact⟨_,rfl,⟨fun _=>iN (by omega) (by omega) hsm,fun _=>rfl⟩,⟨_,rfl⟩,hF2⟩
    refine Gz 12 ?_;refine aG (i+1) ⟨by omega,fun j hj=>?_,hF4.draws 1⟩ (by show ps.length-(i+1)<ps.length-i;omega);by_cases e:j=i
    ·subst e;rw[bE hpi,bE hqi];exact congrArg _ (rX.2 ⟨h39,h42,W3.1 h56⟩)
    ·exact hsm j (by omega)
   rw[Wx h42];refine xV rfl (S3 rfl) ?_;refine Gz 29 ?_
   first
   |exact no _ (fun e=>by have:=congrArg W6 e;omega) (VK _ _)
   |(refine no _ (fun e=>?_) (hF4.draws 1);have e2:=bE hpi;rw[e,bE hqi] at e2;have e3:=rX.1 (Option.some.inj e2);first|exact h39 e3.1.symm|exact h42 e3.2.1.symm|exact h56 e3.2.2.symm)
   |exact⟨_,rfl,⟨fun _=>iN (by omega) (by omega) hsm,fun _=>rfl⟩,⟨_,rfl⟩,hF2⟩
  rw[Wx h39];refine xC rfl (S3 rfl) ?_;refine Gz 32 ?_
  first
  |exact no _ (fun e=>by have:=congrArg W6 e;omega) (VK _ _)
  |(refine no _ (fun e=>?_) (hF4.draws 1);have e2:=bE hpi;rw[e,bE hqi] at e2;have e3:=rX.1 (Option.some.inj e2);first|exact h39 e3.1.symm|exact h42 e3.2.1.symm|exact h56 e3.2.2.symm)
  |exact⟨_,rfl,⟨fun _=>iN (by omega) (by omega) hsm,fun _=>rfl⟩,⟨_,rfl⟩,hF2⟩
 have hie:i=ps.length:=by omega
 subst hie;refine Gz 15 ?_
 first
 |exact no _ (fun e=>by have:=congrArg W6 e;omega) (VK _ _)
 |(refine no _ (fun e=>?_) (hF4.draws 1);have e2:=bE hpi;rw[e,bE hqi] at e2;have e3:=rX.1 (Option.some.inj e2);first|exact h39 e3.1.symm|exact h42 e3.2.1.symm|exact h56 e3.2.2.symm)
 |exact⟨_,rfl,⟨fun _=>iN (by omega) (by omega) hsm,fun _=>rfl⟩,⟨_,rfl⟩,hF2⟩
theorem rY(a:List By):bO a a=false:=by unfold bO;rw[nS];rfl
theorem kK{a b:List By}:bO a b=false↔a=b∨bO b a=true:=by
 unfold bO;rw[xX a b];constructor
 · intro h
   by_cases e:cQ a b=0
   ·exact .inl (kU e)
   ·right;simp at h ⊢;omega
 · rintro(rfl|h)
   ·rw[nS];rfl
   ·simp at h ⊢;omega
theorem lI{a b:List By}(h:bO a b=true):bO b a=false:=kK.2 (.inr h)
theorem tD{a b c:List By}(h1:bO a b=true)(h2:bO b c=true):bO a c=true:=by
 unfold bO at *;simp at *;exact pE h1 h2
theorem wR{a b c:List By}(h1:bO a b=false)(h2:bO b c=false):bO a c=false:=by
 rcases kK.1 h1 with rfl|h1
 ·exact h2
 · rcases kK.1 h2 with rfl|h2
   ·exact lI h1
   ·exact lI (tD h2 h1)
def oQ(p q:NdH×Nd):Prop:=bO q.2.names p.2.names=false
theorem Bm{ys:List (NdH×Nd)}{k:Nat}{p:NdH×Nd}(h:ys.Pairwise oQ)(hk:k≤ys.length)(h1:∀ j q,k≤j→ys[j]?=some q→bO p.2.names q.2.names=true)(h2:∀ q,0<k→ys[k-1]?=some q→bO p.2.names q.2.names=false) :
 (ys.take k++p::ys.drop k).Pairwise oQ:=by
 have hall:=WX k ys;rw[←hall] at h;obtain⟨a1,a2,a3⟩:=Yu.1 h;refine Yu.2 ⟨a1,X9.2 ⟨fun q hq=>?_,a2⟩,fun a ha b hb=>?_⟩
 · obtain⟨j,hj⟩:=WO hq
   rw[X0] at hj;exact lI (h1 _ q (by omega) hj)
 · rcases W5.1 hb with rfl|hb
   · have hk0:0<k:=by
      rcases YF k with h|h
      ·subst h;simp at ha
      ·exact h
     have hy:ys[k-1]?=some (ys[k-1]'(by omega)):=Wv (by omega);have hb2:=h2 _ hk0 hy;obtain⟨j,hj⟩:=WO ha;rw[Xf] at hj
     split at hj
     · rename_i hjk
       by_cases e:j=k-1
       ·subst e;rw[hy] at hj;cases hj;exact hb2
       · have hpw:=W8.1 (hall ▸ h) j (k-1) (by omega) (by omega) (by omega)
         rw[(Wy.1 hj).2] at hpw;exact wR hb2 hpw
     ·cases hj
   ·exact a3 a ha b hb
theorem wY{α:Type}{ys zs:List α}{k:Nat}{p:α}(h:ys.Perm zs):(ys.take k++p::ys.drop k).Perm (zs++[p]):=by
 refine List.perm_middle.trans ?_;rw[WX];exact(List.Perm.cons p h).trans (List.perm_append_comm (l₁:=[p]) (l₂:=zs))
def eV(ps:List (NdH×Nd)):List (NdH×Nd):=ps.mergeSort (fun p q=>!bO q.2.names p.2.names)
theorem gU(ps:List (NdH×Nd)):(eV ps).Perm ps:=List.mergeSort_perm _ _
theorem pN(ps:List (NdH×Nd)):(eV ps).Pairwise oQ:=by
 have h:=List.pairwise_mergeSort (le:=fun p q:NdH×Nd=>!bO q.2.names p.2.names) (fun a b c h1 h2=>by
  simp only[Yt] at *;exact wR h2 h1) (fun a b=>by
  simp only[X3,Yt];cases h:bO b.2.names a.2.names with
 |false=>exact .inl rfl
 |true=>exact .inr (lI h)) ps
 exact h.imp (fun h=>by simpa[oQ] using h)
theorem Hh{ps:List (NdH×Nd)}(ht:¬ bL (nds ps)){p q:NdH×Nd}(hp:p∈ps)(hq:q∈ps)(e:p.2.names=q.2.names):p=q:=by
 obtain⟨i,hi⟩:=WO hp;obtain⟨j,hj⟩:=WO hq;rcases XN i j with h|h|h
 ·exact absurd ((eG ps).2 ⟨i,j,p,q,h,hi,hj,e⟩) ht
 ·subst h;rw[hi] at hj;exact Option.some.inj hj
 ·exact absurd ((eG ps).2 ⟨j,i,q,p,h,hj,hi,e.symm⟩) ht
theorem mG{ps qs:List (NdH×Nd)}(ht:¬ bL (nds ps))(hp:qs.Perm ps)(hs:qs.Pairwise oQ):qs=eV ps:=
 List.Perm.eq_of_pairwise (le:=oQ) (fun a b ha hb h1 h2=>by
  have ha':=hp.mem_iff.1 ha;have hb':=(gU ps).mem_iff.1 hb;refine Hh ht ha' hb' ?_;rcases kK.1 h2 with e|h2
  ·exact e
  ·unfold oQ at h1;rw[h1] at h2;cases h2) hs (pN ps) (hp.trans (gU ps).symm)
end
section
open Go Go.RowKit Go.Maps
variable {D D':Nat→Prop}
theorem VwM.dropK{α:Type}{k:Nat}{enc:α→List Value}{H:Array Obj}{ao:Option Addr}{cap:Nat}{xs:List α}(v:VwM k enc H ao cap xs){l:Nat}(hl:l≤xs.length):VwM k enc H (bG ao cap l k) (cap-l) (xs.drop l):=by
 have h:=v.cut (l:=l) (h:=xs.length) (m:=cap) hl (WC _) v.le (WC _);rwa[WJ (by rw[WE];exact WC _)] at h
theorem D6(lo:Option Addr)(lc:Nat)(ps:List (NdH×Nd))(W:World)(hv:aQ D W.heap lo lc ps)(h1000:ps.length≤1024) :
 CA 54 [.slice lo ps.length lc] W fun v w'=>∃ o c ys,v=.slice o (W6 (α:=NdH×Nd) ys) c∧bP 10 aF 37 w'.heap o c ys∧Fr W.heap.size o∧ys.Perm ps∧ys.Pairwise oQ∧aA nob W w':=by
 have h63:=hv.1.Wq;refine cS 53 [(0,_)] Tryz.func54 ?_;refine Gz 7 ?_;refine TG aB aS rfl ?_;intro w1 ho1 hs1 hf1;refine Gz 10 ?_;refine SO (β:=Nat×Option Addr×Nat×List (NdH×Nd)) (fun⟨i,o,c,ys⟩=>[(0,.slice lo ps.length lc),(3,.slice o ys.length c),(4,iV i)]) (fun⟨i,o,c,ys⟩ w=>i≤ps.length∧bP 10 aF 37 w.heap o c ys∧Fr W.heap.size o∧ys.Perm (ps.take i)∧ys.Pairwise oQ∧aA nob W w) (fun⟨i,o,c,ys⟩=>ps.length-i) ⟨0,some ⟨W.heap.size,0,none⟩,0,[]⟩ ⟨rfl,rfl,rfl,trivial⟩ ⟨WG _,ho1,fun a ha=>by cases ha;exact WC _,by simp,by simp,hf1⟩ ?_;rintro⟨i,o,c,ys⟩ w2 ⟨hi,ho2,hfo,hpe,hor,hF2⟩;refine fK 6 ?_ ?_<;>intro h11
 ·have hil:i<ps.length:=by omega
  obtain⟨p,hp⟩:∃ p,ps[i]?=some p:=⟨_,Wv hil⟩
  have hpm:=Wz hp;have hv2:=hv.Wr hF2;have hyl:ys.length=i:=by rw[hpe.length_eq,WB];omega
  have hym:∀ q∈ys,q∈ps:=fun q hq=>List.mem_of_mem_take (hpe.mem_iff.1 hq);have hvy2:=ho2.vw aB;refine Gz 1 ?_;refine aW [(0,_),(3,_),(4,_),(11,_)] ?_;refine Gz 13 ?_;refine Tj (β:=Nat) (fun k=>[(0,.slice lo ps.length lc),(3,.slice o ys.length c),(4,iV i),(5,iV k)]) (fun k w=>k≤ys.length∧(∀ (j:Nat) (q:NdH×Nd),k≤j→ys[j]?=some q→bO p.2.names q.2.names=true)∧(∀ q:NdH×Nd,0<k→ys[k-1]?=some q→bO p.2.names q.2.names=false)∧aA nob w2 w) ?_ ?_
  ·refine Gz 1 ?_;refine SO (β:=Nat) (fun k=>[(0,.slice lo ps.length lc),(3,.slice o ys.length c),(4,iV i),(5,iV k)]) (fun k w=>k≤ys.length∧(∀ (j:Nat) (q:NdH×Nd),k≤j→ys[j]?=some q→bO p.2.names q.2.names=true)∧aA nob w2 w) (fun k=>k) ys.length ⟨rfl,rfl,rfl,rfl,trivial⟩ ⟨WC _,fun j q hj hq=>by have:=(Wy.1 hq).1;omega,VK _ _⟩ ?_;rintro k w3 ⟨hkl,hbe,hF3⟩;refine Gz 2 ?_;have hv3:=hv2.Wr hF3;have hvy3:=hvy2.keep' hF3 (fun _ _ _=>id);refine SZ 16 (fun H=>VwM 10 aF H lo lc ps∧VwM 10 aF H o c ys) [14] [0,1,2,3,4,5,6,7,8,9,10,11,12,13,14,15] aL (by kernel_rfl) (⟨hv3.1,hvy3⟩) ?_;refine xK 1 ?_ ?_<;>intro h17
   ·obtain⟨q,hq⟩:∃ q,ys[k-1]?=some q:=⟨_,Wv (by omega)⟩
    have hqm:=hym q (Wz hq);refine Gz 3 ?_;refine xV rfl (SL aS rfl rfl hv3.1.non (by omega)) ?_;refine Gz 1 ?_;refine xV rfl (SR eW rfl (fun H hH=>hH.1.rowZ i rfl hp 0 _ rfl)) ?_;refine Gz 3 ?_;refine xV rfl (SL aS rfl rfl hvy3.non (by omega)) ?_;refine Gz 1 ?_;refine xV rfl (SR eW rfl (fun H hH=>hH.2.rowZ (k-1) (by omega) hq 0 _ rfl)) ?_;have hpn:=(hv3.2 p hpm).1;have hqn:=(hv3.2 q hqm).1;refine SU rfl rfl (SS rfl rfl Qo rfl ((by show Calls _ _ [Value.slice p.1.names.a p.1.names.n p.1.names.c,Value.slice q.1.names.a q.1.names.n q.1.names.c].toArray _ _;rw[hpn.1,hqn.1];exact IK _ _ _ _ p.2.names q.2.names _ hpn.2.1 hqn.2.1)) rfl ?_);rintro _ w4 ⟨rfl,hf4⟩;rw[show bO p.2.names q.2.names=decide (bO p.2.names q.2.names=true) by simp];have hF4:aA nob w2 w4:=(hF3.draws 1).trans hf4;refine S5 (by exact⟨hv2.1.keep' hF4 (fun _ _ _=>id),hvy2.keep' hF4 (fun _ _ _=>id)⟩) ?_;by_cases h30:bO p.2.names q.2.names=true
    ·rw[WA h30];refine Gz 13 ?_;refine S9 (k-1) ⟨rfl,rfl,rfl,congrArg (fun z:Int=>some (Value.int .i64 z)) (by omega),trivial⟩ ⟨by omega,fun j r hj hr=>?_,hF4⟩ (by show k-1<k;omega);by_cases e:j=k-1
     ·subst e;rw[hq] at hr;cases hr;exact h30
     ·exact hbe j r (by omega) hr
    rw[Wx h30];have hstop:∀ q:NdH×Nd,0<k→ys[k-1]?=some q→bO p.2.names q.2.names=false:=fun q2 _ h2=>by rw[hq] at h2;cases h2;simpa using h30
    refine Gz 8 ?_;exact aC k ⟨hkl,hbe,hstop,hF4⟩
   have hstop:∀ q:NdH×Nd,0<k→ys[k-1]?=some q→bO p.2.names q.2.names=false:=fun q h=>by omega
   refine Gz 12 ?_;refine SU rfl rfl (TZ rfl rfl rfl rfl ?_);refine S5 (by exact⟨hv3.1,hvy3⟩) ?_;refine Gz 8 ?_;exact aC k ⟨hkl,hbe,hstop,hF3.draws 1⟩
  rintro k w4 ⟨hkl,hbe,hstop,hF4⟩;refine Gz 2 ?_;refine TG aB aS rfl ?_;intro w5 ho5 hs5 hf5;have hoy5:=(ho2.Wr hF4).Wr hf5;have hvy5:=hoy5.vw aB;obtain⟨g5,hg5⟩:∃ g5,g5=w4.heap.size:=⟨_,rfl⟩
  rw[←hg5] at ho5 ⊢;have hy5:∀ a,o=some a→a.block<g5:=fun a ha=>by rw[hg5];exact(ho2.Wr hF4).lt a ha
  have hle:=hvy5.le;refine Gz 2 ?_;refine cL (SN (u:=.slice (bG o c k 10) (ys.drop k).length (c-k)) (Tp aS rfl rfl (by omega)) (by rw[WE];rfl)) ?_;refine S2 aB rfl aS rfl rfl ho5 (hvy5.dropK hkl) (by simp only[W2,WE];omega) (by simp only[W2,WE];unfold maxLen;omega) rfl ?_;intro o6 c6 w6 ho6 hf6 hr6 hn6;rw[Xc] at ho6 ⊢;have hF6:aA nob w2 w6:=(hF4.trans hf5).Wo hf6 (fun j ⟨a,ha,e⟩=>.inr (by cases ha;have e:g5=j:=e;have:=hF4.size;omega));have hoy6:=hoy5.Ws hf6 (fun a ha ⟨b,hb,e⟩=>by cases hb;have e:g5=a.block:=e;have:=hy5 a ha;omega);refine Gz 3 ?_;refine Vh (fun H=>VwM 10 aF H lo lc ps) [0,4,9,10,12] [1,2,3,5,6,7,8,11] (.alt 0 [] (.alt 4 [] (.alt 9 [] (.alt 10 [] (.alt 12 [13] .fin .stop) .stop) .stop) (.alt 9 [] (.alt 4 [] (.alt 10 [] (.alt 12 [13] .fin .stop) .stop) .stop) .stop)) (.alt 9 [] (.alt 0 [] (.alt 4 [] (.alt 10 [] (.alt 12 [13] .fin .stop) .stop) .stop) .stop) .stop)) aL (by kernel_rfl) (hv2.1.keep' hF6 (fun _ _ _=>id)) ?_;have hG0:aA nob w2 (w6.drewN 1):=hF6.draws 1;have hoy0:bP 10 aF 37 (w6.drewN 1).heap o c ys:=hoy6;have hor0:bP 10 aF 37 (w6.drewN 1).heap o6 c6 (ys.drop k):=ho6;generalize w6.drewN 1=v0 at hG0 hoy0 hor0 ⊢;refine TA rfl rfl (SQ rfl) rfl ?_;refine TA rfl rfl (SQ rfl) rfl ?_;refine TA rfl rfl (SN (u:=.slice o (ys.take k).length c) (S8 aS rfl rfl (by omega)) (by rw[bD,WB,XG (by omega)];rfl)) rfl ?_;refine TA rfl rfl (SQ rfl) rfl ?_;refine TA rfl rfl (SQ rfl) rfl ?_;refine TA rfl rfl (SL aS rfl rfl hv2.1.non (by omega)) rfl ?_;refine TA rfl rfl (TN (cs:=aF p) bB rfl (fun H hH j v hj=>hH.rowZ i rfl hp j v hj)) rfl ?_;refine TA rfl rfl (SQ rfl) rfl ?_;refine TC ?_ ?_
  ·refine TB rfl rfl (TG aB aS rfl ?_);intro v1 hoa1 hsa hfa;have hG1:=hG0.trans hfa;have hoy1:=hoy0.Wr hfa;have hor1:=hor0.Wr hfa;obtain⟨ga,hga⟩:∃ ga,ga=v0.heap.size:=⟨_,rfl⟩
   rw[←hga] at hoa1 ⊢;have hgs1:ga<v1.heap.size:=hoa1.lt _ rfl;have hgy:∀ a,o=some a→a.block<ga:=fun a ha=>by rw[hga];exact hoy0.lt a ha
   have hgr:∀ a,o6=some a→a.block<ga:=fun a ha=>by rw[hga];exact hor0.lt a ha
   have hgW:w2.heap.size≤ga:=by rw[hga];exact hG0.size
   refine TP (by exact hv2.1.keep' hG1 (fun _ _ _=>id)) ?_;refine TC ?_ ?_
   ·refine TB rfl rfl (S2 aB rfl aS rfl rfl hoa1 ((hoy1.vw aB).take k) (by simp only[W2,WB];omega) (by simp only[W2,WB];unfold maxLen;omega) rfl ?_);intro o43 c43 v2 ho43_2 hf43 hr43 hn43;rw[Xc] at ho43_2 ⊢;have hG2:aA nob w2 v2:=hG1.Wo hf43 (fun j ⟨a,ha,e⟩=>.inr (by cases ha;have e:ga=j:=e;omega));have hoy2:=hoy1.Ws hf43 (fun a ha ⟨b,hb,e⟩=>by cases hb;have e:ga=a.block:=e;have:=hgy a ha;omega);have hor2:=hor1.Ws hf43 (fun a ha ⟨b,hb,e⟩=>by cases hb;have e:ga=a.block:=e;have:=hgr a ha;omega);have hgs2:ga<v2.heap.size:=Xk hgs1 hf43.size;have hfr43:Fr ga o43:=cP (o:=some ⟨ga,0,none⟩) (fun a ha=>by cases ha;exact WC _) hr43 (by omega);refine TP (by exact hv2.1.keep' hG2 (fun _ _ _=>id)) ?_;refine TC ?_ ?_
    ·refine TB rfl rfl (Tc aS (cs:=(aF p).toArray) fF rfl rfl rfl (by kernel_rfl) rfl ?_);intro v3 hgl hsl hfl;have hob3:bP 10 aF 37 v3.heap (some ⟨v2.heap.size,0,none⟩) 1 [p]:=bX (xs:=[p]) aB (by simpa using hgl) (by show 1≤maxLen;decide);obtain⟨gb,hgbe⟩:∃ gb,gb=v2.heap.size:=⟨_,rfl⟩
     rw[←hgbe] at hob3 ⊢;have hG3:=hG2.trans hfl;have hoy3:=hoy2.Wr hfl;have hor3:=hor2.Wr hfl;have hgs3:ga<v3.heap.size:=Xk hgs2 hfl.size;have ho43_3:=ho43_2.Wr hfl;refine TP (by exact hv2.1.keep' hG3 (fun _ _ _=>id)) ?_;refine TC ?_ ?_
     ·refine TB rfl rfl (S2 aB rfl aS rfl rfl ho43_3 (hob3.vw aB) (by simp only[WF,WB];omega) (by simp only[WF,WB];unfold maxLen;omega) rfl ?_);intro o49 c49 v4 ho49 hf49 hr49 hn49;have hG4:aA nob w2 v4:=hG3.Wo hf49 (fun j ⟨a,ha,e⟩=>.inr (by have:=hfr43 a ha;omega));have hor4:=hor3.Ws hf49 (fun a ha ⟨b,hb,e⟩=>by have:=hfr43 b hb;have:=hgr a ha;omega);have hgs4:ga<v4.heap.size:=Xk hgs3 hf49.size;have hfr49:Fr ga o49:=cP hfr43 hr49 (by omega);refine TP (by exact hv2.1.keep' hG4 (fun _ _ _=>id)) ?_;refine TC ?_ ?_
      ·refine TB rfl rfl (S2 aB rfl aS rfl rfl ho49 (hor4.vw aB) (by simp only[Ww,WF,WB,WE];omega) (by simp only[Ww,WF,WB,WE];unfold maxLen;omega) rfl ?_);intro o51 c51 v5 ho51 hf51 hr51 hn51;rw[WL] at ho51 ⊢;have hG5:aA nob w2 v5:=hG4.Wo hf51 (fun j ⟨a,ha,e⟩=>.inr (by have:=hfr49 a ha;omega));have hfr51:Fr ga o51:=cP hfr49 hr51 (by omega);refine TP (by exact hv2.1.keep' hG5 (fun _ _ _=>id)) ?_;refine TA rfl rfl (TV rfl) rfl ?_;refine UN ?_;refine Gz 7 ?_;exact aG ⟨i+1,o51,c51,ys.take k++p::ys.drop k⟩ ⟨by omega,ho51,fun a ha=>by have:=hfr51 a ha;have:=hF2.size;omega,by rw[tkL hp];exact wY hpe,Bm hor hkl hbe hstop,hF2.trans hG5⟩ (by show ps.length-(i+1)<ps.length-i;omega)
      exact Tv
     exact Tv
    exact Tv
   refine TC ?_ ?_
   ·refine TB rfl rfl (Tc aS (cs:=(aF p).toArray) fF rfl rfl rfl (by kernel_rfl) rfl ?_);intro v2 hgl hsl hfl;have hob2:bP 10 aF 37 v2.heap (some ⟨v1.heap.size,0,none⟩) 1 [p]:=bX (xs:=[p]) aB (by simpa using hgl) (by show 1≤maxLen;decide);obtain⟨gb,hgbe⟩:∃ gb,gb=v1.heap.size:=⟨_,rfl⟩
    rw[←hgbe] at hob2 ⊢;have hG2:=hG1.trans hfl;have hoy2:=hoy1.Wr hfl;have hor2:=hor1.Wr hfl;have hgs2:ga<v2.heap.size:=Xk hgs1 hfl.size;have hoa2:=hoa1.Wr hfl;have hgb:ga<gb:=by rw[hgbe];exact hoa1.lt _ rfl
    refine TP (by exact hv2.1.keep' hG2 (fun _ _ _=>id)) ?_;refine TC ?_ ?_
    ·refine TB rfl rfl (S2 aB rfl aS rfl rfl hoa2 ((hoy2.vw aB).take k) (by simp only[W2,WB];omega) (by simp only[W2,WB];unfold maxLen;omega) rfl ?_);intro o43 c43 v3 ho43_3 hf43 hr43 hn43;rw[Xc] at ho43_3 ⊢;have hG3:aA nob w2 v3:=hG2.Wo hf43 (fun j ⟨a,ha,e⟩=>.inr (by cases ha;have e:ga=j:=e;omega));have hoy3:=hoy2.Ws hf43 (fun a ha ⟨b,hb,e⟩=>by cases hb;have e:ga=a.block:=e;have:=hgy a ha;omega);have hor3:=hor2.Ws hf43 (fun a ha ⟨b,hb,e⟩=>by cases hb;have e:ga=a.block:=e;have:=hgr a ha;omega);have hgs3:ga<v3.heap.size:=Xk hgs2 hf43.size;have hfr43:Fr ga o43:=cP (o:=some ⟨ga,0,none⟩) (fun a ha=>by cases ha;exact WC _) hr43 (by omega);have hob3:=hob2.Ws hf43 (fun a ha ⟨b,hb,e⟩=>by cases hb;cases ha;have e:ga=gb:=e;omega);refine TP (by exact hv2.1.keep' hG3 (fun _ _ _=>id)) ?_;refine TC ?_ ?_
     ·refine TB rfl rfl (S2 aB rfl aS rfl rfl ho43_3 (hob3.vw aB) (by simp only[WF,WB];omega) (by simp only[WF,WB];unfold maxLen;omega) rfl ?_);intro o49 c49 v4 ho49 hf49 hr49 hn49;have hG4:aA nob w2 v4:=hG3.Wo hf49 (fun j ⟨a,ha,e⟩=>.inr (by have:=hfr43 a ha;omega));have hor4:=hor3.Ws hf49 (fun a ha ⟨b,hb,e⟩=>by have:=hfr43 b hb;have:=hgr a ha;omega);have hgs4:ga<v4.heap.size:=Xk hgs3 hf49.size;have hfr49:Fr ga o49:=cP hfr43 hr49 (by omega);refine TP (by exact hv2.1.keep' hG4 (fun _ _ _=>id)) ?_;refine TC ?_ ?_
      ·refine TB rfl rfl (S2 aB rfl aS rfl rfl ho49 (hor4.vw aB) (by simp only[Ww,WF,WB,WE];omega) (by simp only[Ww,WF,WB,WE];unfold maxLen;omega) rfl ?_);intro o51 c51 v5 ho51 hf51 hr51 hn51;rw[WL] at ho51 ⊢;have hG5:aA nob w2 v5:=hG4.Wo hf51 (fun j ⟨a,ha,e⟩=>.inr (by have:=hfr49 a ha;omega));have hfr51:Fr ga o51:=cP hfr49 hr51 (by omega);refine TP (by exact hv2.1.keep' hG5 (fun _ _ _=>id)) ?_;refine TA rfl rfl (TV rfl) rfl ?_;refine UN ?_;refine Gz 7 ?_;exact aG ⟨i+1,o51,c51,ys.take k++p::ys.drop k⟩ ⟨by omega,ho51,fun a ha=>by have:=hfr51 a ha;have:=hF2.size;omega,by rw[tkL hp];exact wY hpe,Bm hor hkl hbe hstop,hF2.trans hG5⟩ (by show ps.length-(i+1)<ps.length-i;omega)
      exact Tv
     exact Tv
    exact Tv
   exact Tv
  refine TC ?_ ?_
  ·refine TB rfl rfl (Tc aS (cs:=(aF p).toArray) fF rfl rfl rfl (by kernel_rfl) rfl ?_);intro v1 hgl hsl hfl;have hob1:bP 10 aF 37 v1.heap (some ⟨v0.heap.size,0,none⟩) 1 [p]:=bX (xs:=[p]) aB (by simpa using hgl) (by show 1≤maxLen;decide);obtain⟨gb,hgbe⟩:∃ gb,gb=v0.heap.size:=⟨_,rfl⟩
   rw[←hgbe] at hob1 ⊢;have hG1:=hG0.trans hfl;have hoy1:=hoy0.Wr hfl;have hor1:=hor0.Wr hfl;refine TP (by exact hv2.1.keep' hG1 (fun _ _ _=>id)) ?_;refine TC ?_ ?_
   ·refine TB rfl rfl (TG aB aS rfl ?_);intro v2 hoa2 hsa hfa;have hG2:=hG1.trans hfa;have hoy2:=hoy1.Wr hfa;have hor2:=hor1.Wr hfa;obtain⟨ga,hga⟩:∃ ga,ga=v1.heap.size:=⟨_,rfl⟩
    rw[←hga] at hoa2 ⊢;have hgs2:ga<v2.heap.size:=hoa2.lt _ rfl;have hgy:∀ a,o=some a→a.block<ga:=fun a ha=>by rw[hga];exact hoy1.lt a ha
    have hgr:∀ a,o6=some a→a.block<ga:=fun a ha=>by rw[hga];exact hor1.lt a ha
    have hgW:w2.heap.size≤ga:=by rw[hga];exact hG1.size
    have hob2:=hob1.Wr hfa;have hgb:gb<ga:=by rw[hga];exact hob1.lt _ rfl
    refine TP (by exact hv2.1.keep' hG2 (fun _ _ _=>id)) ?_;refine TC ?_ ?_
    ·refine TB rfl rfl (S2 aB rfl aS rfl rfl hoa2 ((hoy2.vw aB).take k) (by simp only[W2,WB];omega) (by simp only[W2,WB];unfold maxLen;omega) rfl ?_);intro o43 c43 v3 ho43_3 hf43 hr43 hn43;rw[Xc] at ho43_3 ⊢;have hG3:aA nob w2 v3:=hG2.Wo hf43 (fun j ⟨a,ha,e⟩=>.inr (by cases ha;have e:ga=j:=e;omega));have hoy3:=hoy2.Ws hf43 (fun a ha ⟨b,hb,e⟩=>by cases hb;have e:ga=a.block:=e;have:=hgy a ha;omega);have hor3:=hor2.Ws hf43 (fun a ha ⟨b,hb,e⟩=>by cases hb;have e:ga=a.block:=e;have:=hgr a ha;omega);have hgs3:ga<v3.heap.size:=Xk hgs2 hf43.size;have hfr43:Fr ga o43:=cP (o:=some ⟨ga,0,none⟩) (fun a ha=>by cases ha;exact WC _) hr43 (by omega);have hob3:=hob2.Ws hf43 (fun a ha ⟨b,hb,e⟩=>by cases hb;cases ha;have e:ga=gb:=e;omega);refine TP (by exact hv2.1.keep' hG3 (fun _ _ _=>id)) ?_;refine TC ?_ ?_
     ·refine TB rfl rfl (S2 aB rfl aS rfl rfl ho43_3 (hob3.vw aB) (by simp only[WF,WB];omega) (by simp only[WF,WB];unfold maxLen;omega) rfl ?_);intro o49 c49 v4 ho49 hf49 hr49 hn49;have hG4:aA nob w2 v4:=hG3.Wo hf49 (fun j ⟨a,ha,e⟩=>.inr (by have:=hfr43 a ha;omega));have hor4:=hor3.Ws hf49 (fun a ha ⟨b,hb,e⟩=>by have:=hfr43 b hb;have:=hgr a ha;omega);have hgs4:ga<v4.heap.size:=Xk hgs3 hf49.size;have hfr49:Fr ga o49:=cP hfr43 hr49 (by omega);refine TP (by exact hv2.1.keep' hG4 (fun _ _ _=>id)) ?_;refine TC ?_ ?_
      ·refine TB rfl rfl (S2 aB rfl aS rfl rfl ho49 (hor4.vw aB) (by simp only[Ww,WF,WB,WE];omega) (by simp only[Ww,WF,WB,WE];unfold maxLen;omega) rfl ?_);intro o51 c51 v5 ho51 hf51 hr51 hn51;rw[WL] at ho51 ⊢;have hG5:aA nob w2 v5:=hG4.Wo hf51 (fun j ⟨a,ha,e⟩=>.inr (by have:=hfr49 a ha;omega));have hfr51:Fr ga o51:=cP hfr49 hr51 (by omega);refine TP (by exact hv2.1.keep' hG5 (fun _ _ _=>id)) ?_;refine TA rfl rfl (TV rfl) rfl ?_;refine UN ?_;refine Gz 7 ?_;exact aG ⟨i+1,o51,c51,ys.take k++p::ys.drop k⟩ ⟨by omega,ho51,fun a ha=>by have:=hfr51 a ha;have:=hF2.size;omega,by rw[tkL hp];exact wY hpe,Bm hor hkl hbe hstop,hF2.trans hG5⟩ (by show ps.length-(i+1)<ps.length-i;omega)
      exact Tv
     exact Tv
    exact Tv
   exact Tv
  exact Tv
 have hie:i=ps.length:=by omega
 subst hie;rw[Xg] at hpe;refine Gz 1 ?_;refine aW [(0,_),(3,_),(4,_),(11,_)] ?_;refine Gz 15 ?_;exact⟨_,rfl,o,c,ys,rfl,ho2,hfo,hpe,hor,hF2⟩
end
section
open Go Go.RowKit Go.Maps
def jV(s:List Int)(z:Int):List Int:=if z∈s then s else s++[z]
def bM(zs:List Int):List Int:=zs.foldl jV []
def eO(zs:List Int)(z:Int):Int:=((bM zs).idxOf z:Nat)+1
theorem yN{s:List Int}{z x:Int}:x∈jV s z↔x∈s∨x=z:=by
 unfold jV
 split
 ·rename_i h;exact⟨.inl,fun g=>g.elim id (fun e=>e ▸ h)⟩
 ·simp
theorem C9:∀ (zs s:List Int) (x:Int),x∈zs.foldl jV s↔x∈s∨x∈zs
|[],s,x=>by simp
|z::zs,s,x=>by
   rw[XA,C9 zs,yN,W5];exact or_assoc
theorem gW{zs:List Int}{x:Int}:x∈bM zs↔x∈zs:=by unfold bM;rw[C9];simp
theorem Db:∀ (zs s:List Int),∃ r,zs.foldl jV s=s++r
|[],s=>⟨[],by simp⟩
|z::zs,s=>by
   obtain⟨r,h⟩:=Db zs (jV s z);rw[XA,h];unfold jV
   split
   ·exact⟨r,rfl⟩
   ·exact⟨z::r,by simp⟩
theorem Cj(a b:List Int):∃ r,bM (a++b)=bM a++r:=by
 unfold bM;rw[XO];exact Db _ _
theorem rO(a:List Int)(z:Int):bM (a++[z])=jV (bM a) z:=by unfold bM;rw[XO];rfl
theorem wN{a b:List Int}{z:Int}(h:z∉a):eO (a++z::b) z=((bM a).length:Nat)+1:=by
 obtain⟨r,hr⟩:=Cj (a++[z]) b;have e:a++z::b=(a++[z])++b:=by simp
 have hs:z∉bM a:=fun g=>h (gW.1 g);unfold eO;rw[e,hr,rO];unfold jV;rw[Wt hs,WL,List.idxOf_append,Wt hs];show ((List.idxOf z (z::r)+(bM a).length:Nat):Int)+1=_;rw[List.idxOf_cons_self,Xp]
theorem lB{a:List Int}{z:Int}(h:z∉a):(bM (a++[z])).length=(bM a).length+1:=by
 rw[rO];unfold jV;rw[Wt (fun g=>h (gW.1 g))];simp
theorem lA{a:List Int}{z:Int}(h:z∈a):(bM (a++[z])).length=(bM a).length:=by
 rw[rO];unfold jV;rw[Wu (gW.2 h)]
theorem M4(s:List Int)(z:Int):(jV s z).length≤s.length+1:=by unfold jV;split<;>simp
theorem AX(zs:List Int):(bM zs).length≤zs.length:=by
 have:∀ (zs s:List Int),(zs.foldl jV s).length≤s.length+zs.length:=fun zs=>by
  induction zs with
 |nil=>intro s;simp
 |cons z zs ih=>intro s;rw[XA,WT];have:=ih (jV s z);have:=M4 s z;omega
 have:=this zs [];simpa[bM] using this
def aH(ps:List (NdH×Nd)):List Int:=ps.map (·.2.ino)
def cK(zs:List Int)(p:NdH×Nd):NdH×Nd:=(p.1,{ p.2 with ino:=eO zs p.2.ino })
def lF(ps:List (NdH×Nd)):List (NdH×Nd):=ps.map (cK (aH ps))
theorem lK{ps:List (NdH×Nd)}{i:Nat}{p:NdH×Nd}(hp:ps[i]?=some p):aH ps=aH (ps.take i)++p.2.ino::aH (ps.drop (i+1)):=by
 conv=>lhs;rw[←WX i ps,uW hp]
 simp[aH]
theorem iO{ps:List (NdH×Nd)}{i:Nat}{p:NdH×Nd}(hp:ps[i]?=some p):aH (ps.take (i+1))=aH (ps.take i)++[p.2.ino]:=by rw[tkL hp];simp[aH]
theorem O9{zs:List Int}{ps:List (NdH×Nd)}{i:Nat}{p:NdH×Nd}(hp:ps[i]?=some p):(ps.take (i+1)).map (cK zs)=(ps.take i).map (cK zs)++[cK zs p]:=by rw[tkL hp];simp
theorem CI(zs:List Int)(z:Int):1≤eO zs z:=by unfold eO;omega
variable {D:Nat→Prop}
theorem IJ(lo:Option Addr)(lc:Nat)(ps:List (NdH×Nd))(W:World)(hv:VwM 10 aF W.heap lo lc ps)(h1000:ps.length≤1024) :
 CA 53 [.slice lo ps.length lc] W fun v w'=>∃ o c,v=.slice o (lF ps).length c∧bP 10 aF 37 w'.heap o c (lF ps)∧Fr W.heap.size o∧aA nob W w':=by
 have h63:=hv.Wq;obtain⟨Z,hZ⟩:∃ Z,Z=aH ps:=⟨_,rfl⟩
 refine cS 54 [(0,_)] Tryz.func53 ?_;refine Gz 7 ?_;refine TG aB aS rfl ?_;intro w1 ho1 hs1 hf1;refine Gz 15 ?_;refine SO (β:=Nat×Option Addr×Nat) (fun⟨i,o,c⟩=>[(0,.slice lo ps.length lc),(3,.slice o ((ps.take i).map (cK Z)).length c),(4,iV (((bM (aH (ps.take i))).length:Nat)+1)),(5,iV i)]) (fun⟨i,o,c⟩ w=>i≤ps.length∧bP 10 aF 37 w.heap o c ((ps.take i).map (cK Z))∧Fr W.heap.size o∧aA nob W w) (fun⟨i,o,c⟩=>ps.length-i) ⟨0,some ⟨W.heap.size,0,none⟩,0⟩ ⟨rfl,rfl,rfl,rfl,trivial⟩ ⟨WG _,ho1,fun a ha=>by cases ha;exact WC _,hf1⟩ ?_;rintro⟨i,o,c⟩ w2 ⟨hi,ho2,hfo,hF2⟩;refine fK 6 ?_ ?_<;>intro h12
 ·have hil:i<ps.length:=by omega
  obtain⟨p,hp⟩:∃ p,ps[i]?=some p:=⟨_,Wv hil⟩
  have hv2:=hv.keep' hF2 (fun _ _ _=>id);have hsl:=AX (aH (ps.take i));have hil2:(aH (ps.take i)).length=i:=by simp[aH];omega
  refine Gz 1 ?_;refine aW [(0,_),(3,_),(4,_),(5,_),(12,_)] ?_;refine Gz 10 ?_;refine cL (SL aS rfl rfl hv2.non (by omega)) ?_;refine cL (SX (cs:=aF p) bB rfl (fun j v hj=>hv2.rowZ i rfl hp j v hj)) ?_;refine SP fF rfl ?_;intro w3 hg3 hs3 hf3;obtain⟨q,hq⟩:∃ q,q=w2.heap.size:=⟨_,rfl⟩
  rw[←hq] at hg3 ⊢;have hoq:∀ a,o=some a→¬ a.block=q:=fun a ha=>by have:=ho2.lt a ha;omega
  refine SY (vs:=aF p) bB rfl rfl (aB p).2 hg3 rfl ?_;intro w4 hg4 hs4 hf4;have hf24:aA nob w2 w4:=hf3.Wo hf4 (fun k e=>.inr (by have e:k=q:=e;omega));refine Gz 5 ?_;refine SV aN rfl rfl rfl hg4 rfl ?_;intro w5 hg5 hs5 hf5;have hf25:aA nob w2 w5:=hf24.Wo hf5 (fun k e=>.inr (by have e:k=q:=e;omega));refine Gz 9 ?_;refine SO (β:=Nat×Int) (fun⟨k,z⟩=>[(0,.slice lo ps.length lc),(3,.slice o ((ps.take i).map (cK Z)).length c),(4,iV (((bM (aH (ps.take i))).length:Nat)+1)),(5,iV i),(6,pT q),(7,iV k)]) (fun⟨k,z⟩ w=>k≤i∧w.heap[q]?=some (.cells (aF (p.1,{ p.2 with ino:=z })).toArray 37 (0,0))∧((p.2.ino∉aH (ps.take k)→z=0)∧(p.2.ino∈aH (ps.take k)→z=eO Z p.2.ino))∧aA nob w2 w) (fun⟨k,z⟩=>i-k) ⟨0,0⟩ ⟨rfl,rfl,rfl,rfl,rfl,rfl,trivial⟩ ⟨WG _,hg5,⟨fun _=>rfl,fun h=>by simp[aH] at h⟩,hf25⟩ ?_;rintro⟨k,z⟩ w6 ⟨hk,hg6,hzc,hF6⟩;refine fK 5 ?_ ?_<;>intro h22
  ·have hki:k<i:=by omega
   obtain⟨r,hr⟩:∃ r,ps[k]?=some r:=⟨_,Wv (by omega)⟩
   have hv6:=hv2.keep' hF6 (fun _ _ _=>id);have ho6:=ho2.Wr hF6;refine Gz 1 ?_;refine aW [(0,_),(3,_),(4,_),(5,_),(6,_),(7,_),(22,_)] ?_;refine Gz 7 ?_;refine Tg 11 [0,1,2,3,4,5,6,7,8,9,10] aL (by kernel_rfl) ?_;refine Gz 2 ?_;refine xC rfl (SL aS rfl rfl hv6.non (by omega)) ?_;refine Gz 1 ?_;refine xC rfl (SM aN rfl (hv6.rowZ k rfl hr 1 _ rfl)) ?_;refine Gz 2 ?_;refine xC rfl (SL aS rfl rfl hv6.non (by omega)) ?_;refine Gz 1 ?_;refine xC rfl (SM aN rfl (hv6.rowZ i rfl hp 1 _ rfl)) ?_;refine xK 0 ?_ ?_<;>intro h35
   ·refine Gz 6 ?_;have hvo:=ho6.vw aB;have hrk:((ps.take i).map (cK Z))[k]?=some (cK Z r):=by rw[W7,Xf,Wu hki,hr];rfl
    refine cL (SL aS rfl rfl hvo.non (by rw[WK,WB];omega)) ?_;refine Gz 1 ?_;refine cL (SM aN rfl (hvo.rowZ k rfl hrk 1 _ rfl)) ?_;refine Gz 1 ?_;refine SV aN rfl rfl rfl hg6 rfl ?_;intro w7 hg7 hs7 hf7;have hF7:aA nob w2 w7:=(hF6.draws 1).Wo hf7 (fun k e=>.inr (by have e:k=q:=e;omega));refine Gz 8 ?_;refine aG ⟨k+1,eO Z r.2.ino⟩ ⟨by omega,hg7,?_,hF7⟩ (by show i-(k+1)<i-k;omega);rw[h35];exact⟨fun h=>absurd (by rw[iO hr,WZ];exact .inr (by rw[h35];exact WY.2 rfl)) h,fun _=>rfl⟩
   refine Gz 11 ?_;refine aG ⟨k+1,z⟩ ⟨by omega,hg6,?_,hF6.draws 1⟩ (by show i-(k+1)<i-k;omega);rw[iO hr,WZ,WY];exact⟨fun h=>hzc.1 (fun g=>h (.inl g)),fun h=>h.elim hzc.2 (fun e=>absurd e.symm h35)⟩
  have hke:k=i:=by omega
  subst hke;refine Gz 1 ?_;refine aW [(0,_),(3,_),(4,_),(5,_),(6,_),(7,_),(22,_)] ?_;refine Gz 7 ?_;refine Tj (β:=Unit) (fun _u=>[(0,.slice lo ps.length lc),(3,.slice o ((ps.take k).map (cK Z)).length c),(4,iV (((bM (aH (ps.take (k+1)))).length:Nat)+1)),(5,iV k),(6,pT q)]) (fun _u w=>w.heap[q]?=some (.cells (aF (cK Z p)).toArray 37 (0,0))∧aA nob w2 w) ?_ ?_
  ·refine Gz 3 ?_;refine cL (SN (u:=iV z) (SM aN rfl (aD hg6 rfl)) rfl) ?_;refine fK 0 ?_ ?_<;>intro h44
   ·have hn:p.2.ino∉aH (ps.take k):=fun h=>by have:=hzc.2 h;have:=CI Z p.2.ino;omega
    have hzz:eO Z p.2.ino=((bM (aH (ps.take k))).length:Nat)+1:=by rw[hZ,lK hp];exact wN hn
    refine Gz 7 ?_;refine SV aN rfl rfl rfl hg6 rfl ?_;intro w8 hg8 hs8 hf8;have hgR:w8.heap[q]?=some (.cells (aF (cK Z p)).toArray 37 (0,0)):=by unfold cK;rw[hzz];exact hg8
    have hF8:aA nob w2 w8:=hF6.Wo hf8 (fun k e=>.inr (by have e:k=q:=e;omega));refine Gz 7 ?_;exact Tn () ⟨rfl,rfl,congrArg (fun z:Int=>some (Value.int .i64 z)) (by rw[iO hp,lB hn];omega),rfl,rfl,trivial⟩ ⟨hgR,hF8⟩
   have hin:p.2.ino∈aH (ps.take k):=by
    apply WH;intro hn;exact h44 (hzc.1 hn)
   have hzz:z=eO Z p.2.ino:=hzc.2 hin;refine Gz 4 ?_;exact Tn () ⟨rfl,rfl,congrArg (fun z:Int=>some (Value.int .i64 z)) (by rw[iO hp,lA hin]),rfl,rfl,trivial⟩ ⟨by unfold cK;rw[←hzz];exact hg6,hF6⟩
  rintro _ w8 ⟨hgR,hF8⟩;refine Gz 2 ?_;refine cL (SX (cs:=aF (cK Z p)) bB rfl (bJ hgR 0 rfl)) ?_;obtain⟨y,hy⟩:∃ y,y=cK Z p:=⟨_,rfl⟩
  rw[←hy];refine Tc aS (cs:=(aF y).toArray) fF rfl rfl rfl (by kernel_rfl) rfl ?_;intro w9 hg9 hs9 hf9;have ho9:bP 10 aF 37 w9.heap (some ⟨w8.heap.size,0,none⟩) 1 [y]:=bX (xs:=[y]) aB (by simpa using hg9) (by show 1≤maxLen;decide);refine S2 aB rfl aS rfl rfl ((ho2.Wr hF8).Wr hf9) (ho9.vw aB) (by simp only[WF,WK,WB];omega) (by simp only[WF,WK,WB];unfold maxLen;omega) rfl ?_;intro o9 c9 w10 hoA hfA hrA hnA;rw[hy,←O9 hp] at hoA ⊢;have hFA:aA nob W w10:=(hF2.trans (hF8.trans hf9)).Wo hfA hfo.step;have hfo9:Fr W.heap.size o9:=cP hfo hrA (by have:=hF2.size;have:=hF8.size;have:=hf9.size;omega);refine Gz 9 ?_;exact aG ⟨k+1,o9,c9⟩ ⟨by omega,hoA,hfo9,hFA⟩ (by show ps.length-(k+1)<ps.length-k;omega)
 have hie:i=ps.length:=by omega
 subst hie;rw[Xg] at ho2;refine Gz 1 ?_;refine aW [(0,_),(3,_),(4,_),(5,_),(12,_)] ?_;refine Gz 15 ?_;refine⟨_,rfl,o,c,?_,?_,hfo,hF2⟩
 ·rw[Xg,hZ];rfl
 ·unfold lF;rw[←hZ];exact ho2
theorem Pg{H:Array Obj}{ps:List (NdH×Nd)}(h:∀ p∈ps,NdV D H p):∀ p∈lF ps,NdV D H p:=by
 intro p hp;obtain⟨q,hq,rfl⟩:=WS.1 hp;exact h q hq
def aP(ps:List (NdH×Nd)):List (NdH×Nd):=lF (eV ps)
theorem BB{l:List Nd}(h:chk l=0):l.length≤1024:=by
 unfold chk at h;by_cases h1:1024<l.length
 ·rw[Wu h1] at h;cases h
 ·omega
theorem rD{l:List Nd}(h:chk l=0):plc l=0:=by
 rw[aK] at h;by_cases h1:plc l=0
 ·exact h1
 ·rw[Wu h1] at h;exact absurd h h1
theorem wI{l:List Nd}(h:plc l=0):nmd l=0:=by
 unfold plc at h;by_cases h0:1024<l.length
 ·rw[Wu h0] at h;cases h
 · rw[Wt h0] at h
   by_cases h1:nmd l=0
   ·exact h1
   ·rw[Wu h1] at h;exact absurd h h1
theorem sM{l:List Nd}(h:chk l=0):¬ bL l:=(iA (wI (rD h))).2.2
theorem zW(lo:Option Addr)(lc:Nat)(ps:List (NdH×Nd))(W:World)(hv:aQ D W.heap lo lc ps)(hsm:∀ p∈ps,smN p.2) :
 CA 15 [.slice lo ps.length lc] W fun v w'=>∃ (o:Option Addr) (c:Nat) (qs:List (NdH×Nd)),v=.tuple [.slice o qs.length c,iV (chk (nds ps))].toArray∧qs=(if chk (nds ps)=0 then aP ps else [])∧aQ D w'.heap o c qs∧aA nob W w':=by
 have hll:(nds ps).length=ps.length:=by simp
 refine cS 13 [(0,_)] Tryz.func15 ?_;refine cA 9 Se (GU lo lc ps W hv hsm) ?_;rintro _ w2 ⟨rfl,hf2⟩;refine fK 7 ?_ ?_<;>intro h8
 ·refine Gz 13 ?_;refine⟨_,rfl,none,0,[],rfl,(Wt h8).symm,⟨⟨WG _,WG _,fun h=>absurd rfl h,fun i x hx=>by simp at hx⟩,by simp⟩,hf2⟩
 have hz:chk (nds ps)=0:=W3.1 h8;have hlen:=BB hz;have ht:=sM hz;refine Gz 8 ?_;refine SJ Sb rfl (D6 lo lc ps w2 (hv.Wr hf2) (by omega)) rfl ?_;rintro _ w3 ⟨o3,c3,ys,rfl,ho3,hfo3,hpe,hor,hf3⟩;have hys:=mG ht hpe hor;have hyl:=hpe.length_eq;have hvy:=ho3.vw aB;refine SJ Sd rfl (IJ o3 c3 ys w3 hvy (by omega)) rfl ?_;rintro _ w4 ⟨o4,c4,rfl,ho4,hfo4,hf4⟩;refine Gz 6 ?_;have hF:aA nob W w4:=(hf2.trans hf3).trans hf4;refine⟨_,rfl,o4,c4,lF ys,by rw[hz],by rw[Wu hz,hys];rfl,⟨ho4.vw aB,Pg fun p hp=>(hv.Wr hF).2 p (hpe.mem_iff.1 hp)⟩,hF⟩
end
section
open Go Go.RowKit Go.Maps
theorem tI{α:Type}{K j:Nat}{enc:α→List Value}(hk:∀ x,(enc x).length=K)(hj:j<K){v:Value}{x':α}:∀ (xs:List α) (i:Nat) (y:α),xs[i]?=some y→enc x'=(enc y).set j v→(xs.set i x').flatMap enc=(xs.flatMap enc).set (i*K+j) v
|[],i,y,h,_=>by simp at h
|z::r,0,y,h,he=>by
   simp at h;subst h;rw[List.set_cons_zero,XD,XD,he,List.set_append,Wu (by rw[hk];omega),Nat.zero_mul,Xp]
|z::r,i+1,y,h,he=>by
   have ih:=tI hk hj r i y (by simpa using h) he;have e1:(i+1)*K+j=K+(i*K+j):=by rw[Xx];omega
   rw[List.set_cons_succ,XD,XD,ih,List.set_append,Wt (by rw[hk];omega),hk,e1,Zb]
section
variable {P:Program}{N:Nt}{Q:Exit→Act→World→Prop}{l:SF}{w:World}{ops:Array Oper}{rest:List Oper}{ty:TypeId}{pos:String}{aft:Array Edge}{x y:Operand}{t:TypeId}{v:Value}
theorem Tq{α:Type}{K:Nat}{enc:α→List Value}(henc:jY K enc){T:TypeId}{ao:Option Addr}{cap:Nat}{xs:List α}{i j:Nat}{x' x0:α}{ad:Addr}(hi:xs[i]?=some x0)(hj:j<K)(he:enc x'=(enc x0).set j v)
 (ht:fS P t=true)(hx:evL l x=some (.pointer (some ad)))(had:ad=(adr ao (i*K)).add j)(hy:evL l y=some v)(h1:v.oneCell'=true)(ho:bP K enc T w.heap ao cap xs)
 (h:∀ w',bP K enc T w'.heap ao cap (xs.set i x')→w'.heap.size=w.heap.size→aA (blk ao) w w'→Sl P N ops Q rest l w') :
 Sl P N ops Q (⟨none,.store t x y,ty,pos,aft,none⟩::rest) l w:=by
 have hil:=(Wy.1 hi).1;rcases ho with⟨rfl,rfl,rfl⟩|⟨g,cur,rfl,hg,g1,g2,g3,g4⟩
 ·simp at hil
 · have hK:xs.length*K≤cap*K:=Xh K g1
   have hiK:(i+1)*K≤xs.length*K:=Xh K (by omega);have hlt:i*K+j<cur.toList.length:=by rw[Array.length_toList,g3];rw[Xx,XW] at hiK;omega
   have hadr:ad=⟨g,i*K+j,none⟩:=by
    rw[had];show ((⟨g,0,none⟩:Addr).add (i*K)).add j=_;rw[Addr.add_add,Addr.add_lit,Xp]
   subst hadr;refine SV (cur:=cur.toList) ht hx hy h1 (by simpa using hg) (by simpa[XP] using hlt) (fun w' q1 q2 q3=>h w' ?_ q2 ?_)
   · refine .inr ⟨g,_,rfl,q1,by simpa using g1,g2,by simpa using g3,?_⟩
     rw[XH,tI (fun x=>(henc x).1) hj xs i x0 hi he,←g4];simp only[List.take_set]
   ·exact q3.mono (fun k e=>⟨⟨g,0,none⟩,rfl,e.symm⟩)
end
theorem mT(n:Nat):Fr n (some ⟨n,0,none⟩):=fun a ha=>by cases ha;exact WC _
theorem AE(ao:Option Addr)(c:Nat)(L:List By)(W:World)(hv:Vw gQ W.heap ao c L)(hl:L.length≤1024) :
 CA 60 [.slice ao L.length c] W fun v w'=>∃ o c',v=.slice o L.length c'∧Own gQ 9 w'.heap o c' L∧Fr W.heap.size o∧aA nob W w':=by
 refine cS 8 [(0,_)] Tryz.func60 ?_;refine Gz 9 ?_;refine Tl (S6 (Ti jK rfl rfl)) rfl (fun h4=>?_) (fun h4=>?_)
 ·refine Gz 11 ?_;obtain rfl:L=[]:=by
   apply WH;intro hne;have h0:ao=none:=by simpa using h4
   exact hv.non (by have:=WN.2 hne;omega) h0
  exact⟨_,rfl,none,0,rfl,.inl ⟨rfl,rfl,rfl⟩,VP,VK _ _⟩
 refine Gz 7 ?_;refine T1 gQ jK rfl ?_;intro w1 ho1 hs1 hf1;refine Gz 1 ?_;refine S4 Is jK rfl rfl ho1 (hv.Wr hf1) (by simp only[W2];omega) (by simp only[W2];unfold maxLen;omega) rfl ?_;intro o2 c2 w2 ho2 hf2 hr2 hn2;rw[Xc] at ho2 ⊢;refine Gz 5 ?_;exact⟨_,rfl,o2,c2,rfl,ho2,cP (mT _) hr2 hf1.size,hf1.Wo hf2 (mT _).step⟩
theorem nT(ao:Option Addr)(c:Nat)(L:By)(W:World)(hv:Vw b8 W.heap ao c L)(hl:L.length≤10000) :
 CA 61 [.slice ao L.length c] W fun v w'=>∃ o c',v=.slice o L.length c'∧Own b8 5 w'.heap o c' L∧Fr W.heap.size o∧aA nob W w':=by
 refine cS 8 [(0,_)] Tryz.func61 ?_;refine Gz 9 ?_;refine Tl (S6 (Ti aT rfl rfl)) rfl (fun h4=>?_) (fun h4=>?_)
 ·refine Gz 11 ?_;obtain rfl:L=[]:=by
   apply WH;intro hne;have h0:ao=none:=by simpa using h4
   exact hv.non (by have:=WN.2 hne;omega) h0
  exact⟨_,rfl,none,0,rfl,.inl ⟨rfl,rfl,rfl⟩,VP,VK _ _⟩
 refine Gz 7 ?_;refine T1 b8 aT rfl ?_;intro w1 ho1 hs1 hf1;refine Gz 1 ?_;refine S4 dK aT rfl rfl ho1 (hv.Wr hf1) (by simp only[W2];omega) (by simp only[W2];unfold maxLen;omega) rfl ?_;intro o2 c2 w2 ho2 hf2 hr2 hn2;rw[Xc] at ho2 ⊢;refine Gz 5 ?_;exact⟨_,rfl,o2,c2,rfl,ho2,cP (mT _) hr2 hf1.size,hf1.Wo hf2 (mT _).step⟩
theorem AD(ao:Option Addr)(c:Nat)(L:List (By×Hd))(W:World)(hv:VwM 2 fC W.heap ao c L)(hl:L.length≤10000) :
 CA 62 [.slice ao L.length c] W fun v w'=>∃ o c',v=.slice o L.length c'∧bP 2 fC 123 w'.heap o c' L∧Fr W.heap.size o∧aA nob W w':=by
 refine cS 8 [(0,_)] Tryz.func62 ?_;refine Gz 9 ?_;refine Tl (S6 (Ti iY rfl rfl)) rfl (fun h4=>?_) (fun h4=>?_)
 ·refine Gz 11 ?_;obtain rfl:L=[]:=by
   apply WH;intro hne;have h0:ao=none:=by simpa using h4
   exact hv.non (by have:=WN.2 hne;omega) h0
  exact⟨_,rfl,none,0,rfl,.inl ⟨rfl,rfl,rfl⟩,VP,VK _ _⟩
 refine Gz 7 ?_;refine TG cH iY rfl ?_;intro w1 ho1 hs1 hf1;refine Gz 1 ?_;refine S2 cH rfl iY rfl rfl ho1 (hv.keep' hf1 (fun _ _ _=>id)) (by simp only[W2];omega) (by simp only[W2];unfold maxLen;omega) rfl ?_;intro o2 c2 w2 ho2 hf2 hr2 hn2;rw[Xc] at ho2 ⊢;refine Gz 5 ?_;exact⟨_,rfl,o2,c2,rfl,ho2,cP (mT _) hr2 hf1.size,hf1.Wo hf2 (mT _).step⟩
theorem HL(ao:Option Addr)(c:Nat)(L:List (NdH×Nd))(W:World)(hv:VwM 10 aF W.heap ao c L)(hl:L.length≤1024) :
 CA 56 [.slice ao L.length c] W fun v w'=>∃ o c',v=.slice o L.length c'∧bP 10 aF 37 w'.heap o c' L∧Fr W.heap.size o∧aA nob W w':=by
 refine cS 8 [(0,_)] Tryz.func56 ?_;refine Gz 9 ?_;refine Tl (S6 (Ti aS rfl rfl)) rfl (fun h4=>?_) (fun h4=>?_)
 ·refine Gz 11 ?_;obtain rfl:L=[]:=by
   apply WH;intro hne;have h0:ao=none:=by simpa using h4
   exact hv.non (by have:=WN.2 hne;omega) h0
  exact⟨_,rfl,none,0,rfl,.inl ⟨rfl,rfl,rfl⟩,VP,VK _ _⟩
 refine Gz 7 ?_;refine TG aB aS rfl ?_;intro w1 ho1 hs1 hf1;refine Gz 1 ?_;refine S2 aB rfl aS rfl rfl ho1 (hv.keep' hf1 (fun _ _ _=>id)) (by simp only[W2];omega) (by simp only[W2];unfold maxLen;omega) rfl ?_;intro o2 c2 w2 ho2 hf2 hr2 hn2;rw[Xc] at ho2 ⊢;refine Gz 5 ?_;exact⟨_,rfl,o2,c2,rfl,ho2,cP (mT _) hr2 hf1.size,hf1.Wo hf2 (mT _).step⟩
end
section
variable {P:Program}{ops:Array Oper}{CH:Array Obj→Prop}{N:Nt}{n:Nat}{R effs:List Nat}{K0:Act→World→Prop}{Q:Exit→Act→World→Prop}{l:SF}{w:World}
theorem EH{i:Nat}{oi:Oper}{v:Value}(hi:ops[i]?=some oi)(hsel:∀ (j:Nat) (o:Oper) cs b,ops[j]?=some o→o.op≠.select cs b)(hin:i≠n) :
 ∀ (fuel:Nat) (listed:Array Bool) (a:Act) (w:World),(listed.getD n false=false→CH w.heap) →
  (∀ j oj,ops[j]?=some oj→j≠i→listed.getD j true=false→(∀ e∈oj.after,Region.binds .any e=true→e.on≠i)→oi.apart ops oj=true) →
  i∈Region.ready .any ops listed→YC P ops (fun _=>True) oi v a →
  bF P .any ops n CH K0 fuel (listed.setIfInBounds i true) (a.put oi.dst v) w→bF P .any ops n CH K0 (fuel+1) listed a w:=by
 intro fuel
 induction fuel with
|zero=>
   intro listed a w hc _ hr hy H;refine⟨hc,fun h=>(by rw[h] at hr;cases hr),fun j hj=>?_⟩;by_cases hji:j=i
   ·subst hji;exact hy.wpOp hi trivial H
   · have:=ready_mono hj hji
     rw[H.2.1] at this;cases this
|succ fuel ih=>
   intro listed a w hc hfree hr hy H;refine⟨hc,fun h=>(by rw[h] at hr;cases hr),fun j hj=>?_⟩;by_cases hji:j=i
   ·subst hji;exact hy.wpOp hi trivial H
   · have h1:=H.2.2 j (ready_mono hj hji)
     obtain⟨hjun,oj,hoj,hall⟩:=mem_ready.1 hj;have hnot:∀ e∈oj.after,Region.binds .any e=true→e.on≠i:=fun e he hb heq=>by
      have h1:=hall e he hb;have h0:=(mem_ready.1 hr).1;rw[heq] at h1;rcases Yj i listed.size with h'|h'
      ·simp[h'] at h0 h1;rw[h0] at h1;cases h1
      ·simp[YK h'] at h1
     have h2:=rJ hoj (hfree j oj hoj hji hjun hnot) (fun cs b=>hsel i oi cs b hi) (fun cs b=>hsel j oj cs b hoj) hy h1;have hfree':∀ k ok,ops[k]?=some ok→k≠i→(listed.setIfInBounds j true).getD k true=false →
      (∀ e∈ok.after,Region.binds .any e=true→e.on≠i)→oi.apart ops ok=true:=fun k ok hk hki hun hno=>by
      refine hfree k ok hk hki ?_ hno;by_cases hjk:j=k
      ·subst hjk;exact hjun
      ·rw[getD_set_ne true hjk] at hun;exact hun
     have ch2:(listed.setIfInBounds j true).getD n false=false→((listed.setIfInBounds i true).setIfInBounds j true).getD n false=false:=fun h4=>by
      rw[YB _ _ (fun e=>hji e.symm),getD_set_ne false hin];exact h4
     refine wpOp_mono (fun a' w' h3=>ih (listed.setIfInBounds j true) a' w' (fun h4=>h3.2.ch (ch2 h4)) hfree' (ready_mono hr (Ne.symm hji)) h3.1 ?_) h2;rw[YB _ _ hji];exact h3.2
theorem EG{i:Nat}{oi on:Oper}{v:Value}(hi:ops[i]?=some oi)(hsel:∀ (j:Nat) (o:Oper) cs b,ops[j]?=some o→o.op≠.select cs b)(hin:i≠n)(hon:ops[n]?=some on)(hw:∃ e∈on.after,Region.binds .any e=true∧e.on=i) :
 ∀ (fuel:Nat) (listed:Array Bool) (a:Act) (w:World),listed.getD n false=false→CH w.heap →
  (∀ j oj,ops[j]?=some oj→j≠i→listed.getD j true=false→(∀ e∈oj.after,Region.binds .any e=true→e.on≠i)→oi.apart ops oj=true) →
  i∈Region.ready .any ops listed→YC P ops CH oi v a →
  bF P .any ops n CH K0 fuel (listed.setIfInBounds i true) (a.put oi.dst v) w→bF P .any ops n CH K0 (fuel+1) listed a w:=by
 intro fuel
 induction fuel with
|zero=>
   intro listed a w hun hc _ hr hy H;refine⟨fun _=>hc,fun h=>(by rw[h] at hr;cases hr),fun j hj=>?_⟩;by_cases hji:j=i
   ·subst hji;exact hy.wpOp hi hc H
   · have:=ready_mono hj hji
     rw[H.2.1] at this;cases this
|succ fuel ih=>
   intro listed a w hun hc hfree hr hy H;refine⟨fun _=>hc,fun h=>(by rw[h] at hr;cases hr),fun j hj=>?_⟩;by_cases hji:j=i
   ·subst hji;exact hy.wpOp hi hc H
   · have h1:=H.2.2 j (ready_mono hj hji)
     obtain⟨hjun,oj,hoj,hall⟩:=mem_ready.1 hj;have hnot:∀ e∈oj.after,Region.binds .any e=true→e.on≠i:=fun e he hb heq=>by
      have h1:=hall e he hb;have h0:=(mem_ready.1 hr).1;rw[heq] at h1;rcases Yj i listed.size with h'|h'
      ·simp[h'] at h0 h1;rw[h0] at h1;cases h1
      ·simp[YK h'] at h1
     have hjn:j≠n:=fun e=>by
      subst e;obtain⟨e,he,hb,hei⟩:=hw;rw[hoj] at hon;cases hon;exact hnot e he hb hei
     have h2:=rJ hoj (hfree j oj hoj hji hjun hnot) (fun cs b=>hsel i oi cs b hi) (fun cs b=>hsel j oj cs b hoj) hy h1;have hfree':∀ k ok,ops[k]?=some ok→k≠i→(listed.setIfInBounds j true).getD k true=false →
      (∀ e∈ok.after,Region.binds .any e=true→e.on≠i)→oi.apart ops ok=true:=fun k ok hk hki hun hno=>by
      refine hfree k ok hk hki ?_ hno;by_cases hjk:j=k
      ·subst hjk;exact hjun
      ·rw[getD_set_ne true hjk] at hun;exact hun
     have hun':(listed.setIfInBounds j true).getD n false=false:=by rw[getD_set_ne false hjn];exact hun
     have ch2:((listed.setIfInBounds i true).setIfInBounds j true).getD n false=false:=by rw[getD_set_ne false hjn,getD_set_ne false hin];exact hun
     refine wpOp_mono (fun a' w' h3=>ih (listed.setIfInBounds j true) a' w' hun' (h3.2.ch ch2) hfree' (ready_mono hr (Ne.symm hji)) h3.1 ?_) h2;rw[YB _ _ hji];exact h3.2
def CHr(R:List Nat)(CH:Array Obj→Prop)(i:Nat):Array Obj→Prop:=bif R.contains i then CH else fun _=>True
def Sz(P:Program)(N:Nt)(ops:Array Oper)(n:Nat)(R:List Nat)(CH:Array Obj→Prop)(effs:List Nat)(K0:Act→World→Prop):Bool→List Nat→SF→World→Prop
|_,[],l,w=>∀ a,bQ N l a→K0 a w
|fr,i::r,l,w=>∃ o,ops[i]?=some o ∧
   (bif effs.contains i then Sl P N ops (iR fun a w=>∃ l',bQ N l' a∧((fr && !X7 i n)=true→CH w.heap)∧Sz P N ops n R CH effs K0 (fr && !X7 i n) r l' w) [o] l w
    else ∃ v,(∀ a,bQ N l a→YC P ops (CHr R CH i) o v a)∧∃ l',(∀ a,bQ N l a→bQ N l' (a.put o.dst v))∧Sz P N ops n R CH effs K0 fr r l' w)
def KZ(P:Program)(N:Nt)(ops:Array Oper)(n:Nat)(R:List Nat)(CH:Array Obj→Prop)(effs:List Nat)(K0:Act→World→Prop):Bool→OT→Act→World→Prop
|_,.fin,a,w=>K0 a w
|_,.stop,_,_=>True
|fr,.alt i pre t u,a,w=>(∃ l',bQ N l' a∧Sz P N ops n R CH effs (KZ P N ops n R CH effs K0 (fr && !X7 i n) t) fr (i::pre) l' w)∧KZ P N ops n R CH effs K0 fr u a w
def Fk(ops:Array Oper)(n k:Nat):Bool:=match ops[n]? with|some o=>o.after.toList.any (fun e=>Region.binds .any e && X7 e.on k)|none=>false
def rS(ops:Array Oper)(n:Nat)(R effs:List Nat):List Nat→Array Bool→Option (Array Bool)
|[],L=>some L
|k::r,L=>bif (!effs.contains k) && (Region.ready .any ops L).contains k && Region.free .any ops L k && !X7 k n && (!R.contains k || (Fk ops n k && !L.getD n false)) then rS ops n R effs r (L.setIfInBounds k true) else none
def okZ(ops:Array Oper)(n:Nat)(R effs:List Nat):Bool→Bool→OT→Array Bool→Bool
|_,_,.fin,L=>(Region.ready .any ops L).isEmpty
|_,top,.stop,_=>!top
|fr,top,.alt i pre t u,L=>(!top || (Region.ready .any ops L).all (i::u.heads).contains) && effs.contains i && (Region.ready .any ops L).contains i && (fr == !L.getD n false) && Xb i L.size &&
   (match rS ops n R effs pre (L.setIfInBounds i true) with|some L'=>okZ ops n R effs (fr && !X7 i n) true t L'|none=>false) && okZ ops n R effs fr false u L
theorem IW{k:Nat}:∀ (pre:List Nat) (L L':Array Bool),rS ops n R effs pre L=some L'→L'.getD n false=L.getD n false
|[],L,L',h=>by simp only[rS,Option.some.injEq] at h;rw[h]
|k::r,L,L',h=>by
   cases hb:((!effs.contains k) && (Region.ready .any ops L).contains k && Region.free .any ops L k && !X7 k n && (!R.contains k || (Fk ops n k && !L.getD n false))) with
  |false=>simp only[rS,hb,cond_false] at h;cases h
  |true=>
     simp only[rS,hb,cond_true] at h;simp only[WW,Yt] at hb;have hkn:k≠n:=fun e=>by have:=hb.1.2;rw[e,Nat.beq_refl] at this;cases this
     rw[IW (k:=k) r _ _ h,getD_set_ne false hkn]
theorem wG(hsel:Region.noSelect ops=true){K:Act→World→Prop}{L':Array Bool}{m:Nat}{fr:Bool}
 (hK:∀ (f:Nat) (a:Act) (w:World),m≤f→(fr=true→CH w.heap)→K a w→bF P .any ops n CH K0 f L' a w) :
 ∀ (pre:List Nat) (f:Nat) (L:Array Bool) (l:SF) (a:Act) (w:World),pre.length+m≤f→rS ops n R effs pre L=some L'→(L.getD n false=false→fr=true)→bQ N l a→(fr=true→CH w.heap)→Sz P N ops n R CH effs K fr pre l w→bF P .any ops n CH K0 f L a w
|[],f,L,l,a,w,hf,hp,hfr,ha,hc,h=>by
   simp only[rS,Option.some.injEq] at hp;subst hp;exact hK f a w (by simpa using hf) hc (h a ha)
|k::r,0,L,l,a,w,hf,hp,hfr,ha,hc,h=>by simp at hf
|k::r,f+1,L,l,a,w,hf,hp,hfr,ha,hc,h=>by
   obtain⟨o,ho,h⟩:=h;cases hb:((!effs.contains k) && (Region.ready .any ops L).contains k && Region.free .any ops L k && !X7 k n && (!R.contains k || (Fk ops n k && !L.getD n false))) with
  |false=>simp only[rS,hb,cond_false] at hp;cases hp
  |true=>
     simp only[rS,hb,cond_true] at hp;simp only[WW,Yt,X3] at hb;obtain⟨⟨⟨⟨he,m1⟩,m2⟩,m3⟩,m4⟩:=hb;have hkn:k≠n:=fun e=>by rw[e,Nat.beq_refl] at m3;cases m3
     rw[he] at h;simp only[cond_false] at h;obtain⟨v,hy,l',hl',hs⟩:=h;have hir:k∈Region.ready .any ops L:=by simpa using m1
     have hrec:=wG hsel hK r f _ l' _ w (by simp at hf;omega) hp (fun h0=>hfr (by rw[getD_set_ne false hkn] at h0;exact h0)) (hl' a ha) hc hs;cases hR:R.contains k with
    |false=>
       have hy2:YC P ops (fun _=>True) o v a:=by have:=hy a ha;unfold CHr at this;rw[hR] at this;exact this
       exact EH ho (Region.noSelect_spec hsel) hkn f L a w (fun h0=>hc (hfr h0)) (Region.free_spec ho m2) hir hy2 hrec
    |true=>
       have hy2:YC P ops CH o v a:=by have:=hy a ha;unfold CHr at this;rw[hR] at this;exact this
       obtain⟨m5,m6⟩:=m4.resolve_left (by rw[hR];decide);unfold Fk at m5;cases hon:ops[n]? with
      |none=>rw[hon] at m5;cases m5
      |some on=>
         rw[hon] at m5;obtain⟨e,he1,he2⟩:=List.any_eq_true.1 m5;simp only[WW,Nat.beq_eq] at he2;exact EG ho (Region.noSelect_spec hsel) hkn hon ⟨e,by simpa using he1,he2.1,he2.2⟩ f L a w m6 (hc (hfr m6)) (Region.free_spec ho m2) hir hy2 hrec
theorem Ll{i:Nat}{pre:List Nat}{K:Act→World→Prop}{f:Nat}{L:Array Bool}{a:Act}{fr:Bool}(he:effs.contains i=true)(ha:bQ N l a)
 (key:∀ l' a' w',bQ N l' a'→((fr && !X7 i n)=true→CH w'.heap)→Sz P N ops n R CH effs K (fr && !X7 i n) pre l' w'→bF P .any ops n CH K0 f (L.setIfInBounds i true) a' w')
 (h:Sz P N ops n R CH effs K fr (i::pre) l w):wpOp P ops (iR K0) i (bF P .any ops n CH K0 f (L.setIfInBounds i true)) a w:=by
 obtain⟨o,ho,h⟩:=h;rw[he] at h;simp only[cond_true] at h;have h1:=h a ha;unfold wpList at h1;unfold wpOp;simp only[ho];have key2:∀ a' w',wpList P ops (iR fun a w=>∃ l',bQ N l' a∧((fr && !X7 i n)=true→CH w.heap)∧Sz P N ops n R CH effs K (fr && !X7 i n) pre l' w) [] a' w'→bF P .any ops n CH K0 f (L.setIfInBounds i true) a' w':=by
  intro a' w' h2;obtain⟨l',h3,h4,h5⟩:=h2;exact key l' a' w' h3 h4 h5
 split
 · rename_i hw
   rw[Wu hw] at h1;rcases h1 with h1|⟨_,_,_,h1⟩
   ·exact .inl (VS key2 h1)
   ·exact h1.elim
 · rename_i hw
   rw[Wt hw] at h1;exact key2 _ _ h1
theorem mD(hsel:Region.noSelect ops=true):∀ (t:OT) (fr top:Bool) (f:Nat) (L:Array Bool) (a:Act) (w:World),t.dep≤f→okZ ops n R effs fr top t L=true→(L.getD n false=false→fr=true)→(fr=true→CH w.heap)→KZ P N ops n R CH effs K0 fr t a w →
 (top=true→bF P .any ops n CH K0 f L a w)∧∀ k∈t.heads,∃ f',f=f'+1∧wpOp P ops (iR K0) k (bF P .any ops n CH K0 f' (L.setIfInBounds k true)) a w
|.fin,fr,top,f,L,a,w,hf,hm,hfr,hc,h=>by
   have hr:Region.ready .any ops L=[]:=by simpa[okZ] using hm
   refine⟨fun _=>?_,fun k hk=>by cases hk⟩;cases f with
  |zero=>exact⟨fun h0=>hc (hfr h0),hr,h⟩
  |succ f=>exact⟨fun h0=>hc (hfr h0),fun _=>h,by rw[hr];simp⟩
|.stop,fr,top,f,L,a,w,hf,hm,hfr,hc,h=>by
   refine⟨fun e=>by subst e;simp[okZ] at hm,fun k hk=>by cases hk⟩
|.alt i pre t u,fr,top,f,L,a,w,hf,hm,hfr,hc,h=>by
   simp only[okZ,WW] at hm;obtain⟨⟨⟨⟨⟨⟨m1,m2⟩,m3⟩,m4⟩,m5⟩,m6⟩,m7⟩:=hm;have hf1:pre.length+t.dep+1≤f:=W9 (Nat.le_max_left _ _) hf;have hf2:u.dep≤f:=W9 (Nat.le_max_right _ _) hf;obtain⟨f',rfl⟩:∃ f',f=f'+1:=⟨f-1,by omega⟩
   obtain⟨⟨l',ha,h1⟩,h2⟩:=h;have hi:i<L.size:=by simpa[XP] using m5
   have hr:i∈Region.ready .any ops L:=by simpa using m3
   have hu:=mD hsel u fr false (f'+1) L a w hf2 m7 hfr hc h2;have hfr2:(L.setIfInBounds i true).getD n false=false→(fr && !X7 i n)=true:=fun h0=>by
    by_cases hin:i=n
    ·subst hin;simp[hi] at h0
    · rw[getD_set_ne false hin] at h0
      rw[hfr h0];have:X7 i n=false:=by cases hb:X7 i n with|false=>rfl|true=>exact absurd (Nat.eq_of_beq_eq_true hb) hin
      rw[this];rfl
   have hhead:∀ k∈i::u.heads,∃ f'',f'+1=f''+1∧wpOp P ops (iR K0) k (bF P .any ops n CH K0 f'' (L.setIfInBounds k true)) a w:=by
    intro k hk;rcases W5.1 hk with rfl|hk
    · refine⟨f',rfl,Ll m2 ha (fun l2 a2 w2 hl2 hc2 hs2=>?_) h1⟩
      cases hp:rS ops n R effs pre (L.setIfInBounds k true) with
     |none=>rw[hp] at m6;cases m6
     |some L'=>
        rw[hp] at m6;have hn':=IW (k:=k) pre _ _ hp;exact wG hsel (m:=t.dep) (fun f3 a3 w3 hf3 hc3 hk3=>(mD hsel t _ true f3 L' a3 w3 hf3 m6 (fun h0=>hfr2 (by rw[←hn'];exact h0)) hc3 hk3).1 rfl) pre f' _ l2 a2 w2 (by omega) hp hfr2 hl2 hc2 hs2
    ·exact hu.2 k hk
   refine⟨fun e=>?_,hhead⟩;subst e;refine⟨fun h0=>hc (hfr h0),fun h0=>(by rw[h0] at hr;cases hr),fun k hk=>?_⟩;simp only[Bool.not_true,Bool.false_or,Yy] at m1;obtain⟨f'',e1,hw⟩:=hhead k (by simpa using m1 k hk);obtain rfl:f'=f'':=by omega
   exact hw
theorem TH{id:Nat}{lops:List Oper}(n:Nat)(R:List Nat)(CH:Array Obj→Prop)(effs pre:List Nat)(t:OT)(hm:P.follows .mixedOrders=true)(hs:(Region.noSelect lops.toArray &&
 (match rS lops.toArray n R effs pre (X4 lops.length false) with|some L'=>okZ lops.toArray n R effs true true t L'|none=>false) && Nat.ble (pre.length+t.dep) lops.length)=true)(hc:CH w.heap)
 (h:Sz P N lops.toArray n R CH effs (KZ P N lops.toArray n R CH effs (fun a w=>Q .normal a w) true t) true pre l (w.drewN 1)):Sc P N (.region id lops.toArray true) Q l w:=fun a ha=>by
 simp only[WW] at hs;obtain⟨⟨hs,hok⟩,hlen⟩:=hs;have h1:bF P .any lops.toArray n CH (fun a w=>Q .normal a w) lops.length (X4 lops.length false) a (w.drewN 1):=by
  cases hp:rS lops.toArray n R effs pre (X4 lops.length false) with
 |none=>rw[hp] at hok;cases hok
 |some L'=>
    rw[hp] at hok;exact wG hs (m:=t.dep) (fr:=true) (fun f3 a3 w3 hf3 hc3 hk3=>(mD hs t true true f3 L' a3 w3 hf3 hok (fun _=>rfl) hc3 hk3).1 rfl) pre lops.length _ l a _ (by simpa[YN] using hlen) hp (fun _=>rfl) ha (fun _=>hc) h
 have h2:=wp_region_any (P:=P) (id:=id) (ops:=lops.toArray) (Q:=iR fun a w=>Q .normal a w) (a:=a) (w:=w) hm (by
  have:=h1.any;simpa[World.drewN] using this)
 refine wp_mono h2 ?_;intro e a' w' hq;cases e<;>first|exact hq|exact hq.elim
variable {r:List Nat}{i:Nat}{op:Op}{ty:TypeId}{pos:String}{aft:Array Edge}{d:Nat}{v:Value}{t u:OT}{fr:Bool}
theorem Sz.calm(hi:ops[i]?=some ⟨some d,op,ty,pos,aft,none⟩)(he:effs.contains i=false)(hv:Cm P N (CHr R CH i) l ⟨some d,op,ty,pos,aft,none⟩ v)(hd:Xb d N.n=true)
 (h:Sz P N ops n R CH effs K0 fr r ((d,v)::l) w):Sz P N ops n R CH effs K0 fr (i::r) l w:=
 ⟨_,hi,by rw[he];exact⟨v,fun a ha=>.inl ⟨by simp[Region.wanted],fun w hw=>hv a w ha hw⟩,_,fun a ha=>ha.put hd v,h⟩⟩
def KW(P:Program)(N:Nt)(ops:Array Oper)(n:Nat)(R:List Nat)(CH:Array Obj→Prop)(effs:List Nat)(K0:Act→World→Prop)(fr:Bool)(r:List Nat):Exit→Act→World→Prop:=iR fun a w=>∃ l',bQ N l' a∧(fr=true→CH w.heap)∧Sz P N ops n R CH effs K0 fr r l' w
theorem Wa{o:Oper}(hi:ops[i]?=some o)(he:effs.contains i=true)(h:Sl P N ops (KW P N ops n R CH effs K0 (fr && !X7 i n) r) [o] l w):Sz P N ops n R CH effs K0 fr (i::r) l w:=
 ⟨_,hi,by rw[he];exact h⟩
theorem Sz.on(hc:CH w.heap)(h:Sz P N ops n R CH effs K0 fr r l w):Sl P N ops (KW P N ops n R CH effs K0 fr r) [] l w:=fun _ ha=>⟨l,ha,fun _=>hc,h⟩
theorem Sz.off(hf:fr=false)(h:Sz P N ops n R CH effs K0 fr r l w):Sl P N ops (KW P N ops n R CH effs K0 fr r) [] l w:=fun _ ha=>⟨l,ha,fun e=>absurd (hf.symm.trans e) (by decide),h⟩
theorem Wb(h:At N .normal Q l w):Sz P N ops n R CH effs (KZ P N ops n R CH effs (fun a w=>Q .normal a w) fr .fin) fr [] l w:=fun a ha=>h a ha
theorem Sz.alt{pre:List Nat}(h1:Sz P N ops n R CH effs (KZ P N ops n R CH effs K0 (fr && !X7 i n) t) fr (i::pre) l w)(h2:Sz P N ops n R CH effs (KZ P N ops n R CH effs K0 fr u) fr [] l w):Sz P N ops n R CH effs (KZ P N ops n R CH effs K0 fr (.alt i pre t u)) fr [] l w:=fun a ha=>⟨⟨l,ha,h1⟩,h2 a ha⟩
theorem Sz.stop:Sz P N ops n R CH effs (KZ P N ops n R CH effs K0 fr .stop) fr [] l w:=fun _ _=>trivial
end
theorem JP{xs:List Int}{i k:Nat}{u:Int}(hi:i<xs.length):(xs.set i u).getD k 0=if k=i then u else xs.getD k 0:=by
 by_cases h:k=i
 ·subst h;rw[Wu rfl,WI,List.getElem?_set_self hi];rfl
 ·rw[Wt h,WI,List.getElem?_set_ne (fun e=>h e.symm)];rfl
def wx(i j k:Nat):Nat:=if k=j then i else if k=i then j else k
def iX(xs:List Int)(i j:Nat):List Int:=(xs.set i (xs.getD j 0)).set j (xs.getD i 0)
theorem mF(xs:List Int)(i j:Nat):(iX xs i j).length=xs.length:=by simp[iX]
theorem nO{xs:List Int}{i j k:Nat}(hi:i<xs.length)(hj:j<xs.length):(iX xs i j).getD k 0=xs.getD (wx i j k) 0:=by
 unfold iX wx;rw[JP (by simpa using hj),JP hi];by_cases h1:k=j
 ·rw[Wu h1,Wu h1]
 · rw[Wt h1,Wt h1]
   by_cases h2:k=i
   ·rw[Wu h2,Wu h2]
   ·rw[Wt h2,Wt h2]
theorem swap_perm{xs:List Int}{i j:Nat}(hi:i<xs.length)(hj:j<xs.length):(iX xs i j).Perm xs:=by
 have h:=Array.swap_perm (xs:=xs.toArray) (i:=i) (j:=j) (by simpa using hi) (by simpa using hj);have e1:xs.getD j 0=xs[j]:=by simp[WI,hj]
 have e2:xs.getD i 0=xs[i]:=by simp[WI,hi]
 have e:(xs.toArray.swap i j (by simpa using hi) (by simpa using hj)).toList=iX xs i j:=by
  unfold iX;rw[e1,e2];simp[Array.swap]
 have h2:=Array.perm_iff_toList_perm.1 h;rw[e] at h2;exact h2
def sx(a b n k:Nat):Nat:=if a≤k∧k<a+n then k-a+b else if b≤k∧k<b+n then k-b+a else k
theorem nB(a b n k:Nat):(a≤k∧k<a+n∧sx a b n k=k-a+b)∨(¬ (a≤k∧k<a+n)∧b≤k∧k<b+n∧sx a b n k=k-b+a)∨(¬ (a≤k∧k<a+n)∧¬ (b≤k∧k<b+n)∧sx a b n k=k):=by
 unfold sx;by_cases h1:a≤k∧k<a+n
 ·rw[Wu h1];exact .inl ⟨h1.1,h1.2,rfl⟩
 · rw[Wt h1]
   by_cases h2:b≤k∧k<b+n
   ·rw[Wu h2];exact .inr (.inl ⟨h1,h2.1,h2.2,rfl⟩)
   ·rw[Wt h2];exact .inr (.inr ⟨h1,h2,rfl⟩)
theorem Ln(a b k:Nat):sx a b 0 k=k:=by have:=nB a b 0 k;omega
theorem fX(i j k:Nat):(k=j∧wx i j k=i)∨(k≠j∧k=i∧wx i j k=j)∨(k≠j∧k≠i∧wx i j k=k):=by
 unfold wx;by_cases h1:k=j
 ·rw[Wu h1];exact .inl ⟨h1,rfl⟩
 · rw[Wt h1]
   by_cases h2:k=i
   ·rw[Wu h2];exact .inr (.inl ⟨h1,h2,rfl⟩)
   ·rw[Wt h2];exact .inr (.inr ⟨h1,h2,rfl⟩)
theorem Lo{a b i k:Nat}(h:a+i<b):sx a b i (wx (a+i) (b+i) k)=sx a b (i+1) k:=by
 have h1:=fX (a+i) (b+i) k;have h2:=nB a b i (wx (a+i) (b+i) k);have h3:=nB a b (i+1) k;omega
def rx(a m b k:Nat):Nat:=if a≤k∧k<a+(b-m) then k-a+m else if a+(b-m)≤k∧k<b then k-(b-m) else k
theorem eI(a m b k:Nat):(a≤k∧k<a+(b-m)∧rx a m b k=k-a+m)∨(¬ (a≤k∧k<a+(b-m))∧a+(b-m)≤k∧k<b∧rx a m b k=k-(b-m))∨(¬ (a≤k∧k<a+(b-m))∧¬ (a+(b-m)≤k∧k<b)∧rx a m b k=k):=by
 unfold rx;by_cases h1:a≤k∧k<a+(b-m)
 ·rw[Wu h1];exact .inl ⟨h1.1,h1.2,rfl⟩
 · rw[Wt h1]
   by_cases h2:a+(b-m)≤k∧k<b
   ·rw[Wu h2];exact .inr (.inl ⟨h1,h2.1,h2.2,rfl⟩)
   ·rw[Wt h2];exact .inr (.inr ⟨h1,h2,rfl⟩)
theorem Nb{m i j k:Nat}(h:j<i)(hj:0<j)(him:i≤m):sx (m-i) m j (rx (m-(i-j)) m (m+j) k)=rx (m-i) m (m+j) k:=by
 have h1:=eI (m-(i-j)) m (m+j) k;have h2:=nB (m-i) m j (rx (m-(i-j)) m (m+j) k);have h3:=eI (m-i) m (m+j) k;omega
theorem Na{m i j k:Nat}(h:i<j)(hi:0<i)(him:i≤m):sx (m-i) (m+(j-i)) i (rx (m-i) m (m+(j-i)) k)=rx (m-i) m (m+j) k:=by
 have h1:=eI (m-i) m (m+(j-i)) k;have h2:=nB (m-i) (m+(j-i)) i (rx (m-i) m (m+(j-i)) k);have h3:=eI (m-i) m (m+j) k;omega
theorem O8{m i k:Nat}(him:i≤m):sx (m-i) m i k=rx (m-i) m (m+i) k:=by
 have h2:=nB (m-i) m i k;have h3:=eI (m-i) m (m+i) k;omega
theorem fA(x:Int):(i64 x).oneCell'=true:=rfl
def StI(W0:World)(o:Option Addr)(c n:Nat)(xs:List Int)(w:World):Prop:=Own i64 3 w.heap o c xs∧xs.length=n∧aA (blk o) W0 w
theorem StI.draws{W0:World}{o:Option Addr}{c n:Nat}{xs:List Int}{w:World}(h:StI W0 o c n xs w)(k:Nat):StI W0 o c n xs (w.drewN k):=⟨h.1,h.2.1,h.2.2.draws k⟩
theorem StI.Wr{W0:World}{o:Option Addr}{c n:Nat}{xs:List Int}{w w':World}(h:StI W0 o c n xs w)(f:aA nob w w'):StI W0 o c n xs w':=⟨h.1.Wr f,h.2.1,h.2.2.trans (f.mono (fun _ h=>h.elim))⟩
theorem vQ(W0:World)(o:Option Addr)(c n a b m:Nat)(fv:Value)(xs:List Int)(W:World)(h:StI W0 o c n xs W)(hab:a+m≤b)(hbm:b+m≤n)(hn:n≤1000000) :
 CA 237 [.slice o n c,iV a,iV b,iV m,fv] W fun v w'=>v=.tuple #[]∧∃ ys,StI W0 o c n ys w'∧ys.Perm xs∧∀ k,ys.getD k 0=xs.getD (sx a b m k) 0:=by
 refine cS 38 [(0,_),(1,_),(2,_),(3,_),(4,_)] Tryz.func237 ?_;refine Gz 6 ?_;refine SO (β:=Nat×List Int) (fun⟨i,ys⟩=>[(0,.slice o n c),(1,iV a),(2,iV b),(3,iV m),(10,iV i)]) (fun⟨i,ys⟩ w=>i≤m∧StI W0 o c n ys w∧ys.Perm xs∧∀ k,ys.getD k 0=xs.getD (sx a b i k) 0) (fun⟨i,ys⟩=>m-i) ⟨0,xs⟩ ⟨rfl,rfl,rfl,rfl,rfl,trivial⟩ ⟨WG _,h,List.Perm.refl _,fun k=>by rw[Ln]⟩ ?_;rintro⟨i,ys⟩ w2 ⟨hi,hy,hp,hk⟩;refine fK 5 ?_ ?_<;>intro h13
 ·have him:i<m:=by omega
  refine Gz 7 ?_;have hyl:=hy.2.1;refine TH 21 [13,19] (fun H=>Vw i64 H o c ys) [21,23] [0,1,2,3,4,5,6,7,8,9,10,11,12,13,14,15,16,17,18,19,20] (.alt 21 [22] (.alt 23 [] .fin .stop) .stop) aL (by kernel_rfl) (hy.1.vw) ?_;refine Sz.calm rfl rfl (SQ rfl) rfl ?_;refine Sz.calm rfl rfl (SQ rfl) rfl ?_;refine Sz.calm rfl rfl (SQ rfl) rfl ?_;refine Sz.calm rfl rfl (Tx rfl rfl (by omega)) rfl ?_;refine Sz.calm rfl rfl (SQ rfl) rfl ?_;refine Sz.calm rfl rfl (SQ rfl) rfl ?_;refine Sz.calm rfl rfl (SQ rfl) rfl ?_;refine Sz.calm rfl rfl (Tx rfl rfl (by omega)) rfl ?_;refine Sz.calm rfl rfl (SQ rfl) rfl ?_;refine Sz.calm rfl rfl (SQ rfl) rfl ?_;refine Sz.calm rfl rfl (SQ rfl) rfl ?_;refine Sz.calm rfl rfl (Tx rfl rfl (by omega)) rfl ?_;refine Sz.calm rfl rfl (SI cI rfl rfl (by rw[←hy.2.1];exact hy.1.vw.non) (by omega)) rfl ?_;refine Sz.calm rfl rfl (SR aN rfl (fun H (hH:Vw i64 H o c ys)=>hH.gz 0 (b+i) (by omega) (by omega))) rfl ?_;refine Sz.calm rfl rfl (SQ rfl) rfl ?_;refine Sz.calm rfl rfl (SQ rfl) rfl ?_;refine Sz.calm rfl rfl (SQ rfl) rfl ?_;refine Sz.calm rfl rfl (Tx rfl rfl (by omega)) rfl ?_;refine Sz.calm rfl rfl (SI cI rfl rfl (by rw[←hy.2.1];exact hy.1.vw.non) (by omega)) rfl ?_;refine Sz.calm rfl rfl (SR aN rfl (fun H (hH:Vw i64 H o c ys)=>hH.gz 0 (a+i) (by omega) (by omega))) rfl ?_;refine Sz.calm rfl rfl (SI cI rfl rfl (by rw[←hy.2.1];exact hy.1.vw.non) (by omega)) rfl ?_;refine Sz.alt ?_ ?_
  ·refine Wa rfl rfl (Tm fA aN (z:=(a:Int)+i) (u:=ys.getD (b+i) 0) rfl rfl (hy.draws 1).1 (by omega) ?_);intro w3 ho3 hs3 hf3;refine Sz.off rfl ?_;refine Sz.calm rfl rfl (SI cI rfl rfl (by rw[←hy.2.1];exact hy.1.vw.non) (by omega)) rfl ?_;refine Sz.alt ?_ ?_
   ·refine Wa rfl rfl (Tm fA aN (z:=(b:Int)+i) (u:=ys.getD (a+i) 0) rfl rfl ho3 (by rw[XH];omega) ?_);intro w4 ho4 hs4 hf4;have e1:((a:Int)+i).toNat=a+i:=by omega
    have e2:((b:Int)+i).toNat=b+i:=by omega
    rw[e1,e2] at ho4;refine Sz.off rfl ?_;refine Wb ?_;refine Gz 7 ?_;refine aG ⟨i+1,iX ys (a+i) (b+i)⟩ ⟨by omega,⟨ho4,by rw[mF];exact hyl,((hy.2.2.draws 1).trans hf3).trans hf4⟩,(swap_perm (by omega) (by omega)).trans hp,fun k=>?_⟩ (by show m-(i+1)<m-i;omega);rw[nO (by omega) (by omega),hk,Lo (by omega)]
   exact Sz.stop
  exact Sz.stop
 have hie:i=m:=by omega
 subst hie;refine Gz 7 ?_;refine Tf rfl ?_;exact⟨_,rfl,rfl,ys,hy,hp,hk⟩
theorem GN(W0:World)(o:Option Addr)(c n a m b:Nat)(fv:Value)(xs:List Int)(W:World)(h:StI W0 o c n xs W)(ham:a<m)(hmb:m<b)(hbn:b≤n)(hn:n≤1000000) :
 CA 236 [.slice o n c,iV a,iV m,iV b,fv] W fun v w'=>v=.tuple #[]∧∃ ys,StI W0 o c n ys w'∧ys.Perm xs∧∀ k,ys.getD k 0=xs.getD (rx a m b k) 0:=by
 refine cS 58 [(0,_),(1,_),(2,_),(3,_),(4,_)] Tryz.func236 ?_;refine Gz 18 ?_;refine SO (β:=Nat×Nat×List Int) (fun⟨i,j,ys⟩=>[(0,.slice o n c),(2,iV m),(4,fv),(10,iV i),(11,iV j)]) (fun⟨i,j,ys⟩ w=>(0<i∧0<j∧i≤m∧m+j≤n)∧StI W0 o c n ys w∧ys.Perm xs∧∀ k,xs.getD (rx a m b k) 0=ys.getD (rx (m-i) m (m+j) k) 0) (fun⟨i,j,ys⟩=>i+j) ⟨m-a,b-m,xs⟩ ⟨rfl,rfl,rfl,(congrArg (fun z:Int=>some (Value.int .i64 z)) (by omega)),(congrArg (fun z:Int=>some (Value.int .i64 z)) (by omega)),trivial⟩ ⟨⟨by omega,by omega,by omega,by omega⟩,h,List.Perm.refl _,fun k=>by rw[show m-(m-a)=a by omega,show m+(b-m)=b by omega]⟩ ?_;rintro⟨i,j,ys⟩ w2 ⟨⟨hi0,hj0,him,hjn⟩,hy,hp,hk⟩;refine fK 5 ?_ ?_<;>intro h20
 ·refine fK 10 ?_ ?_<;>intro h23
  ·refine Gz 12 ?_;obtain⟨a1,ha1⟩:∃ a1:Nat,a1=m-i:=⟨_,rfl⟩
   refine SJ JZ rfl ((by rw[show ((m:Int)-i)=((m-i:Nat):Int) by omega];exact vQ W0 o c n (m-i) m j fv ys w2 hy (by omega) (by omega) hn)) rfl ?_;rintro _ w3 ⟨rfl,zs,hz,hzp,hzk⟩;refine Gz 9 ?_
   first
   |exact S9 ⟨i-j,j,zs⟩ ⟨rfl,rfl,rfl,congrArg (fun z:Int=>some (Value.int .i64 z)) (by omega),rfl,trivial⟩ ⟨⟨by omega,by omega,by omega,by omega⟩,hz,hzp.trans hp,fun k=>by rw[hk,hzk,Nb (by omega) hj0 him]⟩ (by show i-j+j<i+j;omega)
   |exact S9 ⟨i,j-i,zs⟩ ⟨rfl,rfl,rfl,rfl,congrArg (fun z:Int=>some (Value.int .i64 z)) (by omega),trivial⟩ ⟨⟨by omega,by omega,by omega,by omega⟩,hz,hzp.trans hp,fun k=>by rw[hk,hzk,Na (by omega) hi0 him]⟩ (by show i+(j-i)<i+j;omega)
  refine Gz 16 ?_;refine SJ JZ rfl ((by rw[show ((m:Int)-i)=((m-i:Nat):Int) by omega,show ((m:Int)+j-i)=((m+(j-i):Nat):Int) by omega];exact vQ W0 o c n (m-i) (m+(j-i)) i fv ys w2 hy (by omega) (by omega) hn)) rfl ?_;rintro _ w3 ⟨rfl,zs,hz,hzp,hzk⟩;refine Gz 9 ?_
  first
  |exact S9 ⟨i-j,j,zs⟩ ⟨rfl,rfl,rfl,congrArg (fun z:Int=>some (Value.int .i64 z)) (by omega),rfl,trivial⟩ ⟨⟨by omega,by omega,by omega,by omega⟩,hz,hzp.trans hp,fun k=>by rw[hk,hzk,Nb (by omega) hj0 him]⟩ (by show i-j+j<i+j;omega)
  |exact S9 ⟨i,j-i,zs⟩ ⟨rfl,rfl,rfl,rfl,congrArg (fun z:Int=>some (Value.int .i64 z)) (by omega),trivial⟩ ⟨⟨by omega,by omega,by omega,by omega⟩,hz,hzp.trans hp,fun k=>by rw[hk,hzk,Na (by omega) hi0 him]⟩ (by show i+(j-i)<i+j;omega)
 have hij:i=j:=by omega
 subst hij;refine Gz 16 ?_;refine SJ JZ rfl ((by rw[show ((m:Int)-i)=((m-i:Nat):Int) by omega];exact vQ W0 o c n (m-i) m i fv ys w2 hy (by omega) (by omega) hn)) rfl ?_;rintro _ w3 ⟨rfl,zs,hz,hzp,hzk⟩;refine Gz 1 ?_;refine Tf rfl ?_;exact⟨_,rfl,rfl,zs,hz,hzp.trans hp,fun k=>by rw[hk,hzk,O8 him]⟩
section
variable {K:Int→List (List UInt8)}
def ltS(K:Int→List By)(x y:Int):Prop:=cQ (K x) (K y)<0∨(cQ (K x) (K y)=0∧x<y)
theorem nK{x y z:Int}(h1:ltS K x y)(h2:ltS K y z):ltS K x z:=by
 rcases h1 with h1|⟨h1,g1⟩
 · rcases h2 with h2|⟨h2,g2⟩
   ·exact .inl (pE h1 h2)
   ·rw[kU h2] at h1;exact .inl h1
 · rcases h2 with h2|⟨h2,g2⟩
   ·rw[←kU h1] at h2;exact .inl h2
   ·exact .inr ⟨by rw[kU h1,h2],by omega⟩
theorem nJ{x y:Int}(h:cQ (K y) (K x)<0):ltS K y x:=.inl h
theorem oV{x y:Int}(hxy:x<y)(h:¬ cQ (K y) (K x)<0):ltS K x y:=by
 have:=xX (K y) (K x);by_cases e:cQ (K x) (K y)=0
 ·exact .inr ⟨e,hxy⟩
 ·exact .inl (by omega)
end
def Srt(K:Int→List By)(xs:List Int)(a b:Nat):Prop:=∀ i j:Nat,a≤i→i<j→j<b→ltS K (xs.getD i 0) (xs.getD j 0)
def Inc(xs:List Int)(a b:Nat):Prop:=∀ i j:Nat,a≤i→i<j→j<b→xs.getD i 0<xs.getD j 0
def StB(xs:List Int)(a m b:Nat):Prop:=∀ i j:Nat,a≤i→i<m→m≤j→j<b→xs.getD i 0<xs.getD j 0
def Seg(xs ys:List Int)(a b:Nat):Prop:=ys.length=xs.length∧ys.Perm xs∧(∀ k:Nat,(k<a∨b≤k)→ys.getD k 0=xs.getD k 0)∧∀ k:Nat,a≤k→k<b→∃ k':Nat,a≤k'∧k'<b∧ys.getD k 0=xs.getD k' 0
theorem Wc(xs:List Int)(a b:Nat):Seg xs xs a b:=⟨rfl,List.Perm.refl _,fun _ _=>rfl,fun k h1 h2=>⟨k,h1,h2,rfl⟩⟩
theorem Seg.trans{xs ys zs:List Int}{a b:Nat}(h:Seg xs ys a b)(g:Seg ys zs a b):Seg xs zs a b:=
 ⟨g.1.trans h.1,g.2.1.trans h.2.1,fun k hk=>(g.2.2.1 k hk).trans (h.2.2.1 k hk),fun k h1 h2=>by
  obtain⟨k',a1,a2,a3⟩:=g.2.2.2 k h1 h2;obtain⟨k'',b1,b2,b3⟩:=h.2.2.2 k' a1 a2;exact⟨k'',b1,b2,a3.trans b3⟩⟩
theorem Seg.wide{xs ys:List Int}{a b a' b':Nat}(h:Seg xs ys a b)(ha:a'≤a)(hb:b≤b'):Seg xs ys a' b':=
 ⟨h.1,h.2.1,fun k hk=>h.2.2.1 k (by omega),fun k h1 h2=>by
  by_cases hk:a≤k∧k<b
  · obtain⟨k',a1,a2,a3⟩:=h.2.2.2 k hk.1 hk.2
    exact⟨k',by omega,by omega,a3⟩
  ·exact⟨k,h1,h2,h.2.2.1 k (by omega)⟩⟩
theorem Seg.swap{xs ys:List Int}{a b i j:Nat}(h:Seg xs ys a b)(hi:a≤i∧i<b)(hj:a≤j∧j<b)(hb:b≤ys.length):Seg xs (iX ys i j) a b:=by
 refine h.trans ⟨mF _ _ _,swap_perm (by omega) (by omega),fun k hk=>?_,fun k h1 h2=>⟨wx i j k,?_,?_,nO (by omega) (by omega)⟩⟩
 · rw[nO (by omega) (by omega)]
   have:=fX i j k;rw[show wx i j k=k by omega]
 ·have:=fX i j k;omega
 ·have:=fX i j k;omega
theorem JQ{xs:List Int}{k:Nat}(h:k<xs.length):xs.getD k 0∈xs:=by
 have:xs.getD k 0=xs[k]:=by simp[WI,h]
 rw[this];exact Xw h
structure M7 (W0:World)(o:Option Addr)(f:FuncId)(cs:List Value)(V:Int→Prop)(K:Int→List By):Prop where
 fn:fnB Tryz.prog f=true
 call:∀ (w:World) (x y:Int),aA (blk o) W0 w→V x→V y→Calls Tryz.prog f ([Value.int .i64 x,Value.int .i64 y]++cs).toArray w (Ret fun v w'=>v=iV (cQ (K x) (K y))∧aA nob w w')
def HY(K:Int→List By)(ys:List Int)(a i j:Nat):Prop:=(∀ p q:Nat,a≤p→p<q→q≤i→p≠j→q≠j→ltS K (ys.getD p 0) (ys.getD q 0))∧(∀ q:Nat,j<q→q≤i→ltS K (ys.getD j 0) (ys.getD q 0))∧∀ p:Nat,a≤p→p≤i→p≠j→ys.getD p 0<ys.getD j 0
theorem HY.step{K:Int→List By}{ys:List Int}{a i j:Nat}(h:HY K ys a i j)(haj:a<j)(hji:j≤i)(hi:i<ys.length)(hl:cQ (K (ys.getD j 0)) (K (ys.getD (j-1) 0))<0):HY K (iX ys j (j-1)) a i (j-1):=by
 obtain⟨h1,h2,h3⟩:=h;have g:∀ k,(iX ys j (j-1)).getD k 0=ys.getD (wx j (j-1) k) 0:=fun k=>nO (by omega) (by omega);have gj:(iX ys j (j-1)).getD (j-1) 0=ys.getD j 0:=by rw[g];have:=fX j (j-1) (j-1);rw[show wx j (j-1) (j-1)=j by omega]
 refine⟨fun p q hp hpq hq n1 n2=>?_,fun q hq hqi=>?_,fun p hp hpi hne=>?_⟩
 · rw[g,g]
   have s1:=fX j (j-1) p;have s2:=fX j (j-1) q;exact h1 _ _ (by omega) (by omega) (by omega) (by omega) (by omega)
 · rw[gj,g]
   have s2:=fX j (j-1) q;by_cases e:q=j
   ·rw[show wx j (j-1) q=j-1 by omega];exact .inl hl
   ·rw[show wx j (j-1) q=q by omega];exact h2 q (by omega) hqi
 · rw[gj,g]
   have s2:=fX j (j-1) p;exact h3 _ (by omega) (by omega) (by omega)
theorem HY.done{K:Int→List By}{ys:List Int}{a i j:Nat}(h:HY K ys a i j)(haj:a≤j)(hji:j≤i)(hs:a<j→¬ cQ (K (ys.getD j 0)) (K (ys.getD (j-1) 0))<0):Srt K ys a (i+1):=by
 obtain⟨h1,h2,h3⟩:=h;have hl:∀ p,a≤p→p<j→ltS K (ys.getD p 0) (ys.getD j 0):=fun p hp hpj=>by
  have h4:=oV (h3 (j-1) (by omega) (by omega) (by omega)) (hs (by omega));by_cases e:p=j-1
  ·rw[e];exact h4
  ·exact nK (h1 p (j-1) hp (by omega) (by omega) (by omega) (by omega)) h4
 intro p q hp hpq hq;by_cases e1:p=j
 ·subst e1;exact h2 q hpq (by omega)
 · by_cases e2:q=j
   ·subst e2;exact hl p hp hpq
   ·exact h1 p q hp hpq (by omega) e1 e2
theorem wX{K:Int→List By}{V:Int→Prop}{f:FuncId}{cs:List Value}(W0:World)(o:Option Addr)(hC:M7 W0 o f cs V K)(c n a b:Nat)(xs:List Int)(W:World)(h:StI W0 o c n xs W)(hV:∀ z∈xs,V z)(hab:a≤b)(hbn:b≤n)(hn:n≤1000000)(hinc:Inc xs a b) :
 CA 229 [.slice o n c,iV a,iV b,.func (.func f) #[] cs.toArray] W fun v w'=>v=.tuple #[]∧∃ ys,StI W0 o c n ys w'∧Seg xs ys a b∧Srt K ys a b:=by
 refine cS 53 [(0,_),(1,_),(2,_),(3,_)] Tryz.func229 ?_;refine Gz 8 ?_;refine SO (β:=Nat×List Int) (fun⟨i,ys⟩=>[(0,.slice o n c),(1,iV a),(2,iV b),(3,.func (.func f) #[] cs.toArray),(8,iV i)]) (fun⟨i,ys⟩ w=>(a<i∧(i≤b∨i=a+1))∧StI W0 o c n ys w∧Seg xs ys a (min i b)∧Srt K ys a i) (fun⟨i,ys⟩=>b-i) ⟨a+1,xs⟩ ⟨rfl,rfl,rfl,rfl,rfl,trivial⟩ ⟨⟨by omega,.inr rfl⟩,h,Wc _ _ _,fun p q h1 h2 h3=>by omega⟩ ?_;rintro⟨i,ys⟩ w2 ⟨⟨hai,hib0⟩,hy,hs1,ht1⟩;refine fK 5 ?_ ?_<;>intro h14
 ·have hib:i<b:=by omega
  have hyl:=hy.2.1;refine Gz 5 ?_;refine Tj (β:=List Int) (fun vs=>[(0,.slice o n c),(1,iV a),(2,iV b),(3,.func (.func f) #[] cs.toArray),(8,iV i)]) (fun vs w=>StI W0 o c n vs w∧Seg xs vs a (i+1)∧Srt K vs a (i+1)) ?_ ?_
  ·refine Gz 8 ?_;refine SO (β:=Nat×List Int) (fun⟨j,zs⟩=>[(0,.slice o n c),(1,iV a),(2,iV b),(3,.func (.func f) #[] cs.toArray),(8,iV i),(9,iV j)]) (fun⟨j,zs⟩ w=>a≤j∧j≤i∧StI W0 o c n zs w∧Seg xs zs a (i+1)∧HY K zs a i j) (fun⟨j,zs⟩=>j) ⟨i,ys⟩ ⟨rfl,rfl,rfl,rfl,rfl,rfl,trivial⟩ ⟨by omega,WC _,hy,by rw[XG (by omega)] at hs1;exact hs1.wide (WC _) (by omega),⟨fun p q h1 h2 h3 h4 h5=>ht1 p q h1 h2 (by omega),fun q h1 h2=>by omega,fun p h1 h2 h3=>by rw[XG (by omega)] at hs1;obtain⟨k,k1,k2,k3⟩:=hs1.2.2.2 p h1 (by omega);rw[k3,hs1.2.2.1 i (.inr (WC _))];exact hinc k i k1 k2 hib⟩⟩ ?_;rintro⟨j,zs⟩ w4 ⟨haj,hji,hz,hs2,hI⟩;refine Gz 2 ?_;refine SZ 17 (fun H=>Vw i64 H o c zs) [14] [0,1,2,3,4,5,6,7,8,9,10,11,12,13,14,15,16] aL (by kernel_rfl) (hz.1.vw) ?_;refine xK 2 ?_ ?_<;>intro h20
   ·have hzl:=hz.2.1;have hVz:∀ k:Nat,k<n→V (zs.getD k 0):=fun k hk=>hV _ (hs2.2.1.mem_iff.1 (JQ (by omega)));refine Gz 4 ?_;refine xV rfl (SI cI rfl rfl (by rw[←hz.2.1];exact hz.1.vw.non) (by omega)) ?_;refine xV rfl (SR aN rfl (fun H (hH:Vw i64 H o c zs)=>hH.gz 0 j rfl (by omega))) ?_;refine Gz 3 ?_;refine xV rfl (SI cI rfl rfl (by rw[←hz.2.1];exact hz.1.vw.non) (by omega)) ?_;refine xV rfl (SR aN rfl (fun H (hH:Vw i64 H o c zs)=>hH.gz 0 (j-1) (by omega) (by omega))) ?_;refine SU rfl rfl (U0 rfl rfl <| Tu hC.fn rfl rfl (hC.call _ (zs.getD j 0) (zs.getD (j-1) 0) (hz.draws 1).2.2 (hVz j (by omega)) (hVz (j-1) (by omega))) rfl ?_);intro v5 w5 hr5;obtain⟨rfl,hf5⟩:=hr5;have hz5:StI W0 o c n zs w5:=(hz.draws 1).Wr hf5;refine S5 (by exact hz5.1.vw) ?_;refine xW 0 ?_ ?_<;>intro h33
    ·refine Gz 8 ?_;refine TH 15 [9,13] (fun H=>Vw i64 H o c zs) [15,17] [0,1,2,3,4,5,6,7,8,9,10,11,12,13,14] (.alt 15 [16] (.alt 17 [] .fin .stop) .stop) aL (by kernel_rfl) (hz5.1.vw) ?_;refine Sz.calm rfl rfl (SQ rfl) rfl ?_;refine Sz.calm rfl rfl (SQ rfl) rfl ?_;refine Sz.calm rfl rfl (SQ rfl) rfl ?_;refine Sz.calm rfl rfl (SQ rfl) rfl ?_;refine Sz.calm rfl rfl (TK rfl rfl (by omega)) rfl ?_;refine Sz.calm rfl rfl (SQ rfl) rfl ?_;refine Sz.calm rfl rfl (SQ rfl) rfl ?_;refine Sz.calm rfl rfl (TK rfl rfl (by omega)) rfl ?_;refine Sz.calm rfl rfl (SI cI rfl rfl (by rw[←hz.2.1];exact hz.1.vw.non) (by omega)) rfl ?_;refine Sz.calm rfl rfl (SR aN rfl (fun H (hH:Vw i64 H o c zs)=>hH.gz 0 (j-1) (by omega) (by omega))) rfl ?_;refine Sz.calm rfl rfl (SQ rfl) rfl ?_;refine Sz.calm rfl rfl (SQ rfl) rfl ?_;refine Sz.calm rfl rfl (SI cI rfl rfl (by rw[←hz.2.1];exact hz.1.vw.non) (by omega)) rfl ?_;refine Sz.calm rfl rfl (SR aN rfl (fun H (hH:Vw i64 H o c zs)=>hH.gz 0 j rfl (by omega))) rfl ?_;refine Sz.calm rfl rfl (SI cI rfl rfl (by rw[←hz.2.1];exact hz.1.vw.non) (by omega)) rfl ?_;refine Sz.alt ?_ ?_
     ·refine Wa rfl rfl (Tm fA aN (z:=(j:Int)) (u:=zs.getD (j-1) 0) rfl rfl (hz5.draws 1).1 (by omega) ?_);intro w6 ho6 hs6 hf6;refine Sz.off rfl ?_;refine Sz.calm rfl rfl (SI cI rfl rfl (by rw[←hz.2.1];exact hz.1.vw.non) (by omega)) rfl ?_;refine Sz.alt ?_ ?_
      ·refine Wa rfl rfl (Tm fA aN (z:=(j:Int)-1) (u:=zs.getD j 0) rfl rfl ho6 (by rw[XH];omega) ?_);intro w7 ho7 hs7 hf7;have e2:((j:Int)-1).toNat=j-1:=by omega
       rw[e2] at ho7;refine Sz.off rfl ?_;refine Wb ?_;refine Gz 7 ?_;exact S9 ⟨j-1,iX zs j (j-1)⟩ ⟨rfl,rfl,rfl,rfl,rfl,congrArg (fun z:Int=>some (Value.int .i64 z)) (by omega),trivial⟩ ⟨by omega,by omega,⟨ho7,by rw[mF];exact hzl,((hz5.2.2.draws 1).trans hf6).trans hf7⟩,hs2.swap ⟨by omega,by omega⟩ ⟨by omega,by omega⟩ (by omega),hI.step (by omega) hji (by omega) h33⟩ (by show j-1<j;omega)
      exact Sz.stop
     exact Sz.stop
    have hstop:a<j→¬ cQ (K (zs.getD j 0)) (K (zs.getD (j-1) 0))<0:=fun _=>h33;refine Gz 9 ?_
    first
    |exact aC zs ⟨hz5,hs2,hI.done haj hji hstop⟩
    |exact aC zs ⟨hz.draws 1,hs2,hI.done haj hji hstop⟩
   have hstop:a<j→¬ cQ (K (zs.getD j 0)) (K (zs.getD (j-1) 0))<0:=fun h=>by omega
   refine Gz 11 ?_;refine SU rfl rfl (TZ rfl rfl rfl rfl ?_);refine S5 (by exact hz.1.vw) ?_;refine Gz 10 ?_
   first
   |exact aC zs ⟨hz5,hs2,hI.done haj hji hstop⟩
   |exact aC zs ⟨hz.draws 1,hs2,hI.done haj hji hstop⟩
  rintro vs w8 ⟨hv8,hs8,ht8⟩;refine Gz 5 ?_;exact aG ⟨i+1,vs⟩ ⟨⟨by omega,.inl (by omega)⟩,hv8,by rw[XG (by omega)];exact hs8,ht8⟩ (by show b-(i+1)<b-i;omega)
 have hbi:b≤i:=by omega
 refine Gz 7 ?_;refine Tf rfl ?_;refine⟨_,rfl,rfl,ys,hy,by rw[Nat.min_eq_right hbi] at hs1;exact hs1,fun p q h1 h2 h3=>ht1 p q h1 h2 (by omega)⟩
section
variable {P:Program}{N:Nt}{l:SF}{ty t':TypeId}{pos:String}{aft:Array Edge}{dd:Option Nat}{g:Option (Nat×Bool)}{CH:Array Obj→Prop}{x y:Operand}{t:TypeId}{m n:Int}{k':IntKind}
theorem T4(hx:evL l x=some (.int .u64 m))(hy:evL l y=some (.int k' n))(hn:0≤n∧n≤64):Cm P N CH l ⟨dd,.binOp .shr t x y t',ty,pos,aft,g⟩ (.int .u64 (m/2 ^ n.toNat)):=fun a w ha _=>by
 have h1:¬ (n<0):=by omega
 have h2:min n.toNat 64=n.toNat:=by omega
 have h3:m.fdiv (2 ^ n.toNat)=m/2 ^ n.toNat:=Int.fdiv_eq_ediv_of_nonneg _ (Int.pow_nonneg (by decide));have h4:(Op.shift .shr .u64 m k' n).run P w=.ok (.int .u64 (m/2 ^ n.toNat)) w:=by
  unfold Op.shift;rw[Wt h1];show (pure (Value.int .u64 (m.fdiv (2 ^ min n.toNat 64))):Sem Value).run P w=_;rw[h2,h3];rfl
 simp only[execOp,ha.ev hx,ha.ev hy,eqGuard,binOp,Sem.run_bind];simp
end
theorem BN{z:Int}(h:0≤z∧z<18446744073709551616):IntKind.u64.wrap z=z:=by
 unfold IntKind.wrap;simp[IntKind.bits,IntKind.signed];omega
theorem C6{i j:Nat}(h:i+j<4611686018427387904):IntKind.i64.wrap (((i:Int)+j)/2 ^ (1:Int).toNat)=(((i+j)/2:Nat):Int):=by
 have e:(2:Int) ^ (1:Int).toNat=2:=rfl;rw[e,dC (by omega)];omega
section
variable {K:Int→List (List UInt8)}{xs ys:List Int}
theorem AU{a b i j:Nat}{z:Int}(h:Srt K xs a b)(hi:a≤i)(hij:i≤j)(hj:j<b)(hz:ltS K (xs.getD j 0) z):ltS K (xs.getD i 0) z:=by
 by_cases e:i=j
 ·rw[e];exact hz
 ·exact nK (h i j hi (by omega) hj) hz
theorem AV{a b i j:Nat}{z:Int}(h:Srt K xs a b)(hi:a≤i)(hij:i≤j)(hj:j<b)(hz:ltS K z (xs.getD i 0)):ltS K z (xs.getD j 0):=by
 by_cases e:i=j
 ·rw[←e];exact hz
 ·exact nK hz (h i j hi (by omega) hj)
def ux(a k p:Nat):Nat:=if a≤p∧p<k then p+1 else if p=k then a else p
theorem kY(a k p:Nat):(a≤p∧p<k∧ux a k p=p+1)∨(¬ (a≤p∧p<k)∧p=k∧ux a k p=a)∨(¬ (a≤p∧p<k)∧p≠k∧ux a k p=p):=by
 unfold ux;by_cases h1:a≤p∧p<k
 ·rw[Wu h1];exact .inl ⟨h1.1,h1.2,rfl⟩
 · rw[Wt h1]
   by_cases h2:p=k
   ·rw[Wu h2];exact .inr (.inl ⟨h1,h2,rfl⟩)
   ·rw[Wt h2];exact .inr (.inr ⟨h1,h2,rfl⟩)
theorem Lg(a p:Nat):ux a a p=p:=by have:=kY a a p;omega
theorem Lh{a k p:Nat}(h:a≤k):ux a k (wx k (k+1) p)=ux a (k+1) p:=by
 have h1:=fX k (k+1) p;have h2:=kY a k (wx k (k+1) p);have h3:=kY a (k+1) p;omega
def dx(k m p:Nat):Nat:=if p=k then m else if k<p∧p≤m then p-1 else p
theorem lN(k m p:Nat):(p=k∧dx k m p=m)∨(p≠k∧k<p∧p≤m∧dx k m p=p-1)∨(p≠k∧¬ (k<p∧p≤m)∧dx k m p=p):=by
 unfold dx;by_cases h1:p=k
 ·rw[Wu h1];exact .inl ⟨h1,rfl⟩
 · rw[Wt h1]
   by_cases h2:k<p∧p≤m
   ·rw[Wu h2];exact .inr (.inl ⟨h1,h2.1,h2.2,rfl⟩)
   ·rw[Wt h2];exact .inr (.inr ⟨h1,h2,rfl⟩)
theorem ME(m p:Nat):dx m m p=p:=by have:=lN m m p;omega
theorem MF{k m p:Nat}(h:k<m):dx (k+1) m (wx (k+1) k p)=dx k m p:=by
 have h1:=fX (k+1) k p;have h2:=lN (k+1) m (wx (k+1) k p);have h3:=lN k m p;omega
theorem vT{a b:Nat}{s:Nat→Nat}(hp:ys.Perm xs)(hk:∀ k,ys.getD k 0=xs.getD (s k) 0)(h1:∀ k,(k<a∨b≤k)→s k=k)(h2:∀ k,a≤k→k<b→a≤s k∧s k<b):Seg xs ys a b:=
 ⟨hp.length_eq,hp,fun k h=>by rw[hk,h1 k h],fun k ha hb=>⟨s k,(h2 k ha hb).1,(h2 k ha hb).2,hk k⟩⟩
theorem NG{a b i:Nat}(h:Srt K xs (a+1) b)(hai:a+1≤i)(hib:i≤b)(h1:a+1<i→ltS K (xs.getD (i-1) 0) (xs.getD a 0))(h2:i<b→ltS K (xs.getD a 0) (xs.getD i 0))(hk:∀ k,ys.getD k 0=xs.getD (ux a (i-1) k) 0):Srt K ys a b:=by
 have l1:∀ k,a+1≤k→k<i→ltS K (xs.getD k 0) (xs.getD a 0):=fun k p1 p2=>AU h p1 (show k≤i-1 by omega) (by omega) (h1 (by omega));have l2:∀ k,i≤k→k<b→ltS K (xs.getD a 0) (xs.getD k 0):=fun k p1 p2=>AV h (show a+1≤i by omega) p1 p2 (h2 (by omega));intro p q hp hpq hq;rw[hk,hk];rcases kY a (i-1) p with⟨_,s1,s2⟩|⟨s0,s1,s2⟩|⟨s0,s1,s2⟩<;>rcases kY a (i-1) q with⟨_,t1,t2⟩|⟨t0,t1,t2⟩|⟨t0,t1,t2⟩<;>rw[s2,t2]<;>first|(exfalso;omega)|exact h _ _ (by omega) (by omega) (by omega)|exact l1 _ (by omega) (by omega)|exact l2 _ (by omega) (by omega)
theorem OG{a m i:Nat}(h:Srt K xs a m)(hai:a≤i)(him:i≤m)(h1:a<i→ltS K (xs.getD (i-1) 0) (xs.getD m 0))(h2:i<m→ltS K (xs.getD m 0) (xs.getD i 0))(hk:∀ k,ys.getD k 0=xs.getD (dx i m k) 0):Srt K ys a (m+1):=by
 have l1:∀ k,a≤k→k<i→ltS K (xs.getD k 0) (xs.getD m 0):=fun k p1 p2=>AU h p1 (show k≤i-1 by omega) (by omega) (h1 (by omega));have l2:∀ k,i≤k→k<m→ltS K (xs.getD m 0) (xs.getD k 0):=fun k p1 p2=>AV h hai p1 p2 (h2 (by omega));intro p q hp hpq hq;rw[hk,hk];rcases lN i m p with⟨s1,s2⟩|⟨s0,s1,s3,s2⟩|⟨s0,s1,s2⟩<;>rcases lN i m q with⟨t1,t2⟩|⟨t0,t1,t3,t2⟩|⟨t0,t1,t2⟩<;>rw[s2,t2]<;>first|(exfalso;omega)|exact h _ _ (by omega) (by omega) (by omega)|exact l1 _ (by omega) (by omega)|exact l2 _ (by omega) (by omega)
structure Cut (K:Int→List By)(xs:List Int)(a m b s e md:Nat):Prop where
 has:a≤s
 hsm:s≤m
 hme:m≤e
 heb:e≤b
 hmd:s+(e-m)=md
 x1:∀ i j:Nat,a≤i→i<s→e≤j→j<b→ltS K (xs.getD i 0) (xs.getD j 0)
 x2:∀ i j:Nat,s≤i→i<m→m≤j→j<e→ltS K (xs.getD j 0) (xs.getD i 0)
theorem IF{s m e k:Nat}(hs:s≤m)(he:m≤e)(h:¬ (s<m∧m<e)):rx s m e k=k:=by
 have:=eI s m e k;omega
theorem Cut.halves{a m b s e md:Nat}(c:Cut K xs a m b s e md)(h1:Srt K xs a m)(h2:Srt K xs m b)(h3:StB xs a m b)(hk:∀ k,ys.getD k 0=xs.getD (rx s m e k) 0) :
 Srt K ys a s∧Srt K ys s md∧StB ys a s md∧Srt K ys md e∧Srt K ys e b∧StB ys md e b∧∀ i j:Nat,a≤i→i<md→md≤j→j<b→ltS K (ys.getD i 0) (ys.getD j 0):=by
 obtain⟨c1,c2,c3,c4,c5,x1,x2⟩:=c;have r:∀ k,(s≤k∧k<md∧rx s m e k=k-s+m)∨(md≤k∧k<e∧rx s m e k=k-md+s)∨((k<s∨e≤k)∧rx s m e k=k):=fun k=>by have:=eI s m e k;omega
 refine⟨fun i j p1 p2 p3=>?_,fun i j p1 p2 p3=>?_,fun i j p1 p2 p3 p4=>?_,fun i j p1 p2 p3=>?_,fun i j p1 p2 p3=>?_,fun i j p1 p2 p3 p4=>?_,fun i j p1 p2 p3 p4=>?_⟩<;>rw[hk,hk]<;>rcases r i with⟨s1,s2,s3⟩|⟨s1,s2,s3⟩|⟨s1,s3⟩<;>rcases r j with⟨t1,t2,t3⟩|⟨t1,t2,t3⟩|⟨t1,t3⟩<;>rw[s3,t3] <;>
  first|(exfalso;omega)|exact h1 _ _ (by omega) (by omega) (by omega)|exact h2 _ _ (by omega) (by omega) (by omega)|exact h3 _ _ (by omega) (by omega) (by omega) (by omega)|exact x1 _ _ (by omega) (by omega) (by omega) (by omega)|exact x2 _ _ (by omega) (by omega) (by omega) (by omega)
theorem OH{a m b md s:Nat}(ham:a<m)(hmb:m<b)(hmd:md=(a+b)/2)(h1:Srt K xs a m)(h2:Srt K xs m b){S0 R0:Nat}(hSR:(md<m∧S0=md+m-b∧R0=md)∨(¬ md<m∧S0=a∧R0=m))(hs0:S0≤s)(hsR:s≤R0)
 (g1:S0<s→ltS K (xs.getD (s-1) 0) (xs.getD (md+m-s) 0))(g2:s<R0→ltS K (xs.getD (md+m-1-s) 0) (xs.getD s 0)):Cut K xs a m b s (md+m-s) md:=by
 refine⟨by omega,by omega,by omega,by omega,by omega,fun i j p1 p2 p3 p4=>?_,fun i j p1 p2 p3 p4=>?_⟩
 · have hlt:=g1 (by omega)
   exact AU h1 p1 (show i≤s-1 by omega) (by omega) (AV h2 (show m≤md+m-s by omega) p3 p4 hlt)
 · have hlt:=g2 (by omega)
   exact AU h2 p3 (show j≤md+m-1-s by omega) (by omega) (AV h1 (show a≤s by omega) p1 p2 hlt)
theorem dW{a b:Nat}(h:Srt K ys a b)(hk:∀ k,a≤k→k<b→xs.getD k 0=ys.getD k 0):Srt K xs a b:=fun i j p1 p2 p3=>by rw[hk i p1 (by omega),hk j (by omega) p3];exact h i j p1 p2 p3
theorem It{a m b:Nat}(h:StB ys a m b)(hmb:m≤b)(hk:∀ k,a≤k→k<b→xs.getD k 0=ys.getD k 0):StB xs a m b:=fun i j p1 p2 p3 p4=>by rw[hk i p1 (by omega),hk j (by omega) p4];exact h i j p1 p2 p3 p4
theorem kN{zs us:List Int}{a md b:Nat}(h1:a≤md)(h2:md≤b)(g1:Seg ys zs a md)(g2:Seg zs us md b)(s1:Srt K zs a md)(s2:Srt K us md b)(hlr:∀ i j:Nat,a≤i→i<md→md≤j→j<b→ltS K (ys.getD i 0) (ys.getD j 0)):Srt K us a b:=by
 intro i j p1 p2 p3;by_cases hj:j<md
 ·rw[g2.2.2.1 i (.inl (by omega)),g2.2.2.1 j (.inl hj)];exact s1 i j p1 p2 hj
 · by_cases hi:md≤i
   ·exact s2 i j hi p2 p3
   · rw[g2.2.2.1 i (.inl (by omega))]
     obtain⟨i',a1,a2,a3⟩:=g1.2.2.2 i p1 (by omega);obtain⟨j',b1,b2,b3⟩:=g2.2.2.2 j (by omega) p3;rw[a3,b3,g1.2.2.1 j' (.inr b1)];exact hlr i' j' a1 a2 b1 b2
end
theorem Fp{K:Int→List By}{V:Int→Prop}{f:FuncId}{cs:List Value}(W0:World)(o:Option Addr)(hC:M7 W0 o f cs V K)(c n:Nat)(hn:n≤1000000):∀ (d a m b:Nat) (xs:List Int) (W:World),b-a≤d→StI W0 o c n xs W→(∀ z∈xs,V z)→a<m→m<b→b≤n→Srt K xs a m→Srt K xs m b→StB xs a m b →
 CA 230 [.slice o n c,iV a,iV m,iV b,.func (.func f) #[] cs.toArray] W fun v w'=>v=.tuple #[]∧∃ ys,StI W0 o c n ys w'∧Seg xs ys a b∧Srt K ys a b:=by
 intro d
 induction d with
|zero=>intro a m b xs W hd h hV ham hmb;omega
|succ d ih=>
   intro a m b xs W hd h hV ham hmb hbn h1 h2 h3;have hxl:=h.2.1;have hVx:∀ k:Nat,k<n→V (xs.getD k 0):=fun k hk=>hV _ (JQ (by omega));refine cS 220 [(0,_),(1,_),(2,_),(3,_),(4,_)] Tryz.func230 ?_;refine fK 6 ?_ ?_<;>intro h28
   ·refine Gz 17 ?_;refine SO (β:=Nat×Nat) (fun⟨i,j⟩=>[(0,.slice o n c),(1,iV a),(4,.func (.func f) #[] cs.toArray),(10,iV i),(11,iV j)]) (fun⟨i,j⟩ w=>(m≤i∧i≤j∧j≤b)∧StI W0 o c n xs w∧(m<i→ltS K (xs.getD (i-1) 0) (xs.getD a 0))∧(j<b→ltS K (xs.getD a 0) (xs.getD j 0))) (fun⟨i,j⟩=>j-i) ⟨m,b⟩ ⟨rfl,rfl,rfl,rfl,rfl,trivial⟩ ⟨⟨by omega,by omega,by omega⟩,h,fun h=>by omega,fun h=>by omega⟩ ?_;rintro⟨i,j⟩ w4 ⟨⟨i1,i2,i3⟩,hz,g1,g2⟩;refine fK 5 ?_ ?_<;>intro h33
    ·have hij:i<j:=by omega
     refine Gz 1 ?_;refine aW [(0,_),(1,_),(4,_),(10,_),(11,_),(33,_)] ?_;refine Gz 10 ?_;refine cL (S1 (n:=((i:Int)+j)) is3 H9 rfl (BN (by omega))) ?_;refine cL (T4 rfl rfl (by decide)) ?_;refine cL (S1 (n:=(((i+j)/2:Nat):Int)) JE ty3 rfl (C6 (by omega))) ?_;obtain⟨q,hq⟩:∃ q:Nat,q=(i+j)/2:=⟨_,rfl⟩
     rw[←hq];refine Gz 4 ?_;refine SZ 11 (fun H=>Vw i64 H o c xs) [9] [0,1,2,3,4,5,6,7,8,9,10] aL (by kernel_rfl) (hz.1.vw) ?_;refine Gz 3 ?_;refine xC rfl (SI cI rfl rfl (by rw[←hxl];exact hz.1.vw.non) (by omega)) ?_;refine xC rfl (SR aN rfl (fun H (hH:Vw i64 H o c xs)=>hH.gz 0 q rfl (by omega))) ?_;refine Gz 2 ?_;refine xC rfl (SI cI rfl rfl (by rw[←hxl];exact hz.1.vw.non) (by omega)) ?_;refine xC rfl (SR aN rfl (fun H (hH:Vw i64 H o c xs)=>hH.gz 0 a rfl (by omega))) ?_;refine SU rfl rfl (Tu hC.fn rfl rfl (hC.call _ (xs.getD q 0) (xs.getD a 0) (hz.draws 1).2.2 (hVx q (by omega)) (hVx a (by omega))) rfl ?_);intro v5 w5 hr5;obtain⟨rfl,hf5⟩:=hr5;have hz5:StI W0 o c n xs w5:=(hz.draws 1).Wr hf5;refine S5 (by exact hz5.1.vw) ?_;refine xK 0 ?_ ?_<;>intro h50
     ·refine Gz 9 ?_
      first
      |exact aG ⟨q+1,j⟩ ⟨⟨by omega,by omega,by omega⟩,hz5,fun _=>nJ h50,g2⟩ (by show j-(q+1)<j-i;omega)
      |exact aG ⟨i,q⟩ ⟨⟨by omega,by omega,by omega⟩,hz5,g1,fun _=>oV (h3 a q (WC _) ham (by omega) (by omega)) h50⟩ (by show q-i<j-i;omega)
     refine Gz 8 ?_
     first
     |exact aG ⟨q+1,j⟩ ⟨⟨by omega,by omega,by omega⟩,hz5,fun _=>nJ h50,g2⟩ (by show j-(q+1)<j-i;omega)
     |exact aG ⟨i,q⟩ ⟨⟨by omega,by omega,by omega⟩,hz5,g1,fun _=>oV (h3 a q (WC _) ham (by omega) (by omega)) h50⟩ (by show q-i<j-i;omega)
    have hije:i=j:=by omega
    subst hije;refine Gz 1 ?_;refine aW [(0,_),(1,_),(4,_),(10,_),(11,_),(33,_)] ?_;refine Gz 15 ?_;refine SO (β:=Nat×List Int) (fun⟨k,ys⟩=>[(0,.slice o n c),(10,iV i),(13,iV k)]) (fun⟨k,ys⟩ w=>(a≤k∧k≤i-1)∧StI W0 o c n ys w∧ys.Perm xs∧∀ p,ys.getD p 0=xs.getD (ux a k p) 0) (fun⟨k,ys⟩=>i-1-k) ⟨a,xs⟩ ⟨rfl,rfl,rfl,trivial⟩ ⟨⟨WC _,by omega⟩,hz,List.Perm.refl _,fun p=>by rw[Lg]⟩ ?_;rintro⟨k,ys⟩ w4 ⟨⟨k1,k2⟩,hy,hyp,hyk⟩;refine fK 6 ?_ ?_<;>intro h58
    ·have hyl:=hy.2.1;refine Gz 1 ?_;refine aW [(0,_),(10,_),(13,_),(58,_)] ?_;refine Gz 6 ?_;refine TH 15 [9,13] (fun H=>Vw i64 H o c ys) [15,17] [0,1,2,3,4,5,6,7,8,9,10,11,12,13,14] (.alt 15 [16] (.alt 17 [] .fin .stop) .stop) aL (by kernel_rfl) (hy.1.vw) ?_;refine Sz.calm rfl rfl (SQ rfl) rfl ?_;refine Sz.calm rfl rfl (SQ rfl) rfl ?_;refine Sz.calm rfl rfl (SQ rfl) rfl ?_;refine Sz.calm rfl rfl (SQ rfl) rfl ?_;refine Sz.calm rfl rfl (Tx rfl rfl (by omega)) rfl ?_;refine Sz.calm rfl rfl (SQ rfl) rfl ?_;refine Sz.calm rfl rfl (SQ rfl) rfl ?_;refine Sz.calm rfl rfl (Tx rfl rfl (by omega)) rfl ?_;refine Sz.calm rfl rfl (SI cI rfl rfl (by rw[←hy.2.1];exact hy.1.vw.non) (by omega)) rfl ?_;refine Sz.calm rfl rfl (SR aN rfl (fun H (hH:Vw i64 H o c ys)=>hH.gz 0 (k+1) (by omega) (by omega))) rfl ?_;refine Sz.calm rfl rfl (SQ rfl) rfl ?_;refine Sz.calm rfl rfl (SQ rfl) rfl ?_;refine Sz.calm rfl rfl (SI cI rfl rfl (by rw[←hy.2.1];exact hy.1.vw.non) (by omega)) rfl ?_;refine Sz.calm rfl rfl (SR aN rfl (fun H (hH:Vw i64 H o c ys)=>hH.gz 0 k rfl (by omega))) rfl ?_;refine Sz.calm rfl rfl (SI cI rfl rfl (by rw[←hy.2.1];exact hy.1.vw.non) (by omega)) rfl ?_;refine Sz.alt ?_ ?_
     ·refine Wa rfl rfl (Tm fA aN (z:=(k:Int)) (u:=ys.getD (k+1) 0) rfl rfl (hy.draws 1).1 (by omega) ?_);intro w6 ho6 hs6 hf6;refine Sz.off rfl ?_;refine Sz.calm rfl rfl (SI cI rfl rfl (by rw[←hy.2.1];exact hy.1.vw.non) (by omega)) rfl ?_;refine Sz.alt ?_ ?_
      ·refine Wa rfl rfl (Tm fA aN (z:=(k:Int)+1) (u:=ys.getD k 0) rfl rfl ho6 (by rw[XH];omega) ?_);intro w7 ho7 hs7 hf7;have e2:((k:Int)+1).toNat=k+1:=by omega
       rw[e2] at ho7;refine Sz.off rfl ?_;refine Wb ?_;refine Gz 7 ?_;exact aG ⟨k+1,iX ys k (k+1)⟩ ⟨⟨by omega,by omega⟩,⟨ho7,by rw[mF];exact hyl,((hy.2.2.draws 1).trans hf6).trans hf7⟩,(swap_perm (by omega) (by omega)).trans hyp,fun p=>by rw[nO (by omega) (by omega),hyk,Lh k1]⟩ (by show i-1-(k+1)<i-1-k;omega)
      exact Sz.stop
     exact Sz.stop
    have hke:k=i-1:=by omega
    refine Gz 1 ?_;refine aW [(0,_),(10,_),(13,_),(58,_)] ?_;refine Gz 10 ?_;have hma:m=a+1:=by omega
    rw[hke] at hyk;refine⟨_,rfl,rfl,ys,hy,vT hyp hyk (fun p hp=>by have:=kY a (i-1) p;omega) (fun p p1 p2=>by have:=kY a (i-1) p;omega),?_⟩;rw[hma] at h2 g1 i1;exact NG h2 i1 i3 g1 g2 hyk
   refine fK 11 ?_ ?_<;>intro h80
   ·refine Gz 17 ?_;refine SO (β:=Nat×Nat) (fun⟨i,j⟩=>[(0,.slice o n c),(2,iV m),(4,.func (.func f) #[] cs.toArray),(14,iV i),(15,iV j)]) (fun⟨i,j⟩ w=>(a≤i∧i≤j∧j≤m)∧StI W0 o c n xs w∧(a<i→ltS K (xs.getD (i-1) 0) (xs.getD m 0))∧(j<m→ltS K (xs.getD m 0) (xs.getD j 0))) (fun⟨i,j⟩=>j-i) ⟨a,m⟩ ⟨rfl,rfl,rfl,rfl,rfl,trivial⟩ ⟨⟨by omega,by omega,by omega⟩,h,fun h=>by omega,fun h=>by omega⟩ ?_;rintro⟨i,j⟩ w4 ⟨⟨i1,i2,i3⟩,hz,g1,g2⟩;refine fK 5 ?_ ?_<;>intro h85
    ·have hij:i<j:=by omega
     refine Gz 1 ?_;refine aW [(0,_),(2,_),(4,_),(14,_),(15,_),(85,_)] ?_;refine Gz 10 ?_;refine cL (S1 (n:=((i:Int)+j)) is3 H9 rfl (BN (by omega))) ?_;refine cL (T4 rfl rfl (by decide)) ?_;refine cL (S1 (n:=(((i+j)/2:Nat):Int)) JE ty3 rfl (C6 (by omega))) ?_;obtain⟨q,hq⟩:∃ q:Nat,q=(i+j)/2:=⟨_,rfl⟩
     rw[←hq];refine Gz 4 ?_;refine SZ 12 (fun H=>Vw i64 H o c xs) [9] [0,1,2,3,4,5,6,7,8,9,10,11] aL (by kernel_rfl) (hz.1.vw) ?_;refine Gz 3 ?_;refine xC rfl (SI cI rfl rfl (by rw[←hxl];exact hz.1.vw.non) (by omega)) ?_;refine xC rfl (SR aN rfl (fun H (hH:Vw i64 H o c xs)=>hH.gz 0 m rfl (by omega))) ?_;refine Gz 2 ?_;refine xC rfl (SI cI rfl rfl (by rw[←hxl];exact hz.1.vw.non) (by omega)) ?_;refine xC rfl (SR aN rfl (fun H (hH:Vw i64 H o c xs)=>hH.gz 0 q rfl (by omega))) ?_;refine SU rfl rfl (Tu hC.fn rfl rfl (hC.call _ (xs.getD m 0) (xs.getD q 0) (hz.draws 1).2.2 (hVx m (by omega)) (hVx q (by omega))) rfl ?_);intro v5 w5 hr5;obtain⟨rfl,hf5⟩:=hr5;have hz5:StI W0 o c n xs w5:=(hz.draws 1).Wr hf5;refine S5 (by exact hz5.1.vw) ?_;refine xK 0 ?_ ?_<;>intro h102
     ·refine xC rfl (S3 rfl) ?_;refine Gz 8 ?_
      first
      |exact aG ⟨i,q⟩ ⟨⟨by omega,by omega,by omega⟩,hz5,g1,fun _=>nJ h102⟩ (by show q-i<j-i;omega)
      |exact aG ⟨q+1,j⟩ ⟨⟨by omega,by omega,by omega⟩,hz5,fun _=>oV (h3 q m (by omega) (by omega) (WC _) hmb) h102,g2⟩ (by show j-(q+1)<j-i;omega)
     refine xC rfl (S3 rfl) ?_;refine Gz 9 ?_
     first
     |exact aG ⟨i,q⟩ ⟨⟨by omega,by omega,by omega⟩,hz5,g1,fun _=>nJ h102⟩ (by show q-i<j-i;omega)
     |exact aG ⟨q+1,j⟩ ⟨⟨by omega,by omega,by omega⟩,hz5,fun _=>oV (h3 q m (by omega) (by omega) (WC _) hmb) h102,g2⟩ (by show j-(q+1)<j-i;omega)
    have hije:i=j:=by omega
    subst hije;refine Gz 1 ?_;refine aW [(0,_),(2,_),(4,_),(14,_),(15,_),(85,_)] ?_;refine Gz 15 ?_;refine SO (β:=Nat×List Int) (fun⟨k,ys⟩=>[(0,.slice o n c),(14,iV i),(17,iV k)]) (fun⟨k,ys⟩ w=>(i≤k∧k≤m)∧StI W0 o c n ys w∧ys.Perm xs∧∀ p,ys.getD p 0=xs.getD (dx k m p) 0) (fun⟨k,ys⟩=>k) ⟨m,xs⟩ ⟨rfl,rfl,rfl,trivial⟩ ⟨⟨by omega,WC _⟩,hz,List.Perm.refl _,fun p=>by rw[ME]⟩ ?_;rintro⟨k,ys⟩ w4 ⟨⟨k1,k2⟩,hy,hyp,hyk⟩;refine fK 5 ?_ ?_<;>intro h110
    ·have hyl:=hy.2.1;refine Gz 1 ?_;refine aW [(0,_),(14,_),(17,_),(110,_)] ?_;refine Gz 6 ?_;refine TH 15 [9,13] (fun H=>Vw i64 H o c ys) [15,17] [0,1,2,3,4,5,6,7,8,9,10,11,12,13,14] (.alt 15 [16] (.alt 17 [] .fin .stop) .stop) aL (by kernel_rfl) (hy.1.vw) ?_;refine Sz.calm rfl rfl (SQ rfl) rfl ?_;refine Sz.calm rfl rfl (SQ rfl) rfl ?_;refine Sz.calm rfl rfl (SQ rfl) rfl ?_;refine Sz.calm rfl rfl (SQ rfl) rfl ?_;refine Sz.calm rfl rfl (TK rfl rfl (by omega)) rfl ?_;refine Sz.calm rfl rfl (SQ rfl) rfl ?_;refine Sz.calm rfl rfl (SQ rfl) rfl ?_;refine Sz.calm rfl rfl (TK rfl rfl (by omega)) rfl ?_;refine Sz.calm rfl rfl (SI cI rfl rfl (by rw[←hy.2.1];exact hy.1.vw.non) (by omega)) rfl ?_;refine Sz.calm rfl rfl (SR aN rfl (fun H (hH:Vw i64 H o c ys)=>hH.gz 0 (k-1) (by omega) (by omega))) rfl ?_;refine Sz.calm rfl rfl (SQ rfl) rfl ?_;refine Sz.calm rfl rfl (SQ rfl) rfl ?_;refine Sz.calm rfl rfl (SI cI rfl rfl (by rw[←hy.2.1];exact hy.1.vw.non) (by omega)) rfl ?_;refine Sz.calm rfl rfl (SR aN rfl (fun H (hH:Vw i64 H o c ys)=>hH.gz 0 k rfl (by omega))) rfl ?_;refine Sz.calm rfl rfl (SI cI rfl rfl (by rw[←hy.2.1];exact hy.1.vw.non) (by omega)) rfl ?_;refine Sz.alt ?_ ?_
     ·refine Wa rfl rfl (Tm fA aN (z:=(k:Int)) (u:=ys.getD (k-1) 0) rfl rfl (hy.draws 1).1 (by omega) ?_);intro w6 ho6 hs6 hf6;refine Sz.off rfl ?_;refine Sz.calm rfl rfl (SI cI rfl rfl (by rw[←hy.2.1];exact hy.1.vw.non) (by omega)) rfl ?_;refine Sz.alt ?_ ?_
      ·refine Wa rfl rfl (Tm fA aN (z:=(k:Int)-1) (u:=ys.getD k 0) rfl rfl ho6 (by rw[XH];omega) ?_);intro w7 ho7 hs7 hf7;have e2:((k:Int)-1).toNat=k-1:=by omega
       rw[e2] at ho7;refine Sz.off rfl ?_;refine Wb ?_;refine Gz 7 ?_;exact S9 ⟨k-1,iX ys k (k-1)⟩ ⟨rfl,rfl,congrArg (fun z:Int=>some (Value.int .i64 z)) (by omega),trivial⟩ ⟨⟨by omega,by omega⟩,⟨ho7,by rw[mF];exact hyl,((hy.2.2.draws 1).trans hf6).trans hf7⟩,(swap_perm (by omega) (by omega)).trans hyp,fun p=>by have e:=MF (k:=k-1) (m:=m) (p:=p) (by omega);rw[show k-1+1=k by omega] at e;rw[nO (by omega) (by omega),hyk,e]⟩ (by show k-1<k;omega)
      exact Sz.stop
     exact Sz.stop
    have hke:k=i:=by omega
    refine Gz 1 ?_;refine aW [(0,_),(14,_),(17,_),(110,_)] ?_;refine Gz 10 ?_;have hbm:b=m+1:=by omega
    rw[hke] at hyk;refine⟨_,rfl,rfl,ys,hy,vT hyp hyk (fun p hp=>by have:=lN i m p;omega) (fun p p1 p2=>by have:=lN i m p;omega),?_⟩;rw[hbm];exact OG h1 i1 i3 g1 g2 hyk
   refine Gz 10 ?_;refine cL (S1 (n:=((a:Int)+b)) is3 H9 rfl (BN (by omega))) ?_;refine cL (T4 rfl rfl (by decide)) ?_;refine cL (S1 (n:=(((a+b)/2:Nat):Int)) JE ty3 rfl (C6 (by omega))) ?_;obtain⟨md,hmd⟩:∃ md:Nat,md=(a+b)/2:=⟨_,rfl⟩
   rw[←hmd];refine Gz 17 ?_;refine Tj (β:=Nat×Nat) (fun⟨S0,R0⟩=>[(0,.slice o n c),(1,iV a),(2,iV m),(3,iV b),(4,.func (.func f) #[] cs.toArray),(18,iV md),(19,iV ((md:Int)+m)),(20,iV S0),(21,iV R0)]) (fun⟨S0,R0⟩ w=>((md<m∧S0=md+m-b∧R0=md)∨(¬ md<m∧S0=a∧R0=m))∧w=W) ?_ ?_
   ·refine fK 4 ?_ ?_<;>intro h140
    ·refine Gz 15 ?_
     first
     |exact Tn ⟨md+m-b,md⟩ ⟨rfl,rfl,rfl,rfl,rfl,rfl,rfl,congrArg (fun z:Int=>some (Value.int .i64 z)) (by omega),rfl,trivial⟩ ⟨.inl ⟨by omega,rfl,rfl⟩,rfl⟩
     |exact aC ⟨a,m⟩ ⟨.inr ⟨by omega,rfl,rfl⟩,rfl⟩
    refine Gz 13 ?_
    first
    |exact Tn ⟨md+m-b,md⟩ ⟨rfl,rfl,rfl,rfl,rfl,rfl,rfl,congrArg (fun z:Int=>some (Value.int .i64 z)) (by omega),rfl,trivial⟩ ⟨.inl ⟨by omega,rfl,rfl⟩,rfl⟩
    |exact aC ⟨a,m⟩ ⟨.inr ⟨by omega,rfl,rfl⟩,rfl⟩
   rintro⟨S0,R0⟩ wq ⟨hSR,hwq⟩;subst wq;refine Gz 9 ?_;refine SO (β:=Nat×Nat) (fun⟨s,r⟩=>[(0,.slice o n c),(1,iV a),(2,iV m),(3,iV b),(4,.func (.func f) #[] cs.toArray),(18,iV md),(19,iV ((md:Int)+m)),(20,iV s),(21,iV r),(22,iV ((md:Int)+m-1))]) (fun⟨s,r⟩ w=>S0≤s∧s≤r∧r≤R0∧StI W0 o c n xs w∧(S0<s→ltS K (xs.getD (s-1) 0) (xs.getD (md+m-s) 0))∧(r<R0→ltS K (xs.getD (md+m-1-r) 0) (xs.getD r 0))) (fun⟨s,r⟩=>r-s) ⟨S0,R0⟩ ⟨rfl,rfl,rfl,rfl,rfl,rfl,rfl,rfl,rfl,rfl,trivial⟩ ⟨WC _,by omega,WC _,h,fun h=>by omega,fun h=>by omega⟩ ?_;rintro⟨s,r⟩ w4 ⟨hs0,hsr0,hrR,hz,g1,g2⟩;refine fK 5 ?_ ?_<;>intro h151
   ·have hsr:s<r:=by omega
    refine Gz 1 ?_;refine aW [(0,_),(1,_),(2,_),(3,_),(4,_),(18,_),(19,_),(20,_),(21,_),(22,_),(151,_)] ?_;refine Gz 10 ?_;refine cL (S1 (n:=((s:Int)+r)) is3 H9 rfl (BN (by omega))) ?_;refine cL (T4 rfl rfl (by decide)) ?_;refine cL (S1 (n:=(((s+r)/2:Nat):Int)) JE ty3 rfl (C6 (by omega))) ?_;obtain⟨q,hq⟩:∃ q:Nat,q=(s+r)/2:=⟨_,rfl⟩
    rw[←hq];have hqa:a≤q∧q<m∧m≤md+m-1-q∧md+m-1-q<b∧q≤md+m-1:=by omega
    refine Gz 4 ?_;refine SZ 14 (fun H=>Vw i64 H o c xs) [11] [0,1,2,3,4,5,6,7,8,9,10,11,12,13] aL (by kernel_rfl) (hz.1.vw) ?_;refine Gz 5 ?_;refine xC rfl (SI cI rfl rfl (by rw[←hxl];exact hz.1.vw.non) (by omega)) ?_;refine xC rfl (SR aN rfl (fun H (hH:Vw i64 H o c xs)=>hH.gz 0 (md+m-1-q) (by omega) (by omega))) ?_;refine Gz 2 ?_;refine xC rfl (SI cI rfl rfl (by rw[←hxl];exact hz.1.vw.non) (by omega)) ?_;refine xC rfl (SR aN rfl (fun H (hH:Vw i64 H o c xs)=>hH.gz 0 q rfl (by omega))) ?_;refine SU rfl rfl (Tu hC.fn rfl rfl (hC.call _ (xs.getD (md+m-1-q) 0) (xs.getD q 0) (hz.draws 1).2.2 (hVx _ (by omega)) (hVx q (by omega))) rfl ?_);intro v5 w5 hr5;obtain⟨rfl,hf5⟩:=hr5;have hz5:StI W0 o c n xs w5:=(hz.draws 1).Wr hf5;refine S5 (by exact hz5.1.vw) ?_;refine xK 0 ?_ ?_<;>intro h170
    ·refine xC rfl (S3 rfl) ?_;refine Gz 8 ?_
     first
     |exact aG ⟨s,q⟩ ⟨hs0,by omega,by omega,hz5,g1,fun _=>nJ h170⟩ (by show q-s<r-s;omega)
     |exact aG ⟨q+1,r⟩ ⟨by omega,by omega,hrR,hz5,fun _=>by rw[show md+m-(q+1)=md+m-1-q by omega,YW];exact oV (h3 q (md+m-1-q) (by omega) (by omega) (by omega) (by omega)) h170,g2⟩ (by show r-(q+1)<r-s;omega)
    refine xC rfl (S3 rfl) ?_;refine Gz 9 ?_
    first
    |exact aG ⟨s,q⟩ ⟨hs0,by omega,by omega,hz5,g1,fun _=>nJ h170⟩ (by show q-s<r-s;omega)
    |exact aG ⟨q+1,r⟩ ⟨by omega,by omega,hrR,hz5,fun _=>by rw[show md+m-(q+1)=md+m-1-q by omega,YW];exact oV (h3 q (md+m-1-q) (by omega) (by omega) (by omega) (by omega)) h170,g2⟩ (by show r-(q+1)<r-s;omega)
   have hsre:s=r:=by omega
   subst hsre;have hcut:=OH ham hmb hmd h1 h2 hSR hs0 hrR g1 g2;obtain⟨e,he⟩:∃ e:Nat,e=md+m-s:=⟨_,rfl⟩
   rw[←he] at hcut;refine Gz 1 ?_;refine aW [(0,_),(1,_),(2,_),(3,_),(4,_),(18,_),(19,_),(20,_),(21,_),(22,_),(151,_)] ?_;refine Gz 8 ?_;obtain⟨wz,hwz⟩:∃ wz,wz=w4:=⟨_,rfl⟩
   rw[←hwz] at hz ⊢;refine Gz 3 ?_;refine cL (SN (u:=iV (e:Nat)) (TK rfl rfl (by omega)) (by congr 1;omega)) ?_;refine Gz 3 ?_;refine Tj (β:=List Int) (fun ys=>[(0,.slice o n c),(1,iV a),(3,iV b),(4,.func (.func f) #[] cs.toArray),(18,iV md),(20,iV s),(24,iV e)]) (fun ys w=>StI W0 o c n ys w∧ys.Perm xs∧∀ k,ys.getD k 0=xs.getD (rx s m e k) 0) ?_ ?_
   ·refine fK 4 ?_ ?_<;>intro h180
    ·refine fW 3 ?_ ?_<;>intro h184
     ·refine Gz 10 ?_;refine SJ Py rfl (GN W0 o c n s m e _ xs wz hz (by omega) (by omega) (by omega) hn) rfl ?_;rintro _ w6 ⟨rfl,ys,hy,hyp,hyk⟩;refine Gz 1 ?_
      first
      |exact aC ys ⟨hy,hyp,hyk⟩
      |exact aC xs ⟨hz,List.Perm.refl _,fun k=>by rw[IF hcut.hsm hcut.hme (by omega)]⟩
     refine Gz 5 ?_
     first
     |exact aC ys ⟨hy,hyp,hyk⟩
     |exact aC xs ⟨hz,List.Perm.refl _,fun k=>by rw[IF hcut.hsm hcut.hme (by omega)]⟩
    refine Gz 9 ?_
    first
    |exact aC ys ⟨hy,hyp,hyk⟩
    |exact aC xs ⟨hz,List.Perm.refl _,fun k=>by rw[IF hcut.hsm hcut.hme (by omega)]⟩
   rintro ys w7 ⟨hy,hyp,hyk⟩;obtain⟨q1,q2,q3,q4,q5,q6,q7⟩:=hcut.halves h1 h2 h3 hyk;have c1:=hcut.has;have c2:=hcut.hsm;have c3:=hcut.hme;have c4:=hcut.heb;have c5:=hcut.hmd;refine Tj (β:=List Int) (fun zs=>[(0,.slice o n c),(3,iV b),(4,.func (.func f) #[] cs.toArray),(18,iV md),(24,iV e)]) (fun zs w=>StI W0 o c n zs w∧Seg ys zs a md∧Srt K zs a md) ?_ ?_
   ·refine fK 4 ?_ ?_<;>intro h194
    ·refine fW 3 ?_ ?_<;>intro h198
     ·refine Gz 10 ?_;refine SJ Gj rfl (ih a s md ys w7 (by omega) hy (fun z hz=>hV z (hyp.mem_iff.1 hz)) (by omega) (by omega) (by omega) q1 q2 q3) rfl ?_;rintro _ w8 ⟨rfl,zs,hz,hzg,hzs⟩;refine Gz 1 ?_
      first
      |exact aC zs ⟨hz,hzg,hzs⟩
      |exact aC ys ⟨hy,Wc _ _ _,by rw[show s=a by omega] at q2;exact q2⟩
      |exact aC ys ⟨hy,Wc _ _ _,by rw[show s=md by omega] at q1;exact q1⟩
     refine Gz 5 ?_
     first
     |exact aC zs ⟨hz,hzg,hzs⟩
     |exact aC ys ⟨hy,Wc _ _ _,by rw[show s=a by omega] at q2;exact q2⟩
     |exact aC ys ⟨hy,Wc _ _ _,by rw[show s=md by omega] at q1;exact q1⟩
    refine Gz 9 ?_
    first
    |exact aC zs ⟨hz,hzg,hzs⟩
    |exact aC ys ⟨hy,Wc _ _ _,by rw[show s=a by omega] at q2;exact q2⟩
    |exact aC ys ⟨hy,Wc _ _ _,by rw[show s=md by omega] at q1;exact q1⟩
   rintro zs w9 ⟨hz,hzg,hzs⟩;refine fK 4 ?_ ?_<;>intro h208
   ·refine fW 3 ?_ ?_<;>intro h212
    ·refine Gz 10 ?_;refine SJ Gj rfl (ih md e b zs w9 (by omega) hz (fun z hz=>hV z (hyp.mem_iff.1 (hzg.2.1.mem_iff.1 hz))) (by omega) (by omega) (by omega) (dW q4 (fun k k1 k2=>hzg.2.2.1 k (.inr (by omega)))) (dW q5 (fun k k1 k2=>hzg.2.2.1 k (.inr (by omega)))) (It q6 (by omega) (fun k k1 k2=>hzg.2.2.1 k (.inr (by omega))))) rfl ?_;rintro _ w10 ⟨rfl,us,hu,hug,hus⟩;refine Gz 1 ?_;refine Tf rfl ?_;have hmdb:a≤md∧md≤b:=by omega
     have hsy:Seg xs ys a b:=vT hyp hyk (fun p hp=>by have:=eI s m e p;omega) (fun p p1 p2=>by have:=eI s m e p;omega)
     first
     |exact⟨_,rfl,rfl,us,hu,(hsy.trans (hzg.wide (WC _) hmdb.2)).trans (hug.wide hmdb.1 (WC _)),kN hmdb.1 hmdb.2 hzg hug hzs hus q7⟩
     |exact⟨_,rfl,rfl,zs,hz,hsy.trans (hzg.wide (WC _) hmdb.2),kN hmdb.1 hmdb.2 hzg (Wc _ _ _) hzs (dW (ys:=ys) (by first|(rw[show e=md by omega] at q5;exact q5)|(rw[show e=b by omega] at q4;exact q4)) (fun k k1 k2=>hzg.2.2.1 k (.inr k1))) q7⟩
    refine Gz 5 ?_;refine Tf rfl ?_;have hmdb:a≤md∧md≤b:=by omega
    have hsy:Seg xs ys a b:=vT hyp hyk (fun p hp=>by have:=eI s m e p;omega) (fun p p1 p2=>by have:=eI s m e p;omega)
    first
    |exact⟨_,rfl,rfl,us,hu,(hsy.trans (hzg.wide (WC _) hmdb.2)).trans (hug.wide hmdb.1 (WC _)),kN hmdb.1 hmdb.2 hzg hug hzs hus q7⟩
    |exact⟨_,rfl,rfl,zs,hz,hsy.trans (hzg.wide (WC _) hmdb.2),kN hmdb.1 hmdb.2 hzg (Wc _ _ _) hzs (dW (ys:=ys) (by first|(rw[show e=md by omega] at q5;exact q5)|(rw[show e=b by omega] at q4;exact q4)) (fun k k1 k2=>hzg.2.2.1 k (.inr k1))) q7⟩
   refine Gz 9 ?_;refine Tf rfl ?_;have hmdb:a≤md∧md≤b:=by omega
   have hsy:Seg xs ys a b:=vT hyp hyk (fun p hp=>by have:=eI s m e p;omega) (fun p p1 p2=>by have:=eI s m e p;omega)
   first
   |exact⟨_,rfl,rfl,us,hu,(hsy.trans (hzg.wide (WC _) hmdb.2)).trans (hug.wide hmdb.1 (WC _)),kN hmdb.1 hmdb.2 hzg hug hzs hus q7⟩
   |exact⟨_,rfl,rfl,zs,hz,hsy.trans (hzg.wide (WC _) hmdb.2),kN hmdb.1 hmdb.2 hzg (Wc _ _ _) hzs (dW (ys:=ys) (by first|(rw[show e=md by omega] at q5;exact q5)|(rw[show e=b by omega] at q4;exact q4)) (fun k k1 k2=>hzg.2.2.1 k (.inr k1))) q7⟩
section
variable {K:Int→List (List UInt8)}{ys zs:List Int}{n:Nat}
def BI(bs n:Nat)(ys:List Int):Prop:=∀ q i j:Nat,i<q*bs→q*bs≤j→j<n→ys.getD i 0<ys.getD j 0
theorem Seg.bi{bs a b q:Nat}(h:Seg ys zs a b)(ha:a=q*bs)(hb:b≤a+bs)(hbn:b≤n)(g:BI bs n ys):BI bs n zs:=by
 intro p i j hi hj hjn;obtain⟨i',i1,i2⟩:∃ i',(i'=i∧¬ (a≤i∧i<b)∨(a≤i∧i<b∧a≤i'∧i'<b))∧zs.getD i 0=ys.getD i' 0:=by
  by_cases k:a≤i∧i<b
  · obtain⟨i',a1,a2,a3⟩:=h.2.2.2 i k.1 k.2
    exact⟨i',.inr ⟨k.1,k.2,a1,a2⟩,a3⟩
  ·exact⟨i,.inl ⟨rfl,k⟩,h.2.2.1 i (by omega)⟩
 obtain⟨j',j1,j2⟩:∃ j',(j'=j∧¬ (a≤j∧j<b)∨(a≤j∧j<b∧a≤j'∧j'<b))∧zs.getD j 0=ys.getD j' 0:=by
  by_cases k:a≤j∧j<b
  · obtain⟨j',a1,a2,a3⟩:=h.2.2.2 j k.1 k.2
    exact⟨j',.inr ⟨k.1,k.2,a1,a2⟩,a3⟩
  ·exact⟨j,.inl ⟨rfl,k⟩,h.2.2.1 j (by omega)⟩
 rw[i2,j2];rcases Yj q p with hpq|hpq
 · have:(q+1)*bs≤p*bs:=Xh bs hpq
   rw[Xx,XW] at this;exact g p i' j' (by omega) (by omega) (by omega)
 · have:p*bs≤q*bs:=Xh bs hpq
   exact g p i' j' (by omega) (by omega) (by omega)
def BSn(K:Int→List By)(bs n:Nat)(ys:List Int):Prop:=∀ q:Nat,Srt K ys (q*bs) (min (q*bs+bs) n)
theorem Srt.sub{a b a' b':Nat}(h:Srt K ys a b)(ha:a≤a')(hb:b'≤b):Srt K ys a' b':=fun i j h1 h2 h3=>h i j (by omega) h2 (by omega)
theorem Wd{a b:Nat}(h:b≤a):Srt K ys a b:=fun i j h1 h2 h3=>by omega
end
theorem DW{K:Int→List By}{V:Int→Prop}{f:FuncId}{cs:List Value}(W0:World)(o:Option Addr)(hC:M7 W0 o f cs V K)(c n:Nat)(hn:n≤100000)(xs:List Int)(W:World)(h:StI W0 o c n xs W)(hV:∀ z∈xs,V z)(hinc:Inc xs 0 n) :
 CA 215 [.slice o n c,iV n,.func (.func f) #[] cs.toArray] W fun v w'=>v=.tuple #[]∧∃ ys,StI W0 o c n ys w'∧ys.Perm xs∧Srt K ys 0 n:=by
 refine cS 63 [(0,_),(1,_),(2,_)] Tryz.func215 ?_;refine Gz 14 ?_;refine SO (β:=Nat×List Int) (fun⟨q,ys⟩=>[(0,.slice o n c),(1,iV n),(2,.func (.func f) #[] cs.toArray),(6,iV 20),(7,iV ((q*20:Nat):Int)),(8,iV ((q*20+20:Nat):Int))]) (fun⟨q,ys⟩ w=>q*20≤n∧StI W0 o c n ys w∧ys.Perm xs∧BI 20 n ys∧(∀ p,p<q→Srt K ys (p*20) (p*20+20))∧∀ k,q*20≤k→ys.getD k 0=xs.getD k 0) (fun⟨q,ys⟩=>n-q*20) ⟨0,xs⟩ ⟨rfl,rfl,rfl,rfl,rfl,rfl,trivial⟩ ⟨by omega,h,List.Perm.refl _,fun q i j i1 i2 i3=>hinc i j (WG _) (by omega) i3,fun p hp=>by omega,fun _ _=>rfl⟩ ?_;rintro⟨q,ys⟩ w2 ⟨hq,hy,hyp,hyb,hys,hyk⟩;refine fK 5 ?_ ?_<;>intro h13
 ·have hb:q*20+20≤n:=by omega
  refine Gz 12 ?_;refine SJ Ni rfl (wX W0 o hC c n (q*20) (q*20+20) ys w2 hy (fun z hz=>hV z (hyp.mem_iff.1 hz)) (by omega) hb (by omega) (fun i j i1 i2 i3=>by rw[hyk i i1,hyk j (by omega)];exact hinc i j (WG _) i2 (by omega))) rfl ?_;rintro _ w3 ⟨rfl,zs,hz,hzg,hzs⟩;refine Gz 15 ?_;refine S9 ⟨q+1,zs⟩ ⟨rfl,rfl,rfl,rfl,congrArg (fun z:Int=>some (Value.int .i64 z)) (by omega),congrArg (fun z:Int=>some (Value.int .i64 z)) (by omega),trivial⟩ ⟨by omega,hz,hzg.2.1.trans hyp,hzg.bi rfl (WC _) hb hyb,fun p hp=>?_,fun k hk=>by rw[hzg.2.2.1 k (.inr (by omega))];exact hyk k (by omega)⟩ (by show n-(q+1)*20<n-q*20;omega);by_cases e:p=q
  ·subst e;exact hzs
  ·exact dW (hys p (by omega)) (fun k k1 k2=>hzg.2.2.1 k (.inl (by omega)))
 have hb:¬ q*20+20≤n:=by omega
 refine Gz 14 ?_;refine SJ Ni rfl (wX W0 o hC c n (q*20) n ys w2 hy (fun z hz=>hV z (hyp.mem_iff.1 hz)) (by omega) (WC _) (by omega) (fun i j i1 i2 i3=>by rw[hyk i i1,hyk j (by omega)];exact hinc i j (WG _) i2 (by omega))) rfl ?_;rintro _ w3 ⟨rfl,zs,hz,hzg,hzs⟩;have hzn:BSn K 20 n zs:=fun p=>by
  rcases XN p q with hp|hp|hp
  · have:(p+1)*20≤q*20:=Xh 20 hp
    exact dW (hys p hp) (fun k k1 k2=>hzg.2.2.1 k (.inl (by omega))) |>.sub (WC _) (by omega)
  ·subst hp;exact hzs.sub (WC _) (by omega)
  ·exact Wd (by omega)
 have hzb:BI 20 n zs:=hzg.bi rfl (by omega) (WC _) hyb;have hzp:=hzg.2.1.trans hyp;refine Gz 3 ?_;refine SO (β:=Nat×List Int) (fun⟨bs,vs⟩=>[(0,.slice o n c),(1,iV n),(2,.func (.func f) #[] cs.toArray),(6,iV bs)]) (fun⟨bs,vs⟩ w=>(20≤bs∧bs≤1000000)∧StI W0 o c n vs w∧vs.Perm xs∧BI bs n vs∧BSn K bs n vs) (fun⟨bs,vs⟩=>n-bs) ⟨20,zs⟩ ⟨rfl,rfl,rfl,rfl,trivial⟩ ⟨⟨by omega,by omega⟩,hz,hzp,hzb,hzn⟩ ?_;rintro⟨bs,vs⟩ w4 ⟨⟨hbs,hbl⟩,hv4,hvp,hvb,hvs⟩;refine fK 5 ?_ ?_<;>intro h30
 ·refine Gz 9 ?_;refine cL (TE rfl rfl (by omega)) ?_;refine Gz 6 ?_;refine SO (β:=Nat×Nat×List Int) (fun⟨q,a,zs⟩=>[(0,.slice o n c),(1,iV n),(2,.func (.func f) #[] cs.toArray),(6,iV bs),(7,iV a),(8,iV ((a+2*bs:Nat):Int))]) (fun⟨q,a,zs⟩ w=>(a=q*(2*bs)∧a≤n)∧StI W0 o c n zs w∧zs.Perm xs∧BI (2*bs) n zs∧(∀ p,p<q→Srt K zs (p*(2*bs)) (p*(2*bs)+2*bs))∧(∀ p,a≤p*bs→Srt K zs (p*bs) (min (p*bs+bs) n))∧(∀ p i j:Nat,a≤p*bs→i<p*bs→p*bs≤j→j<n→zs.getD i 0<zs.getD j 0)) (fun⟨q,a,zs⟩=>n-a) ⟨0,0,vs⟩ ⟨rfl,rfl,rfl,rfl,rfl,(congrArg (fun z:Int=>some (Value.int .i64 z)) (by omega)),trivial⟩ ⟨⟨by omega,by omega⟩,hv4,hvp,fun p i j i1 i2 i3=>hvb (2*p) i j (by rw[Yc 2 p,YA];exact i1) (by rw[Yc 2 p,YA];exact i2) i3,fun p hp=>by omega,fun p _=>hvs p,fun p i j _ i1 i2 i3=>hvb p i j i1 i2 i3⟩ ?_;rintro⟨q,a,zs⟩ w5 ⟨⟨ha,han⟩,hz5,hz5p,hb2,hsp,hsu,hbu⟩;refine fK 5 ?_ ?_<;>intro h35
  ·have hb:a+2*bs≤n:=by omega
   refine Gz 15 ?_;have e1:2*q*bs=a:=by rw[ha,Yc 2 q,YA]
   have e2:(2*q+1)*bs=a+bs:=by rw[Xx,XW,e1]
   have e3:(q+1)*(2*bs)=a+2*bs:=by rw[Xx,XW,ha]
   refine SJ Gj rfl ((by rw[show ((a:Int)+bs)=((a+bs:Nat):Int) by omega];exact Fp W0 o hC c n (by omega) (a+2*bs-a) a (a+bs) (a+2*bs) zs w5 (WC _) hz5 (fun z hz=>hV z (hz5p.mem_iff.1 hz)) (by omega) (by omega) hb (by have h9:=hsu (2*q) (by omega);rw[e1] at h9;exact h9.sub (WC _) (by omega)) (by have h9:=hsu (2*q+1) (by omega);rw[e2] at h9;exact h9.sub (WC _) (by omega)) (fun i j i1 i2 i3 i4=>hbu (2*q+1) i j (by omega) (by omega) (by omega) (by omega)))) rfl ?_;rintro _ w6 ⟨rfl,us,hu,hug,hus⟩;refine Gz 11 ?_;refine cL (TE rfl rfl (by omega)) ?_;refine Gz 4 ?_;refine S9 ⟨q+1,a+2*bs,us⟩ ⟨rfl,rfl,rfl,rfl,rfl,congrArg (fun z:Int=>some (Value.int .i64 z)) (by omega),trivial⟩ ⟨⟨e3.symm,hb⟩,hu,hug.2.1.trans hz5p,hug.bi ha (WC _) hb hb2,fun p hp=>?_,fun p hp=>dW (hsu p (by omega)) (fun k k1 k2=>hug.2.2.1 k (.inr (by omega))),fun p i j hp i1 i2 i3=>?_⟩ (by show n-(a+2*bs)<n-a;omega)
   · by_cases e:p=q
     ·subst e;rw[←ha];exact hus
     · have:=Xh (2*bs) (show p+1≤q by omega)
       rw[Xx,XW] at this;exact dW (hsp p (by omega)) (fun k k1 k2=>hug.2.2.1 k (.inl (by omega)))
   · rw[hug.2.2.1 j (.inr (by omega))]
     by_cases hi:a≤i∧i<a+2*bs
     · obtain⟨i',a1,a2,a3⟩:=hug.2.2.2 i hi.1 hi.2
       rw[a3];exact hbu p i' j (by omega) (by omega) i2 i3
     ·rw[hug.2.2.1 i (by omega)];exact hbu p i j (by omega) i1 i2 i3
  have hb:¬ a+2*bs≤n:=by omega
  refine Gz 8 ?_;refine Tj (β:=List Int) (fun vs=>[(0,.slice o n c),(1,iV n),(2,.func (.func f) #[] cs.toArray),(6,iV bs)]) (fun vs w=>StI W0 o c n vs w∧vs.Perm xs∧BI (2*bs) n vs∧BSn K (2*bs) n vs) ?_ ?_
  ·refine fK 12 ?_ ?_<;>intro h54
   ·refine Gz 9 ?_;have e1:2*q*bs=a:=by rw[ha,Yc 2 q,YA]
    have e2:(2*q+1)*bs=a+bs:=by rw[Xx,XW,e1]
    refine SJ Gj rfl ((by rw[show ((a:Int)+bs)=((a+bs:Nat):Int) by omega];exact Fp W0 o hC c n (by omega) (n-a) a (a+bs) n zs w5 (WC _) hz5 (fun z hz=>hV z (hz5p.mem_iff.1 hz)) (by omega) (by omega) (WC _) (by have h9:=hsu (2*q) (by omega);rw[e1] at h9;exact h9.sub (WC _) (by omega)) (by have h9:=hsu (2*q+1) (by omega);rw[e2] at h9;exact h9.sub (WC _) (by omega)) (fun i j i1 i2 i3 i4=>hbu (2*q+1) i j (by omega) (by omega) (by omega) (by omega)))) rfl ?_;rintro _ w6 ⟨rfl,us,hu,hug,hus⟩;refine Gz 1 ?_
    first
    |exact aC us ⟨hu,hug.2.1.trans hz5p,hug.bi ha (by omega) (WC _) hb2,fun p=>by
        rcases XN p q with hp|hp|hp
        · have:=Xh (2*bs) hp
          rw[XU,Xx,XW] at this;exact(dW (hsp p hp) (fun k k1 k2=>hug.2.2.1 k (.inl (by omega)))).sub (WC _) (by omega)
        ·subst hp;rw[←ha];exact hus.sub (WC _) (by omega)
        · have:=Xh (2*bs) hp
          rw[XU,Xx,XW] at this;exact Wd (by omega)⟩
    |exact aC zs ⟨hz5,hz5p,hb2,fun p=>by
        rcases XN p q with hp|hp|hp
        ·exact(hsp p hp).sub (WC _) (by omega)
        · subst hp
          have e1:2*p*bs=a:=by rw[ha,Yc 2 p,YA]
          have h9:=hsu (2*p) (by omega);rw[e1] at h9;rw[←ha];exact h9.sub (WC _) (by omega)
        · have:=Xh (2*bs) hp
          rw[XU,Xx,XW] at this;exact Wd (by omega)⟩
   refine Gz 4 ?_
   first
   |exact aC us ⟨hu,hug.2.1.trans hz5p,hug.bi ha (by omega) (WC _) hb2,fun p=>by
       rcases XN p q with hp|hp|hp
       · have:=Xh (2*bs) hp
         rw[XU,Xx,XW] at this;exact(dW (hsp p hp) (fun k k1 k2=>hug.2.2.1 k (.inl (by omega)))).sub (WC _) (by omega)
       ·subst hp;rw[←ha];exact hus.sub (WC _) (by omega)
       · have:=Xh (2*bs) hp
         rw[XU,Xx,XW] at this;exact Wd (by omega)⟩
   |exact aC zs ⟨hz5,hz5p,hb2,fun p=>by
       rcases XN p q with hp|hp|hp
       ·exact(hsp p hp).sub (WC _) (by omega)
       · subst hp
         have e1:2*p*bs=a:=by rw[ha,Yc 2 p,YA]
         have h9:=hsu (2*p) (by omega);rw[e1] at h9;rw[←ha];exact h9.sub (WC _) (by omega)
       · have:=Xh (2*bs) hp
         rw[XU,Xx,XW] at this;exact Wd (by omega)⟩
  rintro vs w8 ⟨hv8,hv8p,hv8b,hv8s⟩;refine Gz 2 ?_;refine cL (TE rfl rfl (by omega)) ?_;refine Gz 3 ?_;exact S9 ⟨2*bs,vs⟩ ⟨rfl,rfl,rfl,congrArg (fun z:Int=>some (Value.int .i64 z)) (by omega),trivial⟩ ⟨⟨by omega,by omega⟩,hv8,hv8p,hv8b,hv8s⟩ (by show n-2*bs<n-bs;omega)
 refine Gz 7 ?_;refine Tf rfl ?_;refine⟨_,rfl,rfl,vs,hv4,hvp,?_⟩;have h9:=hvs 0;rw[Nat.zero_mul] at h9;exact h9.sub (WC _) (by omega)
theorem yR{K:Int→List By}{V:Int→Prop}{f:FuncId}{cs:List Value}(W0:World)(o:Option Addr)(hC:M7 W0 o f cs V K)(c n:Nat)(hn:n≤100000)(xs:List Int)(W:World)(h:StI W0 o c n xs W)(hV:∀ z∈xs,V z)(hinc:Inc xs 0 n) :
 CA 170 [.slice o n c,.func (.func f) #[] cs.toArray] W fun v w'=>v=.tuple #[]∧∃ ys,StI W0 o c n ys w'∧ys.Perm xs∧Srt K ys 0 n:=by
 refine cS 9 [(0,_),(1,_)] Tryz.func170 ?_;refine cA 5 PD (DW W0 o hC c n hn xs W h hV hinc) ?_;rintro _ w1 ⟨rfl,ys,hy,hyp,hys⟩;refine Gz 1 ?_;refine Tf rfl ?_;exact⟨_,rfl,rfl,ys,hy,hyp,hys⟩
section
open Go Go.RowKit Go.Maps
theorem HD(ao bo:Option Addr)(ac bc:Nat)(a b:List By)(W:World)(ha:Vw gQ W.heap ao ac a)(hb:Vw gQ W.heap bo bc b) :
 CA 228 [.slice ao a.length ac,.slice bo b.length bc] W fun v w'=>v=.bool (decide (a=b))∧aA nob W w':=by
 have h63:=ha.Wq;refine cS 26 [(0,_),(1,_)] Tryz.func228 ?_;refine fK 12 ?_ ?_<;>intro h10
 ·refine Gz 11 ?_;exact⟨_,rfl,by rw[Wx (fun e=>by subst e;exact h10 rfl)],VK _ _⟩
 refine Gz 14 ?_;have hlen:a.length=b.length:=by omega
 refine SO (β:=Nat) (fun k=>[(0,.slice ao a.length ac),(1,.slice bo b.length bc),(12,iV a.length),(13,iV k)]) (fun k w=>k≤a.length∧(∀ i,i<k→i<a.length→a.getD i []=b.getD i [])∧aA nob W w) (fun k=>a.length-k) 0 ⟨rfl,rfl,rfl,rfl,trivial⟩ ⟨WG _,fun i hi=>by omega,VK _ _⟩ ?_;rintro k w2 ⟨hk,hsm,hF2⟩;refine fK 2 ?_ ?_<;>intro h14
 ·have hka:k<a.length:=by omega
  have hkb:k<b.length:=by omega
  have ha2:=ha.Wr hF2;have hb2:=hb.Wr hF2;refine Gz 15 ?_;refine Tg 9 [0,1,2,3,4,5,6,7,8] aL (by kernel_rfl) ?_;refine Gz 2 ?_;refine xC rfl (SI jK rfl rfl ha2.non (by omega)) ?_;refine xC rfl (SM fT rfl (ha2.get k (a.getD k []) (by simp[WI,hka]))) ?_;refine Gz 2 ?_;refine xC rfl (SI jK rfl rfl hb2.non (by omega)) ?_;refine xC rfl (SM fT rfl (hb2.get k (b.getD k []) (by simp[WI,hkb]))) ?_;refine xK 0 ?_ ?_<;>intro h24
  ·refine Gz 15 ?_;exact⟨_,rfl,by rw[Wx (fun e=>h24 (by rw[e]))],hF2.draws 1⟩
  refine Gz 10 ?_;refine aG (k+1) ⟨by omega,fun i hi hia=>?_,hF2.draws 1⟩ (by show a.length-(k+1)<a.length-k;omega);by_cases hik:i=k
  ·subst hik;exact W3.1 h24
  ·exact hsm i (by omega) hia
 refine Gz 16 ?_;exact⟨_,rfl,by rw[WA (CX (by omega) (k:=k) (by omega) [] hsm)],hF2⟩
theorem Jg(ao bo:Option Addr)(ac bc:Nat)(a b:List By)(W:World)(ha:Vw gQ W.heap ao ac a)(hb:Vw gQ W.heap bo bc b) :
 CA 214 [.slice ao a.length ac,.slice bo b.length bc] W fun v w'=>v=.bool (decide (a=b))∧aA nob W w':=by
 refine cS 8 [(0,_),(1,_)] Tryz.func214 ?_;refine cA 9 PA (HD ao bo ac bc a b W ha hb) ?_;rintro _ w1 ⟨rfl,hf1⟩;refine Gz 5 ?_;exact⟨_,rfl,rfl,hf1⟩
def mW(l s:List By):Prop:=s.length<l.length∧l.take s.length=s
instance (l s:List By):Decidable (mW l s):=by unfold mW;exact inferInstance
theorem KU(ao bo:Option Addr)(ac bc:Nat)(a b:List By)(W:World)(ha:Vw gQ W.heap ao ac a)(hb:Vw gQ W.heap bo bc b) :
 CA 169 [.slice ao a.length ac,.slice bo b.length bc] W fun v w'=>v=.bool (decide (mW a b))∧aA nob W w':=by
 refine cS 18 [(0,_),(1,_)] Tryz.func169 ?_;refine fK 11 ?_ ?_<;>intro h9
 ·refine Gz 4 ?_;refine cW (SN (u:=.slice ao (a.take b.length).length ac) (S8 jK rfl rfl (by have:=ha.le;omega)) (by rw[bD,WB,XG (by omega)];rfl)) ?_;refine Gz 1 ?_;refine SS rfl rfl PE rfl (Jg ao bo ac bc (a.take b.length) b W (ha.take _) hb) rfl ?_;rintro _ w1 ⟨rfl,hf1⟩;refine Gz 6 ?_
  first
  |exact⟨_,rfl,congrArg _ (decide_eq_decide.2 ⟨fun e=>⟨by omega,e⟩,fun e=>e.2⟩),hf1⟩
  |exact⟨_,rfl,by rw[Wx (show ¬ mW a b from fun e=>by have:=e.1;omega)],VK _ _⟩
 refine Gz 13 ?_
 first
 |exact⟨_,rfl,congrArg _ (decide_eq_decide.2 ⟨fun e=>⟨by omega,e⟩,fun e=>e.2⟩),hf1⟩
 |exact⟨_,rfl,by rw[Wx (show ¬ mW a b from fun e=>by have:=e.1;omega)],VK _ _⟩
variable {D:Nat→Prop}
def gC(ps:List (NdH×Nd))(z:Int):Int:=(ps.countP (fun p=>decide (p.2.ino=z)):Nat)
theorem OJ{ps:List (NdH×Nd)}{i:Nat}{p:NdH×Nd}(hp:ps[i]?=some p)(z:Int):gC (ps.take (i+1)) z=gC (ps.take i) z+if p.2.ino=z then 1 else 0:=by
 unfold gC;rw[tkL hp,List.countP_append,List.countP_singleton];by_cases h:p.2.ino=z
 ·simp[h]
 ·simp[h]
theorem KA(ps:List (NdH×Nd))(z:Int):0≤gC ps z∧gC ps z≤ps.length:=by
 unfold gC;have:=List.countP_le_length (p:=fun p:NdH×Nd=>decide (p.2.ino=z)) (l:=ps);omega
def wQ(ps:List (NdH×Nd))(i:Int):Int:=if 0≤i∧i<ps.length then gC ps (ps.getD i.toNat (mN,nd0)).2.ino else 0
theorem qE{ps:List (NdH×Nd)}{i:Int}{q:NdH×Nd}(h:0≤i∧i<ps.length)(hq:ps[i.toNat]?=some q):wQ ps i=gC ps q.2.ino:=by
 unfold wQ;rw[Wu h,WI,hq];rfl
theorem wP{ps:List (NdH×Nd)}{i:Int}(h:¬ (0≤i∧i<ps.length)):wQ ps i=0:=by unfold wQ;rw[Wt h]
theorem Js(lo:Option Addr)(lc:Nat)(ps:List (NdH×Nd))(i:Int)(W:World)(hv:aQ D W.heap lo lc ps) :
 CA 71 [.slice lo ps.length lc,iV i] W fun v w'=>v=iV (wQ ps i)∧aA nob W w':=by
 have h63:=hv.1.Wq;refine cS 34 [(0,_),(1,_)] Tryz.func71 ?_;refine fK 9 ?_ ?_<;>intro h9
 ·refine Gz 17 ?_
  first
  |exact⟨_,rfl,by rw[wP (by omega)],VK _ _⟩
  |exact⟨_,rfl,by rw[qE hin hq,Xg],hF2⟩
 refine fW 4 ?_ ?_<;>intro h14
 ·refine Gz 12 ?_
  first
  |exact⟨_,rfl,by rw[wP (by omega)],VK _ _⟩
  |exact⟨_,rfl,by rw[qE hin hq,Xg],hF2⟩
 have hin:0≤i∧i<ps.length:=by omega
 obtain⟨q,hq⟩:∃ q,ps[i.toNat]?=some q:=⟨_,Wv (by omega)⟩
 refine Gz 20 ?_;refine SO (β:=Nat) (fun k=>[(0,.slice lo ps.length lc),(1,iV i),(5,iV (gC (ps.take k) q.2.ino)),(16,.slice lo ps.length lc),(17,iV ps.length),(18,iV k)]) (fun k w=>k≤ps.length∧aA nob W w) (fun k=>ps.length-k) 0 ⟨rfl,rfl,rfl,rfl,rfl,rfl,trivial⟩ ⟨WG _,VK _ _⟩ ?_;rintro k w2 ⟨hk,hF2⟩;refine fK 2 ?_ ?_<;>intro h19
 ·have hkl:k<ps.length:=by omega
  obtain⟨p,hp⟩:∃ p,ps[k]?=some p:=⟨_,Wv hkl⟩
  have hv2:=hv.Wr hF2;have hct:=OJ hp q.2.ino;have hcl:=KA (ps.take k) q.2.ino;have hctl:(ps.take k).length≤k:=by rw[WB];omega
  refine Gz 6 ?_;refine Tj (β:=Unit) (fun _u=>[(0,.slice lo ps.length lc),(1,iV i),(5,iV (gC (ps.take (k+1)) q.2.ino)),(16,.slice lo ps.length lc),(17,iV ps.length),(18,iV k)]) (fun _u w=>aA nob W w) ?_ ?_
  ·refine Gz 3 ?_;refine cL (SL aS rfl rfl hv2.1.non (by omega)) ?_;refine cL (SX (cs:=aF p) bB rfl (fun j v hj=>hv2.1.rowZ k rfl hp j v hj)) ?_;refine SP fF rfl ?_;intro w3 hg3 hs3 hf3;obtain⟨r,hr⟩:∃ r,r=w2.heap.size:=⟨_,rfl⟩
   rw[←hr] at hg3 ⊢;refine SY (vs:=aF p) bB rfl rfl (aB p).2 hg3 rfl ?_;intro w4 hg4 hs4 hf4;have hF4:aA nob W w4:=hF2.trans (hf3.Wo hf4 (fun k e=>.inr (by have e:k=r:=e;omega)));have hv4:=hv.Wr hF4;refine Gz 3 ?_;refine Tg 8 [0,1,2,3,4,5,6,7] aL (by kernel_rfl) ?_;refine Gz 1 ?_;refine xC rfl (SM aN rfl (aD hg4 rfl)) ?_;refine Gz 2 ?_;refine xC rfl (SL aS rfl rfl hv4.1.non (by omega)) ?_;refine Gz 1 ?_;refine xC rfl (SM aN rfl (hv4.1.rowZ i.toNat (by omega) hq 1 _ rfl)) ?_;refine xK 0 ?_ ?_<;>intro h29
   ·refine Gz 9 ?_
    first
    |exact Tn () ⟨rfl,rfl,congrArg (fun z:Int=>some (Value.int .i64 z)) (by rw[hct,Wu h29]),rfl,rfl,rfl,trivial⟩ (hF4.draws 1)
    |exact Tn () ⟨rfl,rfl,congrArg (fun z:Int=>some (Value.int .i64 z)) (by rw[hct,Wt h29,Int.add_zero]),rfl,rfl,rfl,trivial⟩ (hF4.draws 1)
   refine Gz 5 ?_
   first
   |exact Tn () ⟨rfl,rfl,congrArg (fun z:Int=>some (Value.int .i64 z)) (by rw[hct,Wu h29]),rfl,rfl,rfl,trivial⟩ (hF4.draws 1)
   |exact Tn () ⟨rfl,rfl,congrArg (fun z:Int=>some (Value.int .i64 z)) (by rw[hct,Wt h29,Int.add_zero]),rfl,rfl,rfl,trivial⟩ (hF4.draws 1)
  rintro _ w5 hF5;refine Gz 4 ?_;exact aG (k+1) ⟨by omega,hF5⟩ (by show ps.length-(k+1)<ps.length-k;omega)
 have hke:k=ps.length:=by omega
 subst hke;refine Gz 17 ?_
 first
 |exact⟨_,rfl,by rw[wP (by omega)],VK _ _⟩
 |exact⟨_,rfl,by rw[qE hin hq,Xg],hF2⟩
end
section
open Go Go.RowKit Go.Maps
def nmG(ps:List (NdH×Nd))(k:Nat):List By:=(ps.getD k (mN,nd0)).2.names
theorem rW{ps:List (NdH×Nd)}{k:Nat}{p:NdH×Nd}(h:ps[k]?=some p):nmG ps k=p.2.names:=by unfold nmG;rw[WI,h];rfl
def jM(l s:List By):Prop:=l.length=s.length+1∧l.take s.length=s
instance (l s:List By):Decidable (jM l s):=by unfold jM;exact inferInstance
theorem wU{l s:List By}:jM l s↔l.length=s.length+1∧mW l s:=by
 unfold jM mW;constructor
 ·rintro⟨h1,h2⟩;exact⟨h1,by omega,h2⟩
 ·rintro⟨h1,_,h2⟩;exact⟨h1,h2⟩
def bA(ps:List (NdH×Nd))(s:List By):Nat→List Int
|0=>[]
|i+1=>if jM (nmG ps i) s then bA ps s i++[(i:Int)] else bA ps s i
section
variable {ps:List (NdH×Nd)}{s:List (List UInt8)}
theorem qH{i:Nat}(h:jM (nmG ps i) s):bA ps s (i+1)=bA ps s i++[(i:Int)]:=by rw[bA,Wu h]
theorem qI{i:Nat}(h:¬ jM (nmG ps i) s):bA ps s (i+1)=bA ps s i:=by rw[bA,Wt h]
theorem eZ{z:Int}:∀ {i:Nat},z∈bA ps s i↔∃ k:Nat,z=k∧k<i∧jM (nmG ps k) s
|0=>⟨fun h=>(by simp[bA] at h),fun⟨k,_,h,_⟩=>(by omega)⟩
|i+1=>by
   by_cases h:jM (nmG ps i) s
   · rw[qH h,WZ,WY,eZ (i:=i)]
     constructor
     · rintro(⟨k,h1,h2,h3⟩|h1)
       ·exact⟨k,h1,by omega,h3⟩
       ·exact⟨i,h1,by omega,h⟩
     · rintro⟨k,h1,h2,h3⟩
       by_cases e:k=i
       ·exact .inr (by rw[h1,e])
       ·exact .inl ⟨k,h1,by omega,h3⟩
   · rw[qI h,eZ (i:=i)]
     constructor
     ·rintro⟨k,h1,h2,h3⟩;exact⟨k,h1,by omega,h3⟩
     · rintro⟨k,h1,h2,h3⟩
       by_cases e:k=i
       ·exact absurd (e ▸ h3) h
       ·exact⟨k,h1,by omega,h3⟩
theorem jH:∀ i:Nat,(bA ps s i).Pairwise (· < ·)
|0=>List.Pairwise.nil
|i+1=>by
   by_cases h:jM (nmG ps i) s
   · rw[qH h,Yu]
     refine⟨jH i,by simp,fun a ha b hb=>?_⟩;obtain⟨k,e,hk,_⟩:=eZ.1 ha;rw[WY] at hb;subst hb;omega
   ·rw[qI h];exact jH i
theorem qJ:∀ i:Nat,(bA ps s i).length≤i
|0=>WC _
|i+1=>by
   have:=qJ i;by_cases h:jM (nmG ps i) s
   ·rw[qH h,Ww,WF];omega
   ·rw[qI h];omega
end
theorem Am{xs:List Int}{k:Nat}(h:k<xs.length):xs.getD k 0=xs[k]:=by simp[WI,h]
theorem Om{xs:List Int}(h:xs.Pairwise (· < ·)):Inc xs 0 xs.length:=fun i j _ hij hj=>by
 rw[Am (by omega),Am hj];exact W8.1 h i j (by omega) hj hij
section
variable {K:Int→List (List UInt8)}
theorem Iv{xs:List Int}(h:Srt K xs 0 xs.length):xs.Pairwise (ltS K):=W8.2 fun i j hi hj hij=>by
 have:=h i j (WG _) hij hj;rwa[Am hi,Am hj] at this
theorem L6{x:Int}(h:ltS K x x):False:=by
 rcases h with h|⟨_,h⟩
 ·rw[nS] at h;omega
 ·omega
theorem L7{x y:Int}(h:ltS K x y)(g:ltS K y x):False:=L6 (nK h g)
theorem FF:∀ {xs ys:List Int},xs.Perm ys→xs.Pairwise (ltS K)→ys.Pairwise (ltS K)→xs=ys
|[],ys,hp,_,_=>by rw[List.nil_perm] at hp;exact hp.symm
|x::xs,[],hp,_,_=>by have:=hp.length_eq;simp at this
|x::xs,y::ys,hp,hx,hy=>by
   have h1:=X9.1 hx;have h2:=X9.1 hy;have e:x=y:=by
    apply WH;intro hne;have hxm:x∈ys:=by
     have:=hp.mem_iff.1 (show x∈x::xs by simp);rcases W5.1 this with e|h
     ·exact absurd e hne
     ·exact h
    have hym:y∈xs:=by
     have:=hp.mem_iff.2 (show y∈y::ys by simp);rcases W5.1 this with e|h
     ·exact absurd e.symm hne
     ·exact h
    exact L7 (h1.1 y hym) (h2.1 x hxm)
   subst e;rw[FF (List.Perm.cons_inv hp) h1.2 h2.2]
theorem Jz{xs ys:List Int}(hp:xs.Perm ys)(hx:Srt K xs 0 xs.length)(hy:Srt K ys 0 ys.length):xs=ys:=FF hp (Iv hx) (Iv hy)
end
theorem zB{a b:Nat}(ha:a≤9223372036854775807)(hb:b≤9223372036854775807):((a:Int)=IntKind.i64.wrap ((b:Int)+1))↔a=b+1:=by
 by_cases h:b=9223372036854775807
 · subst h
   have e:IntKind.i64.wrap (((9223372036854775807:Nat):Int)+1) = -9223372036854775808:=by unfold IntKind.wrap;simp[IntKind.bits,IntKind.signed]
   rw[e];omega
 ·rw[dC (by omega)];omega
def AL(ps:List (NdH×Nd))(s:List By)(ys:List Int):Prop:=ys.Perm (bA ps s ps.length)∧Srt (fun z=>nmG ps z.toNat) ys 0 ys.length
theorem AL.uniq{ps:List (NdH×Nd)}{s:List By}{xs ys:List Int}(h:AL ps s xs)(g:AL ps s ys):xs=ys:=Jz (h.1.trans g.1.symm) h.2 g.2
def bI(l:List By):By:=l.getD (l.length-1) []
theorem Mg{a b s:List By}(ha:jM a s)(hb:jM b s):cQ a b=tY (bI a) (bI b):=by
 have e:∀ {l:List By},jM l s→l=s++[bI l]:=fun {l} h=>by
  have h1:l[s.length]?=some (bI l):=by
   unfold bI;rw[h.1,WI,YW,Wv (by have:=h.1;omega)];rfl
  have h2:=tkL h1;rw[h.2,WJ (by have:=h.1;omega)] at h2;exact h2
 conv=>lhs;rw[e ha,e hb]
 rw[xY];show (if bI a=bI b then cQ [] [] else if WU (bI a) (bI b)=true then -1 else 1)=_;unfold tY;by_cases h1:WU (bI a) (bI b)=true
 ·rw[Wu h1,Wt (fun h=>by rw[h,kV] at h1;cases h1),Wu h1]
 · rw[Wt h1]
   by_cases h2:bI a=bI b
   ·rw[Wu h2,Wu h2,Wt h1];rfl
   ·rw[Wt h2,Wt h2,Wt h1]
theorem MQ{a b:By}:tY a b<0↔WU a b=true:=by
 unfold tY;by_cases h1:WU a b=true
 ·rw[Wu h1];simp[h1]
 · rw[Wt h1]
   by_cases h2:a=b
   ·rw[Wu h2];simp[h1]
   ·rw[Wt h2];simp[h1]
variable {D:Nat→Prop}
theorem Mi(lo:Option Addr)(lc:Nat)(ps:List (NdH×Nd))(g:Nat)(x y:Int)(W:World){T:TypeId}{fr:Nat×Nat}(hv:aQ D W.heap lo lc ps)(hg:W.heap[g]?=some (.cells [Value.slice lo ps.length lc].toArray T fr))(hx:0≤x∧x<ps.length)(hy:0≤y∧y<ps.length) :
 CA 171 [iV x,iV y,pT g] W fun v w'=>v=iV (cQ (nmG ps x.toNat) (nmG ps y.toNat))∧aA nob W w':=by
 have h63:=hv.1.Wq;obtain⟨p,hp⟩:∃ p,ps[x.toNat]?=some p:=⟨_,Wv (by omega)⟩
 obtain⟨q,hq⟩:∃ q,ps[y.toNat]?=some q:=⟨_,Wv (by omega)⟩
 rw[rW hp,rW hq];have hpn:=(hv.2 p (Wz hp)).1;have hqn:=(hv.2 q (Wz hq)).1;have hgv:VwM 10 aF W.heap lo lc ps:=hv.1;refine cS 17 [(0,_),(1,_),(2,_)] Tryz.func171 ?_;refine Gz 6 ?_;refine SZ 12 (fun H=>H[g]?=some (.cells [Value.slice lo ps.length lc].toArray T fr)∧VwM 10 aF H lo lc ps) [10] [0,1,2,3,4,5,6,7,8,9,10,11] aL (by kernel_rfl) (⟨hg,hgv⟩) ?_;refine xC rfl (SR zR rfl (fun H hH=>bN hH.1 rfl)) ?_;refine Gz 1 ?_;refine xC rfl (SL aS rfl rfl hv.1.non (by omega)) ?_;refine Gz 1 ?_;refine xC rfl (SR eW rfl (fun H hH=>hH.2.rowZ x.toNat (by omega) hp 0 _ rfl)) ?_;refine xC rfl (SR zR rfl (fun H hH=>bN hH.1 rfl)) ?_;refine Gz 1 ?_;refine xC rfl (SL aS rfl rfl hv.1.non (by omega)) ?_;refine Gz 1 ?_;refine xC rfl (SR eW rfl (fun H hH=>hH.2.rowZ y.toNat (by omega) hq 0 _ rfl)) ?_;refine SU rfl rfl (SJ Pp rfl ((by show Calls _ _ [Value.slice p.1.names.a p.1.names.n p.1.names.c,Value.slice q.1.names.a q.1.names.n q.1.names.c].toArray _ _;rw[hpn.1,hqn.1];exact xU _ _ _ _ p.2.names q.2.names _ hpn.2.1 hqn.2.1)) rfl ?_);rintro _ w3 ⟨rfl,hw3⟩;subst hw3;refine S5 (by exact⟨hg,hgv⟩) ?_;refine Gz 5 ?_;exact⟨_,rfl,rfl,(VK _ _).draws 1⟩
theorem Mf(lo:Option Addr)(lc:Nat)(ps:List (NdH×Nd))(so:Option Addr)(sc:Nat)(s:List By)(W:World)(hv:aQ D W.heap lo lc ps)(hs:Vw gQ W.heap so sc s)(hn:ps.length≤100000) :
 CA 120 [.slice lo ps.length lc,.slice so s.length sc] W fun v w'=>∃ o c ys,v=.slice o (W6 (α:=Int) ys) c∧Own i64 3 w'.heap o c ys∧Fr W.heap.size o∧AL ps s ys∧aA nob W w':=by
 have h63:=hv.1.Wq;have hs63:s.length≤9223372036854775807:=by have:=hs.Wq;omega
 refine cS 37 [(0,_),(1,_)] Tryz.func120 ?_;refine Gz 2 ?_;refine Td rfl rfl ?_;intro w1 hg1 hs1 hf1;obtain⟨g,hg⟩:∃ g,g=W.heap.size:=⟨_,rfl⟩
 rw[←hg] at hg1 hs1 ⊢
 replace hg1:w1.heap[g]?=some (.cells [Value.slice lo ps.length lc].toArray 22 (0,0)):=hg1
 refine Gz 11 ?_;refine cL (SN (u:=.slice lo ps.length lc) (SM zR rfl (bN hg1 rfl)) rfl) ?_;refine Gz 5 ?_;refine SO (β:=Nat×Option Addr×Nat) (fun⟨i,o,c⟩=>[(0,.slice lo ps.length lc),(1,.slice so s.length sc),(2,pT g),(5,.slice o (bA ps s i).length c),(8,.slice lo ps.length lc),(9,iV ps.length),(10,iV i)]) (fun⟨i,o,c⟩ w=>i≤ps.length∧Own i64 3 w.heap o c (bA ps s i)∧Fr w1.heap.size o∧aA nob w1 w) (fun⟨i,o,c⟩=>ps.length-i) ⟨0,none,0⟩ ⟨rfl,rfl,rfl,rfl,rfl,rfl,rfl,trivial⟩ ⟨WG _,VR,VP,VK _ _⟩ ?_;rintro⟨i,o,c⟩ w2 ⟨hi,ho2,hfo,hF2⟩;refine fK 2 ?_ ?_<;>intro h11
 ·have hil:i<ps.length:=by omega
  obtain⟨p,hp⟩:∃ p,ps[i]?=some p:=⟨_,Wv hil⟩
  have hv2:=(hv.Wr hf1).Wr hF2;have hll:=qJ (ps:=ps) (s:=s) i;have hnm:=rW hp;have hpl:p.2.names.length≤9223372036854775807:=by have:=((hv2.2 p (Wz hp)).1).2.1.Wq;omega
  refine Gz 11 ?_;refine cL (SL aS rfl rfl hv2.1.non (by omega)) ?_;refine cL (SX (cs:=aF p) bB rfl (fun j v hj=>hv2.1.rowZ i rfl hp j v hj)) ?_;refine SP fF rfl ?_;intro w3 hg3 hs3 hf3;obtain⟨r,hr⟩:∃ r,r=w2.heap.size:=⟨_,rfl⟩
  rw[←hr] at hg3 ⊢;refine Gz 1 ?_;refine SY (vs:=aF p) bB rfl rfl (aB p).2 hg3 rfl ?_;intro w4 hg4 hs4 hf4;have hf24:aA nob w2 w4:=hf3.Wo hf4 (fun k e=>.inr (by have e:k=r:=e;omega));have hF4:aA nob w1 w4:=hF2.trans hf24;have hv4:=(hv.Wr hf1).Wr hF4;have hs4:=(hs.Wr hf1).Wr hF4;have hn4:=(hv4.2 p (Wz hp)).1;have ho4:=ho2.Wr hf24;refine Gz 1 ?_;refine aW [(0,_),(1,_),(2,_),(5,_),(6,_),(7,_),(8,_),(9,_),(10,_),(11,_)] ?_;refine Gz 5 ?_;refine cL (SN (u:=iV p.2.names.length) (UF jK rfl) (by rw[←hn4.1])) ?_;refine Gz 2 ?_;refine cL (UO rfl rfl) ?_;refine fK 0 ?_ ?_<;>intro h21
  ·
   replace h21:=(zB hpl hs63).1 h21
   refine Gz 4 ?_;refine SS rfl rfl PX rfl ((by show Calls _ _ [Value.slice p.1.names.a p.1.names.n p.1.names.c,_].toArray _ _;rw[hn4.1];exact KU p.1.names.a so p.1.names.c sc p.2.names s w4 hn4.2.1 hs4)) rfl ?_;rintro _ w5 ⟨rfl,hf5⟩;by_cases h26:mW p.2.names s
   ·rw[WA h26];have hkd:jM (nmG ps i) s:=by rw[hnm];exact wU.2 ⟨by omega,h26⟩
    refine Gz 7 ?_;refine TJ (enc:=i64) (u:=(i:Int)) cI (fA _) rfl rfl ?_;intro w6 ho6 hs6 hf6;refine S4 fA cI rfl rfl ((ho4.Wr hf5).Wr hf6) ho6.vw (by simp only[WF];omega) (by simp only[WF];unfold maxLen;omega) rfl ?_;intro o7 c7 w7 ho7 hf7 hr7 hn7;refine Gz 8 ?_;have hF7:aA nob w1 w7:=(hF4.trans (hf5.trans hf6)).Wo hf7 hfo.step;rw[←qH hkd] at ho7 ⊢;exact aG ⟨i+1,o7,c7⟩ ⟨by omega,ho7,cP hfo hr7 (by have:=hF2.size;have:=hf24.size;have:=hf5.size;have:=hf6.size;omega),hF7⟩ (by show ps.length-(i+1)<ps.length-i;omega)
   rw[Wx h26];have hkd:¬ jM (nmG ps i) s:=by rw[hnm];exact fun h=>h26 (wU.1 h).2
   refine Gz 11 ?_;have key:∀ w5:World,aA nob w4 w5→¬ jM (nmG ps i) s→(Own i64 3 w5.heap o c (bA ps s (i+1))∧Value.slice o (bA ps s i).length c=.slice o (bA ps s (i+1)).length c):=fun w5 hf hk=>by rw[qI hk];exact⟨ho4.Wr hf,rfl⟩
   first
   |exact S9 ⟨i+1,o,c⟩ ⟨rfl,rfl,rfl,congrArg some (key w5 hf5 hkd).2,rfl,rfl,rfl,trivial⟩ ⟨by omega,(key w5 hf5 hkd).1,hfo,hF4.trans hf5⟩ (by show ps.length-(i+1)<ps.length-i;omega)
   |exact S9 ⟨i+1,o,c⟩ ⟨rfl,rfl,rfl,congrArg some (key w4 (VK _ _) (by rw[hnm];exact fun h=>h21 (by have:=h.1;omega))).2,rfl,rfl,rfl,trivial⟩ ⟨by omega,(key w4 (VK _ _) (by rw[hnm];exact fun h=>h21 (by have:=h.1;omega))).1,hfo,hF4⟩ (by show ps.length-(i+1)<ps.length-i;omega)
  replace h21:=fun h=>h21 ((zB hpl hs63).2 h)
  refine Gz 16 ?_;have key:∀ w5:World,aA nob w4 w5→¬ jM (nmG ps i) s→(Own i64 3 w5.heap o c (bA ps s (i+1))∧Value.slice o (bA ps s i).length c=.slice o (bA ps s (i+1)).length c):=fun w5 hf hk=>by rw[qI hk];exact⟨ho4.Wr hf,rfl⟩
  first
  |exact S9 ⟨i+1,o,c⟩ ⟨rfl,rfl,rfl,congrArg some (key w5 hf5 hkd).2,rfl,rfl,rfl,trivial⟩ ⟨by omega,(key w5 hf5 hkd).1,hfo,hF4.trans hf5⟩ (by show ps.length-(i+1)<ps.length-i;omega)
  |exact S9 ⟨i+1,o,c⟩ ⟨rfl,rfl,rfl,congrArg some (key w4 (VK _ _) (by rw[hnm];exact fun h=>h21 (by have:=h.1;omega))).2,rfl,rfl,rfl,trivial⟩ ⟨by omega,(key w4 (VK _ _) (by rw[hnm];exact fun h=>h21 (by have:=h.1;omega))).1,hfo,hF4⟩ (by show ps.length-(i+1)<ps.length-i;omega)
 have hie:i=ps.length:=by omega
 subst hie;have hapw:∀ w,aA (blk o) w2 w→aA nob w1 w:=fun w hf=>hF2.Wo hf hfo.step;have hvk:∀ w,aA (blk o) w2 w→aQ D w.heap lo lc ps:=fun w hf=>(hv.Wr hf1).Wr (hapw w hf);have hgk:∀ w,aA (blk o) w2 w→w.heap[g]?=some (.cells [Value.slice lo ps.length lc].toArray 22 (0,0)):=fun w hf=>(hapw w hf).obj hg1 id;refine Gz 12 ?_;refine cL (TO (vs:=[pT g]) rfl) ?_;refine SJ PW rfl (yR (V:=fun z:Int=>0≤z∧z<ps.length) (K:=fun z:Int=>nmG ps z.toNat) w2 o ⟨PV,fun w x y hf hx hy=>Mi lo lc ps g x y w (hvk w hf) (hgk w hf) hx hy⟩ c (bA ps s ps.length).length (by have:=qJ (ps:=ps) (s:=s) ps.length;omega) (bA ps s ps.length) w2 ⟨ho2,rfl,VK _ _⟩ (fun z hz=>by obtain⟨k,e,hk,_⟩:=eZ.1 hz;omega) (Om (jH _))) rfl ?_;rintro _ w8 ⟨rfl,ys,hy,hyp,hys⟩;have hF8:aA nob w1 w8:=hF2.Wo hy.2.2 hfo.step;refine Gz 1 ?_;refine aW [(0,_),(1,_),(2,_),(5,_),(8,_),(9,_),(10,_),(11,_)] ?_;refine Gz 9 ?_;exact⟨_,rfl,o,c,ys,by rw[hy.2.1],hy.1,hfo.mono (by omega),⟨hyp,by rw[hy.2.1];exact hys⟩,hf1.trans hF8⟩
end
section
open Go Go.RowKit Go.Maps
theorem NS{K:Int→List By}{xs:List Int}(h:xs.Pairwise (ltS K)):Srt K xs 0 xs.length:=fun i j _ hij hj=>by
 rw[Am (by omega),Am hj];exact W8.1 h i j (by omega) hj hij
variable {D:Nat→Prop}
end
section
open Go Go.Proofs Go.Shelf
def We:Go.Shelf.Ren:=⟨fun|7=>64|10=>117|n=>n,fun|23=>126|26=>3|3=>4|28=>129|0=>0|27=>128|33=>142|4=>4|n=>n,fun|n=>n⟩
theorem Wf:Go.Proofs.SlLaysZI.n7 Tryz.prog We where
 mixed:=by kernel_rfl
 f7 := ⟨ "maps.Keys[map[int]bool,int,bool]", by decide, Tryz.func64.trans (congrArg some (by kernel_rfl))⟩
 f10 := ⟨ "maps.Keys[map[int]bool,int,bool]$1", by decide, Tryz.func117.trans (congrArg some (by kernel_rfl))⟩
 t0:=Tryz.underlying0
 a0:=Tryz.isAgg0
 z0:=Tryz.sizeOf0
 v0:=Tryz.zeroValue0
 t4:=Tryz.underlying4
 a4:=Tryz.isAgg4
 z4:=Tryz.sizeOf4
 v4:=Tryz.zeroValue4
 t23:=Tryz.underlying126
 a23:=Tryz.isAgg126
 z23:=Tryz.sizeOf126
 v23:=Tryz.zeroValue126
 t26:=Tryz.underlying3
 a26:=Tryz.isAgg3
 z26:=Tryz.sizeOf3
 v26:=Tryz.zeroValue3
 t27:=Tryz.underlying128
 a27:=Tryz.isAgg128
 z27:=Tryz.sizeOf128
 v27:=Tryz.zeroValue128
 t28:=Tryz.underlying129
 a28:=Tryz.isAgg129
 z28:=Tryz.sizeOf129
 v28:=Tryz.zeroValue129
 t33:=Tryz.underlying142
 a33:=Tryz.isAgg142
 z33:=Tryz.sizeOf142
 v33:=Tryz.zeroValue142
def Wg:Go.Shelf.Ren:=⟨fun|6=>63|8=>115|9=>116|11=>165|13=>113|12=>166|23=>162|24=>163|14=>202|15=>203|16=>204|17=>205|18=>206|19=>207|20=>122|21=>208|22=>209|25=>222|26=>198|27=>199|28=>223|29=>224|30=>173|31=>234|n=>n,fun|26=>3|28=>129|24=>31|0=>0|3=>3|37=>97|48=>39|50=>227|4=>4|40=>220|39=>219|45=>118|5=>5|9=>9|51=>252|55=>72|57=>273|58=>91|33=>142|n=>n,fun|n=>n⟩
theorem Wh:Go.Proofs.SlLaysZI.n6 Tryz.prog Wg where
 mixed:=by kernel_rfl
 f6 := ⟨ "slices.Sorted[int]", by decide, Tryz.func63.trans (congrArg some (by kernel_rfl))⟩
 f8 := ⟨ "slices.Collect[int]", by decide, Tryz.func115.trans (congrArg some (by kernel_rfl))⟩
 f11 := ⟨ "slices.AppendSeq[[]int,int]", by decide, Tryz.func165.trans (congrArg some (by kernel_rfl))⟩
 t0:=Tryz.underlying0
 a0:=Tryz.isAgg0
 z0:=Tryz.sizeOf0
 v0:=Tryz.zeroValue0
 t24:=Tryz.underlying31
 a24:=Tryz.isAgg31
 z24:=Tryz.sizeOf31
 v24:=Tryz.zeroValue31
 t26:=Tryz.underlying3
 a26:=Tryz.isAgg3
 z26:=Tryz.sizeOf3
 v26:=Tryz.zeroValue3
 t28:=Tryz.underlying129
 a28:=Tryz.isAgg129
 z28:=Tryz.sizeOf129
 v28:=Tryz.zeroValue129
 i26:=by kernel_rfl
def Wi:Go.Shelf.Ren:=⟨fun|5=>116|8=>113|7=>166|19=>162|20=>163|10=>202|11=>203|12=>204|13=>205|14=>206|15=>207|16=>122|17=>208|18=>209|30=>222|31=>198|32=>199|33=>223|34=>224|35=>173|40=>234|n=>n,fun|23=>31|25=>3|3=>3|32=>97|22=>31|0=>0|44=>39|46=>227|4=>4|36=>220|35=>219|41=>118|5=>5|9=>9|53=>252|57=>72|63=>273|64=>91|n=>n,fun|n=>n⟩
theorem Wj:Go.Proofs.SlLaysM.n5 Tryz.prog Wi where
 mixed:=by kernel_rfl
 f5 := ⟨ "slices.Sort[[]int,int]", by decide, Tryz.func116.trans (congrArg some (by kernel_rfl))⟩
 f7 := ⟨ "slices.pdqsortOrdered[int]", by decide, Tryz.func166.trans (congrArg some (by kernel_rfl))⟩
 f8:=Tryz.func113.trans (congrArg some (by kernel_rfl))
 f10 := ⟨ "slices.insertionSortOrdered[int]", by decide, Tryz.func202.trans (congrArg some (by kernel_rfl))⟩
 f11 := ⟨ "slices.heapSortOrdered[int]", by decide, Tryz.func203.trans (congrArg some (by kernel_rfl))⟩
 f12 := ⟨ "slices.breakPatternsOrdered[int]", by decide, Tryz.func204.trans (congrArg some (by kernel_rfl))⟩
 f13 := ⟨ "slices.choosePivotOrdered[int]", by decide, Tryz.func205.trans (congrArg some (by kernel_rfl))⟩
 f14 := ⟨ "slices.reverseRangeOrdered[int]", by decide, Tryz.func206.trans (congrArg some (by kernel_rfl))⟩
 f15 := ⟨ "slices.partialInsertionSortOrdered[int]", by decide, Tryz.func207.trans (congrArg some (by kernel_rfl))⟩
 f16 := ⟨ "cmp.Less[int]", by decide, Tryz.func122.trans (congrArg some (by kernel_rfl))⟩
 f17 := ⟨ "slices.partitionEqualOrdered[int]", by decide, Tryz.func208.trans (congrArg some (by kernel_rfl))⟩
 f18 := ⟨ "slices.partitionOrdered[int]", by decide, Tryz.func209.trans (congrArg some (by kernel_rfl))⟩
 f19:=Tryz.func162.trans (congrArg some (by kernel_rfl))
 f20:=Tryz.func163.trans (congrArg some (by kernel_rfl))
 f30 := ⟨ "slices.siftDownOrdered[int]", by decide, Tryz.func222.trans (congrArg some (by kernel_rfl))⟩
 f31:=Tryz.func198.trans (congrArg some (by kernel_rfl))
 f32:=Tryz.func199.trans (congrArg some (by kernel_rfl))
 f33 := ⟨ "slices.medianAdjacentOrdered[int]", by decide, Tryz.func223.trans (congrArg some (by kernel_rfl))⟩
 f34 := ⟨ "slices.medianOrdered[int]", by decide, Tryz.func224.trans (congrArg some (by kernel_rfl))⟩
 f35 := ⟨ "cmp.isNaN[int]", by decide, Tryz.func173.trans (congrArg some (by kernel_rfl))⟩
 f40 := ⟨ "slices.order2Ordered[int]", by decide, Tryz.func234.trans (congrArg some (by kernel_rfl))⟩
 t0:=Tryz.underlying0
 a0:=Tryz.isAgg0
 z0:=Tryz.sizeOf0
 v0:=Tryz.zeroValue0
 t3:=Tryz.underlying3
 a3:=Tryz.isAgg3
 z3:=Tryz.sizeOf3
 v3:=Tryz.zeroValue3
 t4:=Tryz.underlying4
 a4:=Tryz.isAgg4
 z4:=Tryz.sizeOf4
 v4:=Tryz.zeroValue4
 t5:=Tryz.underlying5
 a5:=Tryz.isAgg5
 z5:=Tryz.sizeOf5
 v5:=Tryz.zeroValue5
 t9:=Tryz.underlying9
 a9:=Tryz.isAgg9
 z9:=Tryz.sizeOf9
 v9:=Tryz.zeroValue9
 t22:=Tryz.underlying31
 a22:=Tryz.isAgg31
 z22:=Tryz.sizeOf31
 v22:=Tryz.zeroValue31
 t23:=Tryz.underlying31
 a23:=Tryz.isAgg31
 z23:=Tryz.sizeOf31
 v23:=Tryz.zeroValue31
 t25:=Tryz.underlying3
 a25:=Tryz.isAgg3
 z25:=Tryz.sizeOf3
 v25:=Tryz.zeroValue3
 t32:=Tryz.underlying97
 a32:=Tryz.isAgg97
 z32:=Tryz.sizeOf97
 v32:=Tryz.zeroValue97
 t35:=Tryz.underlying219
 a35:=Tryz.isAgg219
 z35:=Tryz.sizeOf219
 v35:=Tryz.zeroValue219
 t36:=Tryz.underlying220
 a36:=Tryz.isAgg220
 z36:=Tryz.sizeOf220
 v36:=Tryz.zeroValue220
 t41:=Tryz.underlying118
 a41:=Tryz.isAgg118
 z41:=Tryz.sizeOf118
 v41:=Tryz.zeroValue118
 t44:=Tryz.underlying39
 a44:=Tryz.isAgg39
 z44:=Tryz.sizeOf39
 v44:=Tryz.zeroValue39
 t46:=Tryz.underlying227
 a46:=Tryz.isAgg227
 z46:=Tryz.sizeOf227
 v46:=Tryz.zeroValue227
 t53:=Tryz.underlying252
 a53:=Tryz.isAgg252
 z53:=Tryz.sizeOf252
 v53:=Tryz.zeroValue252
 t57:=Tryz.underlying72
 a57:=Tryz.isAgg72
 z57:=Tryz.sizeOf72
 v57:=Tryz.zeroValue72
 t63:=Tryz.underlying273
 a63:=Tryz.isAgg273
 z63:=Tryz.sizeOf273
 v63:=Tryz.zeroValue273
 t64:=Tryz.underlying91
 a64:=Tryz.isAgg91
 z64:=Tryz.sizeOf91
 v64:=Tryz.zeroValue91
end
section
open Go Go.RowKit Go.Maps Go.Sort
theorem mpB:sQ Tryz.prog 126 3 4 (.bool false):=⟨by kernel_rfl,z4⟩
theorem F6(a:I6):keyOf Tryz.prog 3 (enI a)=some (.int .i64 a.1):=by
 have h:(Lit.int .i64 a.1).wf=true:=by have:=a.2;simpa[Lit.wf,IntKind.min,IntKind.max,IntKind.signed,IntKind.bits] using this
 unfold keyOf;rw[show Tryz.prog.underlying 3=some (.int .i64) by kernel_rfl];simp[mapKey,show Tryz.prog.underlying 3=some (.int .i64) by kernel_rfl,enI,h]
theorem LP{g:Nat}{m:List (I6×Value)}{W:World}(hm:cY enI W.heap g m)(hb:∀ p∈m,p.2=.bool true)(hl:m.length≤maxLen) :
 ∃ D0:DataW Unit,W.ownsMap Tryz.prog 3 (plainElem Tryz.prog 4) g m.length D0∧Maps.size D0=m.length∧(intKeys D0).Perm (m.map (·.1.1)):=by
 have hrd:∀ x∈bK enI m,∃ p∈m,x.key=enI p.1∧WideElems.rd (H:=Unit) Tryz.prog 3 (plainElem Tryz.prog 4) x=some (.int .i64 p.1.1,.lit (.bool true)):=fun x hx=>by
  obtain⟨p,hp,h1,h2⟩:=Dl hx;refine⟨p,hp,h1,?_⟩;unfold WideElems.rd;rw[h1,F6,h2,hb p hp,plainElem_bool (show Tryz.prog.underlying 4=some .bool by kernel_rfl)];rfl
 have hborn:(bK enI m).map (·.born)=Xr m.length:=by
  apply Xy;intro i;by_cases hi:i<m.length
  ·simp[bK,hi]
  ·simp[bK,hi]
 have hkey:(bK enI m).map (·.key)=(m.map (·.1)).map enI:=by
  apply Xy;intro i;by_cases hi:i<m.length
  ·simp[bK,hi]
  ·simp[bK,hi]
 have hrg:(bK enI m).map (WideElems.rg (H:=Unit) Tryz.prog 3 (plainElem Tryz.prog 4))=m.map (fun p=>(Lit.int .i64 p.1.1,DataW.lit (.bool true))):=by
  apply Xy;intro i;by_cases hi:i<m.length
  · have hx:(bK enI m)[i]?=some ⟨enI m[i].1,m[i].2,i⟩:=by simp[bK,hi]
    have:WideElems.rd (H:=Unit) Tryz.prog 3 (plainElem Tryz.prog 4) ⟨enI m[i].1,m[i].2,i⟩=some (.int .i64 m[i].1.1,.lit (.bool true)):=by
     unfold WideElems.rd;rw[F6,hb m[i] (Xw hi),plainElem_bool (show Tryz.prog.underlying 4=some .bool by kernel_rfl)];rfl
    rw[W7,hx,W7,Wv hi];simp[WideElems.rg,this]
  ·rw[Xe (by simp[bK];omega),Xe (by simp;omega)]
 refine⟨.map (((bK enI m).toArray.toList.map (WideElems.rg Tryz.prog 3 (plainElem Tryz.prog 4))).foldr DataW.insert []),⟨_,_,hm.1,⟨?_,⟨?_,?_,?_⟩,?_⟩,?_,rfl⟩,?_,?_⟩
 ·simp[bK];exact hl
 · intro x hx
   have h1:x.born∈(bK enI m).map (·.born):=WS.2 ⟨x,by simpa using hx,rfl⟩;rw[hborn] at h1;exact XB.1 h1
 · show ((bK enI m).map (·.born)).Nodup
   rw[hborn];exact List.nodup_range
 · show ((bK enI m).map (·.key)).Nodup
   rw[hkey];exact List.Pairwise.map _ (fun a b h e=>h (tW.inj a b e)) hm.2
 · intro x hx
   obtain⟨p,hp,_,h⟩:=hrd x (by simpa using hx);exact⟨_,h⟩
 ·simp[bK]
 · show (((bK enI m).map _).foldr DataW.insert []).length=_
   rw[(WideShapes.sorted_perm _).length_eq];simp[bK]
 · show ((((bK enI m).map _).foldr DataW.insert []).map fun p=>Go.intOf p.1).Perm _
   refine((WideShapes.sorted_perm _).map _).trans ?_;rw[hrg,XL];exact List.Perm.refl _
theorem Iy(n:Nat):AnyZI.SortsIn Tryz.prog Wg Fence.wide n:=
 ⟨fun blk off cap ss W hH hblk hsz=>callsIn_wide.2 (AnyM.slices_Sort_int Wj blk off cap ss W hH hblk hsz),
  fun p cap W=>callsIn_wide.2 (AnyM.slices_Sort_int_none Wj p cap W)⟩
theorem Mh(mb:Option Nat)(W:World):CA 64 [.map mb] W fun v w'=>v=.func (.func 117) #[] #[pT W.heap.size]∧w'=W.alloc (.cells #[.map mb] 126):=by
 have h:CallsIn Fence.wide 5 Tryz.prog 64 #[.map mb] W fun e w'=>e=.returned (.func (.func 117) #[] #[pT W.heap.size])∧w'=W.alloc (.cells #[.map mb] 126):=AnyZI.keys_in Wf Fence.wide 5 trivial rfl mb W;refine(callsIn_wide.1 h).mono ?_;rintro e w' ⟨rfl,rfl⟩;exact⟨_,rfl,rfl,rfl⟩
theorem GG(g:Nat)(m:List (I6×Value))(W:World)(hm:cY enI W.heap g m)(hb:∀ p∈m,p.2=.bool true)(hl:m.length≤100000) :
 Calls Tryz.prog 63 [.func (.func 117) #[] #[pT W.heap.size]].toArray (W.alloc (.cells #[.map (some g)] 126))
  (Ret fun v w'=>∃ o c,v=.slice o ((m.map (·.1.1)).mergeSort leI).length c∧Own i64 3 w'.heap o c ((m.map (·.1.1)).mergeSort leI)∧Fr W.heap.size o∧aA nob W w'):=by
 obtain⟨D0,hown,hsz,hpm⟩:=LP hm hb (by unfold maxLen;omega);have hbl:=hm.obj;have hseq:SeqGives Fence.wide 2 Tryz.prog 117 #[pT W.heap.size] encZ (fun ss=>ss.Perm (intKeys D0)) (Maps.size D0) (W.alloc (.cells #[.map (some g)] 126)):=
  AnyZI.keys_gives (ρ:=We) { Wf with } Fence.wide _ trivial rfl (by omega) W.heap.size g m.length D0 _ (by simp) (by simp) (by
   obtain⟨es,clock,hb,Ft,hs,hD⟩:=hown;exact⟨es,clock,(Below.heap_alloc _ _ g hbl).trans hb,Ft,hs,hD⟩)
 have cS:=AnyZI.sorted_in Wh Fence.wide 5 trivial trivial trivial trivial rfl (by omega) (Iy _) (enters_of Tryz.func116 (by kernel_rfl) rfl) 117 #[pT W.heap.size] trivial (enters_of Tryz.func117 (by kernel_rfl) rfl) _ _ (by rw[hsz];unfold maxLen;omega) (by rw[hsz];omega) _ hseq;change CallsIn _ _ Tryz.prog 63 _ _ _ at cS;refine(callsIn_wide.1 cS).mono ?_;rintro e w' ⟨v,ss,rfl,hS,⟨hlen,hrow⟩,hnil,hbw⟩;have hF:aA nob W w':=(aA.alloc nob W _).trans ⟨hbw.os,hbw.tape,hbw.output,hbw.size,fun k hk _=>hbw.block k hk⟩;have hss:ss.mergeSort (fun x y=>decide (x≤y))=(m.map (·.1.1)).mergeSort leI:=mergeSort_of_perm_i (hS.trans hpm);have hsl:ss.length=((m.map (·.1.1)).mergeSort leI).length:=by rw[←hss,List.length_mergeSort]
 rw[hss] at hrow;rcases hrow with⟨rfl,h0⟩|⟨gb,cap,cur,rfl,hbase,hgb,r1,r2,r3,r4⟩
 · have hz:(m.map (·.1.1)).mergeSort leI=[]:=WQ (by omega)
   rw[hz];exact⟨_,rfl,none,0,rfl,VR,VP,hF⟩
 · refine⟨_,rfl,some ⟨gb,0,none⟩,cap,by rw[←hsl],.inr ⟨gb,cur,rfl,hgb,by omega,r2,by omega,?_⟩,fun a ha=>?_,hF⟩
   ·rw[Nat.mul_one,hsl] at r4;exact r4
   · cases ha
     have:W.heap.size+1≤gb:=by simpa using hbase
     show W.heap.size≤gb;omega
end
section
open Go Go.RowKit Go.Maps
theorem rN{α:Type}[DecidableEq α](a:α)(v:Value):∀ l:List (α×Value),(cN l a v).map (·.1)=if a∈l.map (·.1) then l.map (·.1) else l.map (·.1)++[a]
|[]=>by simp[cN]
|p::r=>by
   unfold cN;by_cases hp:p.1=a
   ·rw[Wu hp];simp[hp]
   · rw[Wt hp]
     simp only[Xo,rN a v r];by_cases hm:a∈r.map (·.1)
     ·rw[Wu hm,Wu (XI _ hm)]
     ·rw[Wt hm,Wt (fun e=>by rcases W5.1 e with e|e;exact hp e.symm;exact hm e)];rfl
theorem gM{α:Type}[DecidableEq α]{a x:α}{v:Value}{l:List (α×Value)}:x∈(cN l a v).map (·.1)↔x=a∨x∈l.map (·.1):=by
 rw[rN]
 split
 · rename_i h
   exact⟨.inr,fun hx=>hx.elim (fun e=>e ▸ h) id⟩
 ·rw[WZ,WY];exact Or.comm
theorem Ci{α:Type}[DecidableEq α]{a:α}{v:Value}{l:List (α×Value)}:(cN l a v).length≤l.length+1:=by
 have h:=congrArg W6 (rN a v l);rw[WK] at h
 split at h<;>simp at h<;>omega
theorem rM{α:Type}[DecidableEq α]{a:α}{v:Value}:∀ {l:List (α×Value)},(∀ p∈l,p.2=v)→∀ p∈cN l a v,p.2=v
|[],_,p,hp=>by simp[cN] at hp;rw[hp]
|q::r,h,p,hp=>by
   unfold cN at hp
   split at hp
   · rcases W5.1 hp with rfl|hp
     ·rfl
     ·exact h p (XI _ hp)
   · rcases W5.1 hp with rfl|hp
     ·exact h _ (List.mem_cons_self ..)
     ·exact rM (fun x hx=>h x (XI _ hx)) p hp
def gY(ps:List (NdH×Nd)):List Int:=ps.flatMap fun p=>[p.2.ud,p.2.gd]
theorem G9(ps:List (NdH×Nd))(p:NdH×Nd):gY (ps++[p])=gY ps++[p.2.ud,p.2.gd]:=by simp[gY]
def mA(ps:List (NdH×Nd))(L:List Int):Prop:=L.Pairwise (· < ·)∧∀ z,z∈L↔z∈gY ps
theorem Oo{ps:List (NdH×Nd)}{m:List (I6×Value)}(hn:(m.map (·.1)).Nodup)(hm:∀ z,z∈m.map (·.1.1)↔z∈gY ps):mA ps ((m.map (·.1.1)).mergeSort leI):=by
 have tr:∀ a b c:Int,leI a b=true→leI b c=true→leI a c=true:=fun a b c h1 h2=>by simp only[leI,decide_eq_true_eq] at *;exact Int.le_trans h1 h2
 have to:∀ a b:Int,(leI a b || leI b a)=true:=fun a b=>by simp only[leI,X3,decide_eq_true_eq];exact Int.le_total a b
 have hnd:(m.map (·.1.1)).Nodup:=by
  have:m.map (·.1.1)=(m.map (·.1)).map (·.1):=by rw[XL];rfl
  rw[this];exact List.Pairwise.map _ (fun a b h e=>h (Subtype.ext e)) hn
 have hp:=List.mergeSort_perm (m.map (·.1.1)) leI;refine⟨?_,fun z=>(hp.mem_iff).trans (hm z)⟩;have h1:=List.pairwise_mergeSort tr to (m.map (·.1.1));have h2:((m.map (·.1.1)).mergeSort leI).Nodup:=hp.nodup_iff.2 hnd;exact(h1.and h2).imp (fun⟨a,b⟩=>by simp only[leI,decide_eq_true_eq] at a;omega)
theorem tkP{ps:List (NdH×Nd)}{i:Nat}{p:NdH×Nd}(h:ps[i]?=some p):ps.take (i+1)=ps.take i++[p]:=by
 have hi:=(Wy.1 h).1;rw[WV hi,(Wy.1 h).2]
theorem NJ{ps:List (NdH×Nd)}{i:Nat}{p:NdH×Nd}{m:List (I6×Value)}{v:Value}(hp:ps[i]?=some p)(hmem:∀ z,z∈m.map (·.1.1)↔z∈gY (ps.take i))(hu : -9223372036854775808≤p.2.ud∧p.2.ud≤9223372036854775807)(hg : -9223372036854775808≤p.2.gd∧p.2.gd≤9223372036854775807) :
 ∀ z,z∈(cN (cN m (⟨p.2.ud,hu⟩:I6) v) (⟨p.2.gd,hg⟩:I6) v).map (·.1.1)↔z∈gY (ps.take (i+1)):=by
 have e:∀ l:List (I6×Value),∀ z,z∈l.map (·.1.1)↔∃ a∈l.map (·.1),a.1=z:=fun l z=>by simp
 intro z;rw[tkP hp,G9,WZ,←hmem z,e,e];constructor
 · rintro⟨a,ha,rfl⟩
   rcases gM.1 ha with rfl|ha
   ·exact .inr (by simp)
   · rcases gM.1 ha with rfl|ha
     ·exact .inr (by simp)
     ·exact .inl ⟨a,ha,rfl⟩
 · rintro(⟨a,ha,rfl⟩|h)
   ·exact⟨a,gM.2 (.inr (gM.2 (.inr ha))),rfl⟩
   · simp only[W5,Xm,or_false] at h
     rcases h with rfl|rfl
     ·exact⟨⟨p.2.ud,hu⟩,gM.2 (.inr (gM.2 (.inl rfl))),rfl⟩
     ·exact⟨⟨p.2.gd,hg⟩,gM.2 (.inl rfl),rfl⟩
theorem On(lo:Option Addr)(lc:Nat)(ps:List (NdH×Nd))(W:World)(hv:VwM 10 aF W.heap lo lc ps)(hok:∀ p∈ps,okN p.2)(hl:ps.length≤1000) :
 CA 20 [.slice lo ps.length lc] W fun v w'=>∃ o c L,v=.slice o (W6 (α:=Int) L) c∧Own i64 3 w'.heap o c L∧Fr W.heap.size o∧mA ps L∧aA nob W w':=by
 refine cS 25 [(0,_)] Tryz.func20 ?_;refine Gz 7 ?_;refine To (enc:=enI) rfl ?_;intro w1 hm1 hs1 hf1;obtain⟨g,hg⟩:∃ g,g=W.heap.size:=⟨_,rfl⟩
 rw[←hg] at hm1 ⊢;refine Gz 12 ?_;refine SO (β:=Nat×List (I6×Value)) (fun⟨i,m⟩=>[(3,.map (some g)),(7,.slice lo ps.length lc),(8,iV ps.length),(9,iV i)]) (fun⟨i,m⟩ w=>i≤ps.length∧cY enI w.heap g m∧(∀ p∈m,p.2=.bool true)∧(∀ z,z∈m.map (·.1.1)↔z∈gY (ps.take i))∧m.length≤2*i∧aA nob W w) (fun⟨i,m⟩=>ps.length-i) ⟨0,[]⟩ ⟨rfl,rfl,rfl,rfl,trivial⟩ ⟨WG _,hm1,by simp,by simp[gY],WG _,hf1⟩ ?_;rintro⟨i,m⟩ w2 ⟨hi,hm2,hmv,hmem,hml,hF2⟩;refine fK 2 ?_ ?_<;>intro h10
 ·have hil:i<ps.length:=by omega
  obtain⟨p,hp⟩:∃ p,ps[i]?=some p:=⟨_,Wv hil⟩
  have hpo:=hok p (Wz hp);have hu:=hpo p.2.ud (by simp);have hgd:=hpo p.2.gd (by simp);have hv2:=hv.Ws hF2 (fun _ _=>id);refine Gz 6 ?_;refine Tj (β:=List (I6×Value)) (fun m2=>[(3,.map (some g)),(7,.slice lo ps.length lc),(8,iV ps.length),(9,iV i)]) (fun m2 w=>cY enI w.heap g m2∧(∀ p∈m2,p.2=.bool true)∧(∀ z,z∈m2.map (·.1.1)↔z∈gY (ps.take (i+1)))∧m2.length≤2*(i+1)∧aA nob W w) ?_ ?_
  ·refine Gz 3 ?_;refine cL (SL aS rfl rfl hv2.non (by omega)) ?_;refine cL (SX (cs:=aF p) bB rfl (fun j v hj=>hv2.rowZ i rfl hp j v hj)) ?_;refine SP fF rfl ?_;intro w3 hg3 hs3 hf3;obtain⟨q,hq⟩:∃ q,q=w2.heap.size:=⟨_,rfl⟩
   rw[←hq] at hg3 ⊢;have hm3:=hm2.Ws hf3 id;have hgl:=hm2.obj;refine SY (vs:=aF p) bB rfl rfl (aB p).2 hg3 rfl ?_;intro w4 hg4 hs4 hf4;have hm4:=hm3.Ws hf4 (fun e=>by have e:g=q:=e;omega);have hF4:aA nob W w4:=(hF2.trans hf3).Wo hf4 (fun k e=>.inr (by have e:k=q:=e;have:=hF2.size;omega));refine Gz 1 ?_;refine aW [(3,_),(5,_),(7,_),(8,_),(9,_),(10,_)] ?_;refine Gz 1 ?_;refine SZ 10 (fun H=>H[q]?=some (.cells (aF p).toArray 37 (0,0))) [8,9] [0,1,2,3,4,5,6,7,8,9] aL (by kernel_rfl) (hg4) ?_;refine Gz 3 ?_;refine xC rfl (SR aN rfl (fun H hH=>show bH H ((⟨q,0,none⟩:Addr).add 4)=some (iV p.2.ud) from aD hH rfl)) ?_;refine Gz 3 ?_;refine xC rfl (SR aN rfl (fun H hH=>show bH H ((⟨q,0,none⟩:Addr).add 5)=some (iV p.2.gd) from aD hH rfl)) ?_;refine SU rfl rfl (Th mpB tW (a:=(⟨p.2.ud,hu⟩:I6)) rfl rfl rfl hm4 ?_);intro w5 hm5 hs5 hf5;have hf5:=hf5.Wp;refine S5 (by exact hf5.obj hg4 (fun e=>by have e:q=g:=e;omega)) ?_;refine SU rfl rfl (Th mpB tW (a:=(⟨p.2.gd,hgd⟩:I6)) rfl rfl rfl hm5 ?_);intro w6 hm6 hs6 hf6;have hF6:aA nob W w6:=(hF4.Wo hf5 (fun k e=>.inr (by have e:k=g:=e;omega))).Wo hf6 (fun k e=>.inr (by have e:k=g:=e;omega));refine S5 (by exact hf6.obj (hf5.obj hg4 (fun e=>by have e:q=g:=e;omega)) (fun e=>by have e:q=g:=e;omega)) ?_;refine Gz 2 ?_;exact aC _ ⟨hm6,rM (rM hmv),NJ hp hmem hu hgd,by have:=Ci (a:=(⟨p.2.ud,hu⟩:I6)) (v:=.bool true) (l:=m);have:=Ci (a:=(⟨p.2.gd,hgd⟩:I6)) (v:=.bool true) (l:=cN m (⟨p.2.ud,hu⟩:I6) (.bool true));omega,hF6⟩
  rintro m2 w9 ⟨hm9,hmv9,hmem9,hml9,hF9⟩;refine Gz 4 ?_;exact aG ⟨i+1,m2⟩ ⟨by omega,hm9,hmv9,hmem9,hml9,hF9⟩ (by show ps.length-(i+1)<ps.length-i;omega)
 have hie:i=ps.length:=by omega
 subst hie;rw[Xg] at hmem;refine cA 12 R6 (Mh (some g) w2) ?_;rintro _ w7 ⟨rfl,rfl⟩;refine SJ R7 rfl (GG g m w2 hm2 hmv (by omega)) rfl ?_;rintro _ w8 ⟨o8,c8,rfl,ho8,hfr8,hf8⟩;refine Gz 2 ?_;refine aW [(2,_),(3,_),(7,_),(8,_),(9,_),(10,_)] ?_;refine Gz 3 ?_;exact⟨_,rfl,o8,c8,_,rfl,ho8,by rw[hg];exact hfr8.mono hF2.size,Oo hm2.2 hmem,hF2.trans hf8⟩
end
section
open Go Go.RowKit Go.Maps
theorem JM(x:Int):(i64 x).oneCell'=true:=rfl
theorem FL:∀ (ps:List (NdH×Nd)) (k:Nat) (p:NdH×Nd),ps[k]?=some p→(gY ps).getD (2*k) 0=p.2.ud∧(gY ps).getD (2*k+1) 0=p.2.gd
|[],k,p,h=>by simp at h
|q::r,0,p,h=>by simp at h;subst h;exact⟨rfl,rfl⟩
|q::r,k+1,p,h=>FL r k p (by simpa using h)
theorem wL:∀ (ps:List (NdH×Nd)),(gY ps).length=2*ps.length
|[]=>rfl
|q::r=>by have:=wL r;show (q.2.ud::q.2.gd::gY r).length=2*(r.length+1);simp only[WT];omega
theorem AK(a:Addr)(i j:Nat):(a.add i).add j=a.add (i+j):=Addr.add_add a i j
end
def dA(F:Nat→Int):List Value:=[iV (F 0),iV (F 1),iV (F 2),iV (F 3),iV (F 4),iV (F 5),iV (F 6),iV (F 7),iV (F 8),iV (F 9)]
theorem eU(F:Nat→Int):∀ v∈dA F,v.oneCell'=true:=by
 intro v hv;simp only[dA,W5,Xm,or_false] at hv;rcases hv with rfl|rfl|rfl|rfl|rfl|rfl|rfl|rfl|rfl|rfl<;>rfl
def iM(F:Nat→Int):List Int:=[64,F 2,F 3,F 4,F 5,F 6,F 0,1048576]
def Cg(F:Nat→Int):Prop:=64≤F 2∧F 2≤F 3∧F 3≤F 4∧F 4≤F 5∧F 5≤F 6∧F 6≤F 0∧F 0≤1048576
def lG(F:Nat→Int):Prop:=Cg F∧1≤F 1∧F 1≤1024∧1≤F 7∧F 7≤2048∧0≤F 8∧F 8≤1024∧0≤F 9∧F 9≤4294967295
instance (F:Nat→Int):Decidable (lG F):=by unfold lG Cg;infer_instance
theorem Cf{F:Nat→Int}:Cg F↔∀ i,i+1<8→(iM F).getD i 0≤(iM F).getD (i+1) 0:=by
 constructor
 · rintro⟨a,b,c,d,e,f,g⟩ i hi
   match i,hi with
  |0,_=>exact a
  |1,_=>exact b
  |2,_=>exact c
  |3,_=>exact d
  |4,_=>exact e
  |5,_=>exact f
  |6,_=>exact g
 · intro h
   exact⟨h 0 (by decide),h 1 (by decide),h 2 (by decide),h 3 (by decide),h 4 (by decide),h 5 (by decide),h 6 (by decide)⟩
def suL:List Fd:=[⟨0,0,4,0⟩,⟨0,2,4,0⟩,⟨0,3,4,0⟩,⟨0,4,4,0⟩,⟨0,5,4,0⟩,⟨0,6,4,0⟩,⟨0,9,4,0⟩,⟨0,1,2,0⟩,⟨0,7,2,0⟩,⟨0,8,2,0⟩]
def suM:By:=[76,77,76,65]
def zF:Nat→Int:=fun _=>0
def suQ(ys:By):Rd×(Nat→Int):=suL.foldl gF ((0,ys),zF)
def suH(F:Nat→Int):By:=suM++dG F suL
def suB(F:Nat→Int):By:=suH F++(le (fG (suH F):Nat) 4++W4 22 0)
def jC(F:Nat→Int):By×Int:=if lG F then (suB F,0) else ([],1)
def suF(im:By):Nat→Int:=(suQ ((im.take 64).drop 4)).2
def jJ(im:By):Prop:=64≤im.length∧lG (suF im)∧im.take 64=suB (suF im)∧suF im 0=im.length
instance (im:By):Decidable (jJ im):=by unfold jJ;infer_instance
def aO(im:By):(Nat→Int)×Int:=if jJ im then (suF im,0) else (zF,2)
theorem O0:∀ x∈suL,1≤x.b∧x.b≤4:=by decide
theorem NL:(suL.map (·.o)).Nodup:=by decide
theorem Lq:DT suL=34:=rfl
theorem uF(F:Nat→Int):(suH F).length=38:=by unfold suH;rw[Ww,kR];rfl
theorem nC(F:Nat→Int):(suB F).length=64:=by unfold suB;rw[Ww,Ww,uF,aY,Xl]
theorem Fw{ys:By}(h:34≤ys.length):(suQ ys).1.1=0∧ys=dG (suQ ys).2 suL++(suQ ys).1.2∧(suQ ys).1.2=ys.drop 34:=by
 obtain⟨_,_,i3,i4⟩:=Gh suL ((0,ys),zF) O0 NL;have h0:(suQ ys).1.1=0:=WH fun hc=>by
  have:=i4 rfl hc;rw[Lq] at this;have:ys.length<34:=this;omega
 have h3:ys=dG (suQ ys).2 suL++(suQ ys).1.2:=i3 h0;refine⟨h0,h3,?_⟩;have hl:(dG (suQ ys).2 suL).length=34:=by rw[kR];rfl
 have:=congrArg (List.drop 34) h3;rw[Xs hl] at this;exact this.symm
theorem B9{im:By}(h:64≤im.length):im.take 64=suB (suF im) ↔
 im.take 4=suM∧fG (im.take 38)=cC ((im.drop 38).take 4)∧(im.take 64).drop 42=W4 22 0:=by
 have hl:((im.take 64).drop 4).length=60:=by rw[WE,WB];omega
 obtain⟨h0,h1,h2⟩:=Fw (ys:=(im.take 64).drop 4) (by omega);have e4:im.take 64=im.take 4++(im.take 64).drop 4:=by
  have:=WX 4 (im.take 64);rw[XS] at this;exact this.symm
 have e38:im.take 38=im.take 4++dG (suF im) suL:=by
  have h3:=congrArg (List.take 34) h1;have hle:(dG (suQ ((im.take 64).drop 4)).2 suL).length=34:=by rw[kR];rfl
  rw[Xz hle] at h3;show _=_++dG (suQ ((im.take 64).drop 4)).2 suL;rw[←h3,YX,XS];have:=WX 4 (im.take 38);rw[XS] at this;exact this.symm
 have e26:(suQ ((im.take 64).drop 4)).1.2=(im.take 64).drop 38:=by rw[h2,XC]
 have eall:im.take 64=(im.take 4++dG (suF im) suL)++(im.take 64).drop 38:=by
  rw[←e38];have:=WX 38 (im.take 64);rw[XS] at this;exact this.symm
 have e42:(im.take 64).drop 38=(im.drop 38).take 4++(im.take 64).drop 42:=by
  have h3:=WX 4 ((im.take 64).drop 38);rw[XC,YX,XS] at h3;rw[YX];exact h3.symm
 have hr4:((im.drop 38).take 4).length=4:=by rw[WB,WE];omega
 constructor
 · intro he
   unfold suB suH at he;rw[eall] at he;have hi1:=YR he (by rw[Ww,Ww,WB];show min 4 _+_=4+_;omega);have hi2:=YR hi1.1 (by rw[WB];show min 4 _=4;omega);rw[e42] at hi1;have hi3:=YR hi1.2 (by rw[hr4,aY]);refine⟨hi2.1,?_,hi3.2⟩;rw[e38,hi2.1,hi3.1];have:=mZ 4 (fG (suH (suF im)):Nat) (Int.natCast_nonneg _) (by have:=pL (suH (suF im));show ((fG _:Nat):Int)<256 ^ 4;omega);show fG (suH (suF im))=_;have h5:((cC (le (fG (suH (suF im)):Nat) 4):Nat):Int)=((fG (suH (suF im)):Nat):Int):=this;show fG (suH (suF im))=cC (le (fG (suH (suF im)):Nat) 4);omega
 · rintro⟨a,b,c⟩
   unfold suB;rw[eall,e42,c];have e5:im.take 4++dG (suF im) suL=suH (suF im):=by rw[a];rfl
   rw[e5];congr 2;have h5:fG (suH (suF im))=cC ((im.drop 38).take 4):=by rw[←e5,←e38];exact b
   rw[h5];have:=Bj ((im.drop 38).take 4);rw[hr4] at this;exact this.symm
theorem DI{b:By}{n:Nat}(hl:b.length=n):b=W4 n 0↔∀ c∈b,c=0:=by
 rw[List.eq_replicate_iff];exact⟨fun h=>h.2,fun h=>⟨hl,h⟩⟩
abbrev Ent:=By×Int×Int
def EN:Ent:=([],0,0)
def xO(x:Ent):List Value:=[.string (bs x.1),iV x.2.1,iV x.2.2]
theorem jI:jY 3 xO:=fun x=>⟨rfl,by simp[xO,Value.oneCell']⟩
def jL(x:Ent)(last:By):Prop:=cZ x.1=0∧WU last x.1=true∧1≤x.2.1∧x.2.1≤3∧0≤x.2.2∧x.2.2≤4294967295
instance (x:Ent)(last:By):Decidable (jL x last):=by unfold jL;infer_instance
def mV(x:Ent):By:=(WP x.1.length::x.1)++(le x.2.1 1++le x.2.2 4)
def bZ(L:List Ent):By:=L.flatMap mV
def A9(s:Rd):Ent:=(gTx s,gV 1 (iP s),gV 4 (gS 1 (iP s)))
def yT(s:Rd):Rd:=gS 4 (gS 1 (iP s))
def cX:By→List Ent→Prop
|_,[]=>True
|last,x::r=>jL x last∧cX x.1 r
def wS(l:List Ent):By:=(l.getLast?.getD EN).1
def dtP:Nat→By→By→Option (List Ent)
|0,_,_=>none
|n+1,last,ys=>if ys=[] then some [] else if (yT (0,ys)).1=0∧jL (A9 (0,ys)) last then (dtP n (A9 (0,ys)).1 (yT (0,ys)).2).map (A9 (0,ys) :: ·) else none
def Kr(b:By):List Ent×Int:=match dtP (b.length+1) [] b with
|some L=>(L,0)
|none=>([],2)
def MA(x:Ent):Prop:=x.1.length≤255∧0≤x.2.1∧x.2.1<256∧0≤x.2.2∧x.2.2≤4294967295
theorem qA{x:Ent}{last:By}(h:jL x last):MA x:=⟨(jN h.1).1,by have:=h.2.2.1;omega,by have:=h.2.2.2.1;omega,h.2.2.2.2.1,h.2.2.2.2.2⟩
theorem Ox{t rest:By}(h:t.length≤255):gTx (0,(WP t.length::t)++rest)=t∧iP (0,(WP t.length::t)++rest)=(0,rest):=by
 have e0:cT 0 1=0:=by decide
 have l1:(0:Int)<((WP t.length::t)++rest).length:=by simp only[Ww,WT];omega
 have e1:dJ 0 ((WP t.length::t)++rest) 1=0:=by rw[fQ (by decide) (by omega)]
 obtain⟨c1,c2⟩:=dO e1;have eE:tE 0 ((WP t.length::t)++rest)=0:=by unfold tE;rw[e0,e1]
 have eR:tR 0 ((WP t.length::t)++rest)=t++rest:=by unfold tR;rw[e0,c2];rfl
 have eN:tN 0 ((WP t.length::t)++rest)=(t.length:Int):=by
  unfold tN;rw[e0,c1];show ((WP t.length).toNat+256*0:Nat)=(t.length:Int)
  rw[Xj];omega
 have e2:dJ 0 (t++rest) (t.length:Int)=0:=by rw[fQ (by omega) (by rw[Ww];omega)]
 obtain⟨c3,c4⟩:=dO e2;unfold gTx iP;show iC (tE 0 _) (tR 0 _) (tN 0 _)=t∧(dJ (tE 0 _) (tR 0 _) (tN 0 _),qZ (tE 0 _) (tR 0 _) (tN 0 _))=(0,rest)
 rw[eE,eR,eN,c3,e2,c4];exact⟨Xz rfl,by rw[Xd,Xs rfl]⟩
theorem JR{s:Rd}(h:s.1≠0):(iP s).1≠0:=by
 unfold iP;have h1:tE s.1 s.2≠0:=Gf (n:=1) h;show dJ _ _ _≠0;rw[sJ h1];exact h1
theorem Mt{s:Rd}(h:(iP s).1=0):s.1=0∧s.2=(WP (gTx s).length::gTx s)++(iP s).2∧(gTx s).length≤255:=by
 have h0:s.1=0:=WH fun hc=>JR hc h;obtain⟨E,ys⟩:=s;obtain rfl:E=0:=h0;have e0:cT 0 1=0:=by decide
 have hz:tE 0 ys=0:=WH fun hc=>by
  have:(iP (0,ys)).1=dJ (tE 0 ys) (tR 0 ys) (tN 0 ys):=rfl;rw[this,sJ hc] at h;exact hc h
 have hz1:dJ 0 ys 1=0:=by unfold tE at hz;rw[e0] at hz;exact hz
 obtain⟨_,_,hl⟩:=nR hz1;obtain⟨c1,c2⟩:=dO hz1;obtain⟨d,t,rfl⟩:∃ d t,ys=d::t:=by cases ys with|nil=>(simp at hl)|cons d t=>exact⟨d,t,rfl⟩
 have etR:tR 0 (d::t)=t:=by unfold tR;rw[e0,c2];rfl
 have etN:tN 0 (d::t)=(d.toNat:Int):=by unfold tN;rw[e0,c1];show ((d.toNat+256*0:Nat):Int)=_;omega
 have h2:dJ 0 t (d.toNat:Int)=0:=by
  have:(iP (0,d::t)).1=dJ (tE 0 (d::t)) (tR 0 (d::t)) (tN 0 (d::t)):=rfl;rw[this,hz,etR,etN] at h;exact h
 obtain⟨_,_,hl2⟩:=nR h2;obtain⟨c3,c4⟩:=dO h2;have eT:gTx (0,d::t)=t.take d.toNat:=by unfold gTx;rw[hz,etR,etN,c3];rfl
 have eS:iP (0,d::t)=(0,t.drop d.toNat):=by unfold iP;rw[hz,etR,etN,h2,c4];rfl
 have hd:=UInt8.toNat_lt d;have hlen:(t.take d.toNat).length=d.toNat:=by rw[WB];omega
 refine⟨rfl,?_,by rw[eT,hlen];omega⟩;rw[eT,eS,hlen];show d::t=(WP d.toNat::t.take d.toNat)++t.drop d.toNat;rw[UInt8.ofNat_toNat,Xq,WX]
theorem Ow{n:Nat}{x:Int}(h1:1≤n)(h4:n≤4)(h0:0≤x)(hx:x<256 ^ n)(rest:By):gV n (0,le x n++rest)=x∧gS n (0,le x n++rest)=(0,rest):=by
 have hl:(le x n).length=n:=aY _ _;obtain⟨a,b⟩:=mS (n:=(n:Int)) (s:=(0,le x n++rest)) (by omega) (by omega) rfl (by show (n:Int)≤(le x n++rest).length;rw[Ww,hl];omega);rw[a,b];show ((cC ((le x n++rest).take (n:Int).toNat):Nat):Int)=x∧(0,(le x n++rest).drop (n:Int).toNat)=(0,rest)
 rw[show ((n:Int).toNat)=n by omega,Xz hl,Xs hl];exact⟨mZ n x h0 hx,rfl⟩
theorem Ng{n:Nat}{s:Rd}(h1:1≤n)(h4:n≤4)(h:(gS n s).1=0):s.1=0∧s.2=le (gV n s) n++(gS n s).2:=by
 have h0:s.1=0:=WH fun hc=>Gf hc h;have hl:(n:Int)≤s.2.length:=WH fun hc=>Ge (by omega) (by omega) h0 (by omega) h;obtain⟨a,b⟩:=mS (n:=(n:Int)) (s:=s) (by omega) (by omega) h0 hl;rw[a,b];refine⟨h0,?_⟩;show s.2=le ((cC (s.2.take (n:Int).toNat):Nat):Int) n++s.2.drop (n:Int).toNat;rw[show ((n:Int).toNat)=n by omega,F3 (by omega),WX]
theorem IT{x:Ent}(h:MA x)(rest:By):A9 (0,mV x++rest)=x∧yT (0,mV x++rest)=(0,rest):=by
 obtain⟨h1,h2,h3,h4,h5⟩:=h;obtain⟨a,b⟩:=Ox (t:=x.1) (rest:=le x.2.1 1++(le x.2.2 4++rest)) h1;obtain⟨c,d⟩:=Ow (n:=1) (x:=x.2.1) (by decide) (by decide) h2 (by show x.2.1<256;exact h3) (le x.2.2 4++rest);obtain⟨e,f⟩:=Ow (n:=4) (x:=x.2.2) (by decide) (by decide) h4 (by show x.2.2<256 ^ 4;omega) rest;have he:mV x++rest=(WP x.1.length::x.1)++(le x.2.1 1++(le x.2.2 4++rest)):=by unfold mV;simp only[WL]
 rw[he];unfold A9 yT;rw[a,b];have d':gS 1 (0,le x.2.1 1++(le x.2.2 4++rest))=(0,le x.2.2 4++rest):=d;have c':gV 1 (0,le x.2.1 1++(le x.2.2 4++rest))=x.2.1:=c;rw[c',d'];have e':gV 4 (0,le x.2.2 4++rest)=x.2.2:=e;have f':gS 4 (0,le x.2.2 4++rest)=(0,rest):=f;rw[e',f'];exact⟨rfl,rfl⟩
theorem FC{s:Rd}(h:(yT s).1=0):s.1=0∧s.2=mV (A9 s)++(yT s).2∧(A9 s).1.length≤255:=by
 obtain⟨a1,a2⟩:=Ng (n:=4) (by decide) (by decide) h;obtain⟨b1,b2⟩:=Ng (n:=1) (by decide) (by decide) a1;obtain⟨c1,c2,c3⟩:=Mt b1;refine⟨c1,?_,c3⟩;unfold mV;rw[c2];show _=((WP (gTx s).length::gTx s)++(le (gV 1 (iP s)) 1++le (gV 4 (gS 1 (iP s))) 4))++(gS 4 (gS 1 (iP s))).2;rw[WL,WL];congr 1;have b2':(iP s).2=le (gV 1 (iP s)) 1++(gS 1 (iP s)).2:=b2;have a2':(gS 1 (iP s)).2=le (gV 4 (gS 1 (iP s))) 4++(gS 4 (gS 1 (iP s))).2:=a2;rw[←a2',←b2']
theorem qU(x:Ent):(mV x).length=x.1.length+6:=by unfold mV;simp[aY]
theorem IS{ys:By}(h:(yT (0,ys)).1=0):(yT (0,ys)).2.length+6≤ys.length:=by
 have h2:=(FC h).2.1;have:=congrArg W6 h2;rw[Ww,qU] at this;have e:((0,ys):Rd).2=ys:=rfl;rw[e] at this;omega
theorem Gs:∀ (n:Nat) (last ys:By) (L:List Ent),ys.length<n→(dtP n last ys=some L↔cX last L∧ys=bZ L)
|0,_,_,_,h=>by omega
|n+1,last,ys,L,h=>by
   unfold dtP;by_cases h0:ys=[]
   · rw[Wu h0]
     subst h0;constructor
     ·intro h;cases h;exact⟨trivial,rfl⟩
     · rintro⟨h1,h2⟩
       cases L with
      |nil=>rfl
      |cons x r=>have:=congrArg W6 h2;simp[bZ,qU] at this;omega
   · rw[Wt h0]
     by_cases hg:(yT (0,ys)).1=0∧jL (A9 (0,ys)) last
     · rw[Wu hg]
       obtain⟨hg1,hg2⟩:=hg;have hc:=(FC hg1).2.1;have e:((0,ys):Rd).2=ys:=rfl;rw[e] at hc;have hl:=IS hg1;have ih:=fun L=>Gs n (A9 (0,ys)).1 (yT (0,ys)).2 L (by omega);constructor
       · intro h
         obtain⟨R,hR,rfl⟩:=WR.1 h;obtain⟨i1,i2⟩:=(ih R).1 hR;refine⟨⟨hg2,i1⟩,?_⟩;show ys=mV _++bZ R;rw[←i2];exact hc
       · rintro⟨h1,h2⟩
         cases L with
        |nil=>exact absurd h2 h0
        |cons x r=>
           obtain⟨a,b⟩:=IT (qA h1.1) (bZ r);have h2':ys=mV x++bZ r:=h2;rw[←h2'] at a b;rw[a,b];have:=(ih r).2 (by rw[a,b];exact⟨h1.2,rfl⟩);rw[a,b] at this;rw[this];rfl
     · rw[Wt hg]
       constructor
       ·intro h;cases h
       · rintro⟨h1,h2⟩
         cases L with
        |nil=>exact absurd h2 h0
        |cons x r=>
           obtain⟨a,b⟩:=IT (qA h1.1) (bZ r);have h2':ys=mV x++bZ r:=h2;rw[←h2'] at a b;exact absurd ⟨by rw[b],by rw[a];exact h1.1⟩ hg
theorem Kq{b:By}{L:List Ent}(h1:cX [] L)(h2:b=bZ L):Kr b=(L,0):=by
 unfold Kr;rw[(Gs (b.length+1) [] b L (by omega)).2 ⟨h1,h2⟩]
theorem tL{x:Ent}:∀ {l:List Ent} {last:By},cX last (l++[x])↔cX last l∧jL x (if l=[] then last else wS l)
|[],last=>by simp[cX]
|y::r,last=>by
   rw[Xq];show jL y last∧cX y.1 (r++[x])↔(jL y last∧cX y.1 r)∧_;rw[tL];have hne:¬ (y::r=[]):=by simp
   rw[Wt hne];have e:wS (y::r)=if r=[] then y.1 else wS r:=by
    unfold wS;cases r with
   |nil=>rfl
   |cons z r=>rw[Wt (by simp),List.getLast?_cons_cons]
   rw[e,and_assoc]
theorem Ew(l:List Ent)(x:Ent):wS (l++[x])=x.1:=by unfold wS;simp
theorem EL(l:List Ent)(x:Ent):bZ (l++[x])=bZ l++mV x:=by unfold bZ;simp
structure Rec where
 ref:Int
 ino:(Nat→Int)×By
 list:List Ent
 xs:List Xa
def Eb:Rec:=⟨0,(zF,[]),[],[]⟩
abbrev MSt:=List (Rec×Int)×Nat
def A3(im:By)(F:Nat→Int)(n:Int):List Xa×Int:=if 0<n then D4 im (F 6) (F 0) (n-1) else ([],0)
def K1(F:Nat→Int)(ids:List Int)(R:((Nat→Int)×By)×Int×Int)(kind:Int):Prop:=
 R.2.2≠0∨R.1.1 0≠kind∨(ids.length:Int)≤R.1.1 2∨(ids.length:Int)≤R.1.1 3∨F 8<R.1.1 8
instance (F:Nat→Int)(ids:List Int)(R:((Nat→Int)×By)×Int×Int)(kind:Int):Decidable (K1 F ids R kind):=by unfold K1;infer_instance
def HS(im:By)(F:Nat→Int)(G:Nat→Int):Prop:=128≤G 7∧((vE im (G 6) (G 7) (F 2)).2≠0∨G 6<64)
instance (im:By)(F:Nat→Int)(G:Nat→Int):Decidable (HS im F G):=by unfold HS;infer_instance
def Jr(im:By)(F:Nat→Int)(G:Nat→Int):List Ent×Int:=if (aI im (F 3) (F 4) (G 6) (G 7)).2.2≠0 then ([],2) else Kr (aI im (F 3) (F 4) (G 6) (G 7)).1
def Ea(im:By)(F:Nat→Int)(ids:List Int)(ref kind:Int):Option Rec:=
 if K1 F ids (lX im (F 2) (F 3) ref) kind then none
 else if (A3 im F ((lX im (F 2) (F 3) ref).1.1 5)).2≠0 then none
 else if kind=2 then (if HS im F (lX im (F 2) (F 3) ref).1.1 then none else some ⟨ref,(lX im (F 2) (F 3) ref).1,[],(A3 im F ((lX im (F 2) (F 3) ref).1.1 5)).1⟩)
 else if kind=1 then (if (Jr im F (lX im (F 2) (F 3) ref).1.1).2≠0 then none else some ⟨ref,(lX im (F 2) (F 3) ref).1,(Jr im F (lX im (F 2) (F 3) ref).1.1).1,(A3 im F ((lX im (F 2) (F 3) ref).1.1 5)).1⟩)
 else some ⟨ref,(lX im (F 2) (F 3) ref).1,[],(A3 im F ((lX im (F 2) (F 3) ref).1.1 5)).1⟩
def xA(l:List (Rec×Int))(ref:Int):Option Nat:=l.findIdx? (fun r=>decide (r.1.ref=ref))
def tM(l:List (Rec×Int))(i:Nat):List (Rec×Int):=l.set i ((l.getD i (Eb,0)).1,(l.getD i (Eb,0)).2+1)
def goL(f:Int→Int→MSt→Option MSt):List Ent→MSt→Option MSt
|[],s=>some s
|y::r,s=>match f y.2.2 y.2.1 s with
  |none=>none
  |some s'=>goL f r s'
def goM(im:By)(F:Nat→Int)(ids:List Int):Nat→Int→Int→MSt→Option MSt
|0,_,_,_=>none
|n+1,ref,kind,s=>
   if 1024<s.2+1 then none else
   match xA s.1 ref with
  |some i=>if kind≠1∧(s.1.getD i (Eb,0)).1.ino.1 0=kind then some (tM s.1 i,s.2+1) else none
  |none=>match Ea im F ids ref kind with
    |none=>none
    |some x=>goL (goM im F ids n) x.list (s.1++[(x,1)],s.2+1)
structure Img where
 im:By
 F:Nat→Int
 places:List Int
 ids:List Int
 recs:List (Rec×Int)
def IL(l:List Int):Prop:=∀ i,i+1<l.length→l.getD i 0<l.getD (i+1) 0
instance (l:List Int):Decidable (IL l):=decidable_of_iff ((Xr (l.length-1)).all (fun i=>decide (l.getD i 0<l.getD (i+1) 0))=true) (by
 rw[Yy];exact⟨fun h i hi=>of_decide_eq_true (h i (by rw[XB];omega)),fun h i hi=>WA (h i (by rw[XB] at hi;omega))⟩)
def mnt(im:By):Option Img:=
 if (aO im).2≠0 then none
 else if (tnS im ((aO im).1 4) ((aO im).1 5) ((aO im).1 8) 4).2≠0 then none
 else if (tnS im ((aO im).1 5) ((aO im).1 6) ((aO im).1 7) 2).2≠0 then none
 else if ¬ IL (tnS im ((aO im).1 5) ((aO im).1 6) ((aO im).1 7) 2).1 then none
 else match goM im (aO im).1 (tnS im ((aO im).1 5) ((aO im).1 6) ((aO im).1 7) 2).1 17 ((aO im).1 9) 1 ([],0) with
 |none=>none
 |some s=>if (s.1.length:Int)≠(aO im).1 1∨¬ (∀ r∈s.1,r.2=r.1.ino.1 4) then none
    else some ⟨im,(aO im).1,(tnS im ((aO im).1 4) ((aO im).1 5) ((aO im).1 8) 4).1,(tnS im ((aO im).1 5) ((aO im).1 6) ((aO im).1 7) 2).1,s.1⟩
def knM(g:Img)(ref:Int):Option Rec:=(xA g.recs ref).map fun i=>(g.recs.getD i (Eb,0)).1
def GP(g:Img)(x:Rec)(off n:Int):By×Int:=
 if (kE g.im (x.ino.1 6) (x.ino.1 7) off n).2≠0 then ([],35)
 else if ((kE g.im (x.ino.1 6) (x.ino.1 7) off n).1.length:Int)=n then ((kE g.im (x.ino.1 6) (x.ino.1 7) off n).1,0)
 else if (An g.im g.places (x.ino.1 8) (x.ino.1 9+(if off-x.ino.1 7/128*128<0 then 0 else off-x.ino.1 7/128*128)) (n-(kE g.im (x.ino.1 6) (x.ino.1 7) off n).1.length)).2≠0 then ([],35)
 else ((kE g.im (x.ino.1 6) (x.ino.1 7) off n).1++(An g.im g.places (x.ino.1 8) (x.ino.1 9+(if off-x.ino.1 7/128*128<0 then 0 else off-x.ino.1 7/128*128)) (n-(kE g.im (x.ino.1 6) (x.ino.1 7) off n).1.length)).1,0)
def LG(g:Img)(ref off n:Int):By×Int:=match knM g ref with
|none=>([],1)
|some x=>if x.ino.1 0=1 then ([],25) else if x.ino.1 0=3∨off<0∨n<0 then ([],1) else if x.ino.1 7≤off then ([],0)
   else GP g x off (if x.ino.1 7-off<n then x.ino.1 7-off else n)
theorem Cb(F:Nat→Int){o:Nat}(h:o<10):(dA F)[o]?=some (iV (F o)):=by
 match o,h with
|0,_|1,_|2,_|3,_|4,_|5,_|6,_|7,_|8,_|9,_=>rfl
theorem Ca(F:Nat→Int){o:Nat}(h:o<10)(z:Int):(dA F).set o (iV z)=dA (upd F o z):=by
 match o,h with
|0,_|1,_|2,_|3,_|4,_|5,_|6,_|7,_|8,_|9,_=>simp[dA,upd]
def fdZ:Fd:=⟨0,0,0,0⟩
theorem Ce{j:Nat}(h:j<10):(suL.getD j fdZ).o<10:=by
 match j,h with
|0,_|1,_|2,_|3,_|4,_|5,_|6,_|7,_|8,_|9,_=>decide
def suE(F:Nat→Int)(j:Nat):By:=suM++dG F (suL.take j)
theorem Ir(F:Nat→Int){j:Nat}(h:j<10):suE F (j+1)=suE F j++le (F (suL.getD j fdZ).o) (suL.getD j fdZ).b.toNat:=by
 have hl:j<suL.length:=h;unfold suE dG;rw[WV hl,Yg,WL];congr 2;simp[WI,hl]
theorem Lu(F:Nat→Int)(j:Nat):(suE F j).length≤38:=by
 unfold suE;rw[Ww,kR];by_cases h:j<10
 · match j,h with
  |0,_|1,_|2,_|3,_|4,_|5,_|6,_|7,_|8,_|9,_=>decide
 ·rw[WJ (show suL.length≤j from by show 10≤j;omega)];decide
theorem L3{F:Nat→Int}(h:lG F){j:Nat}(hj:j<10):¬ gD (F (suL.getD j fdZ).o) (suL.getD j fdZ).b:=by
 obtain⟨⟨a1,a2,a3,a4,a5,a6,a7⟩,b1,b2,b3,b4,b5,b6,b7,b8⟩:=h;have wide:∀ z:Int,0≤z→z≤4294967295→¬ gD z 4:=fun z h0 h1=>eD (m:=4294967295) (by decide) (by decide) h0 h1 (by decide);have narrow:∀ z:Int,0≤z→z≤65535→¬ gD z 2:=fun z h0 h1=>eD (m:=65535) (by decide) (by decide) h0 h1 (by decide)
 match j,hj with
|0,_=>exact wide (F 0) (by omega) (by omega)
|1,_=>exact wide (F 2) (by omega) (by omega)
|2,_=>exact wide (F 3) (by omega) (by omega)
|3,_=>exact wide (F 4) (by omega) (by omega)
|4,_=>exact wide (F 5) (by omega) (by omega)
|5,_=>exact wide (F 6) (by omega) (by omega)
|6,_=>exact wide (F 9) (by omega) (by omega)
|7,_=>exact narrow (F 1) (by omega) (by omega)
|8,_=>exact narrow (F 7) (by omega) (by omega)
|9,_=>exact narrow (F 8) (by omega) (by omega)
def suX(F:Nat→Int)(n:Nat):By:=suH F++(le (fG (suH F):Nat) 4++W4 n 0)
theorem uE(F:Nat→Int)(n:Nat):(suX F n).length=42+n:=by unfold suX;rw[Ww,Ww,uF,aY,Xl];omega
section
variable {P:Program}{N:Nt}{l:SF}{ty:TypeId}{pos:String}{aft:Array Edge}{CH:Array Obj→Prop}{x:Operand}{t t2 e:TypeId}{g:Option (Nat×Bool)}{dd:Option Nat}{n size bytes:Nat}
theorem U1{parts:List (Nat×Operand)}{vs:List (Nat×Value)}{zc cs:Array Value}(hu:P.underlying t=some (.array n e))(ht:aZ P t2 e size bytes)(hz:(P.info? t).map (fun i=>i.zero.map (·.cells))=some (some zc))
 (hx:evPs l parts=some vs)(hf:Instr.fill (fun i=>some (i*size,size)) zc vs=some cs):Cm P N CH l ⟨dd,.build t parts.toArray,ty,pos,aft,g⟩ (.agg cs):=fun a w ha _=>by
 obtain⟨i,hi,h1⟩:=WR.1 hz;obtain⟨z,hz',rfl⟩:=WR.1 h1;have hv:=ha.evPs hx;simp only[execOp,Instr.build,Sem.run_bind,zeroValue,typeInfo,run_program,Result.andThen_ok,hi,hz',run_underlying hu,Sem.run_pure,ht.size,List.map_toArray,hv];rw[hf];simp
theorem UD{ad:Addr}(hu:P.underlying t=some (.array n e))(ht:aZ P t2 e size bytes)(hx:evL l x=some (.pointer (some ad))):Cm P N CH l ⟨dd,.slice t x none none none,ty,pos,aft,g⟩ (.slice (some ad) n n):=fun a w ha _=>by
 simp only[execOp,ha.ev hx,Instr.sliceAt,Sem.run_bind,run_underlying hu,Result.andThen_ok,Instr.sureAddr,Instr.sliceBounds,Sem.run_pure,ht.size];by_cases h:n=0
 ·simp[h]
 ·simp[h,Addr.add]
end
theorem Ip(x:Int)(W:World):CA 173 [iV x] W fun v w'=>v=.bool false∧w'=W:=by
 refine cS 6 [(0,_)] Tryz.func173 ?_;refine Gz 9 ?_;refine cL (Ur (T6 rfl rfl) (fun h=>h rfl)) ?_;refine Gz 5 ?_;exact⟨_,rfl,rfl,rfl⟩
theorem zN(x y:Int)(W:World):CA 122 [iV x,iV y] W fun v w'=>v=.bool (decide (x<y))∧w'=W:=by
 refine cS 17 [(0,_),(1,_)] Tryz.func122 ?_;refine cA 8 PT (Ip x W) ?_;rintro _ w1 ⟨rfl,hw1⟩;subst w1;refine Gz 8 ?_;refine cW (TI rfl rfl) ?_;refine Gz 6 ?_;exact⟨_,rfl,rfl,rfl⟩
def upI(l:List Int):Prop:=∀ i,i+1<l.length→l.getD i 0≤l.getD (i+1) 0
instance (l:List Int):Decidable (upI l):=decidable_of_iff ((Xr (l.length-1)).all (fun i=>decide (l.getD i 0≤l.getD (i+1) 0))=true) (by
 rw[Yy];exact⟨fun h i hi=>of_decide_eq_true (h i (by rw[XB];omega)),fun h i hi=>WA (h i (by rw[XB] at hi;omega))⟩)
theorem Cd(lo:Option Addr)(lc:Nat)(l:List Int)(W:World)(hv:Vw i64 W.heap lo lc l) :
 CA 100 [.slice lo l.length lc] W fun v w'=>v=.bool (decide (upI l))∧aA nob W w':=by
 have h63:=hv.Wq;refine cS 21 [(0,_)] Tryz.func100 ?_;refine Gz 15 ?_;refine SO (β:=Int) (fun z=>[(0,.slice lo l.length lc),(3,iV z)]) (fun z w=>-1≤z∧z<l.length∧(∀ j:Nat,z≤j→j+1<l.length→l.getD j 0≤l.getD (j+1) 0)∧aA nob W w) (fun z=>z.toNat) ((l.length:Int)-1) ⟨rfl,rfl,trivial⟩ ⟨by omega,by omega,fun j h1 h2=>by omega,VK _ _⟩ ?_;rintro z w ⟨hz1,hz2,hall,hF⟩;refine fK 4 ?_ ?_<;>intro h8
 ·refine Gz 8 ?_;refine SZ 9 (fun H=>Vw i64 H lo lc l) [9] [0,1,2,3,4,5,6,7,8,9] aL (by kernel_rfl) (hv.Wr hF) ?_;refine Gz 2 ?_;refine xC rfl (SI cI rfl rfl hv.non (by omega)) ?_;refine xC rfl (SR aN rfl (fun H hH=>hH.gz 0 z.toNat (by omega) (by omega))) ?_;refine Gz 3 ?_;refine xC rfl (SI cI rfl rfl hv.non (by omega)) ?_;refine xC rfl (SR aN rfl (fun H hH=>hH.gz 0 (z-1).toNat (by omega) (by omega))) ?_;refine SU rfl rfl (SJ Nw rfl (zN (l.getD z.toNat 0) (l.getD (z-1).toNat 0) _) rfl ?_);rintro _ w1 ⟨rfl,rfl⟩;refine Ts rfl ?_;by_cases h20:l.getD z.toNat 0<l.getD (z-1).toNat 0
  ·rw[WA h20];refine Gz 15 ?_;exact⟨_,rfl,by rw[Wx (fun h=>by have:=h (z-1).toNat (by omega);rw[show (z-1).toNat+1=z.toNat by omega] at this;omega)],hF.draws 1⟩
  rw[Wx h20];refine Gz 11 ?_;refine aG (z-1) ⟨by omega,by omega,fun j h1 h2=>?_,hF.draws 1⟩ (by show (z-1).toNat<z.toNat;omega);by_cases e:(j:Int)=z-1
  · have e1:(z-1).toNat=j:=by omega
    have e2:z.toNat=j+1:=by omega
    rw[e1,e2] at h20;omega
  ·exact hall j (by omega) h2
 refine Gz 15 ?_;exact⟨_,rfl,by rw[WA (show upI l from fun i hi=>hall i (by omega) hi)],hF⟩
section
variable {R:UInt8→Prop}[DecidablePred R]
theorem DU(f:FuncId)(hf:fnB Tryz.prog f=true)(lo:Option Addr)(lc:Nat)(b:By)(W:World)(hv:Vw b8 W.heap lo lc b)
 (hc:∀ w c,Calls Tryz.prog f [b8 c].toArray w (Ret fun v w'=>v=.bool (decide (R c))∧w'=w)) :
 CA 102 [.slice lo b.length lc,.func (.func f) #[] #[]] W fun v w'=>∃ z:Int,v=iV z∧(0≤z↔∃ c∈b,R c)∧w'=W:=by
 have h63:=hv.Wq;refine cS 19 [(0,_),(1,_)] Tryz.func102 ?_;refine Gz 14 ?_;refine SO (β:=Nat) (fun i=>[(0,.slice lo b.length lc),(1,.func (.func f) #[] #[]),(7,iV b.length),(8,iV i)]) (fun i w=>i≤b.length∧(∀ j,j<i→¬ R (b.getD j 0))∧w=W) (fun i=>b.length-i) 0 ⟨rfl,rfl,rfl,rfl,trivial⟩ ⟨WG _,fun j hj=>by omega,rfl⟩ ?_;rintro i w ⟨hi,hno,hw⟩;subst w;refine fK 2 ?_ ?_<;>intro h9
 ·have hil:i<b.length:=by omega
  refine Gz 19 ?_;refine cL (SI aT rfl rfl hv.non (by omega)) ?_;refine cL (SM yS rfl (hv.gz 0 i rfl hil)) ?_;refine TU hf rfl rfl (hc W (b.getD i 0)) rfl ?_;rintro _ w1 ⟨rfl,hw1⟩;subst w1;by_cases h16:R (b.getD i 0)
  ·rw[WA h16];refine Gz 16 ?_;exact⟨_,rfl,i,rfl,⟨fun _=>⟨_,(by rw[WI,Wv hil];exact Xw hil),h16⟩,fun _=>by omega⟩,rfl⟩
  rw[Wx h16];refine Gz 10 ?_;refine aG (i+1) ⟨by omega,fun j hj=>?_,rfl⟩ (by show b.length-(i+1)<b.length-i;omega);by_cases e:j=i
  ·subst e;exact h16
  ·exact hno j (by omega)
 have hie:i=b.length:=by omega
 refine Gz 16 ?_;exact⟨_,rfl,-1,rfl,⟨fun h=>by omega,fun⟨c,hc1,hc2⟩=>by obtain⟨j,hj,rfl⟩:=Xn hc1;exact absurd hc2 (by have:=hno j (by omega);rwa[WI,Wv hj] at this)⟩,rfl⟩
theorem yQ(f:FuncId)(hf:fnB Tryz.prog f=true)(lo:Option Addr)(lc:Nat)(b:By)(W:World)(hv:Vw b8 W.heap lo lc b)
 (hc:∀ w c,Calls Tryz.prog f [b8 c].toArray w (Ret fun v w'=>v=.bool (decide (R c))∧w'=w)) :
 CA 50 [.slice lo b.length lc,.func (.func f) #[] #[]] W fun v w'=>v=.bool (decide (∃ c∈b,R c))∧w'=W:=by
 refine cS 9 [(0,_),(1,_)] Tryz.func50 ?_;refine cA 9 Qr (DU f hf lo lc b W hv hc) ?_;rintro _ w1 ⟨z,rfl,hz,hw1⟩;subst w1;refine cL (T5 rfl rfl) ?_;refine Gz 5 ?_;exact⟨_,rfl,congrArg _ (decide_eq_decide.2 hz),rfl⟩
end
theorem DQ(W:World)(c:UInt8):CA 51 [b8 c] W fun v w'=>v=.bool (decide (c≠0))∧w'=W:=by
 refine cS 5 [(0,_)] Tryz.func51 ?_;refine Gz 8 ?_;refine cL (T6 rfl rfl) ?_;refine Gz 5 ?_;refine⟨_,rfl,congrArg Value.bool (decide_eq_decide.2 (not_congr ⟨fun h=>?_,fun h=>by rw[h];rfl⟩)),rfl⟩;have h:((c.toNat:Nat):Int)=0:=h;exact XV.1 (by show c.toNat=0;omega)
def oG(E:Int)(ys:By):Int:=if E≠0 then 0 else ys.length
theorem zL{D:Nat→Prop}(p:Nat)(E:Int)(ys:By)(W:World)(hP:RdL D W.heap p E ys) :
 CA 46 [pT p] W fun v w'=>v=iV (oG E ys)∧w'=W:=by
 obtain⟨ao,c,hobj,hv,hap⟩:=hP;refine cS 14 [(0,_)] Tryz.func46 ?_;refine fK 13 ?_ ?_<;>intro h8
 ·refine Gz 11 ?_;exact⟨_,rfl,by unfold oG;rw[Wu h8],rfl⟩
 refine Gz 17 ?_;exact⟨_,rfl,by unfold oG;rw[Wt h8],rfl⟩
theorem Io{D:Nat→Prop}(p:Nat)(E:Int)(ys:By)(W:World)(hP:RdL D W.heap p E ys) :
 CA 47 [pT p] W fun v w'=>v=iV E∧w'=W:=by
 obtain⟨ao,c,hobj,hv,hap⟩:=hP;refine cS 7 [(0,_)] Tryz.func47 ?_;refine Gz 16 ?_;exact⟨_,rfl,rfl,rfl⟩
theorem jO(x a b:Int)(W:World):CA 101 [iV x,iV a,iV b] W fun v w'=>v=.bool (decide (a≤x∧x≤b))∧w'=W:=by
 refine cS 15 [(0,_),(1,_),(2,_)] Tryz.func101 ?_;refine fK 9 ?_ ?_<;>intro h9
 ·refine fW 3 ?_ ?_<;>intro h13
  ·refine Gz 6 ?_;exact⟨_,rfl,by rw[WA ⟨h9,h13⟩],rfl⟩
  refine Gz 6 ?_;exact⟨_,rfl,by rw[Wx (fun h:a≤x∧x≤b=>by omega)],rfl⟩
 refine Gz 10 ?_;exact⟨_,rfl,by rw[Wx (fun h:a≤x∧x≤b=>by omega)],rfl⟩
theorem Lp(F:Nat→Int)(W:World):CA 99 [.agg (dA F).toArray] W fun v w'=>v=.agg ((iM F).map i64).toArray∧aA nob W w':=by
 refine cS 16 [(0,_)] Tryz.func99 ?_;refine Gz 2 ?_;refine Td rfl rfl ?_;intro w1 hg1 hs1 hf1;have hg1:w1.heap[W.heap.size]?=some (.cells (dA F).toArray 44 (0,0)):=hg1;obtain⟨g,eg⟩:∃ g,g=W.heap.size:=⟨_,rfl⟩
 rw[←eg] at hg1 ⊢;refine SP H0 rfl ?_;intro w2 hg2a hs2 hf2;have hg2:=hf2.obj hg1 id;obtain⟨r,er⟩:∃ r,r=w1.heap.size:=⟨_,rfl⟩
 rw[←er] at hg2a ⊢;refine Gz 16 ?_;refine cL (U1 (n:=8) (cs:=((iM F).map i64).toArray) (by kernel_rfl) cI H0 rfl (by kernel_rfl)) ?_;refine sA rfl EW (by intro v hv;obtain⟨z,_,rfl⟩:=WS.1 hv;rfl) hg2a ?_;intro w3 hg3 hs3 hf3;refine Gz 3 ?_;refine Ud (cs:=(iM F).map i64) rfl EW rfl (fun j v hj=>aD hg3 hj) ?_;exact⟨_,rfl,rfl,(hf1.trans hf2).tw hf3⟩
theorem Cc(F:Nat→Int)(W:World):CA 49 [.agg (dA F).toArray] W fun v w'=>v=.bool (decide (lG F))∧aA nob W w':=by
 refine cS 28 [(0,_)] Tryz.func49 ?_;refine Gz 2 ?_;refine Td rfl rfl ?_;intro w1 hg1 hs1 hf1;have hg1:w1.heap[W.heap.size]?=some (.cells (dA F).toArray 44 (0,0)):=hg1;obtain⟨g,eg⟩:∃ g,g=W.heap.size:=⟨_,rfl⟩
 rw[←eg] at hg1 ⊢;refine Gz 5 ?_;refine cL (SX (cs:=dA F) eF rfl (bJ hg1 0 rfl)) ?_;refine cA 0 RP (Lp F w1) ?_;rintro _ w2 ⟨rfl,hf2⟩;refine SP H0 rfl ?_;intro w3 hg3a hs3 hf3;refine sA rfl EW (by intro v hv;obtain⟨z,_,rfl⟩:=WS.1 hv;rfl) hg3a ?_;intro w3b hg3 hs3b hf3b;obtain⟨r,er⟩:∃ r,r=w2.heap.size:=⟨_,rfl⟩
 rw[←er] at hg3 hf3b ⊢;have hF3:aA nob w1 w3b:=(hf2.trans hf3).Wo hf3b (fun k hk=>.inr (by have h:k=r:=hk;have:=hf2.size;omega));have hv3:Vw i64 w3b.heap (some ⟨r,0,none⟩) 8 (iM F):=⟨by show 8≤8;decide,by decide,fun _=>by simp,fun i x hx=>by
  have h1:((iM F).map i64)[i]?=some (i64 x):=by rw[W7,hx];rfl
  exact aD hg3 h1⟩
 refine Gz 4 ?_;refine cL (UD (n:=8) (by kernel_rfl) cI rfl) ?_;refine cA 0 Qs (Cd (some ⟨r,0,none⟩) 8 (iM F) w3b hv3) ?_;rintro _ w4 ⟨rfl,hf4⟩;have hW4:=(hf1.trans hF3).trans hf4;have hg4:=(hF3.trans hf4).obj hg1 id;by_cases h7:upI (iM F)
 ·rw[WA h7];have hso:Cg F:=Cf.2 (fun i hi=>h7 i hi);refine Gz 3 ?_;refine SS rfl rfl Gl rfl (jO _ _ _ w4) rfl ?_;rintro _ w5 ⟨rfl,hw5⟩;subst w5;by_cases h11:1≤F 1∧F 1≤1024
  ·rw[WA h11];refine Gz 4 ?_;refine SS rfl rfl Gl rfl (jO _ _ _ w4) rfl ?_;rintro _ w5 ⟨rfl,hw5⟩;subst w5;by_cases h16:1≤F 7∧F 7≤2048
   ·rw[WA h16];refine Gz 4 ?_;refine SS rfl rfl Gl rfl (jO _ _ _ w4) rfl ?_;rintro _ w5 ⟨rfl,hw5⟩;subst w5;by_cases h21:0≤F 8∧F 8≤1024
    ·rw[WA h21];refine Gz 4 ?_;refine SS rfl rfl Gl rfl (jO _ _ _ w4) rfl ?_;rintro _ w5 ⟨rfl,hw5⟩;subst w5;by_cases h26:0≤F 9∧F 9≤4294967295
     ·rw[WA h26];refine Gz 6 ?_;exact⟨_,rfl,by rw[WA ⟨hso,h11.1,h11.2,h16.1,h16.2,h21.1,h21.2,h26.1,h26.2⟩],hW4⟩
     rw[Wx h26];refine Gz 6 ?_;exact⟨_,rfl,by rw[Wx (fun h=>by first|exact hso h.1|(unfold lG at h;omega))],hW4⟩
    rw[Wx h21];refine Gz 11 ?_;exact⟨_,rfl,by rw[Wx (fun h=>by first|exact hso h.1|(unfold lG at h;omega))],hW4⟩
   rw[Wx h16];refine Gz 16 ?_;exact⟨_,rfl,by rw[Wx (fun h=>by first|exact hso h.1|(unfold lG at h;omega))],hW4⟩
  rw[Wx h11];refine Gz 21 ?_;exact⟨_,rfl,by rw[Wx (fun h=>by first|exact hso h.1|(unfold lG at h;omega))],hW4⟩
 rw[Wx h7];have hso:¬ Cg F:=fun h=>h7 (fun i hi=>Cf.1 h i hi);refine Gz 25 ?_;exact⟨_,rfl,by rw[Wx (fun h=>by first|exact hso h.1|(unfold lG at h;omega))],hW4⟩
def ptO(g:Nat)(o:Nat):Value:=.pointer (some ⟨g,o,none⟩)
def oW:List Nat:=[0,2,3,4,5,6,9]
def oN:List Nat:=[1,7,8]
theorem FP{i:Nat}(h:i<7):oW.getD i 0=(suL.getD i fdZ).o∧(suL.getD i fdZ).b=4:=by
 match i,h with
|0,_|1,_|2,_|3,_|4,_|5,_|6,_=>exact⟨rfl,rfl⟩
theorem FQ{i:Nat}(h:i<3):oN.getD i 0=(suL.getD (7+i) fdZ).o∧(suL.getD (7+i) fdZ).b=2:=by
 match i,h with
|0,_|1,_|2,_=>exact⟨rfl,rfl⟩
theorem zK(g:Nat)(W:World):CA 43 [pT g] W fun v w'=>∃ q,v=.slice (some ⟨q,0,none⟩) oW.length 7∧Own (ptO g) 72 w'.heap (some ⟨q,0,none⟩) 7 oW∧W.heap.size≤q∧q<w'.heap.size∧aA nob W w':=by
 refine cS 25 [(0,_)] Tryz.func43 ?_;refine Gz 6 ?_;refine SZ 23 (fun _=>True) [21] [0,1,2,3,4,5,6,7,8,9,10,11,12,13,14,15,16,17,18,19,20,21,22] aL (by kernel_rfl) (trivial) ?_;refine Gz 21 ?_;refine SU rfl rfl (Tc AW (cs:=(oW.map (ptO g)).toArray) NC rfl rfl rfl (by kernel_rfl) rfl ?_);intro w1 hg1 hs1 hf1;refine S5 (by exact trivial) ?_;refine Gz 5 ?_;exact⟨_,rfl,_,rfl,jQ (xs:=oW) hg1 (by decide),WC _,by have h:w1.heap.size=W.heap.size+1:=hs1;show W.heap.size<_;omega,hf1.Wp⟩
theorem sW(g:Nat)(W:World):CA 45 [pT g] W fun v w'=>∃ q,v=.slice (some ⟨q,0,none⟩) oN.length 3∧Own (ptO g) 72 w'.heap (some ⟨q,0,none⟩) 3 oN∧W.heap.size≤q∧q<w'.heap.size∧aA nob W w':=by
 refine cS 13 [(0,_)] Tryz.func45 ?_;refine Gz 6 ?_;refine SZ 11 (fun _=>True) [9] [0,1,2,3,4,5,6,7,8,9,10] aL (by kernel_rfl) (trivial) ?_;refine Gz 9 ?_;refine SU rfl rfl (Tc AW (cs:=(oN.map (ptO g)).toArray) NC rfl rfl rfl (by kernel_rfl) rfl ?_);intro w1 hg1 hs1 hf1;refine S5 (by exact trivial) ?_;refine Gz 5 ?_;exact⟨_,rfl,_,rfl,jQ (xs:=oN) hg1 (by decide),WC _,by have h:w1.heap.size=W.heap.size+1:=hs1;show W.heap.size<_;omega,hf1.Wp⟩
def suT(q:Rd)(k:Nat):Rd×(Nat→Int):=(suL.take k).foldl gF (q,zF)
theorem pM{q:Rd}{j:Nat}(h:j<10):suT q (j+1)=(gS (suL.getD j fdZ).b (suT q j).1,upd (suT q j).2 (suL.getD j fdZ).o (gV (suL.getD j fdZ).b (suT q j).1)):=by
 have hl:j<suL.length:=h;unfold suT;rw[WV hl,XO];simp only[XA,List.foldl_nil,WI,Wv hl,Option.getD_some];rfl
theorem Fs{q:Rd}{j:Nat}(h:j<10):(suT q (j+1)).2 (suL.getD j fdZ).o=gV (suL.getD j fdZ).b (suT q j).1:=by
 rw[pM h];simp[upd]
theorem zM{q:Rd}{j:Nat}(h:j<10):(dA (suT q j).2).set (suL.getD j fdZ).o (iV ((suT q (j+1)).2 (suL.getD j fdZ).o))=dA (suT q (j+1)).2:=by
 rw[Ca _ (Ce h),Fs h,pM h]
theorem Fu(q:Rd):∀ k,k≤10→(suT q k).1.2.length≤q.2.length:=by
 intro k
 induction k with
|zero=>intro _;exact WC _
|succ n ih=>intro hn;rw[pM (by omega)];exact W9 (xR _ _ _) (ih (by omega))
theorem Fv(q:Rd)(hl:q.2.length≤64)(j:Nat)(hj:j<10)(D:Nat→Prop)(p:Nat)(W:World)(hP:RdL D W.heap p (suT q j).1.1 (suT q j).1.2) :
 CA 44 [pT p,iV (suL.getD j fdZ).b] W fun v w'=>v=iV ((suT q (j+1)).2 (suL.getD j fdZ).o)∧RdL D w'.heap p (suT q (j+1)).1.1 (suT q (j+1)).1.2∧aA (· = p) W w':=by
 rw[Fs hj,pM hj];exact Cu p _ _ _ W hP (by have:=Fu q j (by omega);omega)
def spQ(im:By):Rd:=(dJ 0 (im.take 64) 4,qZ 0 (im.take 64) 4)
def spS(im:By):Rd×(Nat→Int):=suT (spQ im) 10
def spR(s:Rd):Rd:=gS 4 s
def spL(s:Rd):Int:=oG s.1 s.2
def spE(s:Rd):Int:=dJ s.1 s.2 (spL s)
def spB(s:Rd):By:=iC s.1 s.2 (spL s)
theorem uG{im:By}(h:64≤im.length):iC 0 (im.take 64) 4=im.take 4∧(spS im).2=suF im∧spL (spS im).1=26∧gV 4 (spS im).1=(cC ((im.drop 38).take 4):Nat)∧spE (spR (spS im).1)=0∧spB (spR (spS im).1)=(im.take 64).drop 42:=by
 have hl:(im.take 64).length=64:=by rw[WB];omega
 have e1:dJ 0 (im.take 64) 4=0:=fQ (by decide) (by omega);obtain⟨c1,c2⟩:=dO e1;have eq:spQ im=(0,(im.take 64).drop 4):=by unfold spQ;rw[e1,c2];rfl
 have es:spS im=suQ ((im.take 64).drop 4):=by unfold spS;rw[eq];rfl
 have hl2:((im.take 64).drop 4).length=60:=by rw[WE];omega
 obtain⟨h0,h1,h2⟩:=Fw (ys:=(im.take 64).drop 4) (by omega);have es1:(spS im).1=(0,(im.take 64).drop 38):=by rw[es];exact Yl h0 (by rw[h2,XC])
 have hl3:((im.take 64).drop 38).length=26:=by rw[WE];omega
 have hg:=mS (n:=4) (s:=(0,(im.take 64).drop 38)) (by decide) (by decide) rfl (by show (4:Int)≤(((im.take 64).drop 38).length:Nat);omega);have e4:spR (spS im).1=(0,(im.take 64).drop 42):=by rw[es1];unfold spR;rw[hg.1,show ((4:Int).toNat)=4 from rfl];simp only[XC]
 have hl4:((im.take 64).drop 42).length=22:=by rw[WE];omega
 have e5:spL (spR (spS im).1)=22:=by rw[e4];show oG 0 _=22;unfold oG;rw[Wt (by omega),hl4];rfl
 have e6:dJ 0 ((im.take 64).drop 42) 22=0:=fQ (by decide) (by omega);obtain⟨c3,c4⟩:=dO e6;refine⟨by rw[c1,show ((4:Int).toNat)=4 from rfl,XS];rfl,by rw[es];rfl,?_,?_,?_,?_⟩
 ·rw[es1];show oG 0 _=26;unfold oG;rw[Wt (by omega),hl3];rfl
 · rw[es1,hg.2,show ((4:Int).toNat)=4 from rfl,YX,XS,YX]
   simp only[show min (38+4) 64=42 by rfl,show (38+4:Nat)=42 by rfl]
 ·unfold spE;rw[e5,e4];exact e6
 · unfold spB;rw[e5,e4]
   show iC 0 ((im.take 64).drop 42) 22=_;rw[c3,WJ (by rw[hl4];decide)]
theorem O4{im:By}(h:64≤im.length)(h1:iC 0 (im.take 64) 4=suM)(h2:((cC ((im.drop 38).take 4):Nat):Int)=(fG (im.take 38):Nat))(h3:(suF im) 0=im.length)(h4:lG (suF im))(h5:¬ ∃ c∈spB (spR (spS im).1),c≠0):jJ im:=by
 obtain⟨g1,g2,g3,g4,g5,g6⟩:=uG h;rw[g6] at h5;refine⟨h,h4,(B9 h).2 ⟨by rw[←g1];exact h1,by omega,(DI (by rw[WE,WB];omega)).2 (fun c hc=>WH fun hn=>h5 ⟨c,hc,hn⟩)⟩,h3⟩
theorem Iw{im:By}(hok:jJ im):iC 0 (im.take 64) 4=suM∧((cC ((im.drop 38).take 4):Nat):Int)=(fG (im.take 38):Nat)∧¬ ∃ c∈spB (spR (spS im).1),c≠0:=by
 obtain⟨h,h4,h5,h3⟩:=hok;obtain⟨g1,g2,g3,g4,g5,g6⟩:=uG h;obtain⟨a,b,c⟩:=(B9 h).1 h5;refine⟨by rw[g1];exact a,by omega,?_⟩;rw[g6];rintro⟨x,hx,hn⟩;exact hn ((DI (by rw[WE,WB];omega)).1 c x hx)
theorem GF(tp:Nat)(io:Option Addr)(ic:Nat)(im:By)(W:World)(ht:TbV W.heap tp)(hv:Vw b8 W.heap io ic im)(hb:im.length≤1099511627776) :
 CA 14 [pT tp,.slice io im.length ic] W fun v w'=>v=.tuple #[.agg (dA (aO im).1).toArray,iV (aO im).2]∧aA nob W w':=by
 have hl63:=hv.Wq;have hle:=hv.le;obtain⟨r,er⟩:∃ r,r=W.heap.size:=⟨_,rfl⟩
 have hml:(im.take 64).length=min 64 im.length:=WB;obtain⟨ys,hys⟩:∃ ys,ys=im.take 64:=⟨_,rfl⟩
 obtain⟨q0,hq0⟩:∃ q0,q0=spQ im:=⟨_,rfl⟩
 have hql:q0.2.length≤64:=by rw[hq0];have:(spQ im).2.length≤(im.take 64).length:=xR _ _ _;omega
 refine cS 99 [(0,_),(1,_)] Tryz.func14 ?_;refine Gz 2 ?_;refine SP tQ rfl ?_;intro w1 hg1 hs1 hf1;have hg1:w1.heap[W.heap.size]?=some (.cells (dA zF).toArray 44 (0,0)):=hg1;rw[←er] at hg1 ⊢;refine Gz 8 ?_;refine cL (SN (u:=iV (ys.length:Nat)) (Uo rfl rfl) (by rw[hys,hml];congr 1;omega)) ?_;refine cL (SN (u:=.slice io ys.length ic) (S8 aT rfl rfl (by rw[hys,hml];omega)) (by rw[bD];rfl)) ?_;refine SJ Sh rfl (IR io ic ys w1 (by rw[hys];exact(hv.take 64).Wr hf1) (by rw[hys,hml];omega)) rfl ?_;rintro _ w2 ⟨p,rfl,hp,hP,hf2⟩;have hlp:=RdO.lt hP;have hz1:=hf1.size;have hz2:=hf2.size;have hsw1:w1.heap.size=W.heap.size+1:=hs1;refine Gz 5 ?_;refine SP tQ rfl ?_;intro w3 hg3 hs3 hf3;have hg3:w3.heap[w2.heap.size]?=some (.cells (dA (suT q0 0).2).toArray 44 (0,0)):=hg3;obtain⟨q,eq⟩:∃ q,q=w2.heap.size:=⟨_,rfl⟩
 rw[←eq] at hg3 ⊢;refine Gz 5 ?_;refine SJ OB rfl (Ba p 0 ys 4 w3 (hP.Wr hf3) (by rw[hys,hml];omega)) rfl ?_;rintro _ w4 ⟨o4,c4,rfl,ho4,hfr4,hP4,hF4⟩;have hz3:=hf3.size;have hz4:=hF4.size;have hg4:=hF4.obj hg3 (fun h=>by have h:q=p:=h;omega);have hP4:RdL (fun k=>w1.heap.size≤k∧k<w2.heap.size) w4.heap p (suT q0 0).1.1 (suT q0 0).1.2:=by rw[hq0];rw[hys] at hP4;exact hP4
 have hJ4:aA (fun k=>w1.heap.size≤k) w1 w4:=((hf2.trans hf3).any).trans (hF4.mono (fun k h=>by have h:k=p:=h;omega));refine cL (Tt aT ty5 ty9 rfl ho4.vw) ?_;refine cA 6 Pu (zK q w4) ?_;rintro _ w5 ⟨l,rfl,ho5,hl1,hl2,hf5⟩;have hz5:=hf5.size;have hJ5:=hJ4.trans hf5.any;refine Gz 5 ?_;refine SO (β:=Nat) (fun i=>[(0,pT tp),(1,.slice io im.length ic),(4,pT r),(6,pT p),(7,pT q),(8,.string (bs (iC 0 ys 4))),(26,.slice (some ⟨l,0,none⟩) oW.length 7),(27,iV (oW.length:Nat)),(28,iV i)]) (fun i w=>i≤7∧RdL (fun k=>w1.heap.size≤k∧k<w2.heap.size) w.heap p (suT q0 i).1.1 (suT q0 i).1.2∧w.heap[q]?=some (.cells (dA (suT q0 i).2).toArray 44 (0,0))∧Own (ptO q) 72 w.heap (some ⟨l,0,none⟩) 7 oW∧aA (fun k=>w1.heap.size≤k) w1 w∧w5.heap.size≤w.heap.size) (fun i=>7-i) 0 ⟨rfl,rfl,rfl,rfl,rfl,rfl,rfl,rfl,rfl,trivial⟩ ⟨by decide,hP4.Wr hf5,hf5.obj hg4 id,ho5,hJ5,WC _⟩ ?_;rintro i w6 ⟨hi,hP6,hg6,how,hJ6,hz56⟩;refine fK 2 ?_ ?_<;>intro h29
 ·have hi7:i<7:=by have:(i:Int)<(oW.length:Nat):=h29;have e:oW.length=7:=rfl;omega
  refine Gz 10 ?_;refine cL (SI AW rfl rfl how.vw.non (by have e:oW.length=7:=rfl;omega)) ?_;refine cL (SM zQ rfl (how.vw.gz 0 i rfl (by show i<7;exact hi7))) ?_;rw[(FP hi7).1];refine Gz 6 ?_;refine SJ OA rfl (by have h:=Fv q0 hql i (by omega) _ p w6 hP6;rw[(FP hi7).2] at h;exact h) rfl ?_;rintro _ w7 ⟨rfl,hP7,hF7⟩;have hz7:=hF7.size;have hg7:=hF7.obj hg6 (fun h=>by have h:q=p:=h;omega);have hJ7:=hJ6.trans (hF7.mono (fun k h=>by have h:k=p:=h;show w1.heap.size≤k;omega));have how7:=how.Ws hF7 (fun a ha e=>by cases ha;have e:l=p:=e;omega);refine Gz 1 ?_;refine SV aN rfl rfl rfl hg7 (by have:=Ce (j:=i) (by omega);rw[XP];exact this) ?_;intro w8 hg8 hs8 hF8;rw[zM (by omega)] at hg8;have hP8:=hP7.Ws hF8 (fun k hk e=>by have e:k=q:=e;have:=hk.2;omega);have hJ8:=hJ7.trans (hF8.mono (fun k h=>by have h:k=q:=h;show w1.heap.size≤k;omega));have how8:=how7.Ws hF8 (fun a ha e=>by cases ha;have e:l=q:=e;omega);refine Gz 7 ?_;exact aG (i+1) ⟨by omega,hP8,hg8,how8,hJ8,by have h:w8.heap.size=w7.heap.size:=hs8;omega⟩ (by show 7-(i+1)<7-i;omega)
 have hi7:i=7:=by have h29:¬ (i:Int)<(oW.length:Nat):=h29;have e:oW.length=7:=rfl;omega
 subst hi7;refine cA 12 Pt (sW q w6) ?_;rintro _ w9 ⟨l2,rfl,ho9,hm1,hm2,hf9⟩;have hz6:=hJ6.size;have hz9:=hf9.size;have hJ9:=hJ6.trans hf9.any;refine Gz 5 ?_;refine SO (β:=Nat) (fun i=>[(0,pT tp),(1,.slice io im.length ic),(4,pT r),(6,pT p),(7,pT q),(8,.string (bs (iC 0 ys 4))),(37,.slice (some ⟨l2,0,none⟩) oN.length 3),(38,iV (oN.length:Nat)),(39,iV i)]) (fun i w=>i≤3∧RdL (fun k=>w1.heap.size≤k∧k<w2.heap.size) w.heap p (suT q0 (7+i)).1.1 (suT q0 (7+i)).1.2∧w.heap[q]?=some (.cells (dA (suT q0 (7+i)).2).toArray 44 (0,0))∧Own (ptO q) 72 w.heap (some ⟨l2,0,none⟩) 3 oN∧aA (fun k=>w1.heap.size≤k) w1 w) (fun i=>3-i) 0 ⟨rfl,rfl,rfl,rfl,rfl,rfl,rfl,rfl,rfl,trivial⟩ ⟨by decide,hP6.Wr hf9,hf9.obj hg6 id,ho9,hJ9⟩ ?_;rintro i w6 ⟨hi,hP6,hg6,how,hJ6⟩;refine fK 2 ?_ ?_<;>intro h40
 ·have hi3:i<3:=by have:(i:Int)<(oN.length:Nat):=h40;have e:oN.length=3:=rfl;omega
  refine Gz 10 ?_;refine cL (SI AW rfl rfl how.vw.non (by have e:oN.length=3:=rfl;omega)) ?_;refine cL (SM zQ rfl (how.vw.gz 0 i rfl (by show i<3;exact hi3))) ?_;rw[(FQ hi3).1];refine Gz 6 ?_;refine SJ OA rfl (by have h:=Fv q0 hql (7+i) (by omega) _ p w6 hP6;rw[(FQ hi3).2] at h;exact h) rfl ?_;rintro _ w7 ⟨rfl,hP7,hF7⟩;have hz7:=hF7.size;have hg7:=hF7.obj hg6 (fun h=>by have h:q=p:=h;omega);have hJ7:=hJ6.trans (hF7.mono (fun k h=>by have h:k=p:=h;show w1.heap.size≤k;omega));have how7:=how.Ws hF7 (fun a ha e=>by cases ha;have e:l2=p:=e;omega);refine Gz 1 ?_;refine SV aN rfl rfl rfl hg7 (by have:=Ce (j:=7+i) (by omega);rw[XP];exact this) ?_;intro w8 hg8 hs8 hF8;rw[zM (by omega)] at hg8;have hP8:=hP7.Ws hF8 (fun k hk e=>by have e:k=q:=e;have:=hk.2;omega);have hJ8:=hJ7.trans (hF8.mono (fun k h=>by have h:k=q:=h;show w1.heap.size≤k;omega));have how8:=how7.Ws hF8 (fun a ha e=>by cases ha;have e:l2=q:=e;omega);refine Gz 7 ?_;exact aG (i+1) ⟨by omega,hP8,hg8,how8,hJ8⟩ (by show 3-(i+1)<3-i;omega)
 have hi3:i=3:=by have h40:¬ (i:Int)<(oN.length:Nat):=h40;have e:oN.length=3:=rfl;omega
 subst hi3;have eS:suT q0 10=spS im:=by rw[hq0];rfl
 have hP6:RdL (fun k=>w1.heap.size≤k∧k<w2.heap.size) w6.heap p (suT q0 10).1.1 (suT q0 10).1.2:=hP6;have hg6:w6.heap[q]?=some (.cells (dA (suT q0 10).2).toArray 44 (0,0)):=hg6;rw[eS] at hP6 hg6;obtain⟨s,hs⟩:∃ s,s=(spS im).1:=⟨_,rfl⟩
 rw[←hs] at hP6;have hsl:s.2.length≤64:=by rw[hs,←eS];have:=Fu q0 10 (by decide);omega
 refine cA 12 Pr (zL p s.1 s.2 w6 hP6) ?_;rintro _ wq ⟨rfl,hwq⟩;subst wq;rw[show oG s.1 s.2=spL s from rfl];refine Gz 6 ?_;refine SJ OA rfl (Cu p s.1 s.2 4 w6 hP6 (by omega)) rfl ?_;rintro _ w10 ⟨rfl,hP10,hF10⟩;have hP10:RdL (fun k=>w1.heap.size≤k∧k<w2.heap.size) w10.heap p (spR s).1 (spR s).2:=hP10;have hrl:(spR s).2.length≤s.2.length:=xR _ _ _;have hJ10:=hJ6.trans (hF10.mono (fun k h=>by have h:k=p:=h;show w1.heap.size≤k;omega));have hg10:=hF10.obj hg6 (fun h=>by have h:q=p:=h;omega);obtain⟨vn,hvn⟩:∃ vn,vn=cC (iC (cT s.1 4) s.2 4):=⟨_,rfl⟩
 have hvn4:vn<4294967296:=by have h1:=uA (iC (cT s.1 4) s.2 4);have h2:=CP s.1 s.2 4;rw[←hvn] at h1;exact Xk h1 (by have:=Nat.pow_le_pow_right (n:=256) (by decide) h2;omega)
 rw[←hvn];refine cL (S1 (n:=((vn:Nat):Int)) is3 OZ rfl (tZ hvn4)) ?_;refine cA 7 Pr (zL p (spR s).1 (spR s).2 w10 hP10) ?_;rintro _ wq ⟨rfl,hwq⟩;subst wq;rw[show oG (spR s).1 (spR s).2=spL (spR s) from rfl];refine SJ OB rfl (Ba p (spR s).1 (spR s).2 (spL (spR s)) w10 hP10 (by omega)) rfl ?_;rintro _ w11 ⟨o11,c11,rfl,ho11,hfr11,hP11,hF11⟩;have hJ11:=hJ10.trans (hF11.mono (fun k h=>by have h:k=p:=h;show w1.heap.size≤k;omega));have hg11:=hF11.obj hg10 (fun h=>by have h:q=p:=h;omega);have hP11:RdL (fun k=>w1.heap.size≤k∧k<w2.heap.size) w11.heap p (spE (spR s)) (qZ (spR s).1 (spR s).2 (spL (spR s))):=hP11;have ho11:Own b8 5 w11.heap o11 c11 (spB (spR s)):=ho11;rw[show iC (spR s).1 (spR s).2 (spL (spR s))=spB (spR s) from rfl];have hW11:aA nob W w11:=(hf1.any.Wo hJ11 (fun k h=>.inl h)).fresh (fun k h=>by omega);have hr11:=hJ11.obj hg1 (fun h=>by have h:w1.heap.size≤r:=h;omega);refine Gz 9 ?_;refine SJ Dc rfl (Io p _ _ w11 hP11) rfl ?_;rintro _ wq ⟨rfl,hwq⟩;subst wq;refine fK 0 ?_ ?_<;>intro h61
 ·have hno:¬ jJ im:=fun h=>h61 (by rw[hs];exact(uG h.1).2.2.2.2.1);refine Gz 10 ?_;refine cL (bU (dA zF) tC tQ) ?_;refine sA rfl eF (by exact eU _) hr11 ?_;intro w20 hg20 hs20 hf20;have hFx:aA nob W w20:=hW11.tw hf20;refine Gz 5 ?_;refine rC hg20 eF ?_;have e:aO im=(zF,2):=Wt hno;exact⟨_,rfl,by rw[e],hFx⟩
 refine fW 3 ?_ ?_<;>intro h65
 ·have hno:¬ jJ im:=fun h=>by have:=h.1;omega
  refine Gz 6 ?_;refine cL (bU (dA zF) tC tQ) ?_;refine sA rfl eF (by exact eU _) hr11 ?_;intro w20 hg20 hs20 hf20;have hFx:aA nob W w20:=hW11.tw hf20;refine Gz 5 ?_;refine rC hg20 eF ?_;have e:aO im=(zF,2):=Wt hno;exact⟨_,rfl,by rw[e],hFx⟩
 have h64:64≤im.length:=by omega
 obtain⟨g1,g2,g3,g4,g5,g6⟩:=uG h64;rw[←hs] at g3 g4;have g4:((vn:Nat):Int)=(cC ((im.drop 38).take 4):Nat):=by rw[hvn];exact g4
 rw[g2] at hg11;rw[g3];refine Gz 9 ?_;refine Tl (Tz (b:=suM) rfl rfl) rfl (fun h69=>?_) (fun h69=>?_)
 ·have hm1:iC 0 (im.take 64) 4=suM:=by rw[←hys];exact h69
  refine Gz 6 ?_;refine cW (SN (u:=.slice io (im.take 38).length ic) (S8 aT rfl rfl (by omega)) (by rw[bD,WB,XG (by omega)];rfl)) ?_;refine SS rfl rfl Oz rfl (DR tp io ic (im.take 38) w11 (hW11.obj ht id) ((hv.take 38).Wr hW11)) rfl ?_;rintro _ wq ⟨rfl,hwq⟩;subst wq;refine fW 0 ?_ ?_<;>intro h78
  ·have hm2:((cC ((im.drop 38).take 4):Nat):Int)=(fG (im.take 38):Nat):=by rw[←g4];exact h78
   refine fW 6 ?_ ?_<;>intro h85
   ·refine Gz 2 ?_;refine cW (SX (cs:=dA (suF im)) eF rfl (bJ hg11 0 rfl)) ?_;refine SS rfl rfl Pq rfl (Cc (suF im) w11) rfl ?_;rintro _ w12 ⟨rfl,hf12⟩;have hr12:=hf12.obj hr11 id;have hg12:=hf12.obj hg11 id;have hW12:=hW11.trans hf12;by_cases h89:lG (suF im)
    ·rw[WA h89];refine Gz 8 ?_;refine cL (S3 rfl) ?_;refine Gz 2 ?_;refine SS rfl rfl Sg rfl (yQ (R:=fun c=>c≠0) 51 Sf o11 c11 (spB (spR s)) w12 (ho11.Wr hf12).vw DQ) rfl ?_;rintro _ wq ⟨rfl,hwq⟩;subst wq;by_cases h95:∃ c∈spB (spR s),c≠0
     ·rw[WA h95];have hno:¬ jJ im:=fun h=>(Iw h).2.2 (by rw[←hs];exact h95);refine Gz 6 ?_;refine cL (bU (dA zF) tC tQ) ?_;refine sA rfl eF (by exact eU _) (by first|exact hr12|exact hr11) ?_;intro w20 hg20 hs20 hf20;have hFx:aA nob W w20:=by first|exact hW12.tw hf20|exact hW11.tw hf20
      refine Gz 5 ?_;refine rC hg20 eF ?_;have e:aO im=(zF,2):=Wt hno;exact⟨_,rfl,by rw[e],hFx⟩
     rw[Wx h95];have hyes:jJ im:=O4 h64 hm1 hm2 h85 h89 (by rw[←hs];exact h95);refine Gz 8 ?_;refine cL (SX (cs:=dA (suF im)) eF rfl (bJ hg12 0 rfl)) ?_;refine sA rfl eF (by exact eU _) hr12 ?_;intro w20 hg20 hs20 hf20;have hFx:aA nob W w20:=hW12.tw hf20;refine Gz 4 ?_;refine rC hg20 eF ?_;have e:aO im=(suF im,0):=Wu hyes;exact⟨_,rfl,by rw[e],hFx⟩
    rw[Wx h89];have hno:¬ jJ im:=fun h=>h89 h.2.1;refine Gz 8 ?_;refine cL (S3 rfl) ?_;refine Gz 9 ?_;refine cL (bU (dA zF) tC tQ) ?_;refine sA rfl eF (by exact eU _) (by first|exact hr12|exact hr11) ?_;intro w20 hg20 hs20 hf20;have hFx:aA nob W w20:=by first|exact hW12.tw hf20|exact hW11.tw hf20
    refine Gz 5 ?_;refine rC hg20 eF ?_;have e:aO im=(zF,2):=Wt hno;exact⟨_,rfl,by rw[e],hFx⟩
   have hno:¬ jJ im:=fun h=>h85 h.2.2.2;refine Gz 12 ?_;refine cL (S3 rfl) ?_;refine Gz 9 ?_;refine cL (bU (dA zF) tC tQ) ?_;refine sA rfl eF (by exact eU _) (by first|exact hr12|exact hr11) ?_;intro w20 hg20 hs20 hf20;have hFx:aA nob W w20:=by first|exact hW12.tw hf20|exact hW11.tw hf20
   refine Gz 5 ?_;refine rC hg20 eF ?_;have e:aO im=(zF,2):=Wt hno;exact⟨_,rfl,by rw[e],hFx⟩
  have hno:¬ jJ im:=fun h=>h78 (by rw[g4];exact(Iw h).2.1);refine Gz 19 ?_;refine cL (S3 rfl) ?_;refine Gz 9 ?_;refine cL (bU (dA zF) tC tQ) ?_;refine sA rfl eF (by exact eU _) (by first|exact hr12|exact hr11) ?_;intro w20 hg20 hs20 hf20;have hFx:aA nob W w20:=by first|exact hW12.tw hf20|exact hW11.tw hf20
  refine Gz 5 ?_;refine rC hg20 eF ?_;have e:aO im=(zF,2):=Wt hno;exact⟨_,rfl,by rw[e],hFx⟩
 have hno:¬ jJ im:=fun h=>h69 (by rw[hys];exact(Iw h).1);refine Gz 28 ?_;refine cL (S3 rfl) ?_;refine Gz 9 ?_;refine cL (bU (dA zF) tC tQ) ?_;refine sA rfl eF (by exact eU _) (by first|exact hr12|exact hr11) ?_;intro w20 hg20 hs20 hf20;have hFx:aA nob W w20:=by first|exact hW12.tw hf20|exact hW11.tw hf20
 refine Gz 5 ?_;refine rC hg20 eF ?_;have e:aO im=(zF,2):=Wt hno;exact⟨_,rfl,by rw[e],hFx⟩
theorem Ki(x:Ent):∀ v∈xO x,v.oneCell'=true:=(jI x).2
theorem Km(x:Ent)(last:By)(W:World)(hx:x.1.length≤maxLen):CA 172 [.agg (xO x).toArray,.string (bs last)] W fun v w'=>v=.bool (decide (jL x last))∧aA nob W w':=by
 refine cS 35 [(0,_),(1,_)] Tryz.func172 ?_;refine Gz 2 ?_;refine Td rfl rfl ?_;intro w1 hg1 hs1 hf1;have hg2:w1.heap[W.heap.size]?=some (.cells (xO x).toArray 157 (0,0)):=hg1;obtain⟨g,eg⟩:∃ g,g=W.heap.size:=⟨_,rfl⟩
 rw[←eg] at hg2 ⊢;refine cA 7 Np (BR x.1 w1 hx) ?_;rintro _ w2 ⟨rfl,hf2⟩;have hg2:=hf2.obj hg2 id;have hW:=hf1.trans hf2;refine fK 0 ?_ ?_<;>intro h8
 ·have hv0:cZ x.1=0:=h8;refine Gz 4 ?_;refine Ta rfl rfl (S6 (Uu (a:=x.1) (b:=last) rfl rfl)) rfl (fun h13=>?_) (fun h13=>?_)
  ·have hlt:WU last x.1=true:=by rw[iB] at h13;simpa using h13
   refine fW 4 ?_ ?_<;>intro h18
   ·refine fW 4 ?_ ?_<;>intro h23
    ·refine fW 4 ?_ ?_<;>intro h28
     ·refine fW 4 ?_ ?_<;>intro h33
      ·refine Gz 6 ?_;exact⟨_,rfl,by rw[WA (show jL x last from ⟨hv0,hlt,h18,h23,h28,h33⟩)],hW⟩
      refine Gz 6 ?_;exact⟨_,rfl,by rw[Wx (fun h:jL x last=>by obtain⟨m1,m2,m3,m4,m5,m6⟩:=h;first|exact h8 m1|exact hlt m2|omega)],hW⟩
     refine Gz 11 ?_;exact⟨_,rfl,by rw[Wx (fun h:jL x last=>by obtain⟨m1,m2,m3,m4,m5,m6⟩:=h;first|exact h8 m1|exact hlt m2|omega)],hW⟩
    refine Gz 16 ?_;exact⟨_,rfl,by rw[Wx (fun h:jL x last=>by obtain⟨m1,m2,m3,m4,m5,m6⟩:=h;first|exact h8 m1|exact hlt m2|omega)],hW⟩
   refine Gz 21 ?_;exact⟨_,rfl,by rw[Wx (fun h:jL x last=>by obtain⟨m1,m2,m3,m4,m5,m6⟩:=h;first|exact h8 m1|exact hlt m2|omega)],hW⟩
  have hlt:¬ WU last x.1=true:=by rw[iB] at h13;simpa using h13
  refine Gz 26 ?_;exact⟨_,rfl,by rw[Wx (fun h:jL x last=>by obtain⟨m1,m2,m3,m4,m5,m6⟩:=h;first|exact h8 m1|exact hlt m2|omega)],hW⟩
 refine Gz 31 ?_;exact⟨_,rfl,by rw[Wx (fun h:jL x last=>by obtain⟨m1,m2,m3,m4,m5,m6⟩:=h;first|exact h8 m1|exact hlt m2|omega)],hW⟩
theorem Jn{x:Ent}{last:By}(h:jL x last):x.1.length≤255:=(qA h).1
def chainB:By→List Ent→Bool
|_,[]=>true
|last,x::r=>decide (jL x last) && chainB x.1 r
theorem yA:∀ (L:List Ent) (last:By),chainB last L=true↔cX last L
|[],_=>by simp[chainB,cX]
|x::r,last=>by simp only[chainB,cX,WW,decide_eq_true_eq,yA r]
instance (last:By)(L:List Ent):Decidable (cX last L):=decidable_of_iff _ (yA L last)
theorem WrO.bound{cs:Int→Value→List Value}{T:TypeId}{D D':Nat→Prop}{H:Array Obj}{p:Nat}{E:Int}{xs:By}(h:WrO cs T D H p E xs)(hd:∀ k,D k→k<H.size→D' k):WrO cs T D' H p E xs:=by
 have hl:=h.lt;obtain⟨ao,c,hg,ho,h1,h2,h3⟩:=h;exact⟨ao,c,hg,ho,h1,hd _ h2 hl,fun k hk=>hd k (h3 k hk) (by obtain⟨a,ha,rfl⟩:=hk;exact ho.lt a ha)⟩
def nZ(L:List Ent):By×Int:=if cX [] L then (bZ L,0) else ([],1)
theorem AH:∀ {L:List Ent} {last:By} {i:Nat} {x:Ent},cX last L→L[i]?=some x→jL x (if i=0 then last else (L.getD (i-1) EN).1)
|[],_,_,_,_,h=>by simp at h
|y::r,last,0,x,h,hx=>by simp at hx;subst hx;exact h.1
|y::r,last,i+1,x,h,hx=>by
   have:=AH (i:=i) h.2 (by simpa using hx);rw[Wt (by omega)];by_cases hi:i=0
   ·subst hi;simpa using this
   · rw[Wt hi] at this
     have e:(y::r).getD (i+1-1) EN=r.getD (i-1) EN:=by
      obtain⟨k,rfl⟩:∃ k,i=k+1:=⟨i-1,by omega⟩
      simp
     rw[e];exact this
theorem vI{L:List Ent}{i:Nat}{x:Ent}(hx:L[i]?=some x):L.take (i+1)=L.take i++[x]:=by
 obtain⟨h,rfl⟩:=Wy.1 hx;exact WV h
theorem Ev{L:List Ent}{i:Nat}(h0:0<i)(h:i≤L.length):wS (L.take i)=(L.getD (i-1) EN).1:=by
 obtain⟨k,rfl⟩:∃ k,i=k+1:=⟨i-1,by omega⟩
 have hk:k<L.length:=by omega
 rw[vI (Wv hk),Ew];simp[WI,hk]
theorem xN{L:List Ent}{last:By}(h:cX last L):(bZ L).length≤261*L.length:=by
 induction L generalizing last with
|nil=>simp[bZ]
|cons x r ih=>
   have h1:=ih h.2;have h2:=Jn h.1;show (mV x++bZ r).length≤_;rw[Ww,qU,WT];omega
theorem Sw{x:Ent}(h:MA x):¬ gD x.2.1 1:=eD (m:=255) (by decide) (by decide) h.2.1 (by have:=h.2.2.1;omega) (by decide)
theorem Sv{x:Ent}(h:MA x):¬ gD x.2.2 4:=eD (m:=4294967295) (by decide) (by decide) h.2.2.2.1 h.2.2.2.2 (by decide)
section
open Go Go.RowKit Go.Maps
theorem DO{ps qs:List (NdH×Nd)}(h:qs.Perm ps)(ht:¬ bL (nds ps)):¬ bL (nds qs):=by
 unfold bL at *;rw[W3] at *;exact((h.map (·.2)).pairwise_iff (R:=fun a b:Nd=>a.names≠b.names) (fun h e=>h e.symm)).2 ht
theorem NM{ps:List (NdH×Nd)}(ht:¬ bL (nds ps)){i j:Nat}{p q:NdH×Nd}(hij:i<j)(hp:(eV ps)[i]?=some p)(hq:(eV ps)[j]?=some q):bO p.2.names q.2.names=true:=by
 have e1:=Wy.1 hp;have e2:=Wy.1 hq;have h:=W8.1 (pN ps) i j e1.1 e2.1 hij;rw[e1.2,e2.2] at h;rcases kK.1 h with e|h
 ·exact absurd ((eG (eV ps)).2 ⟨i,j,p,q,hij,hp,hq,e.symm⟩) (DO (gU ps) ht)
 ·exact h
theorem EV{ps qs:List (NdH×Nd)}(hq:nds qs=nds (aP ps)){i:Nat}{q:NdH×Nd}(h:qs[i]?=some q):∃ p,(eV ps)[i]?=some p∧q.2=(cK (aH (eV ps)) p).2:=by
 have h1:=bE h;rw[hq] at h1;simp only[nds,aP,lF,W7,WR] at h1;obtain⟨a,⟨p,hp,e⟩,e2⟩:=h1;exact⟨p,hp,by rw[←e2,←e]⟩
theorem MX{ps qs:List (NdH×Nd)}(hq:nds qs=nds (aP ps)):qs.length=ps.length:=by
 have:=congrArg W6 hq;have h2:=(gU ps).length_eq;simp[nds,aP,lF] at this;omega
theorem OK{ps qs:List (NdH×Nd)}(ht:¬ bL (nds ps))(hq:nds qs=nds (aP ps)){i j:Nat}{p q:NdH×Nd}(hij:i<j)(hp:qs[i]?=some p)(h:qs[j]?=some q):bO p.2.names q.2.names=true:=by
 obtain⟨a,ha,e1⟩:=EV hq hp;obtain⟨b,hb,e2⟩:=EV hq h;have:=NM ht hij ha hb;rw[e1,e2];exact this
theorem Hn(a:List By):bO a []=false:=by cases a<;>rfl
theorem GZ{l:List Nd}(h:plc l=0):fD l []∧∀ n∈l,n.names≠[]→fD l n.names.dropLast:=by
 unfold plc at h;by_cases h0:1024<l.length
 ·rw[Wu h0] at h;cases h
 · rw[Wt h0] at h
   by_cases h1:nmd l=0
   · rw[Wt (fun g=>g h1)] at h
     by_cases h2:fD l []
     · rw[Wt (fun g=>g h2)] at h
       by_cases h3:∃ n∈l,n.names≠[]∧¬ fD l n.names.dropLast
       ·rw[Wu h3] at h;cases h
       ·exact⟨h2,fun n hn hne=>WH fun hd=>h3 ⟨n,hn,hne,hd⟩⟩
     ·rw[Wu h2] at h;cases h
   ·rw[Wu h1] at h;exact absurd h h1
def vU(ps:List (NdH×Nd))(i:Nat):Nat:=(bM (aH ((eV ps).take i))).length
theorem MY{ps qs:List (NdH×Nd)}(hq:nds qs=nds (aP ps)){i:Nat}{q:NdH×Nd}(h:qs[i]?=some q):1≤q.2.ino∧q.2.ino≤(vU ps i:Int)+1∧((vU ps (i+1):Nat):Int)=if (vU ps i:Int)<q.2.ino then q.2.ino else (vU ps i:Int):=by
 obtain⟨p,hp,e⟩:=EV hq h;have ei:q.2.ino=eO (aH (eV ps)) p.2.ino:=by rw[e];rfl
 rw[ei];refine⟨CI _ _,?_⟩;unfold vU;rw[iO hp];by_cases hm:p.2.ino∈aH ((eV ps).take i)
 · have h1:eO (aH (eV ps)) p.2.ino≤((bM (aH ((eV ps).take i))).length:Int):=by
    obtain⟨r,hr⟩:=Cj (aH ((eV ps).take i)) (p.2.ino::aH ((eV ps).drop (i+1)));rw[lK hp];unfold eO;rw[hr,List.idxOf_append,Wu (gW.2 hm)];have:=Y7.2 (gW.2 hm);omega
   rw[lA hm];exact⟨by omega,by rw[Wt (by omega)]⟩
 · have h1:eO (aH (eV ps)) p.2.ino=((bM (aH ((eV ps).take i))).length:Nat)+1:=by rw[lK hp,wN hm]
   rw[lB hm,h1];exact⟨by omega,by rw[Wu (by omega)];omega⟩
end
section
open Go Go.RowKit Go.Maps
theorem kM{l s:List By}:jM l s↔l≠[]∧l.dropLast=s:=by
 unfold jM;rw[drop_take];constructor
 · rintro⟨h1,h2⟩
   exact⟨fun e=>by rw[e] at h1;simp at h1,by rw[show l.length-1=s.length by omega];exact h2⟩
 · rintro⟨h1,h2⟩
   have h0:=WN.2 h1;have h3:s.length=l.length-1:=by rw[←h2,WB];omega
   exact⟨by omega,by rw[h3];exact h2⟩
section
variable {ps qs:List (NdH×Nd)}
theorem uN(qs:List (NdH×Nd)){i:Nat}(h:i<qs.length):∃ p,qs[i]?=some p∧nmG qs i=p.2.names:=⟨_,Wv h,rW (Wv h)⟩
end
end
def tG(b:By):Prop:=∀ i,i<b.length→b.getD i 0=0
instance (b:By):Decidable (tG b):=by unfold tG;exact inferInstance
theorem If(o:Option Addr)(c:Nat)(b:By)(W:World)(hv:Vw b8 W.heap o c b) :
 CA 210 [.slice o b.length c,.int .u8 0] W fun v w'=>∃ o' n c',v=.slice o' n c'∧(n=0↔tG b)∧w'=W:=by
 have hlen:=hv.Wq;refine cS 21 [(0,_),(1,_)] Tryz.func210 ?_;refine Gz 7 ?_;refine SO (β:=Nat×(Option Addr×Nat)) (fun⟨i,⟨oi,ci⟩⟩=>[(0,.slice oi (b.drop i).length ci),(1,.int .u8 0)]) (fun⟨i,⟨oi,ci⟩⟩ w=>i≤b.length∧(∀ j,j<i→b.getD j 0=0)∧Vw b8 W.heap oi ci (b.drop i)∧w=W) (fun⟨i,⟨oi,ci⟩⟩=>b.length-i) ⟨0,⟨o,c⟩⟩ ⟨rfl,rfl,trivial⟩ ⟨WG _,by intro j hj;omega,hv,rfl⟩ ?_;rintro⟨i,⟨oi,ci⟩⟩ w2 ⟨hi,hz,hvi,hw2⟩;subst hw2;have hdl0:=WE (i:=i) (l:=b);have hci:=hvi.le;refine fK 5 ?_ ?_<;>intro h7
 ·have hdl:0<(b.drop i).length:=by omega
  refine Gz 2 ?_;refine cW (SI aT rfl rfl hvi.non (by omega)) ?_;refine cW (SM yS rfl (hvi.gz 0 0 rfl (by omega))) ?_;refine fW 1 ?_ ?_<;>intro h13
  ·have h13:(((b.drop i).getD 0 0).toNat:Int)=0:=h13;have h0:b.getD i 0=0:=by rw[WI,X0,Yd] at h13;have h13:((b.getD i 0).toNat:Int)=0:=h13;exact XV.1 (by show _=0;omega)
   refine Gz 9 ?_;refine cL (Tp aT rfl rfl (by omega)) ?_;refine Gz 3 ?_;have hcd:=Ds (n:=1) hvi (by decide) (by omega);rw[show (1:Int).toNat=1 from rfl,XC] at hcd;refine S9 ⟨i+1,⟨_,_⟩⟩ ⟨?_,rfl,trivial⟩ ⟨by omega,?_,hcd,rfl⟩ (by show b.length-(i+1)<b.length-i;omega)
   · show some (Value.slice _ _ _)=some (Value.slice _ _ _)
     rw[show (1:Int).toNat=1 from rfl,WE,WE,Nat.sub_sub]
   · intro j hj
     by_cases hji:j=i
     ·rw[hji];exact h0
     ·exact hz j (by omega)
  have h13:¬ (((b.drop i).getD 0 0).toNat:Int)=0:=h13;have hne:b.getD i 0≠0:=fun e=>h13 (by rw[WI,X0,Yd];show ((b.getD i 0).toNat:Int)=0;rw[e];rfl);refine fK 14 ?_ ?_<;>intro h19
  ·refine Gz 11 ?_
   first
   |exact absurd h19 (by omega)
   |(have h0:b.length≤i:=by omega
     exact⟨_,rfl,none,0,0,rfl,⟨fun _=>fun j hj=>hz j (by omega),fun _=>rfl⟩,rfl⟩)
  refine Gz 13 ?_
  first
  |exact absurd h19 (by omega)
  |(have h0:i<b.length:=by omega
    exact⟨_,rfl,oi,(b.drop i).length,ci,rfl,⟨fun e=>absurd e (by omega),fun h=>absurd (h i h0) hne⟩,rfl⟩)
 refine fK 20 ?_ ?_<;>intro h19
 ·refine Gz 11 ?_
  first
  |exact absurd h19 (by omega)
  |(have h0:b.length≤i:=by omega
    exact⟨_,rfl,none,0,0,rfl,⟨fun _=>fun j hj=>hz j (by omega),fun _=>rfl⟩,rfl⟩)
 refine Gz 13 ?_
 first
 |exact absurd h19 (by omega)
 |(have h0:i<b.length:=by omega
   exact⟨_,rfl,oi,(b.drop i).length,ci,rfl,⟨fun e=>absurd e (by omega),fun h=>absurd (h i h0) hne⟩,rfl⟩)
theorem Hr:tG []:=fun i h=>absurd h (by simp)
theorem Ig(o:Option Addr)(c:Nat)(b:By)(W:World)(hv:Vw b8 W.heap o c b) :
 CA 168 [.slice o b.length c,.string (bs [0])] W fun v w'=>∃ o' n c',v=.slice o' n c'∧(n=0↔tG b)∧w'=W:=by
 have hlen:=hv.Wq;refine cS 36 [(0,_),(1,_)] Tryz.func168 ?_;refine fK 10 ?_ ?_<;>intro h9
 ·have h0:b=[]:=WM.1 (by omega);refine Gz 11 ?_;exact⟨_,rfl,none,0,0,rfl,⟨fun _=>by rw[h0];exact Hr,fun _=>rfl⟩,rfl⟩
 refine Gz 9 ?_;refine cL (Ur (Tz (a:=[0]) (b:=[]) rfl rfl) (by decide)) ?_;refine Gz 9 ?_;refine cL (Te ty9 rfl) ?_;refine cL (TD (Ty rfl rfl) (by decide)) ?_;refine Gz 2 ?_;refine cW (T2 ty9 rfl rfl (by decide)) ?_;refine cW (TD (TI rfl rfl) (by decide)) ?_;refine Gz 8 ?_;refine cL (T2 ty9 rfl rfl (by decide)) ?_;refine cA 0 PF (If o c b W hv) ?_;rintro _ w1 ⟨o1,n1,c1,rfl,hn,hw1⟩;subst hw1;refine Gz 6 ?_;exact⟨_,rfl,_,_,_,rfl,hn,rfl⟩
theorem Mm(o:Option Addr)(c:Nat)(b:By)(W:World)(hv:Vw b8 W.heap o c b) :
 CA 119 [.slice o b.length c] W fun v w'=>v=.bool (decide (tG b))∧w'=W:=by
 refine cS 7 [(0,_)] Tryz.func119 ?_;refine cA 8 PY (Ig o c b W hv) ?_;rintro _ w1 ⟨o1,n1,c1,rfl,hn,hw1⟩;subst hw1;refine fK 1 ?_ ?_<;>intro h6
 ·refine Gz 5 ?_;refine⟨_,rfl,?_,rfl⟩;congr 1
  first
  |exact(WA (hn.1 (by omega))).symm
  |exact(Wx (fun h=>h6 (by have:=hn.2 h;omega))).symm
 refine Gz 5 ?_;refine⟨_,rfl,?_,rfl⟩;congr 1
 first
 |exact(WA (hn.1 (by omega))).symm
 |exact(Wx (fun h=>h6 (by have:=hn.2 h;omega))).symm
def BK(W:World)(xs:By):Value→World→Prop:=fun v w'=>∃ ao' cap',v=.slice ao' xs.length cap'∧Own b8 5 w'.heap ao' cap' xs∧Fr W.heap.size ao'∧aA nob W w'
theorem HK(cap:Nat)(xs:By)(W:World)(hv:Vw b8 W.heap none cap xs):CA 61 [.slice none xs.length cap] W (BK W xs):=by
 have hx:xs=[]:=WQ (by
  rcases YF xs.length with h|h
  ·exact h
  ·exact absurd rfl (hv.non (by omega)))
 subst hx;refine cS 8 [(0,_)] Tryz.func61 ?_;refine Gz 9 ?_;refine cL (Ti aT rfl rfl) ?_;refine Gz 11 ?_;exact⟨_,rfl,none,0,rfl,VR,VP,VK _ _⟩
theorem ES(a:Addr)(cap:Nat)(xs:By)(W:World)(hv:Vw b8 W.heap (some a) cap xs)(hb:xs.length≤140737488355328):CA 61 [.slice (some a) xs.length cap] W (BK W xs):=by
 have hl:=hv.Wq;refine cS 8 [(0,_)] Tryz.func61 ?_;refine Gz 9 ?_;refine cL (Ti aT rfl rfl) ?_;refine Gz 7 ?_;refine T1 b8 aT rfl ?_;intro w1 ho1 hs1 hf1;refine Gz 1 ?_;refine S4 dK aT rfl rfl ho1 (hv.Wr hf1) (by simp only[W2];omega) (by simp only[W2];unfold maxLen;omega) rfl ?_;intro ao2 c2 w2 ho2 hf2 hr2 hn2;refine Gz 5 ?_;have hfr:Fr W.heap.size (some (⟨W.heap.size,0,none⟩:Addr)):=fun a ha=>by cases ha;exact WC _
 refine⟨_,rfl,ao2,c2,rfl,ho2,fun a ha=>?_,hf1.Wo hf2 hfr.step⟩;rcases hr2 a ha with h|h
 ·exact hfr a h
 ·have:=hf1.size;omega
theorem DA(ao:Option Addr)(cap:Nat)(xs:By)(W:World)(hv:Vw b8 W.heap ao cap xs)(hb:xs.length≤140737488355328):CA 61 [.slice ao xs.length cap] W (BK W xs):=by
 cases ao with
|none=>exact HK cap xs W hv
|some a=>exact ES a cap xs W hv hb
def KpB(sb nb:Nat)(W W':World):Prop:=W'.heap[sb]?=W.heap[sb]?∧W'.heap[nb]?=W.heap[nb]?
theorem KpB.trans{sb nb:Nat}{A B C:World}(h:KpB sb nb A B)(k:KpB sb nb B C):KpB sb nb A C:=⟨k.1.trans h.1,k.2.trans h.2⟩
def ckN(len k:Nat):Nat:=(len+k-1)/k
def ckE(len k i:Nat):Nat:=min k (len-i*k)
def ckV(o:Option Addr)(len k i:Nat):Value:=.slice (bG o (i*k+ckE len k i) (i*k) 1) (ckE len k i) (ckE len k i)
theorem Nz{len k i:Nat}(hk:1≤k):i<ckN len k↔i*k<len:=by
 unfold ckN;rw[Nat.lt_div_iff_mul_lt (by omega)];omega
theorem MS(i k:Nat):(i+1)*k=i*k+k:=Nat.succ_mul i k
def ckA(sb nb:Nat):List Value:=[pT sb,pT nb]
theorem KD(sb nb:Nat)(o:Option Addr)(c len k:Nat)(w0:World)(hs:w0.heap[sb]?=some (.cells [Value.slice o len c].toArray 25 (0,0)))(hn:w0.heap[nb]?=some (.cells [Value.int .i64 k].toArray 3 (0,0)))
 (hk:1≤k)(hk2:k≤1099511627776)(hl:len≤c)(hlb:len≤1099511627776) :
 SeqStopsK Fence.wide 3 Tryz.prog 167 (ckA sb nb).toArray (fun i:Fin (ckN len k)=>#[ckV o len k i.1]) (KpB sb nb) (fun xs=>xs.map (·.1)=Xr (ckN len k)) (fun _=>True) (ckN len k) w0:=by
 intro l J Jx W hW hJ hJx hY h0;refine callsIn_wide.2 ?_;have hs1:W.heap[sb]?=some (.cells [Value.slice o len c].toArray 25 (0,0)):=(hW.block sb (WD.1 hs).1).trans hs;have hn1:W.heap[nb]?=some (.cells [Value.int .i64 k].toArray 3 (0,0)):=(hW.block nb (WD.1 hn).1).trans hn;have ea:(#[Value.func (.yield l) #[] #[]]++(ckA sb nb).toArray)=[.func (.yield l) #[] #[],pT sb,pT nb].toArray:=by simp[ckA]
 rw[ea];refine cS 31 [(0,_),(1,_),(2,_)] Tryz.func167 ?_;refine Gz 6 ?_;refine SO (β:=Nat) (fun i=>[(0,.func (.yield l) #[] #[]),(1,pT sb),(2,pT nb),(4,iV (i*k:Nat))]) (fun i w=>i≤ckN len k∧(∃ xs:List (Fin (ckN len k)),xs.map (·.1)=Xr i∧J xs w)∧w.heap[sb]?=some (.cells [Value.slice o len c].toArray 25 (0,0))∧w.heap[nb]?=some (.cells [Value.int .i64 k].toArray 3 (0,0))) (fun i=>ckN len k-i) 0 ⟨rfl,rfl,rfl,(by rw[Nat.zero_mul];rfl),trivial⟩ ⟨WG _,⟨[],rfl,h0⟩,hs1,hn1⟩ ?_;rintro i w ⟨hi,⟨xs,hx,hJw⟩,hs2,hn2⟩;have hxl:i=xs.length:=by have:=congrArg W6 hx;simpa using this.symm
 refine Gz 4 ?_;refine cL (SM aX rfl (bN hs2 rfl)) ?_;refine fK 1 ?_ ?_<;>intro h9
 ·have hilt:i<ckN len k:=(Nz hk).2 (by omega);have hik:i*k<len:=by omega
  obtain⟨e,he⟩:∃ e,e=ckE len k i:=⟨_,rfl⟩
  have he2:e=min k (len-i*k):=he;have hcv:ckV o len k i=.slice (bG o (i*k+e) (i*k) 1) e e:=by unfold ckV;rw[←he]
  refine Gz 8 ?_;refine Tg 7 [0,1,2,3,4,5,6] aL (by kernel_rfl) ?_;refine xC rfl (SM aN rfl (bN hn2 rfl)) ?_;refine xC rfl (SM aX rfl (bN hs2 rfl)) ?_;refine Gz 1 ?_;refine xC rfl (Tp aT rfl rfl (by omega)) ?_;refine Gz 1 ?_;refine xC rfl (SN (u:=iV (e:Int)) (Uo rfl rfl) (by rw[he2];congr 1;omega)) ?_;refine Gz 4 ?_;refine UM 3 ?_;refine Si.calm (SQ rfl) rfl ?_;refine Si.calm (SM aX rfl (bN hs2 rfl)) rfl ?_;refine Si.calm (SQ rfl) rfl ?_;refine Si.calm (SQ rfl) rfl ?_;refine Si.calm (SQ rfl) rfl ?_;refine Si.calm (Tx rfl rfl (by omega)) rfl ?_;refine Si.calm (SQ rfl) rfl ?_;refine Si.calm (SQ rfl) rfl ?_;refine Si.calm (Tx rfl rfl (by omega)) rfl ?_;refine Si.calm (SN (u:=ckV o len k i) (TS aT rfl rfl rfl rfl (by omega) (by omega) (by omega)) (by rw[hcv,show ((i*k:Nat):Int).toNat=i*k from rfl,show (((i*k:Nat):Int)+(e:Int)).toNat=i*k+e by omega,Zb])) rfl ?_;refine Si.yield rfl rfl (hY xs ⟨i,hilt⟩ (w.drewN 1) (hJ _ _ _ none hJw ⟨rfl,rfl,rfl,WC _,fun _ _ _=>rfl⟩ (fun r e=>by cases e)) (by rw[←hxl];exact hilt)) rfl ?_ ?_
  ·rintro W' ⟨hJ',hK'⟩;refine Si.calm (S3 rfl) rfl ?_;refine V4 ?_;refine Gz 7 ?_;refine cL (SM aN rfl (bN (hK'.2.trans hn2) rfl)) ?_;refine Gz 3 ?_;refine S9 (i+1) ⟨rfl,rfl,rfl,?_,trivial⟩ ⟨by omega,⟨xs++[⟨i,hilt⟩],by rw[Yo,hx,YD];rfl,hJ'⟩,hK'.1.trans hs2,hK'.2.trans hn2⟩ (by show ckN len k-(i+1)<ckN len k-i;omega);rw[MS];rfl
  rintro W' hJ';refine Si.calm (S3 rfl) rfl ?_;refine V4 ?_;refine Gz 8 ?_;exact⟨⟨_,rfl⟩,.inr ⟨_,trivial,hJ'⟩⟩
 have h9n:¬ i<ckN len k:=fun q=>(show ¬ i*k<len by omega) ((Nz (len:=len) (i:=i) hk).1 q)
 have hie:i=ckN len k:=by omega
 refine Gz 7 ?_;refine Tf rfl ?_;exact⟨⟨_,rfl⟩,.inl ⟨xs,by show xs.map (·.1)=_;rw[hx,hie],hJw⟩⟩
theorem KC(o:Option Addr)(c len k:Nat)(W:World)(hk:1≤k) :
 CA 118 [.slice o len c,iV k] W fun v w'=>v=.func (.func 167) #[] (ckA W.heap.size (W.heap.size+1)).toArray∧w'.heap[W.heap.size]?=some (.cells [Value.slice o len c].toArray 25 (0,0))∧w'.heap[W.heap.size+1]?=some (.cells [Value.int .i64 k].toArray 3 (0,0))∧W.heap.size+2≤w'.heap.size∧aA nob W w':=by
 refine cS 9 [(0,_),(1,_)] Tryz.func118 ?_;refine Gz 2 ?_;refine Td rfl rfl ?_;intro w1 hg1 hs1 hf1;refine Td rfl rfl ?_;intro w2 hg2 hs2 hf2;have hg1b:=hf2.obj hg1 id;rw[hs1] at hg2 ⊢;refine Gz 6 ?_;refine cL (SM aN rfl (bN (cs:=[Value.int .i64 k]) hg2 rfl)) ?_;refine cL (Ur (TI rfl rfl) (by omega)) ?_;refine Gz 7 ?_;refine cL (by refine TO (cs:=[.tmp 2,.tmp 3]) (vs:=ckA W.heap.size (W.heap.size+1)) ?_;rfl) ?_;refine Gz 5 ?_;exact⟨_,rfl,rfl,hg1b,hg2,by omega,hf1.trans hf2⟩
def chB(b:By)(i:Nat):By:=(b.drop (i*128)).take 128
def hX(x:By):By:=if tG x then [] else x
def frB(x:By):By:=(bW (hX x)).1
def dX(b:By)(n:Nat):By:=((Xr n).map fun i=>frB (chB b i)).flatten
def cD(b:By):By:=dX b (b.length/128)
def cR(b:By):By:=b.drop (b.length/128*128)
theorem uY(b:By)(i:Nat):(chB b i).length≤128:=by unfold chB;rw[WB];omega
theorem yB{b:By}{i:Nat}(h:i<b.length/128):(chB b i).length=128:=by unfold chB;rw[WB,WE];omega
theorem JO(x:By):(hX x).length≤x.length:=by unfold hX;split<;>simp
theorem Bu{x:By}(h:x.length≤128):(frB x).length≤135∧3≤(frB x).length:=by
 have h1:=JO x;have h2:=gX (b:=hX x) (by omega);unfold frB;omega
theorem nG(b:By)(n:Nat):dX b (n+1)=dX b n++frB (chB b n):=by unfold dX;rw[YD];simp
theorem kC(b:By):∀ n,(dX b n).length≤135*n∧3*n≤(dX b n).length
|0=>by simp[dX]
|n+1=>by
   have h:=kC b n;have h2:=Bu (uY b n);rw[nG,Ww];omega
theorem mpS:sQ Tryz.prog 60 9 3 (iV 0):=⟨by kernel_rfl,z3⟩
def vM(m:List (SK×Nat)):List (SK×Value):=m.map fun p=>(p.1,nV p.2)
def gH:List (SK×Nat)→SK→Option Nat
|[],_=>none
|p::r,a=>if p.1=a then some p.2 else gH r a
theorem qO(a:SK):∀ m:List (SK×Nat),cG (vM m) a=(gH m a).map nV
|[]=>rfl
|p::r=>by
   unfold gH;show (if p.1=a then some (nV p.2) else cG (vM r) a)=_
   split
   ·rfl
   ·exact qO a r
theorem Lx{m:List (SK×Nat)}{a:SK}{v:Nat}(h:gH m a=none):cN (vM m) a (nV v)=vM (m++[(a,v)]):=by
 rw[gL _ (by rw[qO,h];rfl)];simp[vM]
theorem EI{m:List (SK×Nat)}{a b:SK}{v:Nat}:gH (m++[(a,v)]) b=match gH m b with|some k=>some k|none=>if a=b then some v else none:=by
 induction m with
|nil=>simp[gH]
|cons p r ih=>
   simp only[Xq,gH]
   split
   ·rfl
   ·exact ih
structure DS where
 B:By
 m:List (SK×Nat)
def K6(first:Nat)(s:DS)(r:By):DS×Nat:=match gH s.m (jT r) with
|some k=>(s,k)
|none=>(⟨s.B++r,s.m++[(jT r,first+s.B.length)]⟩,first+s.B.length)
def iD(first:Nat)(s:DS)(b:By):DS×Nat:=if cD b=[] then (s,0) else K6 first s (cD b)
theorem HV{first:Nat}{s:DS}{b:By}(h:(cD b).length=0):iD first s b=(s,0):=by unfold iD;rw[Wu (WM.1 h)]
theorem DK{first:Nat}{s:DS}{b:By}{k:Nat}(h:(cD b).length≠0)(hk:gH s.m (jT (cD b))=some k):iD first s b=(s,k):=by
 unfold iD K6;rw[Wt (fun e=>h (by rw[e];rfl)),hk]
theorem DL{first:Nat}{s:DS}{b:By}(h:(cD b).length≠0)(hk:gH s.m (jT (cD b))=none):iD first s b=(⟨s.B++cD b,s.m++[(jT (cD b),first+s.B.length)]⟩,first+s.B.length):=by
 unfold iD K6;rw[Wt (fun e=>h (by rw[e];rfl)),hk]
def dwC(p first:Nat)(bo:Option Addr)(bn bc mg:Nat):List Value:=[pT p,iV first,.slice bo bn bc,.map (some mg)]
def DwO(D:Nat→Prop)(H:Array Obj)(g p first:Nat)(s:DS):Prop:=
 ∃ bo bc mg,H[g]?=some (.cells (dwC p first bo s.B.length bc mg).toArray 132 (0,0))∧Own b8 5 H bo bc s.B∧cY enS H mg (vM s.m)∧¬ blk bo g∧mg≠g∧¬ blk bo mg∧D g∧(∀ k,blk bo k→D k)∧D mg∧TbV H p∧¬ D p
section
variable {D:Nat→Prop}{g p first:Nat}{s:DS}
theorem DwO.lt{H:Array Obj}(h:DwO D H g p first s):g<H.size:=by obtain⟨bo,bc,mg,hg,_⟩:=h;exact(WD.1 hg).1
theorem DwO.tab{H:Array Obj}(h:DwO D H g p first s):TbV H p∧¬ D p:=by obtain⟨bo,bc,mg,hg,h1,h2,h3,h4,h5,h6,h7,h8,h9,h10⟩:=h;exact⟨h9,h10⟩
theorem DwO.Ws{S:Nat→Prop}{w w':World}(h:DwO D w.heap g p first s)(hf:aA S w w')(hs:∀ k,D k→¬ S k)(hp:¬ S p):DwO D w'.heap g p first s:=by
 obtain⟨bo,bc,mg,hg,h1,h2,h3,h4,h5,h6,h7,h8,h9,h10⟩:=h;exact⟨bo,bc,mg,hf.obj hg (hs g h6),h1.Ws hf (fun a ha=>hs _ (h7 _ ⟨a,ha,rfl⟩)),h2.Ws hf (hs _ h8),h3,h4,h5,h6,h7,h8,hf.obj h9 hp,h10⟩
theorem DwO.Wr{w w':World}(h:DwO D w.heap g p first s)(hf:aA nob w w'):DwO D w'.heap g p first s:=h.Ws hf (fun _ _=>id) id
theorem DwO.mono{D':Nat→Prop}{H:Array Obj}(h:DwO D H g p first s)(hd:∀ k,D k→D' k)(hp:¬ D' p):DwO D' H g p first s:=by
 obtain⟨bo,bc,mg,hg,h1,h2,h3,h4,h5,h6,h7,h8,h9,h10⟩:=h;exact⟨bo,bc,mg,hg,h1,h2,h3,h4,h5,hd _ h6,fun k hk=>hd _ (h7 k hk),hd _ h8,h9,hp⟩
theorem DwO.fresh{B:Nat→Prop}{w w':World}(h:DwO D w.heap g p first s)(hf:aA nob w w')(hB:∀ k,k<w.heap.size→D k→B k)(hp:¬ B p):DwO B w'.heap g p first s:=by
 have hl:=h.lt;obtain⟨bo,bc,mg,hg,h1,h2,h3,h4,h5,h6,h7,h8,h9,h10⟩:=h;exact⟨bo,bc,mg,hf.obj hg id,h1.Wr hf,h2.Ws hf id,h3,h4,h5,hB _ hl h6,fun k ⟨a,ha,hb⟩=>hB _ (by have:=h1.lt a ha;omega) (h7 k ⟨a,ha,hb⟩),hB _ h2.obj h8,hf.obj h9 id,hp⟩
theorem QQ{W w1 w2:World}{bo bo':Option Addr}{bc' mg:Nat}{mq:List (SK×Nat)}{Bq:By}(hD:∀ k,W.heap.size≤k→D k)
 (hm:cY enS W.heap mg (vM mq))(h3:¬ blk bo g)(h4:mg≠g)(h5:¬ blk bo mg)(h6:D g)(h7:∀ k,blk bo k→D k)(h8:D mg)(h9:TbV W.heap p)(h10:¬ D p)(hgl:g<W.heap.size)
 (ho:Own b8 5 w1.heap bo' bc' Bq)(hf1:aA (blk bo) W w1)(hr:∀ a,bo'=some a→bo=some a∨W.heap.size≤a.block)
 (hg2:w2.heap[g]?=some (.cells (dwC p first bo' Bq.length bc' mg).toArray 132 (0,0)))(hf2:aA (· = g) w1 w2) :
 DwO D w2.heap g p first ⟨Bq,mq⟩∧aA D W w2:=by
 have hpl:=(WD.1 h9).1;have hD1:aA D W w1:=hf1.mono h7;have hD2:aA D W w2:=hD1.trans (hf2.mono (fun k h=>by have h:k=g:=h;subst h;exact h6));have hml:=hm.obj;have hn:∀ k,k<W.heap.size→¬ blk bo k→¬ blk bo' k:=fun k hk hb ⟨a,ha,e⟩=>by
  rcases hr a ha with h|h
  ·exact hb ⟨a,h,e⟩
  ·omega
 refine⟨⟨bo',bc',mg,hg2,ho.Ws hf2 (fun a ha h=>hn g hgl h3 ⟨a,ha,h⟩),(hm.Ws hf1 h5).Ws hf2 h4,hn g hgl h3,h4,hn mg hml h5,h6,fun k ⟨a,ha,hb⟩=>?_,h8,hD2.obj h9 h10,h10⟩,hD2⟩;rcases hr a ha with h|h
 ·exact h7 k ⟨a,h,hb⟩
 ·exact hD k (by omega)
end
theorem MH(p first:Nat)(W:World)(ht:TbV W.heap p) :
 CA 21 [pT p,iV first] W fun v w'=>v=.pointer (some ⟨W.heap.size+1,0,none⟩)∧DwO (fun k=>W.heap.size≤k) w'.heap (W.heap.size+1) p first ⟨[],[]⟩∧aA nob W w':=by
 have hpl:=(WD.1 ht).1;refine cS 10 [(0,_),(1,_)] Tryz.func21 ?_;refine Gz 9 ?_;refine To (enc:=enS) rfl ?_;intro w1 hm1 hs1 hf1;refine cL (TQ (cs:=#[pT p,iV first,sN,.map (some W.heap.size)]) NX OU rfl (by kernel_rfl)) ?_;refine Td rfl rfl ?_;intro w2 hg2 hs2 hf2;rw[hs1] at hg2 ⊢;refine Gz 5 ?_;exact⟨_,rfl,rfl,⟨none,0,W.heap.size,hg2,VR,hm1.Ws hf2 id,(fun⟨a,ha,_⟩=>by cases ha),(by omega),(fun⟨a,ha,_⟩=>by cases ha),(by omega),(fun k ⟨a,ha,_⟩=>by cases ha),WC _,(hf1.trans hf2).obj ht id,(by omega)⟩,hf1.trans hf2⟩
theorem Ks(D:Nat→Prop)(g p first:Nat)(s:DS)(W:World)(hM:DwO D W.heap g p first s)(hb:s.B.length≤1099511627776) :
 CA 28 [pT g] W (BK W s.B):=by
 obtain⟨bo,bc,mg,hg,h1,h2,h3,h4,h5,h6,h7,h8,h9,h10⟩:=hM;refine cS 8 [(0,_)] Tryz.func28 ?_;refine Gz 11 ?_;refine SJ EF rfl (DA bo bc s.B W h1.vw (by omega)) rfl ?_;intro _ w1 hP1;refine Gz 5 ?_;exact⟨_,rfl,hP1⟩
def lY(first:Nat)(s:DS)(b:By):DS×Nat:=(⟨s.B++(bW b).1,s.m⟩,first+s.B.length)
theorem HH(D:Nat→Prop)(g p first:Nat)(s:DS)(bo0:Option Addr)(bc0:Nat)(b:By)(W:World)(hM:DwO D W.heap g p first s)(hD:∀ k,W.heap.size≤k→D k)(hv:Vw b8 W.heap bo0 bc0 b)(hfi:first≤1000)(hb:s.B.length≤1099511627776)(hbl:b.length≤128) :
 CA 69 [pT g,.slice bo0 b.length bc0] W fun v w'=>v=iV ((lY first s b).2:Nat)∧DwO D w'.heap g p first (lY first s b).1∧aA D W w':=by
 obtain⟨bo,bc,mg,hg,h1,h2,h3,h4,h5,h6,h7,h8,h9,h10⟩:=hM;have hgl:=(WD.1 hg).1;have hps:=gX hbl;refine cS 37 [(0,_),(1,_)] Tryz.func69 ?_;refine cA 12 Mu (uR p bo0 bc0 b W h9 hv) ?_;rintro _ w1 ⟨o1,c1,rfl,ho1,hfr1,hf1⟩;have hg1:=hf1.obj hg id;refine Gz 8 ?_;refine SZ 11 (fun H=>H[g]?=some (.cells (dwC p first bo s.B.length bc mg).toArray 132 (0,0))) [] [0,1,2,3,4,5,6,7,8,9,10] aL (by kernel_rfl) (hg1) ?_;refine Gz 21 ?_;refine S4 dK aT rfl rfl (h1.Wr (hf1.draws 1)) ho1.vw (by omega) (by unfold maxLen;omega) rfl ?_;intro o2 c2 w2 ho2 hf2 hr2 hn2;have hf2:=hf2.Wp;have hg2:=hf2.obj hg1 h3;refine Gz 2 ?_;refine SV aX rfl rfl rfl hg2 rfl ?_;intro w3 hg3 hs3 hf3;obtain⟨hM3,hF3⟩:=QQ (W:=w1) (mq:=s.m) (first:=first) (Bq:=s.B++(bW b).1) (mQ hf1 hD) (h2.Ws hf1 id) h3 h4 h5 h6 h7 h8 (hf1.obj h9 id) h10 (by have:=hf1.size;omega) ho2 hf2 hr2 hg3 hf3;refine Gz 10 ?_;exact⟨_,rfl,rfl,hM3,hf1.any.trans hF3⟩
def lS{M:Nat}(b:By)(pre:List (Fin M)):By:=(pre.map fun i=>frB (chB b i.1)).flatten
theorem wJ{M:Nat}(b:By)(pre:List (Fin M))(x:Fin M):lS b (pre++[x])=lS b pre++frB (chB b x.1):=by simp[lS]
theorem G1{M:Nat}(b:By)(xs:List (Fin M))(h:xs.map (·.1)=Xr M):lS b xs=dX b M:=by
 unfold lS dX;rw[←h,XL];rfl
theorem G0{M:Nat}(b:By):∀ pre:List (Fin M),(lS b pre).length≤135*pre.length:=fun pre=>by
 induction pre with
|nil=>simp[lS]
|cons x r ih=>
   have h2:=(Bu (uY b x.1)).1;have e:lS b (x::r)=frB (chB b x.1)++lS b r:=by simp[lS]
   rw[e,Ww,WT];omega
theorem Lw{r:By}(h:r.length≤maxLen):jT r=⟨r,h⟩:=by unfold jT;rw[dif_pos h]
theorem MK(D:Nat→Prop)(g p first:Nat)(s:DS)(bo0:Option Addr)(bc0:Nat)(b:By)(W:World)(hM:DwO D W.heap g p first s)(hD:∀ k,W.heap.size≤k→D k)(hv:Vw b8 W.heap bo0 bc0 b)(hfi:first≤1000)(hb:s.B.length≤1099511627776)(hbl:b.length≤1048576) :
 CA 66 [pT g,.slice bo0 b.length bc0] W fun v w'=>∃ o c,v=.tuple #[iV ((iD first s b).2:Nat),.slice o (cR b).length c]∧Own b8 5 w'.heap o c (cR b)∧Fr W.heap.size o∧DwO (fun k=>D k∧¬ blk o k) w'.heap g p first (iD first s b).1∧aA D W w':=by
 have hM0:=hM;obtain⟨bo,bc,mg,hg,h1,h2,h3,h4,h5,h6,h7,h8,h9,h10⟩:=hM;have hgl:=(WD.1 hg).1;have hpl:=(WD.1 h9).1;have hlb:=hv.le;obtain⟨M,hMd⟩:∃ M,M=b.length/128:=⟨_,rfl⟩
 obtain⟨n,hn⟩:∃ n,n=M*128:=⟨_,rfl⟩
 have hnb:n≤b.length:=by omega
 have hrun:=kC b M;have hrd:cD b=dX b M:=by rw[hMd];rfl
 have hck:ckN n 128=M:=by unfold ckN;omega
 refine BD 83 [(0,_),(1,_)] Tryz.func66 rfl rfl rfl (tK ⟨rfl,rfl,trivial⟩) ?_;refine Gz 2 ?_;refine Td rfl rfl ?_;intro w1 hg1 hs1 hf1;have hg1:w1.heap[W.heap.size]?=some (.cells [pT g].toArray 63 (0,0)):=hg1;refine Gz 6 ?_;refine SP OR rfl ?_;intro w2 hg2 hs2 hf2;rw[hs1] at hg2 ⊢;have hg2:w2.heap[W.heap.size+1]?=some (.cells [Value.slice none ([]:By).length 0].toArray 25 (0,0)):=hg2;obtain⟨bx,hbx⟩:∃ bx,bx=W.heap.size+1:=⟨_,rfl⟩
 rw[←hbx] at hg2 ⊢;have hg12:=hf2.obj hg1 id;have hF2:=hf1.trans hf2;refine Gz 6 ?_;refine cL (SN (u:=iV (M:Int)) (U3 rfl rfl (by omega) (by decide)) (by congr 1;omega)) ?_;refine cL (SN (u:=iV (n:Int)) (TE rfl rfl (by omega)) (by congr 1;omega)) ?_;refine Gz 8 ?_;refine cL (SN (u:=.slice bo0 n bc0) (S8 aT rfl rfl (by omega)) (by rw[bD];rfl)) ?_;refine SJ Qh rfl (KC bo0 bc0 n 128 w2 (by decide)) rfl ?_;rintro _ w4 ⟨rfl,hsb4,hnb4,hz4,hf4⟩;have hF4:=hF2.trans hf4;have hg4:=hf4.obj hg2 id;have hb4:=hf4.obj hg12 id;have hG4:=hF4.obj hg id;refine Gz 3 ?_;refine Vc (α:=Fin (ckN n 128)) (f:=19) (p:=20) (q:=8) (gf:=167) (lb:=(ckA w2.heap.size (w2.heap.size+1)).toArray) (enc:=fun i=>ckV bo0 n 128 i.1) (M:=ckN n 128) rfl PZ (KD w2.heap.size (w2.heap.size+1) bo0 bc0 n 128 w4 hsb4 hnb4 (by decide) (by decide) (by omega) (by omega)) KpB.trans (fun W1 l1 _ _ hl1 _ _ _=>⟨World.putObj_heap_other (by omega),World.putObj_heap_other (by omega)⟩) (Below.refl _ _) rfl rfl (BbI 5 25 bx w4 (lS b)) BbI.own ⟨none,0,hg4,VR,VP,VK _ _⟩ ?_ ?_
 ·rintro lp pre x w ⟨oo,oc,hbw,hoo,hfro,hFw⟩ hlt;have hxn:x.1<M:=by have:=x.2;omega
  have hpl2:=G0 b pre;have hpl3:pre.length<M:=by omega
  have hfl:=(Bu (uY b x.1)).1;have hvw:=((hv.Wr hF4).keep' hFw (fun hne a ha e=>by have e:a.block=bx:=e;have:=BQ hv (show 0<b.length by have:=WN.2 hne;omega) a.block ⟨a,ha,rfl⟩;omega))
  have hGw:=hFw.obj hG4 (by omega);have hbw2:=hFw.obj hb4 (by omega);have hTw:TbV w.heap p:=hFw.obj (hF4.obj h9 id) (by omega);have hx1:ckE n 128 x.1=128:=by unfold ckE;omega
  obtain⟨co,hco⟩:∃ co,co=bG bo0 (x.1*128+128) (x.1*128) 1:=⟨_,rfl⟩
  have hcl:(chB b x.1).length=128:=yB (by omega);have hcv:=hvw.cut (l:=x.1*128) (h:=x.1*128+128) (m:=x.1*128+128) (by omega) (by omega) (by omega) (by omega);rw[←hco,Zb] at hcv;have hcv:Vw b8 w.heap co 128 (chB b x.1):=hcv;have hckv:ckV bo0 n 128 x.1=.slice co (chB b x.1).length 128:=by unfold ckV;rw[hx1,←hco,hcl]
  rw[hckv];obtain⟨wr,hwr⟩:∃ wr,wr=w:=⟨_,rfl⟩
  refine Rc.block ?_;refine Rc.cut (β:=Option Addr×Nat) (fun⟨xo,xc⟩=>[(2,pT W.heap.size),(6,pT bx),(8,.slice xo (hX (chB b x.1)).length xc)]) (fun⟨xo,xc⟩ w=>Vw b8 w.heap xo xc (hX (chB b x.1))∧w=wr) ?_ ?_
  ·refine Rc.seq ?_;refine Rc.region (by repeat first|exact eM.post|with_reducible apply VZ|with_reducible apply eM.block) rfl ?_;refine cA 1 Qg (Mm co 128 (chB b x.1) w hcv) ?_;rintro _ wq ⟨rfl,hwq⟩;subst wq;by_cases h22:tG (chB b x.1)
   ·rw[WA h22];have ex:hX (chB b x.1)=[]:=by unfold hX;rw[Wu h22]
    refine Gz 1 ?_;refine UL ?_;refine V2 rfl ?_;refine Rc.region (by repeat first|exact eM.post|with_reducible apply VZ|with_reducible apply eM.block) rfl ?_;refine Gz 2 ?_;exact Tn ⟨none,0⟩ ⟨rfl,rfl,(by show some (Value.slice none 0 0)=_;rw[ex];rfl),trivial⟩ ⟨by rw[ex];exact VQ 0 (WG _),hwr.symm⟩
   rw[Wx h22];have ex:hX (chB b x.1)=chB b x.1:=by unfold hX;rw[Wt h22]
   refine Gz 1 ?_;refine UL ?_;refine V3 rfl ?_;refine Rc.skip ?_;exact Tn ⟨co,128⟩ ⟨rfl,rfl,(by rw[ex];rfl),trivial⟩ ⟨by rw[ex];exact hcv,hwr.symm⟩
  rintro⟨xo,xc⟩ wq ⟨hxv,hwq⟩;obtain rfl:w=wq:=(hwq.trans hwr).symm;refine Rc.seq ?_;refine Rc.region (by repeat first|exact eM.post|with_reducible apply VZ|with_reducible apply eM.block) rfl ?_;refine cL (SM sY rfl (bN hbw2 rfl)) ?_;refine cA 4 Mu (uR p xo xc (hX (chB b x.1)) w hTw hxv) ?_;rintro _ v1 ⟨o1,c1,rfl,ho1,hfr1,hvf1⟩;have ho1:Own b8 5 v1.heap o1 c1 (frB (chB b x.1)):=ho1;have hbw1:=hvf1.obj hbw id;refine Gz 6 ?_;refine UL ?_;refine Rc.region (by repeat first|exact eM.post|with_reducible apply VZ|with_reducible apply eM.block) rfl ?_;refine cL (SM aX rfl (bN hbw1 rfl)) ?_;refine Gz 1 ?_;refine S4 dK aT rfl rfl (hoo.Wr hvf1) ho1.vw (by rw[show (bW (hX (chB b x.1))).1=frB (chB b x.1) from rfl];omega) (by rw[show (bW (hX (chB b x.1))).1=frB (chB b x.1) from rfl];unfold maxLen;omega) rfl ?_;intro o7 c7 v2 ho7 hvf2 hr7 hn7;have hnb2:∀ k,k<w4.heap.size→¬ blk oo k:=fun k hk ⟨a,ha,e⟩=>by have:=hfro a ha;omega
  have hbw3:=hvf2.obj hbw1 (hnb2 bx (by omega));refine SV aX rfl rfl rfl hbw3 rfl ?_;intro v3 hg3b hs3b hvf3;have hFv:aA (fun k=>k=bx∨blk oo k) w v3:=(hvf1.any.Wo hvf2 (fun k hk=>.inl (.inr hk))).Wo hvf3 (fun k hk=>.inl (.inl hk));have ho73:=ho7.Ws hvf3 (fun a ha e=>by rcases hr7 a ha with h|h;have:=hfro a h;have e:a.block=bx:=e;omega;have e:a.block=bx:=e;have:=hvf1.size;have:=hFw.size;omega);refine Gz 2 ?_;refine UB ⟨JC hFv (fun k hk _=>?_),⟨hFv.same _ (by have:=hFw.size;omega) ?_,hFv.same _ (by have:=hFw.size;omega) ?_⟩,⟨o7,c7,?_,?_,nP hfro hr7 (by have:=hFw.size;have:=hvf1.size;omega),(hFw.Wo hFv (fun k hk=>hk.imp id (fun⟨a,ha,e⟩=>by have:=hfro a ha;omega)))⟩⟩
  · rcases hk with rfl|⟨a,ha,rfl⟩
    ·exact⟨_,_,_,hbw⟩
    ·obtain⟨cur,h⟩:=hoo.cells ha;exact⟨_,_,_,h⟩
  · rintro(h|⟨a,ha,e⟩)
    ·omega
    ·have:=hfro a ha;omega
  · rintro(h|⟨a,ha,e⟩)
    ·omega
    ·have:=hfro a ha;omega
  ·rw[wJ];exact hg3b
  ·rw[wJ];exact ho73
 intro Dm xs w5 hDm hS ⟨oo,oc,hb5,ho5,hfro,hF5⟩ hK;have hS:xs.map (·.1)=Xr (ckN n 128):=hS;have hall:lS b xs=cD b:=by rw[G1 b xs hS,hck,hrd]
 rw[hall] at hb5 ho5;have hFW5:aA nob W w5:=hF4.Wo hF5 (fun k e=>.inr (by have e:k=bx:=e;omega));have htl:(cR b).length=b.length-n:=by unfold cR;rw[WE,←hMd,←hn]
 have hrb:=kC b M;rw[←hrd] at hrb;have hvt:Vw b8 w5.heap (bG bo0 bc0 n 1) (bc0-n) (cR b):=by
  have h:=(hv.Wr hFW5).cut (l:=n) (h:=b.length) (m:=bc0) (by omega) (by omega) (by omega) (WC _);rw[WJ (by rw[WE];omega)] at h;unfold cR;rw[←hMd,←hn];exact h
 refine Gz 6 ?_;refine cL (SN (u:=.slice (bG bo0 bc0 n 1) (cR b).length (bc0-n)) (Tp aT rfl rfl (by omega)) (by rw[htl];rfl)) ?_;refine SJ EF rfl (DA (bG bo0 bc0 n 1) (bc0-n) (cR b) w5 hvt (by omega)) rfl ?_;rintro _ w6 ⟨o6,c6,rfl,ho6,hfr6,hf6⟩;have hK6:=hf6.obj hK id;have hb6:=hf6.obj hb5 id;have ho56:=ho5.Wr hf6;have hFW6:=hFW5.trans hf6;have hG6:=hFW6.obj hg id;have hB6:=hf6.obj (hF5.obj hb4 (by omega)) id;have h26:=h2.Ws hFW6 id;have hz6:=hFW6.size;have ho6l:=ho6.lt;have hfr6w:=hfr6.mono hFW5.size;have ho5l:=ho56.lt;have hne6:∀ k,k<W.heap.size→¬ blk o6 k:=fun k hk ⟨a,ha,e⟩=>by have:=hfr6w a ha;omega
 have hsame:∀ wf,aA nob W wf→DwO (fun k=>D k∧¬ blk o6 k) wf.heap g p first s:=fun wf hf=>hM0.fresh hf (fun k hk hd=>⟨hd,hne6 k hk⟩) (fun h=>h10 h.1)
 have hend:∀ wf,aA (· = Dm) w6 wf→Own b8 5 wf.heap o6 c6 (cR b)∧aA nob W wf:=fun wf hf=>⟨ho6.Ws hf (fun a ha e=>by obtain⟨cur,h⟩:=ho6.cells ha;have e:a.block=Dm:=e;rw[e,hK6] at h;cases h),hFW6.Wo hf (fun k e=>.inr (by have e:k=Dm:=e;omega))⟩
 refine Gz 6 ?_;refine cL (SM aX rfl (bN hb6 rfl)) ?_;refine fK 1 ?_ ?_<;>intro h41
 ·have e:=HV (first:=first) (s:=s) (b:=b) (by omega);refine Gz 12 ?_;refine Ue rfl rfl rfl hK6 ?_;intro wf _ hfD;obtain⟨e1,e2⟩:=hend wf hfD;rw[e];exact⟨_,rfl,o6,c6,rfl,e1,hfr6w,hsame wf e2,e2.any⟩
 have hrl:(cD b).length≤maxLen:=by unfold maxLen;omega
 have hrne:(cD b).length≠0:=by omega
 have hsk:=Lw hrl;refine Gz 6 ?_;refine SZ 12 (fun H=>H[W.heap.size]?=some (.cells [pT g].toArray 63 (0,0))∧H[g]?=some (.cells (dwC p first bo s.B.length bc mg).toArray 132 (0,0))∧H[bx]?=some (.cells [Value.slice oo (cD b).length oc].toArray 25 (0,0))∧Vw b8 H oo oc (cD b)∧cY enS H mg (vM s.m)) [] [0,1,2,3,4,5,6,7,8,9,10,11] aL (by kernel_rfl) (⟨hB6,hG6,hb6,ho56.vw,h26⟩) ?_;refine xC rfl (SR sY rfl (fun H hH=>bN hH.1 rfl)) ?_;refine Gz 3 ?_;refine xC rfl (SR aX rfl (fun H hH=>bN hH.2.2.1 rfl)) ?_;refine xC rfl (Uc aT ty5 ty9 rfl (fun H hH=>hH.2.2.2.1)) ?_;refine xC rfl (Tr mpS C1 (a:=⟨cD b,hrl⟩) rfl rfl (fun H hH=>hH.2.2.2.2)) ?_;refine Gz 11 ?_;refine Tl (T3 rfl) rfl (fun h54=>?_) (fun h54=>?_)
 ·rw[qO] at h54;have hno:gH s.m (jT (cD b))=none:=by rw[hsk];simpa using h54
  have e:=DL (first:=first) hrne hno;refine Gz 4 ?_;refine SZ 11 (fun H=>H[W.heap.size]?=some (.cells [pT g].toArray 63 (0,0))∧H[g]?=some (.cells (dwC p first bo s.B.length bc mg).toArray 132 (0,0))) [] [0,1,2,3,4,5,6,7,8,9,10] aL (by kernel_rfl) (⟨hB6,hG6⟩) ?_;refine xC rfl (SR sY rfl (fun H hH=>bN hH.1 rfl)) ?_;refine Gz 3 ?_;refine xC rfl (SR sY rfl (fun H hH=>bN hH.1 rfl)) ?_;refine Gz 9 ?_;refine SZ 7 (fun H=>H[W.heap.size]?=some (.cells [pT g].toArray 63 (0,0))∧H[g]?=some (.cells (dwC p first bo s.B.length bc mg).toArray 132 (0,0))∧H[bx]?=some (.cells [Value.slice oo (cD b).length oc].toArray 25 (0,0))∧Vw b8 H oo oc (cD b)) [7] [0,1,2,3,4,5,6,7] aL (by kernel_rfl) (⟨hB6,hG6,hb6,ho56.vw⟩) ?_;refine xC rfl (SR sY rfl (fun H hH=>bN hH.1 rfl)) ?_;refine Gz 3 ?_;refine xC rfl (SR aX rfl (fun H hH=>bN hH.2.2.1 rfl)) ?_;refine xC rfl (Uc aT ty5 ty9 rfl (fun H hH=>hH.2.2.2)) ?_;refine Gz 1 ?_;refine SU rfl rfl (Th mpS C1 (a:=⟨cD b,hrl⟩) rfl rfl rfl h26 ?_);intro w7 hm7 hs7 hf7;refine Ts rfl ?_;have hf7:=hf7.Wp.Wp.Wp;have hml:=h2.obj;have hDml:=(WD.1 hK6).1;have hnbo:∀ k,W.heap.size≤k→¬ blk bo k:=fun k hk ⟨a,ha,e⟩=>by have:=h1.lt a ha;omega
  have hG7:=hf7.obj hG6 (fun e=>h4 (Eq.symm e));have hB7:=hf7.obj hB6 (by omega);have hb7:=hf7.obj hb6 (by omega);have ho57:=ho56.Ws hf7 (fun a ha e=>by have:=hfro a ha;have e:a.block=mg:=e;omega);have h17:=(h1.Wr hFW6).Ws hf7 (fun a ha e=>h5 ⟨a,ha,e⟩);have hz7:=hf7.size;have hm7q:cY enS w7.heap mg (vM (s.m++[(jT (cD b),first+s.B.length)])):=by rw[←Lx hno,hsk];exact hm7
  refine Gz 2 ?_;refine SZ 9 (fun H=>H[W.heap.size]?=some (.cells [pT g].toArray 63 (0,0))∧H[g]?=some (.cells (dwC p first bo s.B.length bc mg).toArray 132 (0,0))∧H[bx]?=some (.cells [Value.slice oo (cD b).length oc].toArray 25 (0,0))) [6,9] [0,1,2,3,4,5,6,7,8,9] aL (by kernel_rfl) (⟨hB7,hG7,hb7⟩) ?_;refine xC rfl (SR sY rfl (fun H hH=>bN hH.1 rfl)) ?_;refine xC rfl (SR sY rfl (fun H hH=>bN hH.1 rfl)) ?_;refine Gz 3 ?_;refine xC rfl (SR aX rfl (fun H hH=>bN hH.2.2 rfl)) ?_;refine SU rfl rfl (S4 dK aT rfl rfl h17 ho57.vw (by omega) (by unfold maxLen;omega) rfl ?_);intro o8 c8 w8 ho8 hf8 hr8 hn8;have hf8:=hf8.Wp;have hz8:=hf8.size;refine S5 (by exact⟨hf8.obj hB7 (hnbo _ (by omega)),hf8.obj hG7 h3,hf8.obj hb7 (hnbo _ (by omega))⟩) ?_;refine Gz 2 ?_;refine SU rfl rfl (SV aX rfl rfl rfl (hf8.obj hG7 h3) rfl ?_);intro w9 hg9 hs9 hf9;refine Ts rfl ?_;obtain⟨hM9,hF9⟩:=QQ (W:=w7) (D:=fun k=>D k∧¬ blk o6 k∧k≠Dm) (mq:=s.m++[(jT (cD b),first+s.B.length)]) (first:=first) (Bq:=s.B++cD b) (fun k hk=>⟨hD k (by omega),(fun⟨a,ha,e⟩=>by have:=ho6l a ha;omega),by omega⟩) hm7q h3 h4 h5 ⟨h6,hne6 g hgl,by omega⟩ (fun k ⟨a,ha,e⟩=>⟨h7 k ⟨a,ha,e⟩,hne6 k (by have:=h1.lt a ha;omega),by have:=h1.lt a ha;omega⟩) ⟨h8,hne6 mg hml,by omega⟩ (hf7.obj (hFW6.obj h9 id) (fun e=>h10 (by have e:p=mg:=e;rw[e];exact h8))) (fun h=>h10 h.1) (by omega) ho8 hf8 hr8 hg9 hf9;have hK9:=hf9.obj (hf8.obj (hf7.obj hK6 (by omega)) (hnbo _ (by omega))) (fun e=>by have e:Dm=g:=e;omega);have hK6:=hK9;have hz9:=hF9.size;have ho9:=(ho6.Ws hf7 (fun a ha e=>hne6 mg hml ⟨a,ha,e⟩)).Ws hF9 (fun a ha e=>e.2.1 ⟨a,ha,rfl⟩);refine Gz 11 ?_;refine Ue rfl rfl rfl hK6 ?_;intro wf _ hfD;have e9:Own b8 5 wf.heap o6 c6 (cR b):=ho9.Ws hfD (fun a ha e=>by obtain⟨cur,h⟩:=ho9.cells ha;have e:a.block=Dm:=e;rw[e,hK6] at h;cases h);rw[e];exact⟨_,rfl,o6,c6,rfl,e9,hfr6w,(hM9.Ws hfD (fun k hk e=>hk.2.2 e) (fun e=>by have e:p=Dm:=e;omega)).mono (fun k hk=>⟨hk.1,hk.2.1⟩) (fun h=>h10 h.1),((hFW6.any.trans (hf7.mono (fun k e=>by have e:k=mg:=e;rw[e];exact h8))).trans (hF9.mono (fun k hk=>hk.1))).Wo hfD (fun k e=>.inr (by have e:k=Dm:=e;omega))⟩
 rw[qO] at h54;obtain⟨k,hk⟩:∃ k,gH s.m (jT (cD b))=some k:=by rw[hsk];cases h:gH s.m ⟨cD b,hrl⟩ with|none=>rw[h] at h54;exact absurd rfl h54|some k=>exact⟨k,rfl⟩
 have e:=DK (first:=first) hrne hk;have eg:(cG (vM s.m) ⟨cD b,hrl⟩).getD (iV 0)=nV k:=by rw[qO,←hsk,hk];rfl
 rw[eg];refine Gz 14 ?_;refine Ue rfl rfl rfl hK6 ?_;intro wf _ hfD;obtain⟨e1,e2⟩:=hend wf hfD.Wp;rw[e];exact⟨_,rfl,o6,c6,rfl,e1,hfr6w,hsame wf e2,e2.any⟩
abbrev Ino:=(Nat→Int)×By
def Ho(x:Ino):List Value:=bY x.1 x.2
def cO:Ino:=(fun _=>0,[])
def fL(x:Ino):By:=(mI x.1 x.2).2
theorem qW{x:Ino}(h:fU x.1 x.2):15≤(fL x).length∧(fL x).length≤214:=by
 have h1:=FD h;have h9:=h.1;unfold iE at h9;unfold fL
 split at h1
 ·omega
 ·split at h1<;>omega
theorem Hj{x:Ino}(hm:fU x.1 x.2)(rest:By):kJ ((fL x++rest).take 14)=(fL x).length:=by
 have h1:=FD hm;have h2:=qW hm;have hk:=kI hm;have a0:=IU hm;have hg:∀ j,j<14→((fL x++rest).take 14).getD j 0=(fL x).getD j 0:=fun j hj=>by
  rw[WI,Xf,Wu hj,XM (by omega),←WI]
 have he:fL x=(mI x.1 x.2).2:=rfl;unfold kJ;rw[hg 0 (by decide),hg 13 (by decide),he,a0]
 split at h1
 ·rw[Wu (by omega)];omega
 · rename_i h3
   split at h1
   ·rw[Wt (by omega),Wu (by omega)];omega
   · have h4:x.1 0=3:=by omega
     have a3:=GV hm h4;rw[Wt (by omega),Wt (by omega),Wu (by omega),a3];omega
theorem Ok{T rest:By}{off:Nat}{x:Ino}(hm:fU x.1 x.2)(hd:T.drop off=fL x++rest)(hr:off+(fL x).length≤T.length) :
 lX (frW T (nF T)) 0 (frW T (nF T)).length (aM T off:Nat)=((gFn (fL x),gT (fL x)),((aM T (off+(fL x).length):Nat):Int),0):=by
 have hl:=qW hm;have r1:=Ee T [] [] (o:=off) (m:=14) (by omega);have r2:=Ee T [] [] (o:=off) (m:=(fL x).length) hr;rw[uQ,uB,hd] at r1 r2;rw[Xz rfl] at r2;have e1:aI (frW T (nF T)) 0 (frW T (nF T)).length (aM T off:Nat) 14=((fL x++rest).take 14,((aM T (off+14):Nat):Int),0):=r1;have e2:aI (frW T (nF T)) 0 (frW T (nF T)).length (aM T off:Nat) (kJ (aI (frW T (nF T)) 0 (frW T (nF T)).length (aM T off:Nat) 14).1)=(fL x,((aM T (off+(fL x).length):Nat):Int),0):=by
  rw[e1,Hj hm];exact r2
 have h4:=(Ol (im:=frW T (nF T)) (fr:=0) (to:=(frW T (nF T)).length) (ref:=(aM T off:Nat)) (by rw[e1]) (by rw[e2]) (by rw[e2];exact(BY hm).1))
 rw[h4,e2]
theorem Hq{x:Ino}(hm:fU x.1 x.2):oE (gFn (fL x)) (gT (fL x)) x.1 x.2:=(BY hm).2
def oM(l:List Int)(n:Int):Int:=match l.findIdx? (fun x=>decide (x=n)) with
|some i=>i
|none=>0
structure BSt where
 ino:By
 lst:By
 fur:By
 refs:List Int
 sets:List (List Xa×Int)
 many:Nat
def pG(n:Nat):BSt:=⟨[],[],[],W4 n 0,[],0⟩
def cJ(s:BSt)(X:List Xa):Int×BSt:=
 if X.length=0 then (0,s) else
 match s.sets.find? (fun y=>decide (y.1=X)) with
|some y=>(y.2+1,s)
|none=>((aM s.fur s.fur.length:Nat)+1,{ s with fur:=s.fur++(kF X).1,sets:=s.sets++[(X,((aM s.fur s.fur.length:Nat):Int))] })
def ndB(qs:List (NdH×Nd))(k:Int):Nd:=(qs.getD k.toNat (mN,nd0)).2
def inB(qs:List (NdH×Nd))(ids:List Int)(k:Int)(i:Ino)(xr:Int):Ino:=
 (fun j=>[(ndB qs k).kind,(ndB qs k).md,oM ids (ndB qs k).ud,oM ids (ndB qs k).gd,wQ qs k,xr,i.1 6,i.1 7,i.1 8,i.1 9].getD j 0,i.2)
def fB(qs:List (NdH×Nd))(ids:List Int)(k:Int)(i:Ino)(s:BSt):BSt:=
 { (cJ s (ndB qs k).xs).2 with
  ino:=(cJ s (ndB qs k).xs).2.ino++(pS (inB qs ids k i (cJ s (ndB qs k).xs).1).1 (inB qs ids k i (cJ s (ndB qs k).xs).1).2).1
  refs:=(cJ s (ndB qs k).xs).2.refs.set (ndB qs k).ino.toNat ((aM (cJ s (ndB qs k).xs).2.ino (cJ s (ndB qs k).xs).2.ino.length:Nat)+1)
  many:=(cJ s (ndB qs k).xs).2.many+1 }
def wrK(wr:Int→BSt→BSt)(qs:List (NdH×Nd)):List Int→BSt→BSt×List Ent
|[],s=>(s,[])
|j::r,s=>((wrK wr qs r (wr j s)).1,(bI (ndB qs j).names,(ndB qs j).kind,(wr j s).refs.getD (ndB qs j).ino.toNat 0-1)::(wrK wr qs r (wr j s)).2)
def HG(s:BSt)(b:By):Ino:=(fun j=>if j=6 then ((aM s.lst s.lst.length:Nat):Int) else if j=7 then b.length else 0,[])
def wrB(qs:List (NdH×Nd))(ids:List Int)(files:List Ino):Nat→Int→BSt→BSt
|0,_,s=>s
|n+1,k,s=>
   if 0<s.refs.getD (ndB qs k).ino.toNat 0 then s
   else if (ndB qs k).kind=2 then fB qs ids k (files.getD (ndB qs k).ino.toNat cO) s
   else if (ndB qs k).kind=3 then fB qs ids k (zF,(ndB qs k).tgt) s
   else if (ndB qs k).kind=1 then
    fB qs ids k (HG (wrK (wrB qs ids files n) qs (bA qs (ndB qs k).names qs.length) s).1 (nZ (wrK (wrB qs ids files n) qs (bA qs (ndB qs k).names qs.length) s).2).1)
     { (wrK (wrB qs ids files n) qs (bA qs (ndB qs k).names qs.length) s).1 with lst:=(wrK (wrB qs ids files n) qs (bA qs (ndB qs k).names qs.length) s).1.lst++(nZ (wrK (wrB qs ids files n) qs (bA qs (ndB qs k).names qs.length) s).2).1 }
   else fB qs ids k (zF,[]) s
structure FSt where
 ds:DS
 tails:List By
 files:List Ino
def iI(s:FSt)(x:Nd):FSt:=
 if x.kind≠2∨(s.files.getD x.ino.toNat cO).1 0=2 then s
 else ⟨(iD 64 s.ds x.data).1,(kW s.tails (cR x.data)).1,s.files.set x.ino.toNat (fun j=>[2,0,0,0,0,0,((iD 64 s.ds x.data).2:Int),x.data.length,((kW s.tails (cR x.data)).2.1:Int),((kW s.tails (cR x.data)).2.2:Int)].getD j 0,[])⟩
def aV(qs:List (NdH×Nd)):FSt:=(nds qs).foldl iI ⟨⟨[],[]⟩,[],W4 (qs.length+1) cO⟩
def dD:List By→DS→DS×List Int
|[],s=>(s,[])
|t::r,s=>((dD r (lY 64 s t).1).1,((lY 64 s t).2:Int)::(dD r (lY 64 s t).1).2)
def dnW(T:By):By:=frW T (nF T)
structure yP where
 d:DS
 pl:List Int
 s:BSt
def aE(qs:List (NdH×Nd))(ids:List Int):yP:=⟨(dD (aV qs).tails (aV qs).ds).1,(dD (aV qs).tails (aV qs).ds).2,wrB qs ids (aV qs).files 17 0 (pG (qs.length+1))⟩
def fO(a:yP):By:=a.d.B
def eC(a:yP):By:=fO a++dnW a.s.ino
def eB(a:yP):By:=eC a++dnW a.s.lst
def eA(a:yP):By:=eB a++dnW (aJ a.pl 4).1
def dZ(a:yP)(ids:List Int):By:=eA a++dnW (aJ ids 2).1
def dE(a:yP)(ids:List Int):By:=dZ a ids++dnW a.s.fur
def aR(qs:List (NdH×Nd))(ids:List Int)(a:yP):Nat→Int:=fun j=>[64+((dE a ids).length:Int),a.s.many,64+(fO a).length,64+(eC a).length,64+(eB a).length,64+(eA a).length,64+(dZ a ids).length,ids.length,a.pl.length,a.s.refs.getD (ndB qs 0).ino.toNat 0-1].getD j 0
def qL(qs:List (NdH×Nd))(ids:List Int):By×Int:=
 if 1048576<64+((dE (aE qs ids) ids).length:Int) then ([],3)
 else ((jC (aR qs ids (aE qs ids))).1++dE (aE qs ids) ids,0)
structure BiA where
 lo:Option Addr
 lc:Nat
 io:Option Addr
 ic:Nat
 f1:Option Addr
 c1:Nat
 t1:Option Addr
 d1:Nat
 f2:Option Addr
 c2:Nat
 t2:Option Addr
 d2:Nat
 f3:Option Addr
 c3:Nat
 t3:Option Addr
 d3:Nat
 ro:Option Addr
 rc:Nat
 fo:Option Addr
 fc:Nat
 so:Option Addr
 sc:Nat
 tr:Option Addr
 tc:Nat
 hs:List Hd
def Lb(ow:Nat→Nat):Nat→Prop:=fun k=>ow k≠0∧ow k≠4
section
variable {a:BiA}{ow ow':Nat→Nat}{g:Nat}{qs:List (NdH×Nd)}{ids:List Int}{files:List Ino}{s:BSt}
theorem Ep{D D' S:Nat→Prop}{w w':World}{lo:Option Addr}{lc:Nat}(h:aQ D w.heap lo lc qs)(f:aA S w w')(hS:∀ k,D k→¬ S k)(hl:qs≠[]→∀ k,blk lo k→¬ S k)(hD:∀ k,D k→D' k):aQ D' w'.heap lo lc qs:=
 ⟨h.1.keep' f (fun hne a ha=>hl hne _ ⟨a,ha,rfl⟩),fun p hp=>((h.2 p hp).Ws f hS).mono hD⟩
end
def bdB(s:BSt):Prop:=s.ino.length≤137438953472∧s.lst.length≤137438953472∧s.fur.length≤137438953472∧s.sets.length≤1048576∧s.many≤1048576
def bdR(s:BSt):Prop:=(∀ z∈s.refs,0≤z∧z≤1152921504606846977)∧∀ y∈s.sets,0≤y.2∧y.2≤1152921504606846976
theorem Hv{s:BSt}{X:List Xa}(h:X.length=0):cJ s X=(0,s):=Wu h
structure leB (s t:BSt):Prop where
 i:s.ino.length≤t.ino.length
 l:s.lst.length≤t.lst.length
 f:s.fur.length≤t.fur.length
 e:s.sets.length≤t.sets.length
 r:t.refs.length=s.refs.length
 m:s.many≤t.many
theorem leB.rfl{s:BSt}:leB s s:=⟨WC _,WC _,WC _,WC _,Eq.refl _,WC _⟩
theorem leB.trans{s t u:BSt}(h:leB s t)(k:leB t u):leB s u:=⟨W9 h.i k.i,W9 h.l k.l,W9 h.f k.f,W9 h.e k.e,k.r.trans h.r,W9 h.m k.m⟩
theorem leB.bd{s t:BSt}(h:leB s t)(k:bdB t):bdB s:=⟨W9 h.i k.1,W9 h.l k.2.1,W9 h.f k.2.2.1,W9 h.e k.2.2.2.1,W9 h.m k.2.2.2.2⟩
theorem Bs(s:BSt)(X:List Xa):leB s (cJ s X).2:=by
 unfold cJ
 split
 ·exact .rfl
 · split
   ·exact .rfl
   ·exact⟨WC _,WC _,by show _≤(s.fur++_).length;rw[Ww];omega,by show _≤(s.sets++_).length;rw[Ww];omega,Eq.refl _,WC _⟩
section
variable {qs:List (NdH×Nd)}{ids:List Int}{files:List Ino}
theorem uV(k:Int)(i:Ino)(s:BSt):leB (cJ s (ndB qs k).xs).2 (fB qs ids k i s):=⟨by show _≤(_++_:By).length;rw[Ww];omega,WC _,WC _,WC _,XH,Nat.le_succ _⟩
theorem kQ(k:Int)(i:Ino)(s:BSt):leB s (fB qs ids k i s):=(Bs s _).trans (uV k i s)
theorem AM{wr:Int→BSt→BSt}(hw:∀ k s,leB s (wr k s)):∀ (ys:List Int) (s:BSt),leB s (wrK wr qs ys s).1
|[],s=>.rfl
|j::r,s=>(hw j s).trans (AM hw r (wr j s))
theorem Er(s:BSt)(b:By):leB s { s with lst:=s.lst++b }:=⟨WC _,by show _≤(s.lst++b).length;rw[Ww];omega,WC _,WC _,Eq.refl _,WC _⟩
theorem AN:∀ (n:Nat) (k:Int) (s:BSt),leB s (wrB qs ids files n k s)
|0,k,s=>.rfl
|n+1,k,s=>by
   unfold wrB
   split
   ·exact .rfl
   · split
     ·exact kQ _ _ _
     · split
       ·exact kQ _ _ _
       · split
         ·exact((AM (AN n) _ s).trans (Er _ _)).trans (kQ _ _ _)
         ·exact kQ _ _ _
def shS(s:BSt):Prop:=∀ y∈s.sets,∀ x∈y.1,x.1.length≤255
theorem Gi{s:BSt}{X:List Xa}(h:shS s)(hX:∀ x∈X,x.1.length≤255):shS (cJ s X).2:=by
 unfold cJ
 split
 ·exact h
 · split
   ·exact h
   · intro y hy
     rcases WZ.1 hy with hy|hy
     ·exact h y hy
     ·rw[WY] at hy;subst hy;exact hX
structure GdB (qs:List (NdH×Nd))(files:List Ino):Prop where
 q:∀ q∈qs,(1≤q.2.ino∧q.2.ino≤qs.length)∧q.2.names.length≤16∧(∀ c∈q.2.names,c.length≤255)∧q.2.tgt.length≤200∧(∀ x∈q.2.xs,x.1.length≤255)
 k:∀ s ys,AL qs s ys→ys=bA qs s qs.length
 fl:files.length=qs.length+1
 ft:∀ f∈files,f.2.length≤200
 n:qs.length≤1024
theorem GdB.nd(G:GdB qs files)(k:Int):∀ x∈(ndB qs k).xs,x.1.length≤255:=by
 unfold ndB;rw[WI];cases h:qs[k.toNat]? with
|none=>simp[nd0]
|some q=>exact(G.q q (Wz h)).2.2.2.2
theorem uU(G:GdB qs files){k:Int}{i:Ino}{s:BSt}(h:shS s):shS (fB qs ids k i s):=Gi h (G.nd k)
theorem H3{wr:Int→BSt→BSt}(hw:∀ k s,shS s→shS (wr k s)):∀ (ys:List Int) (s:BSt),shS s→shS (wrK wr qs ys s).1
|[],s,h=>h
|j::r,s,h=>H3 hw r (wr j s) (hw j s h)
theorem H4(G:GdB qs files):∀ (n:Nat) (k:Int) (s:BSt),shS s→shS (wrB qs ids files n k s)
|0,k,s,h=>h
|n+1,k,s,h=>by
   unfold wrB
   split
   ·exact h
   · split
     ·exact uU G h
     · split
       ·exact uU G h
       · split
         ·exact uU G (show shS { (wrK (wrB qs ids files n) qs (bA qs (ndB qs k).names qs.length) s).1 with lst:=_ } from H3 (H4 G n) _ s h)
         ·exact uU G h
structure okS (qs:List (NdH×Nd))(s:BSt):Prop where
 r:s.refs.length=qs.length+1
 b:bdR s
 h:shS s
end
theorem bC{qs:List (NdH×Nd)}{i:Nat}{q:NdH×Nd}(h:qs[i]?=some q):ndB qs (i:Int)=q.2:=by unfold ndB;rw[Xd,WI,h];rfl
theorem H5{qs:List (NdH×Nd)}{ids:List Int}{files:List Ino}{i m:Nat}{q:NdH×Nd}(n:Nat)(s:BSt)(h:qs[i]?=some q)(hm:q.2.ino=(m:Int)):wrB qs ids files (n+1) (i:Int) s=if 0<s.refs.getD m 0 then s else if q.2.kind=2 then fB qs ids i (files.getD m cO) s else if q.2.kind=3 then fB qs ids i (zF,q.2.tgt) s else if q.2.kind=1 then
 fB qs ids i (HG (wrK (wrB qs ids files n) qs (bA qs q.2.names qs.length) s).1 (nZ (wrK (wrB qs ids files n) qs (bA qs q.2.names qs.length) s).2).1)
  { (wrK (wrB qs ids files n) qs (bA qs q.2.names qs.length) s).1 with lst:=(wrK (wrB qs ids files n) qs (bA qs q.2.names qs.length) s).1.lst++(nZ (wrK (wrB qs ids files n) qs (bA qs q.2.names qs.length) s).2).1 }
 else fB qs ids i (zF,[]) s:=by
 rw[wrB,bC h,hm,Xd]
theorem F5{qs:List (NdH×Nd)}{s:List By}:∀ (n:Nat),(bA qs s n).length≤n
|0=>WC _
|n+1=>by
   have:=F5 (qs:=qs) (s:=s) n;unfold bA
   split
   ·rw[Ww,WF];omega
   ·omega
theorem CZ{l:List By}(h:∀ c∈l,c.length≤255):(bI l).length≤255:=by
 unfold bI;rw[WI];cases hx:l[l.length-1]? with
|none=>exact WG _
|some x=>exact h x (Wz hx)
theorem lJ{ow ow8:Nat→Nat}{w4 w w':World}(h8:∀ k,k<w4.heap.size→ow8 k=ow k)(hF:aA (Lb ow) w4 w)(hf:aA (Lb ow8) w w'):aA (Lb ow) w4 w':=hF.Wo hf (fun k h=>by
 by_cases hk:k<w4.heap.size
 · have h:ow8 k≠0∧ow8 k≠4:=h
   rw[h8 k hk] at h;exact .inl h
 ·exact .inr (by omega))
section
open Go Go.RowKit Go.Maps
def mR(l:List Nd):Prop:=l.length≤1024∧(∀ n∈l,∀ s∈n.names,cZ s=0)∧(∀ n∈l,n.names.length≤16)∧(l.Pairwise fun a b=>a.names≠b.names)∧fD l []∧(∀ n∈l,n.names≠[]→fD l n.names.dropLast)∧(∀ n∈l,dL n)∧l.Pairwise gE
theorem xZ(l:List Nd):chk l=0↔mR l:=by
 constructor
 · intro h
   have h1:=rD h;have h2:=iA (wI h1);have h3:=GZ h1;have hm:¬ ∃ n∈l,¬ dL n:=fun hm=>by
    rw[aK,h1,Wt (show ¬ ((0:Int)≠0) from fun h=>h rfl),Wu hm] at h;cases h
   have hl:l.Pairwise gE:=by
    apply WH;intro hl;rw[aK,h1,Wt (show ¬ ((0:Int)≠0) from fun h=>h rfl),Wt hm,Wt hl] at h;cases h
   exact⟨BB h,fun n hn s hs=>h2.1 s (XZ.2 ⟨n,hn,hs⟩),h2.2.1,W3.1 h2.2.2,h3.1,h3.2,fun n hn=>WH fun h=>hm ⟨n,hn,h⟩,hl⟩
 · rintro⟨g1,g2,g3,g4,g5,g6,g7,g8⟩
   have e1:gG (dT l)=0:=oT fun s hs=>by obtain⟨n,hn,h⟩:=XZ.1 hs;exact g2 n hn s h
   have e2:nmd l=0:=by
    unfold nmd;rw[Wt (fun h=>h e1),Wt (fun⟨n,hn,h⟩=>by have:=g3 n hn;omega),Wt (fun h=>h g4)]
   have e3:plc l=0:=by
    unfold plc;rw[Wt (by omega),Wt (fun h=>h e2),Wt (fun h=>h g5),Wt (fun⟨n,hn,h1,h2⟩=>h2 (g6 n hn h1))]
   rw[aK,e3,Wt (show ¬ ((0:Int)≠0) from fun h=>h rfl),Wt (fun⟨n,hn,h⟩=>h (g7 n hn)),Wu g8]
theorem Hk{a b:Nd}(h:gE a b):gE b a:=fun e=>by
 obtain⟨h1,h2⟩:=h e.symm;exact⟨by rw[←h2.1];exact h1,h2.symm⟩
theorem xQ{l m:List Nd}(h:l.Perm m){s:List By}(hd:fD l s):fD m s:=by
 obtain⟨n,hn,h1,h2⟩:=hd;exact⟨n,h.mem_iff.1 hn,h1,h2⟩
theorem nN{l m:List Nd}(h:l.Perm m)(g:mR l):mR m:=by
 obtain⟨g1,g2,g3,g4,g5,g6,g7,g8⟩:=g;exact⟨by rw[←h.length_eq];exact g1,fun n hn=>g2 n (h.mem_iff.2 hn),fun n hn=>g3 n (h.mem_iff.2 hn),(h.pairwise_iff (fun h e=>h e.symm)).1 g4,xQ h g5,fun n hn hne=>xQ h (g6 n (h.mem_iff.2 hn) hne),fun n hn=>g7 n (h.mem_iff.2 hn),(h.pairwise_iff (fun h=>Hk h)).1 g8⟩
def lC(f:Int→Int)(n:Nd):Nd:={ n with ino:=f n.ino }
def kX(f:Int→Int)(zs:List Int):Prop:=∀ a∈zs,∀ b∈zs,f a=f b→a=b
theorem Ay{f:Int→Int}{l:List Nd}{s:List By}:fD (l.map (lC f)) s↔fD l s:=by
 constructor
 · rintro⟨n,hn,h1,h2⟩
   obtain⟨m,hm,rfl⟩:=WS.1 hn;exact⟨m,hm,h1,h2⟩
 · rintro⟨n,hn,h1,h2⟩
   exact⟨lC f n,WS.2 ⟨n,hn,rfl⟩,h1,h2⟩
theorem xB{f:Int→Int}{l:List Nd}(hf:kX f (l.map (·.ino))):mR (l.map (lC f))↔mR l:=by
 have hp:∀ {R R':Nd→Nd→Prop},(∀ a∈l,∀ b∈l,R (lC f a) (lC f b)↔R' a b)→((l.map (lC f)).Pairwise R↔l.Pairwise R'):=fun {R R'} h=>by
  rw[X2];exact⟨fun g=>g.imp_of_mem (fun ha hb=>(h _ ha _ hb).1),fun g=>g.imp_of_mem (fun ha hb=>(h _ ha _ hb).2)⟩
 have hl:(l.map (lC f)).Pairwise gE↔l.Pairwise gE:=hp fun a ha b hb=>by
  unfold gE;constructor
  ·intro h e;exact h (by show f b.ino=f a.ino;rw[e])
  ·intro h e;exact h (hf _ (WS.2 ⟨b,hb,rfl⟩) _ (WS.2 ⟨a,ha,rfl⟩) e)
 have hn:((l.map (lC f)).Pairwise fun a b=>a.names≠b.names)↔l.Pairwise fun a b=>a.names≠b.names:=hp fun a _ b _=>Iff.rfl;unfold mR;rw[hl,hn,WK,Ay];simp only[List.forall_mem_map,Ay];exact Iff.rfl
theorem Da{f:Int→Int}:∀ (zs s:List Int),kX f (s++zs)→(zs.map f).foldl jV (s.map f)=(zs.foldl jV s).map f
|[],s,_=>rfl
|z::zs,s,hf=>by
   have hm:f z∈s.map f↔z∈s:=by
    constructor
    · intro h
      obtain⟨x,hx,e⟩:=WS.1 h;have:=hf x (by simp[hx]) z (by simp) e;rw[←this];exact hx
    ·intro h;exact WS.2 ⟨z,h,rfl⟩
   have e:jV (s.map f) (f z)=(jV s z).map f:=by
    unfold jV;by_cases h:z∈s
    ·rw[Wu (hm.2 h),Wu h]
    ·rw[Wt (fun g=>h (hm.1 g)),Wt h,Yo,List.map_singleton]
   rw[Xo,XA,XA,e];refine Da zs (jV s z) (fun a ha b hb h=>hf a ?_ b ?_ h)
   · rw[WZ,yN] at ha
     rw[WZ,W5];rcases ha with(h1|h1)|h1
     ·exact .inl h1
     ·exact .inr (.inl h1)
     ·exact .inr (.inr h1)
   · rw[WZ,yN] at hb
     rw[WZ,W5];rcases hb with(h1|h1)|h1
     ·exact .inl h1
     ·exact .inr (.inl h1)
     ·exact .inr (.inr h1)
theorem IB{f:Int→Int}{zs:List Int}(hf:kX f zs):bM (zs.map f)=(bM zs).map f:=Da zs [] hf
theorem Ga{f:Int→Int}{z:Int}:∀ {L:List Int},(∀ x∈L,f x=f z→x=z)→(L.map f).idxOf (f z)=L.idxOf z
|[],_=>rfl
|x::L,h=>by
   by_cases e:x=z
   ·subst e;rw[Xo,List.idxOf_cons_self,List.idxOf_cons_self]
   · have e2:f x≠f z:=fun g=>e (h x (by simp) g)
     rw[Xo,List.idxOf_cons,List.idxOf_cons,Ga (fun y hy=>h y (by simp[hy])),beq_false_of_ne e,beq_false_of_ne e2]
theorem CJ{f:Int→Int}{zs:List Int}(hf:kX f zs){z:Int}(hz:z∈zs):eO (zs.map f) (f z)=eO zs z:=by
 unfold eO;rw[IB hf,Ga (fun x hx e=>hf x (gW.1 hx) z hz e)]
theorem CK(zs:List Int):kX (eO zs) zs:=fun a ha b hb h=>by
 unfold eO at h;have h1:=Y7.2 (gW.2 ha);have h2:=Y7.2 (gW.2 hb);have e:(bM zs).idxOf a=(bM zs).idxOf b:=by omega
 have g1:=List.getElem_idxOf h1;have g2:=List.getElem_idxOf h2;rw[←g1,←g2];exact getElem_congr_idx e
def rQ(f:Int→Int)(p:NdH×Nd):NdH×Nd:=(p.1,lC f p.2)
theorem LW(f:Int→Int)(ps:List (NdH×Nd)):nds (ps.map (rQ f))=(nds ps).map (lC f):=by simp[nds,rQ,Function.comp_def]
theorem JF(f:Int→Int)(ps:List (NdH×Nd)):aH (ps.map (rQ f))=(aH ps).map f:=by simp[aH,rQ,lC,Function.comp_def]
theorem LR{f:Int→Int}{L:List (NdH×Nd)}(hf:kX f (aH L)):lF (L.map (rQ f))=lF L:=by
 unfold lF;rw[JF,XL];apply X5;intro p hp;have hm:p.2.ino∈aH L:=WS.2 ⟨p,hp,rfl⟩;show ((p.1,{ p.2 with ino:=eO ((aH L).map f) (f p.2.ino) }):NdH×Nd)=_;rw[CJ hf hm];rfl
theorem FM{f:Int→Int}{L:List (NdH×Nd)}(h:L.Pairwise oQ):(L.map (rQ f)).Pairwise oQ:=by
 rw[X2];exact h
theorem JI{f:Int→Int}{a b:List Int}(h:a.Perm b)(hf:kX f a):kX f b:=fun x hx y hy e=>hf x (h.mem_iff.2 hx) y (h.mem_iff.2 hy) e
theorem MU{f:Int→Int}{ps qs:List (NdH×Nd)}(hp:qs.Perm (ps.map (rQ f)))(hf:kX f (aH ps))(ht:¬ bL (nds qs)):aP qs=aP ps:=by
 have h1:(eV ps).map (rQ f)=eV qs:=mG ht (((gU ps).map _).trans hp.symm) (FM (pN ps));unfold aP;rw[←h1,LR];exact JI ((gU ps).symm.map _) hf
theorem Mr{f:Int→Int}{ps qs:List (NdH×Nd)}(hp:qs.Perm (ps.map (rQ f)))(hf:kX f (aH ps)):mR (nds qs)↔mR (nds ps):=by
 have h1:(nds qs).Perm ((nds ps).map (lC f)):=by rw[←LW];exact hp.map _
 have h2:kX f ((nds ps).map (·.ino)):=by
  have e:(nds ps).map (·.ino)=aH ps:=by simp[nds,aH,Function.comp_def]
  rw[e];exact hf
 constructor
 ·intro g;exact(xB h2).1 (nN h1 g)
 ·intro g;exact nN h1.symm ((xB h2).2 g)
theorem yD{ps:List (NdH×Nd)}(g:mR (nds ps)):mR (nds (aP ps)):=by
 have e:aP ps=(eV ps).map (rQ (eO (aH (eV ps)))):=rfl;refine(Mr (f:=eO (aH (eV ps))) (ps:=eV ps) (by rw[e]) (CK _)).2 ?_;exact nN ((gU ps).symm.map _) g
theorem MV(ps:List (NdH×Nd)):(aP ps).Pairwise oQ:=FM (f:=eO (aH (eV ps))) (pN ps)
theorem LQ{a b:List (NdH×Nd)}(e:nds a=nds b)(h:b.Pairwise oQ):a.Pairwise oQ:=by
 have h1:(nds b).Pairwise (fun p q=>bO q.names p.names=false):=by unfold nds;rw[X2];exact h
 rw[←e] at h1;unfold nds at h1;rw[X2] at h1;exact h1
theorem HO{ps qs:List (NdH×Nd)}(g:mR (nds ps))(hq:nds qs=nds (aP ps)):nds (aP qs)=nds qs:=by
 have gq:mR (nds qs):=by rw[hq];exact yD g
 have ht:¬ bL (nds qs):=fun h=>h gq.2.2.2.1;have hs:eV qs=qs:=(mG ht (List.Perm.refl _) (LQ hq (MV ps))).symm;unfold aP;rw[hs];obtain⟨Z,hZ⟩:∃ Z,Z=aH (eV ps):=⟨_,rfl⟩
 have hi:aH qs=Z.map (eO Z):=by
  have e1:aH qs=(nds qs).map (·.ino):=by simp[nds,aH,Function.comp_def]
  have e2:(nds (aP ps)).map (·.ino)=Z.map (eO Z):=by rw[hZ];simp[nds,aP,lF,cK,aH,Function.comp_def]
  rw[e1,hq,e2]
 unfold nds lF;rw[XL];apply X5;intro p hp;have hm:p.2.ino∈Z.map (eO Z):=by rw[←hi];exact WS.2 ⟨p,hp,rfl⟩
 obtain⟨z,hz,e⟩:=WS.1 hm;show ({ p.2 with ino:=eO (aH qs) p.2.ino }:Nd)=p.2;rw[hi,←e,CJ (CK Z) hz,e]
end
section
open Go Go.RowKit Go.Maps
structure GdT (qs:List (NdH×Nd)):Prop where
 n:0<qs.length∧qs.length≤40
 ino:∀ q∈qs,1≤q.2.ino∧q.2.ino≤qs.length
 may:∀ q∈qs,dL q.2
 nmv:∀ q∈qs,∀ c∈q.2.names,cZ c=0
 dep:∀ q∈qs,q.2.names.length≤16
 lt:∀ (i j:Nat) (p q:NdH×Nd),i<j→qs[i]?=some p→qs[j]?=some q→bO p.2.names q.2.names=true
 lnk:∀ (i j:Nat) (p q:NdH×Nd),i≠j→qs[i]?=some p→qs[j]?=some q→p.2.ino=q.2.ino→p.2.kind≠1∧Alk p.2 q.2
 root:∃ q,qs[0]?=some q∧q.2.names=[]∧q.2.kind=1
 up:∀ q∈qs,q.2.names≠[]→∃ p∈qs,p.2.names=q.2.names.dropLast∧p.2.kind=1
theorem KK(ps:List (NdH×Nd)):(aP ps).length=ps.length:=MX (ps:=ps) rfl
theorem KL(ps:List (NdH×Nd)):∀ q∈aP ps,1≤q.2.ino∧q.2.ino≤(aP ps).length:=by
 intro q hq;obtain⟨i,hi⟩:=WO hq;obtain⟨h1,h2,_⟩:=MY (ps:=ps) rfl hi;have h3:=(Wy.1 hi).1;have h4:vU ps i≤i:=by
  have:=AX (aH ((eV ps).take i));have:(aH ((eV ps).take i)).length≤i:=by simp[aH];omega
  unfold vU;omega
 omega
theorem ED{ps:List (NdH×Nd)}(hz:chk (nds ps)=0)(hl:ps.length≤40):GdT (aP ps):=by
 have g:=yD ((xZ _).1 hz);obtain⟨qs,hqs⟩:∃ qs,qs=aP ps:=⟨_,rfl⟩
 have hlen:=KK ps;have hino:=KL ps;have hq:nds qs=nds (aP ps):=by rw[hqs]
 rw[←hqs] at g hlen hino ⊢;obtain⟨g1,g2,g3,g4,g5,g6,g7,g8⟩:=g;have hlt:∀ (i j:Nat) (p q:NdH×Nd),i<j→qs[i]?=some p→qs[j]?=some q→bO p.2.names q.2.names=true:=fun i j p q hij hp h=>OK (sM hz) hq hij hp h;have hmem:∀ q∈qs,q.2∈nds qs:=fun q h=>WS.2 ⟨q,h,rfl⟩;have hr:∃ q,qs[0]?=some q∧q.2.names=[]∧q.2.kind=1:=by
  obtain⟨n,hn,h1,h2⟩:=g5;obtain⟨q,hqm,rfl⟩:=WS.1 hn;obtain⟨i,hi⟩:=WO hqm;have hi0:=(Wy.1 hi).1;by_cases e:i=0
  ·subst e;exact⟨q,hi,h1,h2⟩
  · have:=hlt 0 i _ q (by omega) (Wv (by omega)) hi
    rw[h1,Hn] at this;cases this
 refine⟨⟨?_,by omega⟩,hino,fun q h=>g7 _ (hmem q h),fun q h=>g2 _ (hmem q h),fun q h=>g3 _ (hmem q h),hlt,fun i j p q hij hp h e=>?_,hr,fun q h hne=>?_⟩
 · obtain⟨q,h,_⟩:=hr
   have:=(Wy.1 h).1;omega
 · have hp':=bE hp
   have hq':=bE h;have l1:=(Wy.1 hp').1;have l2:=(Wy.1 hq').1;have e1:=(Wy.1 hp').2;have e2:=(Wy.1 hq').2;rcases Nat.lt_or_gt_of_ne hij with c|c
   · have:=W8.1 g8 i j l1 l2 c
     rw[e1,e2] at this;obtain⟨a,b⟩:=this e.symm;have b':=b.symm;exact⟨fun hk=>a (by rw[←b'.1];exact hk),b'⟩
   · have:=W8.1 g8 j i l2 l1 c
     rw[e1,e2] at this;exact this e
 · obtain⟨n,hn,h1,h2⟩:=g6 _ (hmem q h) hne
   obtain⟨p,hp,rfl⟩:=WS.1 hn;exact⟨p,hp,h1,h2⟩
section
variable {qs:List (NdH×Nd)}(G:GdT qs)
include G
theorem GdT.inj{i j:Nat}{p q:NdH×Nd}(hp:qs[i]?=some p)(h:qs[j]?=some q)(e:p.2.names=q.2.names):i=j:=by
 rcases XN i j with g|g|g
 ·have:=G.lt i j p q g hp h;rw[e,rY] at this;cases this
 ·exact g
 ·have:=G.lt j i q p g h hp;rw[e,rY] at this;cases this
theorem GdT.kids{s:List By}{ys:List Int}(h:AL qs s ys):ys=bA qs s qs.length:=by
 refine h.uniq ⟨List.Perm.refl _,?_⟩;refine NS ?_;have h1:=jH (ps:=qs) (s:=s) qs.length;refine List.Pairwise.imp_of_mem (fun {a b} ha hb hab=>?_) h1;obtain⟨x,rfl,hx,_⟩:=eZ.1 ha;obtain⟨y,rfl,hy,_⟩:=eZ.1 hb;obtain⟨p,hp,ep⟩:=uN qs hx;obtain⟨q,hq',eq⟩:=uN qs hy;have hl:=G.lt x y p q (by omega) hp hq';refine .inl ?_;show cQ (nmG qs ((x:Int)).toNat) (nmG qs ((y:Int)).toNat)<0;rw[Xd,Xd,ep,eq];unfold bO at hl;exact of_decide_eq_true hl
theorem GdT.nodir{i:Nat}{p:NdH×Nd}(hp:qs[i]?=some p)(hk:p.2.kind≠1):bA qs p.2.names qs.length=[]:=by
 apply List.eq_nil_iff_forall_not_mem.2;intro z h;obtain⟨k,rfl,hkl,hkq⟩:=eZ.1 h;obtain⟨q,hq',eq⟩:=uN qs hkl;rw[eq] at hkq;obtain⟨hne,hd⟩:=kM.1 hkq;obtain⟨r,hrm,h1,h2⟩:=G.up q (Wz hq') hne;obtain⟨j,hr⟩:=WO hrm;have e:=G.inj hr hp (h1.trans hd);subst e;rw[hr] at hp;cases hp;exact hk h2
theorem GdT.gdB{files:List Ino}(h1:files.length=qs.length+1)(h2:∀ f∈files,f.2.length≤200):GdB qs files where
 q:=fun q hq=>by
  have hm:=G.may q hq;have ht:q.2.tgt.length≤200:=by
   have h:=hm.2.2.2.2.2.2.2.1;unfold okT at h
   split at h
   ·exact h.2.1
   ·rw[h];exact WG _
  refine⟨G.ino q hq,G.dep q hq,fun c hc=>(jN (G.nmv q hq c hc)).1,ht,fun x hx=>?_⟩;have hx2:=hm.2.2.2.2.2.2.2.2;obtain⟨i,hi,rfl⟩:=Xn hx;obtain⟨_,g2,_,_⟩:=hx2.1 i hi;have e:q.2.xs.getD i x0=q.2.xs[i]:=by simp[WI,hi]
  rw[e] at g2;omega
 k:=fun s ys h=>G.kids h
 fl:=h1
 ft:=h2
 n:=by have:=G.n.2;omega
omit G in
theorem gA {s:List By} {z:Int} (h:z∈bA qs s qs.length):∃ (k:Nat) (q:NdH×Nd),z=(k:Int)∧qs[k]?=some q∧q.2.names=s++[bI q.2.names]:=by
 obtain⟨k,rfl,hkl,hkq⟩:=eZ.1 h;obtain⟨q,hq',eq⟩:=uN qs hkl;rw[eq] at hkq;refine⟨k,q,rfl,hq',?_⟩;have h1:q.2.names[s.length]?=some (bI q.2.names):=by
  unfold bI;rw[hkq.1,WI,YW,Wv (by have:=hkq.1;omega)];rfl
 have h2:=tkL h1;rw[hkq.2,WJ (by have:=hkq.1;omega)] at h2;exact h2
omit G in
theorem JA {k:Nat} {q:NdH×Nd} {s:List By} (h:qs[k]?=some q) (hne:q.2.names≠[]) (hs:q.2.names.dropLast=s):(k:Int)∈bA qs s qs.length:=by
 have hk:=(Wy.1 h).1;exact eZ.2 ⟨k,rfl,hk,by rw[rW h];exact kM.2 ⟨hne,hs⟩⟩
theorem GdT.above{q:NdH×Nd}(hq:q∈qs):∀ (m d:Nat),d+m=q.2.names.length→∃ (k:Nat) (p:NdH×Nd),qs[k]?=some p∧p.2.names=q.2.names.take d∧(0<m→p.2.kind=1)
|0,d,h=>by
   obtain⟨k,hk⟩:=WO hq;exact⟨k,q,hk,by rw[WJ (by omega)],fun h=>absurd h (Nat.lt_irrefl 0)⟩
|m+1,d,h=>by
   obtain⟨k,p,hk,hn,_⟩:=GdT.above hq m (d+1) (by omega);have hpl:p.2.names.length=d+1:=by rw[hn,WB];omega
   obtain⟨r,hr,h1,h2⟩:=G.up p (Wz hk) (fun e=>by rw[e] at hpl;simp at hpl);obtain⟨j,hj⟩:=WO hr;refine⟨j,r,hj,?_,fun _=>h2⟩;rw[h1,hn,List.dropLast_eq_take,XS,WB];congr 1;omega
end
end
theorem Al{r post:By}{k:Nat}(h:k<r.length):(r++post).getD k 0=r.getD k 0:=by
 rw[WI,WI,XM h]
theorem Oh(x:By):3≤jF x:=by unfold jF;split<;>omega
theorem AA{r x:By}{s:Nat}{st:Bool}(h:kT r=some (x,s,st)):jF x≤r.length:=by
 unfold kT at h;obtain⟨n,hn⟩:∃ n,n=(r.getD 0 0).toNat+256*(r.getD 1 0).toNat:=⟨_,rfl⟩
 rw[←hn] at h
 split at h
 ·cases h
 · split at h
   ·cases h
   · split at h
     ·cases h
     · split at h
       · simp only[Option.some.injEq,Prod.mk.injEq] at h
         rw[←h.1];show 3≤_;omega
       · split at h
         ·cases h
         · simp only[Option.some.injEq,Prod.mk.injEq] at h
           rw[←h.1];unfold jF;rw[WB,WE]
           split<;>omega
theorem xS{r post x:By}{s:Nat}{st:Bool}(hl:jF x≤r.length):kT (r++post)=some (x,s,st)↔kT r=some (x,s,st):=by
 have h3:3≤r.length:=W9 (Oh x) hl;have e0:(r++post).getD 0 0=r.getD 0 0:=Al (by omega);have e1:(r++post).getD 1 0=r.getD 1 0:=Al (by omega);have et:(r++post).take 3=r.take 3:=Xt h3;unfold kT;rw[e0,e1,et,Wt (by rw[Ww];omega),Wt (show ¬ r.length<3 by omega)];obtain⟨n,hn⟩:∃ n,n=(r.getD 0 0).toNat+256*(r.getD 1 0).toNat:=⟨_,rfl⟩
 rw[←hn];by_cases c1:r.take 3≠hdB n
 ·rw[Wu c1,Wu c1]
 · rw[Wt c1,Wt c1]
   by_cases c2:128<n%32768∨(n%32768=0∧32768≤n)
   ·rw[Wu c2,Wu c2]
   · rw[Wt c2,Wt c2]
     by_cases c3:n%32768=0
     ·rw[Wu c3,Wu c3]
     · rw[Wt c3,Wt c3]
       by_cases c4:r.length<7+n%32768
       · rw[Wu c4]
         constructor
         · intro h
           split at h
           ·cases h
           · rename_i c5
             rw[Ww] at c5;simp only[Option.some.injEq,Prod.mk.injEq] at h;exfalso;have hx:x.length=n%32768:=by rw[←h.1,WB,WE,Ww];omega
             unfold jF at hl;rw[Wt (by omega)] at hl;omega
         ·intro h;cases h
       · rw[Wt c4,Wt (by rw[Ww];omega)]
         have d7:((r++post).drop 7).take (n%32768)=(r.drop 7).take (n%32768):=by
          rw[X1 (by omega),Xt (by rw[WE];omega)]
         have d3:((r++post).drop 3).take 4=(r.drop 3).take 4:=by
          rw[X1 (by omega),Xt (by rw[WE];omega)]
         rw[d7,d3]
theorem vN{x:By}{s:Nat}{st:Bool}(h:(dV (some (x,s,st))).2.2=0):(dV (some (x,s,st))).2.1=jF x:=by
 unfold dV at h ⊢;simp only at h ⊢;by_cases h0:x.length=0
 ·rw[Wu h0];unfold jF;rw[Wu h0]
 · rw[Wt h0] at h ⊢
   by_cases h1:fG x≠s
   ·rw[Wu h1] at h;simp at h
   · rw[Wt h1] at h ⊢
     by_cases h2:st=true
     ·rw[Wu h2]
     · rw[Wt h2] at h ⊢
       split at h
       ·simp at h
       ·rename_i h3;rw[Wt h3]
section
variable (pre X post:List UInt8)
theorem ML{a:Int}(h0:0≤a)(h:a≤X.length):lZ (pre++(X++post)) ((pre.length:Int)+a)=kT (X.drop a.toNat++post):=by
 unfold lZ;rw[Wt (by simp only[Ww];omega)];obtain⟨n,rfl⟩:=Int.eq_ofNat_of_zero_le h0;rw[show ((pre.length:Int)+(n:Int)).toNat=pre.length+n by omega,←XC,Xs rfl,X1 (by omega),Xd]
theorem MM{a:Int}(h0:0≤a)(h:a≤X.length):lZ X (0+a)=kT (X.drop a.toNat):=by
 unfold lZ;rw[Int.zero_add,Wt (by omega)]
theorem EA{a:Int}(h0:0≤a):dR (pre++(X++post)) pre.length ((pre.length:Int)+X.length) a=dR X 0 X.length a:=by
 unfold dR;by_cases hc:(X.length:Int)<a
 ·rw[Wu (show (pre.length:Int)+X.length-pre.length<a by omega),Wu (show (X.length:Int)-0<a by omega)]
 · rw[Wt (show ¬ ((pre.length:Int)+X.length-pre.length<a) by omega),Wt (show ¬ ((X.length:Int)-0<a) by omega)]
   have hle:a≤X.length:=by omega
   unfold cM;rw[ML pre X post h0 hle,MM X h0 hle];obtain⟨r,hr⟩:∃ r,r=X.drop a.toNat:=⟨_,rfl⟩
   have hrl:(r.length:Int)=X.length-a:=by rw[hr,WE];omega
   rw[←hr];cases h1:kT (r++post) with
  |none=>
     have h2:kT r=none:=by
      cases h3:kT r with
     |none=>rfl
     |some y=>obtain⟨x,s,st⟩:=y;rw[(xS (AA h3)).2 h3] at h1;cases h1
     rw[h2,Wu (.inl (by simp[dV])),Wu (.inl (by simp[dV]))]
  |some y=>
     obtain⟨x,s,st⟩:=y;by_cases hl:jF x≤r.length
     · rw[(xS hl).1 h1]
       by_cases he:(dV (some (x,s,st))).2.2=0
       · have hn:=vN he
         simp only[Wu he];by_cases hz:(dV (some (x,s,st))).1.length=0
         ·rw[Wu (.inr (.inr hz)),Wu (.inr (.inr hz))]
         · rw[Wt (by rw[hn];rintro(h|h|h);exact h he;omega;exact hz h),Wt (by rw[hn];rintro(h|h|h);exact h he;omega;exact hz h)]
           congr 2;omega
       ·rw[Wu (.inl he),Wu (.inl he)]
     · have h2:kT r=none:=by
        cases h3:kT r with
       |none=>rfl
       |some y=>
          obtain⟨x',s',st'⟩:=y;have h4:=AA h3;rw[(xS h4).2 h3] at h1;simp only[Option.some.injEq,Prod.mk.injEq] at h1;rw[h1.1] at h4;exact absurd h4 hl
       rw[h2];refine Eq.trans (b:=none) ?_ ?_
       · by_cases he:(dV (some (x,s,st))).2.2=0
         · have hn:=vN he
           simp only[Wu he];rw[Wu (.inr (.inl (by rw[hn];omega)))]
         ·rw[Wu (.inl he)]
       ·rw[Wu (.inl (by simp[dV]))]
end
theorem GS{im im':By}{fr to fr' to':Int}(H:∀ a,0≤a→dR im fr to a=dR im' fr' to' a)(n m:Nat):∀ (at_:Int) (i:Nat) (out:By),n-out.length=m→0≤at_→rdL im fr to n at_ i out=rdL im' fr' to' n at_ i out:=by
 induction m using Nat.strongRecOn with
|ind m ih=>
   intro at_ i out hm h0;by_cases h:out.length<n
   · have hH:=H at_ h0
     cases hh:dR im fr to at_ with
    |none=>rw[vZ h hh,vZ h (hH.symm.trans hh)]
    |some p=>
       obtain⟨b,nx⟩:=p;have hh':=hH.symm.trans hh;by_cases hi:b.length≤i
       ·rw[A4 h hh hi,A4 h hh' hi]
       · obtain⟨s1,s2,s3,s4,s5,s6,s7,s8⟩:=C4 hh
         obtain⟨x,hx⟩:∃ x,x=(b.drop i).take (n-out.length):=⟨_,rfl⟩
         have hxl:x.length=min (b.length-i) (n-out.length):=by rw[hx,WB,WE];omega
         have hal:(out++x).length=out.length+x.length:=Ww;by_cases h1:i+x.length=128
         · rw[pR h hh hi (by rw[←hx];exact h1),pR h hh' hi (by rw[←hx];exact h1),←hx]
           exact ih (n-(out++x).length) (by omega) nx 0 (out++x) rfl (by omega)
         · by_cases h2:(out++x).length<n
           ·rw[A5 h hh hi (by rw[←hx];exact h1) (by rw[←hx];exact h2),A5 h hh' hi (by rw[←hx];exact h1) (by rw[←hx];exact h2)]
           · rw[Ef h hh hi (by rw[←hx];exact h1) (by rw[←hx];exact h2),Ef h hh' hi (by rw[←hx];exact h1) (by rw[←hx];exact h2),←hx]
             exact ih (n-(out++x).length) (by omega) at_ (i+x.length) (out++x) rfl h0
   ·rw[uJ h,uJ h]
theorem FX(pre X post:By):qB (pre++(X++post)) pre.length ((pre.length:Int)+X.length)=true:=by
 unfold qB;simp only[Ww,WW,decide_eq_true_eq];omega
theorem CV(X:By):qB X 0 X.length=true:=by
 unfold qB;simp only[WW,decide_eq_true_eq];omega
theorem GR(pre X post:By):aI (pre++(X++post)) pre.length ((pre.length:Int)+X.length)=aI X 0 X.length:=by
 funext ref n;unfold aI;by_cases h:ref<0∨n<0
 ·rw[Wu h,Wu h]
 · rw[Wt h,Wt h,Wt (by rw[FX];simp),Wt (by rw[CV];simp)]
   exact GS (fun a ha=>EA pre X post ha) _ _ _ _ _ rfl (by omega)
section
variable {im im':List UInt8}{fr to fr' to':Int}
theorem vJ(H:aI im fr to=aI im' fr' to')(w:Int):∀ (k:Nat) (ref:Int),AR im fr to w k ref=AR im' fr' to' w k ref
|0,_=>rfl
|k+1,ref=>by rw[vK,vK,H,vJ H w k]
theorem zG(H:aI im fr to=aI im' fr' to')(M:qB im fr to=qB im' fr' to')(many w:Int):tnS im fr to many w=tnS im' fr' to' many w:=by
 unfold tnS;rw[H,M,vJ H]
theorem D5(H:aI im fr to=aI im' fr' to')(ref:Int):tU im fr to ref=tU im' fr' to' ref:=by unfold tU;rw[H]
theorem vX(H:aI im fr to=aI im' fr' to'):∀ (k:Nat) (ref:Int),A1 im fr to k ref=A1 im' fr' to' k ref
|0,_=>rfl
|k+1,ref=>by rw[nH,nH,D5 H,vX H k]
theorem D2(H:aI im fr to=aI im' fr' to')(ref:Int):D4 im fr to ref=D4 im' fr' to' ref:=by
 unfold D4;rw[H,vX H]
theorem Ez(H:aI im fr to=aI im' fr' to')(ref:Int):lX im fr to ref=lX im' fr' to' ref:=by
 unfold lX;rw[H]
end
theorem FG{s:Int×By}{z n:Int}(h:s.1=0)(hb:¬ gD z n):dP n s z=(0,s.2++le z n.toNat):=by
 have h1:fH s.1 z n=0:=by rw[bT hb,h]
 have h2:dP n s z=(fH s.1 z n,oA s.1 s.2 z n):=rfl;rw[h2,h1,iT h1]
def enW(w:Nat)(l:List Int):By:=l.flatMap fun x=>le x w
def inW(w:Nat)(l:List Int):Prop:=∀ x∈l,0≤x∧x<256 ^ w
def w24(w:Nat):Prop:=w=2∨w=4
theorem Su{w:Nat}(hw:w24 w){z:Int}(h0:0≤z)(h1:z<256 ^ w):¬ gD z w:=by
 rcases hw with rfl|rfl
 ·exact eD (m:=65535) (by decide) (by decide) h0 (by have:z<65536:=h1;omega) (by decide)
 ·exact eD (m:=4294967295) (by decide) (by decide) h0 (by have:z<4294967296:=h1;omega) (by decide)
theorem qX(w:Nat)(l:List Int):(enW w l).length=w*l.length:=by
 induction l with
|nil=>rfl
|cons x r ih=>show (le x w++enW w r).length=_;rw[Ww,aY,ih,WT,Nat.mul_succ];omega
theorem Ad{w:Nat}(hw:w24 w):∀ (l:List Int) (s:Int×By),s.1=0→inW w l→l.foldl (dP (w:Int)) s=(0,s.2++enW w l)
|[],s,h,_=>by show s=_;rw[show enW w []=[] from rfl,List.append_nil,←h]
|x::r,s,h,hl=>by
   have h1:=hl x (by simp);rw[XA,FG h (Su hw h1.1 h1.2),Ad hw r _ rfl (fun y hy=>hl y (by simp[hy]))];show (0,s.2++le x (w:Int).toNat++enW w r)=(0,s.2++(le x w++enW w r))
   rw[WL,Xd]
theorem mJ{w:Nat}(hw:w24 w){l:List Int}(h:inW w l):aJ l (w:Int)=(enW w l,0):=by
 unfold aJ;rw[Wu (by rcases hw with rfl|rfl;exact .inl rfl;exact .inr rfl)];have:lU l (w:Int)=(0,enW w l):=by unfold lU;rw[Ad hw l _ rfl h];rfl
 rw[this];rfl
theorem Kj(w:Nat)(l:List Int)(i:Nat)(h:i<l.length):∃ z,(enW w l).drop (w*i)=le (l.getD i 0) w++z:=by
 have e:l=l.take i++(l.getD i 0::l.drop (i+1)):=by
  rw[show l.getD i 0=l[i] by simp[WI,h],←Xv h,WX]
 refine⟨enW w (l.drop (i+1)),?_⟩;have e2:enW w l=enW w (l.take i)++(le (l.getD i 0) w++enW w (l.drop (i+1))):=by
  conv=>lhs;rw[e]
  unfold enW;rw[Yg];rfl
 rw[e2];have hl:(enW w (l.take i)).length=w*i:=by rw[qX,WB,XG (by omega)]
 rw[Xs hl]
theorem NR(T:By):aM T 0=0:=by simp[aM,frW]
section
variable {T:List UInt8}
theorem Cv{o m:Nat}(h:o+m≤T.length):aI (frW T (nF T)) 0 (frW T (nF T)).length (aM T o:Nat) (m:Nat)=((T.drop o).take m,((aM T (o+m):Nat):Int),0):=by
 have:=Ee T [] [] h;rwa[uQ,uB] at this
theorem LJ{o m:Nat}(ho:o≤T.length)(h:T.length<o+m):aI (frW T (nF T)) 0 (frW T (nF T)).length (aM T o:Nat) (m:Nat)=([],0,2):=by
 have:=GQ T [] [] ho h;rwa[uQ,uB] at this
theorem Og:qB (frW T (nF T)) 0 (frW T (nF T)).length=true:=by have:=Jm T [] [];rwa[uQ,uB] at this
end
section
variable {l:List Int}{w:Nat}
theorem N9(hw:w24 w)(h16:inW w l){i:Nat}(h:i<l.length):aI (frW (enW w l) (nF (enW w l))) 0 (frW (enW w l) (nF (enW w l))).length (aM (enW w l) (w*i):Nat) w=(le (l.getD i 0) w,((aM (enW w l) (w*(i+1)):Nat):Int),0)∧((cC (le (l.getD i 0) w):Nat):Int)=l.getD i 0:=by
 have hm:w*(i+1)≤w*l.length:=Nat.mul_le_mul_left w h;have h1:=Cv (T:=enW w l) (o:=w*i) (m:=w) (by rw[qX,←Nat.mul_succ];exact hm);obtain⟨z,hz⟩:=Kj w l i h;rw[hz,Xz (aY _ _),←Nat.mul_succ] at h1;have hx:=h16 (l.getD i 0) (by rw[WI,Wv h];exact Xw _);exact⟨h1,mZ w _ hx.1 hx.2⟩
theorem BV(hw:w24 w)(h16:inW w l):∀ (m i:Nat),i+m≤l.length→AR (frW (enW w l) (nF (enW w l))) 0 (frW (enW w l) (nF (enW w l))).length w m (aM (enW w l) (w*i):Nat)=some ((l.drop i).take m,((aM (enW w l) (w*(i+m)):Nat):Int))
|0,i,_=>by simp[AR]
|m+1,i,h=>by
   obtain⟨h1,h2⟩:=N9 hw h16 (i:=i) (by omega);rw[vK,h1];simp only;rw[Wt (fun h=>h rfl),BV hw h16 m (i+1) (by omega),h2];rw[Xv (by omega:i<l.length),List.take_succ_cons];simp only[Ym,show i+1+m=i+(m+1) by omega];simp[WI,show i<l.length by omega]
theorem Fo(hw:w24 w)(h16:inW w l):tnS (frW (enW w l) (nF (enW w l))) 0 (frW (enW w l) (nF (enW w l))).length l.length w=(l,0):=by
 have h1:=BV hw h16 l.length 0 (by omega);rw[Nat.mul_zero,NR,List.drop_zero,Xg,Xp] at h1;refine Ih (by rcases hw with rfl|rfl<;>omega) Og h1 ?_;have h2:=LJ (T:=enW w l) (o:=w*l.length) (m:=1) (by rw[qX];omega) (by rw[qX];omega);have h2:aI (frW (enW w l) (nF (enW w l))) 0 (frW (enW w l) (nF (enW w l))).length (aM (enW w l) (w*l.length):Nat) 1=([],0,2):=h2;rw[h2];decide
end
def lM(s:By):By:=WP s.length::s
def gB(x:Xa):By:=lM x.1++lM x.2
def cU(X:List Xa):By:=WP X.length::X.flatMap gB
theorem qV(s:By):(lM s).length=1+s.length:=by simp[lM];omega
theorem Fm{s:Int×By}{t:By}(h:s.1=0)(ht:t.length≤255):vG s t=(0,s.2++lM t):=by
 have h1:=(iS h ht).1;have h2:vG s t=(nY s.1 t,mC s.1 s.2 t):=rfl;have h3:nY s.1 t=0:=h1;rw[h2,h3];unfold mC lM;rw[Wt (by omega)]
theorem Fe{X:List Xa}(h:dF X):∀ k,k≤X.length→xSt X k=(0,WP X.length::(X.take k).flatMap gB)
|0,_=>by
   have hb:=nD (n:=X.length) (by have:=h.2;omega);show dP 1 (0,[]) X.length=_;rw[FG rfl hb];have:=Bk X.length;simp only[Xc,List.take_zero,List.flatMap_nil];rw[show (1:Int).toNat=1 from rfl,this]
|k+1,hk=>by
   obtain⟨_,g2,_,g4⟩:=h.1 k (by omega);rw[vC X k (by omega),Fe h k (by omega)];unfold xF;have i1:=Fm (s:=(0,WP X.length::(X.take k).flatMap gB)) (t:=(X.getD k x0).1) rfl (by omega);rw[i1,Fm rfl (by omega)];rw[WV (by omega:k<X.length),Yg];simp[gB,WI,show k<X.length by omega]
theorem rR{X:List Xa}(h:dF X)(h0:0<X.length):kF X=(cU X,0):=by
 unfold kF;rw[Wt (by rintro(h1|h1);omega;exact h1 h),Fe h _ (WC _),Xg];rfl
theorem Ib{T rest s:By}{o:Nat}(hd:T.drop o=lM s++rest)(hs:s.length≤255):tU (frW T (nF T)) 0 (frW T (nF T)).length (aM T o:Nat)=(s,((aM T (o+(lM s).length):Nat):Int),0):=by
 have hl:(lM s++rest).length=T.length-o:=by rw[←hd,WE]
 rw[Ww,qV] at hl;have h1:=Cv (T:=T) (o:=o) (m:=1) (by omega);have h1:aI (frW T (nF T)) 0 (frW T (nF T)).length (aM T o:Nat) 1=_:=h1;rw[hd] at h1;have e1:(lM s++rest).take 1=[WP s.length]:=rfl;rw[e1] at h1;have hn:(WP s.length).toNat=s.length:=by rw[Xj];omega
 rw[NP (by rw[h1]),h1];simp only[List.getD_cons_zero];rw[hn];have h2:=Cv (T:=T) (o:=o+1) (m:=s.length) (by omega);have e2:T.drop (o+1)=s++rest:=by rw[←XC,hd];rfl
 rw[e2,Xz rfl] at h2;rw[h2,qV,Nat.add_assoc]
def Ar(Y:List Xa):List By:=Y.flatMap fun x=>[x.1,x.2]
theorem CD(a b:By)(r:List By):mM (a::b::r)=(a,b)::mM r:=by
 unfold mM;rw[show (a::b::r).length/2=r.length/2+1 by simp only[WT];omega,List.range_succ_eq_map,Xo,XL];congr 1
theorem mU:∀ Y:List Xa,mM (Ar Y)=Y
|[]=>rfl
|x::r=>by
   have e:Ar (x::r)=x.1::x.2::Ar r:=rfl;rw[e,CD,mU r]
theorem M8{T:By}:∀ (Y:List Xa) (o:Nat) (rest:By),(∀ x∈Y,x.1.length≤255∧x.2.length≤255)→T.drop o=Y.flatMap gB++rest →
 A1 (frW T (nF T)) 0 (frW T (nF T)).length (2*Y.length) (aM T o:Nat)=some (Ar Y,((aM T (o+(Y.flatMap gB).length):Nat):Int))
|[],o,rest,_,_=>by simp[A1,Ar]
|x::r,o,rest,hb,hd=>by
   obtain⟨b1,b2⟩:=hb x (by simp);have hd1:T.drop o=lM x.1++(lM x.2++(r.flatMap gB++rest)):=by rw[hd];simp[gB]
   have h1:=Ib hd1 b1;have hd2:T.drop (o+(lM x.1).length)=lM x.2++(r.flatMap gB++rest):=by rw[←XC,hd1,Xs rfl]
   have h2:=Ib hd2 b2;have hd3:T.drop (o+(lM x.1).length+(lM x.2).length)=r.flatMap gB++rest:=by rw[←XC,hd2,Xs rfl]
   have h3:=M8 r _ rest (fun y hy=>hb y (by simp[hy])) hd3;rw[WT,show 2*(r.length+1)=2*r.length+1+1 by omega,nH,h1];simp only;rw[Wt (fun h=>h rfl),nH,h2];simp only;rw[Wt (fun h=>h rfl),h3];simp only[Ym];congr 1;refine Yl rfl ?_;show ((aM T _:Nat):Int)=((aM T _:Nat):Int)
   congr 2;simp[gB];omega
theorem OX{T rest:By}{o:Nat}{X:List Xa}(hm:dF X)(h0:0<X.length)(hd:T.drop o=cU X++rest):D4 (frW T (nF T)) 0 (frW T (nF T)).length (aM T o:Nat)=(X,0):=by
 have hl:(cU X++rest).length=T.length-o:=by rw[←hd,WE]
 have hl1:1≤(cU X).length:=by simp[cU]
 rw[Ww] at hl;have h1:=Cv (T:=T) (o:=o) (m:=1) (by omega);have h1:aI (frW T (nF T)) 0 (frW T (nF T)).length (aM T o:Nat) 1=_:=h1;rw[hd] at h1;have e1:(cU X++rest).take 1=[WP X.length]:=rfl;rw[e1] at h1;have h8:=hm.2;have hn:(WP X.length).toNat=X.length:=by rw[Xj];omega
 have hd2:T.drop (o+1)=X.flatMap gB++rest:=by rw[←XC,hd];rfl
 have hb:∀ x∈X,x.1.length≤255∧x.2.length≤255:=fun x hx=>by
  obtain⟨i,hi,rfl⟩:=Xn hx;obtain⟨_,g2,_,g4⟩:=hm.1 i hi;have e:X.getD i x0=X[i]:=by simp[WI,hi]
  rw[e] at g2 g4;omega
 have h2:=M8 X (o+1) rest hb hd2;have hg:¬ ((aI (frW T (nF T)) 0 (frW T (nF T)).length (aM T o:Nat) 1).2.2≠0∨((aI (frW T (nF T)) 0 (frW T (nF T)).length (aM T o:Nat) 1).1.getD 0 0).toNat=0∨8<((aI (frW T (nF T)) 0 (frW T (nF T)).length (aM T o:Nat) 1).1.getD 0 0).toNat):=by
  rw[h1];simp only[List.getD_cons_zero];rw[hn];rintro(h|h|h);exact h rfl;omega;omega
 have h3:=IG hg (l:=Ar X) (r:=((aM T (o+1+(X.flatMap gB).length):Nat):Int)) (by rw[h1];simp only[List.getD_cons_zero];rw[hn];exact h2) (by rw[mU];exact hm);rw[h3,mU]
end Go.Proofs.YthmmmagklhiiiaaGreatDoor
