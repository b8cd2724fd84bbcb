/- lamella: what the law needs. No condition beyond the bounds that each states. -/
import Derived.Maps.RangeRun
import Derived.Lib.SliceRun
import Derived.Test.YthdecfkdgdagcaaGreatMountReadsQ3
namespace Go.Proofs.YthdecfkdgdagcaaGreat
open Go Go.RowKit
set_option linter.unusedVariables false
set_option linter.unusedSectionVars false
set_option maxHeartbeats 64000000
open List (map_set)
open Option (getD_some)
open List renaming getElem?_eq_getElem → ZQ, length_append → ZR, getElem?_eq_some_iff → ZS, length_take → ZT, length_singleton → ZU, mem_of_getElem? → ZW, length_drop → ZX, getD → Z2, append_assoc → Z6, length_nil → Z7, eq_nil_of_length_eq_zero → Z9, length_map → aa, getElem?_of_mem → ab, mem_singleton → ai, length_cons → al, take_succ_eq_append_getElem → am, mem_append → an, nil_append → aq, getElem?_append_left → au, mem_map → av, mem_cons → aw, getElem?_map → ax, take_length → be, replicate → bg, pairwise_iff_getElem → bj, range → bu, length_pos_iff → bw, drop_eq_getElem_cons → bz, ext_getElem? → cd, getElem?_set → cg, length_set → cm, length → cv, findIdx?_eq_some_iff_getElem → cw, getElem?_append_right → da, drop_of_length_le → de, findIdx?_eq_none_iff → dk, map_append → dr, mem_or_eq_of_mem_set → eu, nodup_append → fg, drop_zero → ix
open Classical renaming byContradiction → ZY, not_not → br
open _root_.Nat renaming zero_le → ZZ, le_refl → Z0, le_trans → aj, blt → ba, blt_eq → dg, lt_trichotomy → fb, zero_mul → ii, beq → ja
open _root_.Array renaming getElem?_eq_some_iff → Z1
open Decidable renaming not_not → Z5
open Go.Op renaming bytesLess → Z8
open _root_.Option renaming map_eq_some_iff → ae, map_some → dp, some → dx, isSome_iff_exists → fj
open UInt8 renaming ofNat → af, toNat_lt → dl
open _root_.Bool renaming and_eq_true → ag
open _root_.Int renaming toNat_natCast → ak
open Prod renaming ext → fm
def chainB:By→List Ent→Bool
|_,[]=>true
|last,x::r=>decide (kF x last) && chainB x.1 r
theorem A0:∀ (L:List Ent) (last:By),chainB last L=true↔aT last L
|[],_=>by simp[chainB,aT]
|x::r,last=>by simp only[chainB,aT,ag,decide_eq_true_eq,A0 r]
instance (last:By)(L:List Ent):Decidable (aT last L):=decidable_of_iff _ (A0 L last)
theorem WrO.bound{cs:Int→Value→List Value}{T:TypeId}{D D':Nat→Prop}{H:Array Obj}{p:Nat}{E:Int}{xs:By}(h:WrO cs T D H p E xs)(hd:∀ k,D k→k<H.size→D' k):WrO cs T D' H p E xs:=by
 have hl:=h.lt;obtain⟨ao,c,hg,ho,h1,h2,h3⟩:=h;exact⟨ao,c,hg,ho,h1,hd _ h2 hl,fun k hk=>hd k (h3 k hk) (by obtain⟨a,ha,rfl⟩:=hk;exact ho.lt a ha)⟩
def iO(L:List Ent):By×Int:=if aT [] L then (bE L,0) else ([],1)
theorem CR:∀ {L:List Ent} {last:By} {i:Nat} {x:Ent},aT last L→L[i]?=some x→kF x (if i=0 then last else (L.getD (i-1) lJ).1)
|[],_,_,_,_,h=>by simp at h
|y::r,last,0,x,h,hx=>by simp at hx;subst hx;exact h.1
|y::r,last,i+1,x,h,hx=>by
   have:=CR (i:=i) h.2 (by simpa using hx);rw[ZO (by omega)];by_cases hi:i=0
   ·subst hi;simpa using this
   · rw[ZO hi] at this
     have e:(y::r).getD (i+1-1) lJ=r.getD (i-1) lJ:=by
      obtain⟨k,rfl⟩:∃ k,i=k+1:=⟨i-1,by omega⟩
      simp
     rw[e];exact this
theorem lV{L:List Ent}{i:Nat}{x:Ent}(hx:L[i]?=some x):L.take (i+1)=L.take i++[x]:=by
 obtain⟨h,rfl⟩:=ZS.1 hx;exact am h
theorem AA{L:List Ent}{i:Nat}(h0:0<i)(h:i≤L.length):oH (L.take i)=(L.getD (i-1) lJ).1:=by
 obtain⟨k,rfl⟩:∃ k,i=k+1:=⟨i-1,by omega⟩
 have hk:k<L.length:=by omega
 rw[lV (ZQ hk),AB];simp[Z2,hk]
theorem AS{L:List Ent}{last:By}(h:aT last L):(bE L).length≤261*L.length:=by
 induction L generalizing last with
|nil=>simp[bE]
|cons x r ih=>
   have h1:=ih h.2;have h2:=Mp h.1;show (nM x++bE r).length≤_;rw[ZR,oO,al];omega
theorem BS(D:Nat→Prop)(p:Nat)(xs s:By)(W:World)(hs:s.length≤255)(hP:WrR D W.heap p 0 xs)(hD:∀ k,W.heap.size≤k→D k)(hb:xs.length≤549755813888) :
 CA 105 [pT p,.string (bs s)] W fun v w'=>WrR D w'.heap p 0 (xs++(af s.length::s))∧aA D W w':=by
 refine(uB D p 0 xs s W hP hD hb (by omega)).mono ?_;rintro e w' ⟨v,rfl,h1,h2⟩;have e1:nE 0 s=0:=by unfold nE;rw[ZO (by decide),ZO (by omega)]
 have e2:oX 0 xs s=xs++(af s.length::s):=by unfold oX;rw[ZO (by omega)]
 rw[e1,e2] at h1;exact⟨_,rfl,h1,h2⟩
theorem T9{x:Ent}(h:Kf x):¬ iS x.2.1 1:=gN (m:=255) (by decide) (by decide) h.2.1 (by have:=h.2.2.1;omega) (by decide)
theorem T8{x:Ent}(h:Kf x):¬ iS x.2.2 4:=gN (m:=4294967295) (by decide) (by decide) h.2.2.2.1 h.2.2.2.2 (by decide)
theorem Ad(lo:Option Addr)(lc:Nat)(L:List Ent)(W:World)(hv:VwM 3 bH W.heap lo lc L)(hsm:∀ x∈L,x.1.length≤maxLen)(hll:L.length≤1073741824) :
 CA 56 [.slice lo L.length lc] W (xB W (iO L)):=by
 obtain⟨p,ep⟩:∃ p,p=W.heap.size:=⟨_,rfl⟩
 refine cS 67 [(0,_)] Tryz.func56 ?_;refine Gz 8 ?_;refine cL (WA sR mQ rfl rfl) ?_;refine Wn mQ rfl ?_;intro w1 hg1 hs1 hf1;rw[←ep] at hg1 ⊢;refine sA rfl tJ (by simp[Value.oneCell']) hg1 ?_;intro w1b hg1b hs1b hf1b;have hF1:aA nob W w1b:=hf1.tw hf1b;refine Gz 9 ?_;refine Wp (β:=Nat) (fun i=>[(0,.slice lo L.length lc),(4,pT p),(5,iV i)]) (fun i w=>i≤L.length∧aT [] (L.take i)∧WrR (fun k=>p≤k∧k<w.heap.size) w.heap p 0 (bE (L.take i))∧aA nob W w) (fun i=>L.length-i) 0 ⟨rfl,rfl,rfl,trivial⟩ ⟨ZZ _,trivial,ZC hg1b ⟨Z0 _,(Z1.1 hg1b).1⟩,hF1⟩ ?_;rintro i w2 ⟨hi,hch,hP2,hF2⟩;refine fK 6 ?_ ?_<;>intro h11
 ·have hil:i<L.length:=by omega
  obtain⟨x,hx⟩:∃ x,L[i]?=some x:=⟨_,ZQ hil⟩
  have hxm:=hsm x (ZW hx);have hv2:=hv.ZM hF2;have hchl:=AS hch;have htl:(L.take i).length=i:=by rw[ZT];omega
  have hnext:aT [] L→kF x (if i=0 then [] else (L.getD (i-1) lJ).1):=fun h=>CR h hx;refine Gz 11 ?_;refine cL (Wj lW rfl rfl hv2.non (by omega)) ?_;refine cL (Ws (cs:=bH x) eA rfl (fun j v hj=>hv2.rowZ i rfl hx j v hj)) ?_;refine Wn pR rfl ?_;intro w3 hg3 hs3 hf3;obtain⟨q,eq⟩:∃ q,q=w2.heap.size:=⟨_,rfl⟩
  rw[←eq] at hg3 ⊢;refine sA rfl eA (by exact fT _) hg3 ?_;intro w4 hg4 hs4 hf4;have hF24:aA nob w2 w4:=hf3.tw hf4;have hv4:=hv2.ZM hF24;have hF4:=hF2.trans hF24;have hz2:=hF2.size;refine Gz 4 ?_;refine Wv 39 (fun H=>H[q]?=some (.cells (bH x).toArray 39 (0,0))∧VwM 3 bH H lo lc L) [2] [0,1,2,3,4,5,6,7,8,9,10,11,12,13,14,15,16,17,18,19,20,21,22,23,24,25,26,27,28,29,30,31,32,33,34,35,36,37,38] aK (by kernel_rfl) (⟨hg4,hv4⟩) ?_;refine Gz 2 ?_;refine Wo rfl rfl (Wh Qf rfl (BP x.1 _ hxm) rfl ?_);rintro _ wq ⟨rfl,rfl⟩;refine Wu (by exact⟨hg4,hv4⟩) ?_;refine xK 0 ?_ ?_<;>intro h21
  ·refine Gz 52 ?_;have hno:¬ aT [] L:=fun h=>by
    obtain⟨m1,m2,m3,m4,m5,m6⟩:=hnext h;by_cases hi0:i=0
    ·first|exact h21 m1|omega
    · rw[ZO hi0] at m2
      first|exact h21 m1|(rw[hyd] at m2;exact hge m2)|omega
   have e:iO L=([],1):=ZO hno;rw[e];exact⟨_,rfl,none,0,rfl,Zu,Zs,hF4.draws 1⟩
  refine xW 2 ?_ ?_<;>intro h24
  ·have hpos:0<i:=by omega
   obtain⟨y,hy⟩:∃ y,L[i-1]?=some y:=⟨_,ZQ (by omega)⟩
   have hyd:L.getD (i-1) lJ=y:=by rw[Z2,hy];rfl
   refine Gz 4 ?_;refine xV rfl (Wj lW rfl rfl hv4.non (by omega)) ?_;refine Gz 1 ?_;refine xV rfl (Wt gH rfl (fun H hH=>hH.2.rowZ (i-1) (by omega) hy 0 _ rfl)) ?_;refine Gz 2 ?_;refine Xk rfl rfl rfl rfl (WK (Yb (a:=y.1) (b:=x.1) rfl rfl)) rfl (fun h34=>?_) (fun h34=>?_)
   ·have hge:¬ Z8 y.1 x.1=true:=by simpa using h34
    refine xV rfl (Xq rfl rfl) ?_;refine Gz 38 ?_;have hno:¬ aT [] L:=fun h=>by
     obtain⟨m1,m2,m3,m4,m5,m6⟩:=hnext h;by_cases hi0:i=0
     ·first|exact h21 m1|omega
     · rw[ZO hi0] at m2
       first|exact h21 m1|(rw[hyd] at m2;exact hge m2)|omega
    have e:iO L=([],1):=ZO hno;rw[e];exact⟨_,rfl,none,0,rfl,Zu,Zs,hF4.draws 1⟩
   have hlt:Z8 y.1 x.1=true:=by simpa using h34
   refine xV rfl (Xq rfl rfl) ?_;refine xW 4 ?_ ?_<;>intro h40
   ·refine Gz 33 ?_;have hno:¬ aT [] L:=fun h=>by
     obtain⟨m1,m2,m3,m4,m5,m6⟩:=hnext h;by_cases hi0:i=0
     ·first|exact h21 m1|omega
     · rw[ZO hi0] at m2
       first|exact h21 m1|(rw[hyd] at m2;exact hge m2)|omega
    have e:iO L=([],1):=ZO hno;rw[e];exact⟨_,rfl,none,0,rfl,Zu,Zs,hF4.draws 1⟩
   refine xW 4 ?_ ?_<;>intro h45
   ·refine Gz 28 ?_;have hno:¬ aT [] L:=fun h=>by
     obtain⟨m1,m2,m3,m4,m5,m6⟩:=hnext h;by_cases hi0:i=0
     ·first|exact h21 m1|omega
     · rw[ZO hi0] at m2
       first|exact h21 m1|(rw[hyd] at m2;exact hge m2)|omega
    have e:iO L=([],1):=ZO hno;rw[e];exact⟨_,rfl,none,0,rfl,Zu,Zs,hF4.draws 1⟩
   refine xW 4 ?_ ?_<;>intro h50
   ·refine Gz 23 ?_;have hno:¬ aT [] L:=fun h=>by
     obtain⟨m1,m2,m3,m4,m5,m6⟩:=hnext h;by_cases hi0:i=0
     ·first|exact h21 m1|omega
     · rw[ZO hi0] at m2
       first|exact h21 m1|(rw[hyd] at m2;exact hge m2)|omega
    have e:iO L=([],1):=ZO hno;rw[e];exact⟨_,rfl,none,0,rfl,Zu,Zs,hF4.draws 1⟩
   refine xW 4 ?_ ?_<;>intro h55
   ·refine Gz 18 ?_;have hno:¬ aT [] L:=fun h=>by
     obtain⟨m1,m2,m3,m4,m5,m6⟩:=hnext h;by_cases hi0:i=0
     ·first|exact h21 m1|omega
     · rw[ZO hi0] at m2
       first|exact h21 m1|(rw[hyd] at m2;exact hge m2)|omega
    have e:iO L=([],1):=ZO hno;rw[e];exact⟨_,rfl,none,0,rfl,Zu,Zs,hF4.draws 1⟩
   refine Gz 10 ?_;have hgood:kF x (if i=0 then [] else (L.getD (i-1) lJ).1):=by
    refine⟨Z5.1 h21,?_,by omega,by omega,by omega,by omega⟩;by_cases hi0:i=0
    ·rw[ZP hi0,Ax];exact(oV (Z5.1 h21)).2.1
    · rw[ZO hi0]
      first|exact absurd hz hi0|(rw[hyd];exact hlt)
   have hfit:=mH hgood;refine Wh FG rfl (BS (fun k=>p≤k∧k≠q) p (bE (L.take i)) x.1 (w4.drewN 1) hfit.1 ((hP2.ZN hF24 (fun _ _=>id)).mono (fun k hk=>⟨hk.1,by omega⟩)) (fun k hk=>⟨by have:w4.heap.size≤k:=hk;have:=hF4.size;omega,by have h1:w4.heap.size≤k:=hk;have h2:q<w4.heap.size:=(Z1.1 hg4).1;omega⟩) (by omega)) rfl ?_;rintro _ w5 ⟨hP5,hF5⟩;have hF5:=hF5.ZK;have hg5:=hF5.obj hg4 (fun h=>h.2 rfl);have hz5:=hF5.size;refine Gz 6 ?_;refine Wh iJ rfl (nW (fun k=>p≤k∧k≠q) p (bE (L.take i)++(af x.1.length::x.1)) x.2.1 1 w5 (T9 hfit) hP5 (fun k hk=>⟨by omega,by omega⟩) (by simp only[ZR,al];have:=hfit.1;omega)) rfl ?_;rintro _ w6 ⟨hP6,hF6⟩;have hg6:=hF6.obj hg5 (fun h=>h.2 rfl);have hz6:=hF6.size;refine Gz 5 ?_;refine Wh iJ rfl (nW (fun k=>p≤k∧k≠q) p (bE (L.take i)++(af x.1.length::x.1)++le x.2.1 1) x.2.2 4 w6 (T8 hfit) hP6 (fun k hk=>⟨by omega,by omega⟩) (by simp only[ZR,al,bC];have:=hfit.1;omega)) rfl ?_;rintro _ w7 ⟨hP7,hF7⟩;have hF7a:aA nob W w7:=(((hF4.any.trans (hF5.mono (fun k h=>h.1))).trans (hF6.mono (fun k h=>h.1))).trans (hF7.mono (fun k h=>h.1))).fresh (fun k h=>by omega);refine Gz 8 ?_;refine aG (i+1) ⟨by omega,?_,?_,hF7a⟩ (by show L.length-(i+1)<L.length-i;omega)
   · rw[lV hx,kQ]
     refine⟨hch,?_⟩;by_cases hi0:i=0
     ·rw[ZP hi0] at hgood;rw[ZP (by rw[hi0];rfl)];exact hgood
     ·rw[ZO hi0] at hgood;rw[ZO (fun e=>by rw[e] at htl;simp at htl;omega),AA (by omega) (by omega)];exact hgood
   · rw[lV hx,tF]
     have e:bE (L.take i)++nM x=bE (L.take i)++(af x.1.length::x.1)++le x.2.1 1++le x.2.2 4:=by unfold nM;simp only[Z6]
     rw[e];exact hP7.bound (fun k hk h=>⟨hk.1,h⟩)
  have hz:i=0:=by omega
  refine Gz 10 ?_;refine xV rfl (Xt rfl rfl) ?_;refine xW 4 ?_ ?_<;>intro h40
  ·refine Gz 33 ?_;have hno:¬ aT [] L:=fun h=>by
    obtain⟨m1,m2,m3,m4,m5,m6⟩:=hnext h;by_cases hi0:i=0
    ·first|exact h21 m1|omega
    · rw[ZO hi0] at m2
      first|exact h21 m1|(rw[hyd] at m2;exact hge m2)|omega
   have e:iO L=([],1):=ZO hno;rw[e];exact⟨_,rfl,none,0,rfl,Zu,Zs,hF4.draws 1⟩
  refine xW 4 ?_ ?_<;>intro h45
  ·refine Gz 28 ?_;have hno:¬ aT [] L:=fun h=>by
    obtain⟨m1,m2,m3,m4,m5,m6⟩:=hnext h;by_cases hi0:i=0
    ·first|exact h21 m1|omega
    · rw[ZO hi0] at m2
      first|exact h21 m1|(rw[hyd] at m2;exact hge m2)|omega
   have e:iO L=([],1):=ZO hno;rw[e];exact⟨_,rfl,none,0,rfl,Zu,Zs,hF4.draws 1⟩
  refine xW 4 ?_ ?_<;>intro h50
  ·refine Gz 23 ?_;have hno:¬ aT [] L:=fun h=>by
    obtain⟨m1,m2,m3,m4,m5,m6⟩:=hnext h;by_cases hi0:i=0
    ·first|exact h21 m1|omega
    · rw[ZO hi0] at m2
      first|exact h21 m1|(rw[hyd] at m2;exact hge m2)|omega
   have e:iO L=([],1):=ZO hno;rw[e];exact⟨_,rfl,none,0,rfl,Zu,Zs,hF4.draws 1⟩
  refine xW 4 ?_ ?_<;>intro h55
  ·refine Gz 18 ?_;have hno:¬ aT [] L:=fun h=>by
    obtain⟨m1,m2,m3,m4,m5,m6⟩:=hnext h;by_cases hi0:i=0
    ·first|exact h21 m1|omega
    · rw[ZO hi0] at m2
      first|exact h21 m1|(rw[hyd] at m2;exact hge m2)|omega
   have e:iO L=([],1):=ZO hno;rw[e];exact⟨_,rfl,none,0,rfl,Zu,Zs,hF4.draws 1⟩
  refine Gz 10 ?_;have hgood:kF x (if i=0 then [] else (L.getD (i-1) lJ).1):=by
   refine⟨Z5.1 h21,?_,by omega,by omega,by omega,by omega⟩;by_cases hi0:i=0
   ·rw[ZP hi0,Ax];exact(oV (Z5.1 h21)).2.1
   · rw[ZO hi0]
     first|exact absurd hz hi0|(rw[hyd];exact hlt)
  have hfit:=mH hgood;refine Wh FG rfl (BS (fun k=>p≤k∧k≠q) p (bE (L.take i)) x.1 (w4.drewN 1) hfit.1 ((hP2.ZN hF24 (fun _ _=>id)).mono (fun k hk=>⟨hk.1,by omega⟩)) (fun k hk=>⟨by have:w4.heap.size≤k:=hk;have:=hF4.size;omega,by have h1:w4.heap.size≤k:=hk;have h2:q<w4.heap.size:=(Z1.1 hg4).1;omega⟩) (by omega)) rfl ?_;rintro _ w5 ⟨hP5,hF5⟩;have hF5:=hF5.ZK;have hg5:=hF5.obj hg4 (fun h=>h.2 rfl);have hz5:=hF5.size;refine Gz 6 ?_;refine Wh iJ rfl (nW (fun k=>p≤k∧k≠q) p (bE (L.take i)++(af x.1.length::x.1)) x.2.1 1 w5 (T9 hfit) hP5 (fun k hk=>⟨by omega,by omega⟩) (by simp only[ZR,al];have:=hfit.1;omega)) rfl ?_;rintro _ w6 ⟨hP6,hF6⟩;have hg6:=hF6.obj hg5 (fun h=>h.2 rfl);have hz6:=hF6.size;refine Gz 5 ?_;refine Wh iJ rfl (nW (fun k=>p≤k∧k≠q) p (bE (L.take i)++(af x.1.length::x.1)++le x.2.1 1) x.2.2 4 w6 (T8 hfit) hP6 (fun k hk=>⟨by omega,by omega⟩) (by simp only[ZR,al,bC];have:=hfit.1;omega)) rfl ?_;rintro _ w7 ⟨hP7,hF7⟩;have hF7a:aA nob W w7:=(((hF4.any.trans (hF5.mono (fun k h=>h.1))).trans (hF6.mono (fun k h=>h.1))).trans (hF7.mono (fun k h=>h.1))).fresh (fun k h=>by omega);refine Gz 8 ?_;refine aG (i+1) ⟨by omega,?_,?_,hF7a⟩ (by show L.length-(i+1)<L.length-i;omega)
  · rw[lV hx,kQ]
    refine⟨hch,?_⟩;by_cases hi0:i=0
    ·rw[ZP hi0] at hgood;rw[ZP (by rw[hi0];rfl)];exact hgood
    ·rw[ZO hi0] at hgood;rw[ZO (fun e=>by rw[e] at htl;simp at htl;omega),AA (by omega) (by omega)];exact hgood
  · rw[lV hx,tF]
    have e:bE (L.take i)++nM x=bE (L.take i)++(af x.1.length::x.1)++le x.2.1 1++le x.2.2 4:=by unfold nM;simp only[Z6]
    rw[e];exact hP7.bound (fun k hk h=>⟨hk.1,h⟩)
 have hie:i=L.length:=by omega
 subst hie;rw[be] at hP2 hch;refine Gz 10 ?_;refine Wh Dx rfl (jH (fun k=>p≤k∧k<w2.heap.size) p 0 _ w2 hP2 (by have:=AS hch;omega)) rfl ?_;rintro _ w3 ⟨o3,c3,rfl,ho3,hfr3,hf3⟩;refine Gz 6 ?_;have e:iO L=(bE L,0):=ZP hch;rw[e];exact⟨_,rfl,o3,c3,rfl,ho3,hfr3.mono hF2.size,hF2.trans hf3⟩
section
open Go Go.RowKit Go.Maps
theorem Ge{ps qs:List (NdH×Nd)}(h:qs.Perm ps)(ht:¬ eQ (nds ps)):¬ eQ (nds qs):=by
 unfold eQ at *;rw[br] at *;exact((h.map (·.2)).pairwise_iff (R:=fun a b:Nd=>a.names≠b.names) (fun h e=>h e.symm)).2 ht
theorem Qu{ps:List (NdH×Nd)}(ht:¬ eQ (nds ps)){i j:Nat}{p q:NdH×Nd}(hij:i<j)(hp:(lA ps)[i]?=some p)(hq:(lA ps)[j]?=some q):cU p.2.names q.2.names=true:=by
 have e1:=ZS.1 hp;have e2:=ZS.1 hq;have h:=bj.1 (HM ps) i j e1.1 e2.1 hij;rw[e1.2,e2.2] at h;rcases oG.1 h with e|h
 ·exact absurd ((lM (lA ps)).2 ⟨i,j,p,q,hij,hp,hq,e.symm⟩) (Ge (qE ps) ht)
 ·exact h
theorem Hl{ps qs:List (NdH×Nd)}(hq:nds qs=nds (iR ps)){i:Nat}{q:NdH×Nd}(h:qs[i]?=some q):∃ p,(lA ps)[i]?=some p∧q.2=(qL (bN (lA ps)) p).2:=by
 have h1:=jN h;rw[hq] at h1;simp only[nds,iR,EY,ax,ae] at h1;obtain⟨a,⟨p,hp,e⟩,e2⟩:=h1;exact⟨p,hp,by rw[←e2,←e]⟩
theorem Pv{ps qs:List (NdH×Nd)}(hq:nds qs=nds (iR ps)):qs.length=ps.length:=by
 have:=congrArg cv hq;have h2:=(qE ps).length_eq;simp[nds,iR,EY] at this;omega
theorem Rl{ps qs:List (NdH×Nd)}(ht:¬ eQ (nds ps))(hq:nds qs=nds (iR ps)){i j:Nat}{p q:NdH×Nd}(hij:i<j)(hp:qs[i]?=some p)(h:qs[j]?=some q):cU p.2.names q.2.names=true:=by
 obtain⟨a,ha,e1⟩:=Hl hq hp;obtain⟨b,hb,e2⟩:=Hl hq h;have:=Qu ht hij ha hb;rw[e1,e2];exact this
theorem J7(a:List By):cU a []=false:=by cases a<;>rfl
theorem JI{l:List Nd}(h:plc l=0):jA l []∧∀ n∈l,n.names≠[]→jA l n.names.dropLast:=by
 unfold plc at h;by_cases h0:1024<l.length
 ·rw[ZP h0] at h;cases h
 · rw[ZO h0] at h
   by_cases h1:nmd l=0
   · rw[ZO (fun g=>g h1)] at h
     by_cases h2:jA l []
     · rw[ZO (fun g=>g h2)] at h
       by_cases h3:∃ n∈l,n.names≠[]∧¬ jA l n.names.dropLast
       ·rw[ZP h3] at h;cases h
       ·exact⟨h2,fun n hn hne=>ZY fun hd=>h3 ⟨n,hn,hne,hd⟩⟩
     ·rw[ZP h2] at h;cases h
   ·rw[ZP h1] at h;exact absurd h h1
def zR(ps:List (NdH×Nd))(i:Nat):Nat:=(dC (bN ((lA ps).take i))).length
theorem Pw{ps qs:List (NdH×Nd)}(hq:nds qs=nds (iR ps)){i:Nat}{q:NdH×Nd}(h:qs[i]?=some q):1≤q.2.ino∧q.2.ino≤(zR ps i:Int)+1∧((zR ps (i+1):Nat):Int)=if (zR ps i:Int)<q.2.ino then q.2.ino else (zR ps i:Int):=by
 obtain⟨p,hp,e⟩:=Hl hq h;have ei:q.2.ino=qU (bN (lA ps)) p.2.ino:=by rw[e];rfl
 rw[ei];refine⟨EV _ _,?_⟩;unfold zR;rw[uW hp];by_cases hm:p.2.ino∈bN ((lA ps).take i)
 · have h1:qU (bN (lA ps)) p.2.ino≤((dC (bN ((lA ps).take i))).length:Int):=by
    obtain⟨r,hr⟩:=Ek (bN ((lA ps).take i)) (p.2.ino::bN ((lA ps).drop (i+1)));rw[tA hp];unfold qU;rw[hr,List.idxOf_append,ZP (lX.2 hm)];have:=List.idxOf_lt_length_iff.2 (lX.2 hm);omega
   rw[tZ hm];exact⟨by omega,by rw[ZO (by omega)]⟩
 · have h1:qU (bN (lA ps)) p.2.ino=((dC (bN ((lA ps).take i))).length:Nat)+1:=by rw[tA hp,EW hm]
   rw[uA hm,h1];exact⟨by omega,by rw[ZP (by omega)];omega⟩
end
section
open Go Go.RowKit Go.Maps
theorem oI{l s:List By}:mP l s↔l≠[]∧l.dropLast=s:=by
 unfold mP;rw[drop_take];constructor
 · rintro⟨h1,h2⟩
   exact⟨fun e=>by rw[e] at h1;simp at h1,by rw[show l.length-1=s.length by omega];exact h2⟩
 · rintro⟨h1,h2⟩
   have h0:=bw.2 h1;have h3:s.length=l.length-1:=by rw[←h2,ZT];omega
   exact⟨by omega,by rw[h3];exact h2⟩
section
variable {ps qs:List (NdH×Nd)}
theorem yM(qs:List (NdH×Nd)){i:Nat}(h:i<qs.length):∃ p,qs[i]?=some p∧nmG qs i=p.2.names:=⟨_,ZQ h,sS (ZQ h)⟩
end
end
def Cs(b:By):Prop:=∀ i,i<b.length→b.getD i 0=0
instance (b:By):Decidable (Cs b):=by unfold Cs;exact inferInstance
theorem LA(o:Option Addr)(c:Nat)(b:By)(W:World)(hv:Vw b8 W.heap o c b) :
 CA 53 [.slice o b.length c] W fun v w'=>v=.bool (decide (Cs b))∧w'=W:=by
 have hlen:=hv.ZL;refine cS 15 [(0,_)] Tryz.func53 ?_;refine Gz 12 ?_;refine Wp (β:=Nat) (fun i=>[(0,.slice o b.length c),(3,iV i)]) (fun i w=>i≤b.length∧(∀ j,j<i→b.getD j 0=0)∧w=W) (fun i=>b.length-i) 0 ⟨rfl,rfl,trivial⟩ ⟨ZZ _,by intro j hj;omega,rfl⟩ ?_;rintro i w2 ⟨hi,hz,hw2⟩;subst hw2;refine fK 6 ?_ ?_<;>intro h7
 ·refine Gz 11 ?_;refine cL (Wi aH rfl rfl hv.non (by omega)) ?_;refine cL (Wk eC rfl (hv.gz 0 i rfl (by omega))) ?_;refine fK 0 ?_ ?_<;>intro h14
  ·have hno:¬ Cs b:=fun h=>h14 (by rw[h i (by omega)];rfl);refine Gz 15 ?_;exact⟨_,rfl,congrArg Value.bool (ZV hno).symm,rfl⟩
  have h0:b.getD i 0=0:=UInt8.toNat_inj.1 (by show _=0;omega);refine Gz 11 ?_;refine aG (i+1) ⟨by omega,?_,rfl⟩ (by show b.length-(i+1)<b.length-i;omega);intro j hj;by_cases hji:j=i
  ·rw[hji];exact h0
  ·exact hz j (by omega)
 refine Gz 15 ?_;exact⟨_,rfl,congrArg Value.bool (Z3 (fun j hj=>hz j (by omega))).symm,rfl⟩
def chB(b:By)(i:Nat):By:=(b.drop (i*128)).take 128
def hX(x:By):By:=if Cs x then [] else x
def frB(x:By):By:=(dB (hX x)).1
def gI(b:By)(n:Nat):By:=((bu n).map fun i=>frB (chB b i)).flatten
def dJ(b:By):By:=gI b (b.length/128)
def fQ(b:By):By:=b.drop (b.length/128*128)
theorem DF(b:By)(i:Nat):(chB b i).length≤128:=by unfold chB;rw[ZT];omega
theorem A7{b:By}{i:Nat}(h:i<b.length/128):(chB b i).length=128:=by unfold chB;rw[ZT,ZX];omega
theorem MK(x:By):(hX x).length≤x.length:=by unfold hX;split<;>simp
theorem Iv{x:By}(h:x.length≤128):(frB x).length≤135∧3≤(frB x).length:=by
 have h1:=MK x;have h2:=iG (b:=hX x) (by omega);unfold frB;omega
theorem lN(b:By)(n:Nat):gI b (n+1)=gI b n++frB (chB b n):=by unfold gI;rw[List.range_succ];simp
theorem nU(b:By):∀ n,(gI b n).length≤135*n∧3*n≤(gI b n).length
|0=>by simp[gI]
|n+1=>by
   have h:=nU b n;have h2:=Iv (DF b n);rw[lN,ZR];omega
def jQ:List (SK×Nat)→SK→Option Nat
|[],_=>none
|p::r,a=>if p.1=a then some p.2 else jQ r a
theorem AP{m:List (SK×Nat)}{a b:SK}{v:Nat}:jQ (m++[(a,v)]) b=match jQ m b with|some k=>some k|none=>if a=b then some v else none:=by
 induction m with
|nil=>simp[jQ]
|cons p r ih=>
   simp only[List.cons_append,jQ]
   split
   ·rfl
   ·exact ih
structure DS where
 B:By
 m:List (SK×Nat)
def KA(first:Nat)(s:DS)(r:By):DS×Nat:=match jQ s.m (pU r) with
|some k=>(s,k)
|none=>(⟨s.B++r,s.m++[(pU r,first+s.B.length)]⟩,first+s.B.length)
def jV(first:Nat)(s:DS)(b:By):DS×Nat:=if dJ b=[] then (s,0) else KA first s (dJ b)
theorem KB{first:Nat}{s:DS}{b:By}(h:(dJ b).length=0):jV first s b=(s,0):=by unfold jV;rw[ZP (List.length_eq_zero_iff.1 h)]
theorem F8{first:Nat}{s:DS}{b:By}{k:Nat}(h:(dJ b).length≠0)(hk:jQ s.m (pU (dJ b))=some k):jV first s b=(s,k):=by
 unfold jV KA;rw[ZO (fun e=>h (by rw[e];rfl)),hk]
theorem F9{first:Nat}{s:DS}{b:By}(h:(dJ b).length≠0)(hk:jQ s.m (pU (dJ b))=none):jV first s b=(⟨s.B++dJ b,s.m++[(pU (dJ b),first+s.B.length)]⟩,first+s.B.length):=by
 unfold jV KA;rw[ZO (fun e=>h (by rw[e];rfl)),hk]
def pX(first:Nat)(s:DS)(b:By):DS×Nat:=(⟨s.B++(dB b).1,s.m⟩,first+s.B.length)
theorem Oc{r:By}(h:r.length≤maxLen):pU r=⟨r,h⟩:=by unfold pU;rw[dif_pos h]
def Km(x:Hd×Nat):List Value:=[hd x.1,iV x.2]
theorem pG:iT 2 Km:=fun x=>⟨rfl,by simp[Km,Value.oneCell',hd]⟩
def Bd(D:Nat→Prop)(H:Array Obj)(ys:List (Hd×Nat))(m:List (SK×Nat)):Prop:=
 ys.length=m.length∧∀ (i:Nat) (x:Hd×Nat) (y:SK×Nat),ys[i]?=some x→m[i]?=some y→x.2=y.2∧x.1.n=y.1.1.length∧Vw b8 H x.1.a x.1.c y.1.1∧∀ k,blk x.1.a k→D k
section
variable {D D':Nat→Prop}{H:Array Obj}{ys:List (Hd×Nat)}{m:List (SK×Nat)}
theorem Bd.ZN{S:Nat→Prop}{w w':World}(h:Bd D w.heap ys m)(f:aA S w w')(hS:∀ k,D k→¬ S k):Bd D w'.heap ys m:=
 ⟨h.1,fun i x y hx hy=>by
  obtain⟨h1,h2,h3,h4⟩:=h.2 i x y hx hy;exact⟨h1,h2,h3.ZN f (fun a ha=>hS _ (h4 _ ⟨a,ha,rfl⟩)),h4⟩⟩
theorem Bd.mono(h:Bd D H ys m)(hd:∀ k,D k→D' k):Bd D' H ys m:=
 ⟨h.1,fun i x y hx hy=>by obtain⟨h1,h2,h3,h4⟩:=h.2 i x y hx hy;exact⟨h1,h2,h3,fun k hk=>hd k (h4 k hk)⟩⟩
theorem Bd.snoc(h:Bd D H ys m){s:SK}{v:Nat}{z:Hd}(h1:z.n=s.1.length)(h2:Vw b8 H z.a z.c s.1)(h4:∀ k,blk z.a k→D k):Bd D H (ys++[(z,v)]) (m++[(s,v)]):=by
 refine⟨by simp[h.1],fun i x y hx hy=>?_⟩;by_cases hi:i<ys.length
 · rw[au hi] at hx
   rw[au (by rw[←h.1];exact hi)] at hy;exact h.2 i x y hx hy
 · have hi':i=ys.length:=by
    have:=(ZS.1 hx).1;simp at this;omega
   subst hi';simp at hx;rw[h.1] at hy;simp at hy;subst hx;subst hy;exact⟨rfl,h1,h2,h4⟩
end
def rdC(first:Nat)(bo:Option Addr)(bn bc:Nat)(ro:Option Addr)(rn rc:Nat):List Value:=[iV first,.slice bo bn bc,.slice ro rn rc]
def RyO(D:Nat→Prop)(H:Array Obj)(g first:Nat)(s:DS):Prop:=
 ∃ bo bc ro rc ys,H[g]?=some (.cells (rdC first bo s.B.length bc ro (cv (α:=Hd×Nat) ys) rc).toArray 79 (0,0))∧Own b8 5 H bo bc s.B∧bJ 2 Km 143 H ro rc ys ∧
  Bd (fun k=>D k∧k≠g∧¬ blk bo k∧¬ blk ro k∧k<H.size) H ys s.m∧¬ blk bo g∧¬ blk ro g∧Ap bo ro∧D g∧(∀ k,blk bo k→D k)∧(∀ k,blk ro k→D k)
section
variable {D:Nat→Prop}{g first:Nat}{s:DS}
theorem RyO.lt{H:Array Obj}(h:RyO D H g first s):g<H.size:=by obtain⟨bo,bc,ro,rc,ys,hg,_⟩:=h;exact(Z1.1 hg).1
theorem RyO.keepTo{S E:Nat→Prop}{w w':World}(h:RyO D w.heap g first s)(hf:aA S w w')(hs:∀ k,k<w.heap.size→D k→¬ S k)(hE:∀ k,k<w.heap.size→D k→E k):RyO E w'.heap g first s:=by
 have hl:=h.lt;obtain⟨bo,bc,ro,rc,ys,hg,h1,h2,h3,h4,h5,h6,h7,h8,h9⟩:=h;have hb:∀ k,blk bo k→k<w.heap.size:=fun k ⟨a,ha,e⟩=>by have:=h1.lt a ha;omega
 have hr:∀ k,blk ro k→k<w.heap.size:=fun k ⟨a,ha,e⟩=>by have:=h2.lt a ha;omega
 exact⟨bo,bc,ro,rc,ys,hf.obj hg (hs g hl h7),h1.ZN hf (fun a ha=>hs _ (h1.lt a ha) (h8 _ ⟨a,ha,rfl⟩)),h2.ZN hf (fun a ha=>hs _ (h2.lt a ha) (h9 _ ⟨a,ha,rfl⟩)),
  (h3.ZN hf (fun k hk=>hs k hk.2.2.2.2 hk.1)).mono (fun k hk=>⟨hE k hk.2.2.2.2 hk.1,hk.2.1,hk.2.2.1,hk.2.2.2.1,by have:=hk.2.2.2.2;have:=hf.size;omega⟩),h4,h5,h6,hE g hl h7,fun k hk=>hE k (hb k hk) (h8 k hk),fun k hk=>hE k (hr k hk) (h9 k hk)⟩
theorem RyO.ZN{S:Nat→Prop}{w w':World}(h:RyO D w.heap g first s)(hf:aA S w w')(hs:∀ k,k<w.heap.size→D k→¬ S k):RyO D w'.heap g first s:=h.keepTo hf hs (fun _ _ h=>h)
theorem RE{W w1 w2:World}{bo bo' ro:Option Addr}{bc' rc:Nat}{ys:List (Hd×Nat)}{mq:List (SK×Nat)}{Bq:By}(hD:∀ k,W.heap.size≤k→D k)(hgl:g<W.heap.size)
 (hbl:∀ k,blk bo k→k<W.heap.size)(h2:bJ 2 Km 143 W.heap ro rc ys)(h3:Bd (fun k=>D k∧k≠g∧¬ blk bo k∧¬ blk ro k∧k<W.heap.size) W.heap ys mq)(h4:¬ blk bo g)(h5:¬ blk ro g)(h6:Ap bo ro)(h7:D g)(h8:∀ k,blk bo k→D k)(h9:∀ k,blk ro k→D k)
 (ho:Own b8 5 w1.heap bo' bc' Bq)(hf1:aA (blk bo) W w1)(hr:∀ a,bo'=some a→bo=some a∨W.heap.size≤a.block)
 (hg2:w2.heap[g]?=some (.cells (rdC first bo' Bq.length bc' ro ys.length rc).toArray 79 (0,0)))(hf2:aA (· = g) w1 w2) :
 RyO D w2.heap g first ⟨Bq,mq⟩∧aA D W w2:=by
 have hz:=hf1.size;have hz2:=hf2.size;have hD2:aA D W w2:=(hf1.mono h8).trans (hf2.mono (fun k h=>by have h:k=g:=h;subst h;exact h7));have hn:∀ k,k<W.heap.size→¬ blk bo k→¬ blk bo' k:=fun k hk hb ⟨a,ha,e⟩=>by
  rcases hr a ha with h|h
  ·exact hb ⟨a,h,e⟩
  ·omega
 have hrl:∀ k,blk ro k→k<W.heap.size:=fun k ⟨a,ha,e⟩=>by have:=h2.lt a ha;omega
 refine⟨⟨bo',bc',ro,rc,ys,hg2,ho.ZN hf2 (fun a ha h=>hn g hgl h4 ⟨a,ha,h⟩),(h2.ZN hf1 (fun a ha ⟨b,hb,h⟩=>h6 b a hb ha h)).ZN hf2 (fun a ha h=>h5 ⟨a,ha,h⟩),
  ((h3.ZN hf1 (fun k hk=>hk.2.2.1)).ZN hf2 (fun k hk=>hk.2.1)).mono (fun k hk=>⟨hk.1,hk.2.1,hn k hk.2.2.2.2 hk.2.2.1,hk.2.2.2.1,by have:=hk.2.2.2.2;omega⟩),hn g hgl h4,h5,fun a b ha hb e=>?_,h7,fun k ⟨a,ha,hb⟩=>?_,h9⟩,hD2⟩
 ·exact hn a.block (by have:=hrl b.block ⟨b,hb,rfl⟩;omega) (fun⟨c,hc,e2⟩=>h6 c b hc hb (e2.trans e)) ⟨a,ha,rfl⟩
 · rcases hr a ha with h|h
   ·exact h8 k ⟨a,h,hb⟩
   ·exact hD k (by omega)
end
theorem GJ(D:Nat→Prop)(g first:Nat)(s:DS)(bo0:Option Addr)(bc0:Nat)(b:By)(W:World)(hM:RyO D W.heap g first s)(hD:∀ k,W.heap.size≤k→D k)(hv:Vw b8 W.heap bo0 bc0 b)(hfi:first≤1000)(hb:s.B.length≤1099511627776)(hbl:b.length≤128) :
 CA 26 [pT g,.slice bo0 b.length bc0] W fun v w'=>v=iV ((pX first s b).2:Nat)∧RyO D w'.heap g first (pX first s b).1∧aA D W w':=by
 obtain⟨bo,bc,ro,rc,ys,hg,h1,h2,h3,h4,h5,h6,h7,h8,h9⟩:=hM;have hgl:=(Z1.1 hg).1;have hps:=iG hbl;refine cS 33 [(0,_),(1,_)] Tryz.func26 ?_;refine cA 8 Ke (nX bo0 bc0 b W hv) ?_;rintro _ w1 ⟨o1,c1,rfl,ho1,hfr1,hf1⟩;have hg1:=hf1.obj hg id;have hz1:=hf1.size;refine Gz 8 ?_;refine Wv 11 (fun H=>H[g]?=some (.cells (rdC first bo s.B.length bc ro ys.length rc).toArray 79 (0,0))) [] [0,1,2,3,4,5,6,7,8,9,10] aK (by kernel_rfl) (hg1) ?_;refine Gz 21 ?_;refine Wq aP aH rfl rfl (h1.ZM (hf1.draws 1)) ho1.vw (by omega) (by unfold maxLen;omega) rfl ?_;intro o2 c2 w2 ho2 hf2 hr2 hn2;have hf2:=hf2.ZK;have hg2:=hf2.obj hg1 h4;refine Gz 2 ?_;refine Wl aX rfl rfl rfl hg2 rfl ?_;intro w3 hg3 hs3 hf3;obtain⟨hM3,hF3⟩:=RE (W:=w1) (mq:=s.m) (first:=first) (Bq:=s.B++(dB b).1) (dV hf1 hD) (by omega) (fun k ⟨a,ha,e⟩=>by have:=h1.lt a ha;omega) (h2.ZM hf1) ((h3.ZN hf1 (fun _ _=>id)).mono (fun k hk=>⟨hk.1,hk.2.1,hk.2.2.1,hk.2.2.2.1,by have:=hk.2.2.2.2;omega⟩)) h4 h5 h6 h7 h8 h9 ho2 hf2 hr2 hg3 hf3;refine Gz 10 ?_;exact⟨_,rfl,rfl,hM3,hf1.any.trans hF3⟩
theorem Cz{a:SK}{v:Nat}:∀ {m:List (SK×Nat)} {j:Nat},jQ (m.take j) a=none→m[j]?=some (a,v)→jQ m a=some v
|[],j,_,h=>by simp at h
|p::r,0,_,h=>by
   simp at h;subst h;unfold jQ;rw[ZP rfl]
|p::r,j+1,hn,h=>by
   rw[List.take_succ_cons] at hn;unfold jQ at hn ⊢
   split at hn
   ·cases hn
   ·rename_i hp;rw[ZO hp];exact Cz hn (by simpa using h)
theorem Ha{a b:SK}{v:Nat}{m:List (SK×Nat)}{j:Nat}(hn:jQ (m.take j) a=none)(h:m[j]?=some (b,v))(hne:b≠a):jQ (m.take (j+1)) a=none:=by
 have hj:=(ZS.1 h).1;have e:m[j]=(b,v):=(ZS.1 h).2;rw[am hj,e,AP,hn];exact ZO hne
theorem LH(D:Nat→Prop)(g first:Nat)(s:DS)(bo0:Option Addr)(bc0:Nat)(b:By)(W:World)(hM:RyO D W.heap g first s)(hD:∀ k,W.heap.size≤k→D k)(hv:Vw b8 W.heap bo0 bc0 b)(hfi:first≤1000)(hb:s.B.length≤1099511627776)(hbl:b.length≤1048576)(hml:s.m.length≤1048576) :
 CA 24 [pT g,.slice bo0 b.length bc0] W fun v w'=>∃ o c,v=.tuple #[iV ((jV first s b).2:Nat),.slice o (fQ b).length c]∧Own b8 5 w'.heap o c (fQ b)∧Fr W.heap.size o∧RyO (fun k=>D k∧¬ blk o k) w'.heap g first (jV first s b).1∧aA D W w':=by
 have hM0:=hM;obtain⟨bo,bc,ro,rc,ys,hg,h1,h2,h3,h4,h5,h6,h7,h8,h9⟩:=hM;have hgl:=(Z1.1 hg).1;have hyl:=h3.1;have hbol:∀ k,blk bo k→k<W.heap.size:=fun k ⟨a,ha,e⟩=>by have:=h1.lt a ha;omega
 have hrol:∀ k,blk ro k→k<W.heap.size:=fun k ⟨a,ha,e⟩=>by have:=h2.lt a ha;omega
 refine cS 101 [(0,_),(1,_)] Tryz.func24 ?_;refine Gz 8 ?_;refine WC b8 aH rfl ?_;intro w1 ho1 hs1 hf1;refine Gz 5 ?_;refine Wp (β:=Nat×(Option Addr×Nat)×(Option Addr×Nat)) (fun⟨i,⟨oi,ci⟩,⟨ro2,rc2⟩⟩=>[(0,pT g),(1,.slice oi (b.drop (i*128)).length ci),(6,.slice ro2 (gI b i).length rc2)]) (fun⟨i,⟨oi,ci⟩,⟨ro2,rc2⟩⟩ w=>i≤b.length/128∧Vw b8 W.heap oi ci (b.drop (i*128))∧Own b8 5 w.heap ro2 rc2 (gI b i)∧Fr W.heap.size ro2∧aA nob W w) (fun⟨i,⟨oi,ci⟩,⟨ro2,rc2⟩⟩=>b.length/128-i) ⟨0,⟨bo0,bc0⟩,⟨some ⟨W.heap.size,0,none⟩,0⟩⟩ ⟨rfl,(by rw[ii,ix];rfl),rfl,trivial⟩ ⟨ZZ _,by rw[ii,ix];exact hv,ho1,(fun a ha=>by cases ha;exact Z0 _),hf1⟩ ?_;rintro⟨i,⟨oi,ci⟩,⟨ro2,rc2⟩⟩ w2 ⟨hi,hvi,hro,hfro,hF2⟩;have hdl:=ZX (i:=i*128) (l:=b);have hci:=hvi.le;have hri:=nU b i;refine fK 5 ?_ ?_<;>intro h16
 ·have hcl:(chB b i).length=128:=A7 (by omega);have hfl:=Iv (DF b i);have hdn:(b.drop ((i+1)*128)).length=(b.drop (i*128)).length-128:=by rw[hdl,ZX];omega
  refine Gz 9 ?_;refine cL (Wm (u:=.slice oi (chB b i).length ci) (WE aH rfl rfl (by omega)) (by rw[bF,hcl];rfl)) ?_;refine Gz 3 ?_;refine WL (β:=Option Addr×Nat) (fun⟨xo,xc⟩=>[(0,pT g),(1,.slice oi (b.drop (i*128)).length ci),(6,.slice ro2 (gI b i).length rc2),(7,.slice xo (hX (chB b i)).length xc)]) (fun⟨xo,xc⟩ w=>Vw b8 w.heap xo xc (hX (chB b i))∧w=w2) ?_ ?_
  ·refine cA 3 VJ (LA oi ci (chB b i) w2 ((hvi.ZM hF2).take 128)) ?_;rintro _ wq ⟨rfl,hwq⟩;subst wq;by_cases h20:Cs (chB b i)
   ·rw[Z3 h20];have ex:hX (chB b i)=[]:=by unfold hX;rw[ZP h20]
    refine Gz 6 ?_;exact WY ⟨none,0⟩ ⟨rfl,rfl,rfl,(by show some (Value.slice none 0 0)=_;rw[ex];rfl),trivial⟩ ⟨by rw[ex];exact Zt 0 (ZZ _),rfl⟩
   rw[ZV h20];have ex:hX (chB b i)=chB b i:=by unfold hX;rw[ZO h20]
   refine Gz 4 ?_;exact WY ⟨oi,ci⟩ ⟨rfl,rfl,rfl,(by rw[ex];rfl),trivial⟩ ⟨by rw[ex];exact(hvi.ZM hF2).take 128,rfl⟩
  rintro⟨xo,xc⟩ wq ⟨hxv,hwq⟩;obtain rfl:w2=wq:=hwq.symm;refine cA 3 Ke (nX xo xc (hX (chB b i)) w2 hxv) ?_;rintro _ w3 ⟨o3,c3,rfl,ho3,hfr3,hf3⟩;have ho3:Own b8 5 w3.heap o3 c3 (frB (chB b i)):=ho3;refine Gz 11 ?_;refine Wq aP aH rfl rfl (hro.ZM hf3) ho3.vw (by rw[show (dB (hX (chB b i))).1=frB (chB b i) from rfl];omega) (by rw[show (dB (hX (chB b i))).1=frB (chB b i) from rfl];unfold maxLen;omega) rfl ?_;intro o4 c4 w4 ho4 hf4 hr4 hn4;refine Gz 5 ?_;refine cL (Wm (u:=.slice (aO oi ci 128 1) (b.drop ((i+1)*128)).length (ci-128)) (WR aH rfl rfl (by omega)) (by rw[hdn];rfl)) ?_;refine Gz 3 ?_;have hcd:=rD (n:=128) hvi (by omega) (by omega);rw[show (128:Int).toNat=128 from rfl,List.drop_drop,show i*128+128=(i+1)*128 by omega] at hcd;refine Wz ⟨i+1,⟨aO oi ci 128 1,ci-128⟩,⟨o4,c4⟩⟩ ⟨rfl,rfl,?_,trivial⟩ ⟨by omega,hcd,by rw[lN];exact ho4,aS hfro hr4 (by have:=hf3.size;have:=hF2.size;omega),(hF2.trans hf3).ZJ hf4 (fun k ⟨a,ha,e⟩=>.inr (by have:=hfro a ha;omega))⟩ (by show b.length/128-(i+1)<b.length/128-i;omega);rw[lN];rfl
 have hie:i=b.length/128:=by omega
 subst hie;have hro:Own b8 5 w2.heap ro2 rc2 (dJ b):=hro;have hvi:Vw b8 W.heap oi ci (fQ b):=hvi;have hrb:=nU b (b.length/128);have hrb:(dJ b).length≤135*(b.length/128)∧3*(b.length/128)≤(dJ b).length:=hrb;refine Gz 10 ?_;refine WC b8 aH rfl ?_;intro w5 ho5 hs5 hf5;refine Gz 1 ?_;refine Wq aP aH rfl rfl ho5 ((hvi.ZM hF2).ZM hf5) (by simp only[Z7];omega) (by simp only[Z7];unfold maxLen;omega) rfl ?_;intro o6 c6 w6 ho6 hf6 hr6 hn6;have ho6:Own b8 5 w6.heap o6 c6 (fQ b):=ho6;have hz2:=hF2.size;have hfr5:Fr w2.heap.size (some (⟨w2.heap.size,0,none⟩:Addr)):=fun a ha=>by cases ha;exact Z0 _
 have hF26:aA nob w2 w6:=hf5.ZJ hf6 hfr5.step;have hF6:=hF2.trans hF26;have hfr6:Fr w2.heap.size o6:=fun a ha=>by rcases hr6 a ha with h|h;exact hfr5 a h;omega
 have hro6:=hro.ZM hF26;have hg6:=hF6.obj hg id;have k16:=h1.ZM hF6;have k26:=h2.ZM hF6;have k36:=h3.ZN hF6 (fun _ _=>id);have hz6:=hF6.size;have hz26:=hF26.size;have ho6l:=ho6.lt;have hne6:∀ k,k<w2.heap.size→¬ blk o6 k:=fun k hk ⟨a,ha,e⟩=>by have:=hfr6 a ha;omega
 have hrl2:=hro.lt;have hsame:∀ wf,aA nob W wf→RyO (fun k=>D k∧¬ blk o6 k) wf.heap g first s:=fun wf hf=>hM0.keepTo hf (fun _ _ _=>id) (fun k hk hd=>⟨hd,hne6 k (by omega)⟩)
 have hfr6W:Fr W.heap.size o6:=hfr6.mono hz2;refine fK 8 ?_ ?_<;>intro h36
 ·have e:=KB (first:=first) (s:=s) (b:=b) (by omega);refine Gz 13 ?_;rw[e];exact⟨_,rfl,o6,c6,rfl,ho6,hfr6W,hsame _ hF6,hF6.any⟩
 have hrl:(dJ b).length≤maxLen:=by unfold maxLen;omega
 have hrne:(dJ b).length≠0:=by omega
 have hsk:=Oc hrl;have hysv:=k26.vw pG;refine Gz 12 ?_;refine Wp (β:=Nat) (fun j=>[(0,pT g),(6,.slice ro2 (dJ b).length rc2),(10,.slice o6 (fQ b).length c6),(11,iV j)]) (fun j w=>j≤s.m.length∧jQ (s.m.take j) (pU (dJ b))=none∧∃ n,w=w6.drewN n) (fun j=>s.m.length-j) 0 ⟨rfl,rfl,rfl,rfl,trivial⟩ ⟨ZZ _,rfl,0,rfl⟩ ?_;rintro j w ⟨hj,hjn,⟨n,rfl⟩⟩;refine fK 9 ?_ ?_<;>intro h44
 ·have hjm:j<s.m.length:=by omega
  obtain⟨⟨⟨xa,xn,xc⟩,xk⟩,hx⟩:∃ x,ys[j]?=some x:=⟨_,ZQ (by omega)⟩
  obtain⟨⟨y,yk⟩,hy⟩:∃ y,s.m[j]?=some y:=⟨_,ZQ hjm⟩
  obtain⟨e1,e2,hxv,_⟩:=k36.2 j _ _ hx hy;have e1:xk=yk:=e1;have e2:xn=y.1.length:=e2;subst e1 e2;have hxv:Vw b8 w6.heap xa xc y.1:=hxv;refine Gz 8 ?_;refine Wv 12 (fun H=>H[g]?=some (.cells (rdC first bo s.B.length bc ro ys.length rc).toArray 79 (0,0))∧VwM 2 Km H ro rc ys∧Vw b8 H xa xc y.1∧Vw b8 H ro2 rc2 (dJ b)) [] [0,1,2,3,4,5,6,7,8,9,10,11] aK (by kernel_rfl) (⟨hg6,hysv,hxv,hro6.vw⟩) ?_;refine Gz 5 ?_;refine xC rfl (Wj Le rfl rfl hysv.non (by omega)) ?_;refine Gz 1 ?_;refine xC rfl (Wt aX rfl (fun H hH=>hH.2.1.rowZ j rfl hx 0 _ rfl)) ?_;refine xC rfl (XS (xs:=y.1) aH ty5 ty9 rfl (fun H hH=>hH.2.2.1)) ?_;refine Gz 1 ?_;refine xC rfl (XS (xs:=dJ b) aH ty5 ty9 rfl (fun H hH=>hH.2.2.2)) ?_;refine xK 0 ?_ ?_<;>intro h58
  ·have hyr:y=pU (dJ b):=Subtype.ext (by rw[hsk];exact h58);have e:=F8 (first:=first) hrne (Cz hjn (by rw[hy,hyr]));refine Gz 10 ?_;refine cL (Wj Le rfl rfl hysv.non (by omega)) ?_;refine Gz 1 ?_;refine cL (Wk aF rfl (hysv.rowZ j rfl hx 1 _ rfl)) ?_;refine Gz 12 ?_;rw[e];exact⟨_,rfl,o6,c6,rfl,ho6,hfr6W,hsame _ ((hF6.draws n).draws 1),((hF6.draws n).draws 1).any⟩
  have hyr:y≠pU (dJ b):=fun e=>h58 (by rw[e,hsk]);have hjn2:=Ha hjn hy hyr;refine Gz 11 ?_;exact aG (j+1) ⟨by omega,hjn2,n+1,by simp[World.drewN];omega⟩ (by show s.m.length-(j+1)<s.m.length-j;omega)
 have hje:j=s.m.length:=by omega
 subst hje;rw[be] at hjn;have e:=F9 (first:=first) hrne hjn;refine Gz 9 ?_;refine Wv 11 (fun H=>H[g]?=some (.cells (rdC first bo s.B.length bc ro ys.length rc).toArray 79 (0,0))) [] [0,1,2,3,4,5,6,7,8,9,10] aK (by kernel_rfl) (hg6) ?_;refine Gz 22 ?_;refine cL (WA (cs:=#[hd ⟨ro2,(dJ b).length,rc2⟩,iV ((first+s.B.length:Nat):Int)]) QI PE rfl (by kernel_rfl)) ?_;refine WD Le (cs:=[hd ⟨ro2,(dJ b).length,rc2⟩,iV ((first+s.B.length:Nat):Int)].toArray) PE rfl rfl rfl (by kernel_rfl) rfl ?_;intro w7 hg7 hs7 hf7;have hf7:=hf7.ZK.ZK;obtain⟨yn,hyn⟩:∃ yn:Hd×Nat,yn=(⟨ro2,(dJ b).length,rc2⟩,first+s.B.length):=⟨_,rfl⟩
 have ho7:bJ 2 Km 143 w7.heap (some ⟨w6.heap.size,0,none⟩) 1 [yn]:=bS (xs:=[yn]) pG (by rw[hyn];exact hg7) (by show 1≤maxLen;decide);have hz7:w7.heap.size=w6.heap.size+1:=hs7;refine Wx pG rfl Le rfl rfl (k26.ZM hf7) (ho7.vw pG) (by simp only[ZU];omega) (by simp only[ZU];unfold maxLen;omega) rfl ?_;intro o8 c8 w8 ho8 hf8 hr8 hn8;have hz8:=hf8.size;have hg8:=hf8.obj (hf7.obj hg6 id) h5;have hr8w:∀ k,k<W.heap.size→¬ blk ro k→¬ blk o8 k:=fun k hk hb ⟨a,ha,e⟩=>by rcases hr8 a ha with h|h;exact hb ⟨a,h,e⟩;omega
 refine Gz 2 ?_;refine Wl PH rfl rfl rfl hg8 rfl ?_;intro w9 hg9 hs9 hf9;have h19:=((k16.ZM hf7).ZN hf8 (fun a ha ⟨c,hc,e⟩=>h6 a c ha hc e.symm)).ZN hf9 (fun a ha e=>h4 ⟨a,ha,e⟩);have h29:=ho8.ZN hf9 (fun a ha e=>hr8w g hgl h5 ⟨a,ha,e⟩);have hro9:=((hro6.ZM hf7).ZN hf8 (fun a ha hb=>by have:=hrol _ hb;have:=hfro a ha;omega)).ZN hf9 (fun a ha e=>by have:=hfro a ha;have e:a.block=g:=e;omega);have hblk:∀ k,blk ro2 k→(D k∧¬ blk o6 k)∧k≠g∧¬ blk bo k∧¬ blk o8 k∧k<w9.heap.size:=by
  rintro k ⟨a,ha,e⟩;have h10:=hfro a ha;have h11:=hrl2 a ha;subst e;refine⟨⟨hD _ (by omega),hne6 _ (by omega)⟩,by omega,(fun h=>?_),(fun⟨c,hc,e2⟩=>?_),by omega⟩
  ·have:=hbol _ h;omega
  · rcases hr8 c hc with h|h
    ·have:=hrol _ ⟨c,h,e2⟩;omega
    ·omega
 have h39:=(((((k36.ZN hf7 (fun _ _=>id)).ZN hf8 (fun k hk=>hk.2.2.2.1)).ZN hf9 (fun k hk=>hk.2.1)).mono (D':=fun k=>(D k∧¬ blk o6 k)∧k≠g∧¬ blk bo k∧¬ blk o8 k∧k<w9.heap.size) (fun k hk=>⟨⟨hk.1,hne6 k (by have:=hk.2.2.2.2;omega)⟩,hk.2.1,hk.2.2.1,hr8w k hk.2.2.2.2 hk.2.2.2.1,by have:=hk.2.2.2.2;omega⟩)).snoc (s:=pU (dJ b)) (v:=first+s.B.length) (z:=⟨ro2,(dJ b).length,rc2⟩) (by rw[hsk]) (by rw[hsk];exact hro9.vw) hblk)
 rw[←hyn] at h39;have hF9:aA D W w9:=((hF6.any.trans hf7.any).trans (hf8.mono h9)).trans (hf9.mono (fun k e=>by have e:k=g:=e;rw[e];exact h7));have ho69:=((ho6.ZM hf7).ZN hf8 (fun a ha hb=>by have:=hrol _ hb;have:=hfr6W a ha;omega)).ZN hf9 (fun a ha e=>by have:=hfr6W a ha;have e:a.block=g:=e;omega);refine Gz 10 ?_;refine Wq aP aH rfl rfl h19 hro9.vw (by omega) (by unfold maxLen;omega) rfl ?_;intro o10 c10 w10 ho10 hf10 hr10 hn10;have hg10:=hf10.obj hg9 h4;refine Gz 2 ?_;refine Wl aX rfl rfl rfl hg10 rfl ?_;intro w11 hg11 hs11 hf11;obtain⟨hM11,hF11⟩:=RE (W:=w9) (D:=fun k=>D k∧¬ blk o6 k) (ro:=o8) (ys:=ys++[yn]) (mq:=s.m++[(pU (dJ b),first+s.B.length)]) (first:=first) (Bq:=s.B++dJ b) (fun k hk=>⟨hD k (by omega),(fun⟨a,ha,e⟩=>by have:=ho6l a ha;omega)⟩) (by omega) (fun k hk=>by have:=hbol k hk;omega) h29 h39 h4 (hr8w g hgl h5) (fun a c ha hc e=>by rcases hr8 c hc with h|h;exact h6 a c ha h e;have:=h1.lt a ha;omega) ⟨h7,hne6 g (by omega)⟩ (fun k hk=>⟨h8 k hk,hne6 k (by have:=hbol k hk;omega)⟩) (fun k ⟨a,ha,e⟩=>by rcases hr8 a ha with h|h;exact⟨h9 k ⟨a,h,e⟩,hne6 k (by have:=hrol k ⟨a,h,e⟩;omega)⟩;exact⟨hD k (by omega),(fun⟨c,hc,e2⟩=>by have:=ho6l c hc;omega)⟩) ho10 hf10 hr10 hg11 hf11;refine Gz 12 ?_;rw[e];exact⟨_,rfl,o6,c6,rfl,ho69.ZN hF11 (fun a ha hh=>hh.2 ⟨a,ha,rfl⟩),hfr6W,hM11,hF9.trans (hF11.mono (fun k hk=>hk.1))⟩
abbrev Ino:=(Nat→Int)×By
def Bo(x:Ino):List Value:=aN x.1 x.2
theorem gM:iT 11 Bo:=fun x=>⟨rfl,bY _ _⟩
def kO:Ino:=(fun _=>0,[])
def iQ(x:Ino):By:=(jK x.1 x.2).2
theorem vE{x:Ino}(h:fI x.1 x.2):15≤(iQ x).length∧(iQ x).length≤214:=by
 have h1:=HV h;have h9:=h.1;unfold bG at h9;unfold iQ
 split at h1
 ·omega
 ·split at h1<;>omega
theorem J5{x:Ino}(hm:fI x.1 x.2)(rest:By):dK ((iQ x++rest).take 14)=(iQ x).length:=by
 have h1:=HV hm;have h2:=vE hm;have hk:=mG hm;have a0:=LL hm;have hg:∀ j,j<14→((iQ x++rest).take 14).getD j 0=(iQ x).getD j 0:=fun j hj=>by
  rw[Z2,List.getElem?_take,ZP hj,au (by omega),←Z2]
 have he:iQ x=(jK x.1 x.2).2:=rfl;unfold dK;rw[hg 0 (by decide),hg 13 (by decide),he,a0]
 split at h1
 ·rw[ZP (by omega)];omega
 · rename_i h3
   split at h1
   ·rw[ZO (by omega),ZP (by omega)];omega
   · have h4:x.1 0=3:=by omega
     have a3:=JD hm h4;rw[ZO (by omega),ZO (by omega),ZP (by omega),a3];omega
theorem Q0{T rest:By}{off:Nat}{x:Ino}(hm:fI x.1 x.2)(hd:T.drop off=iQ x++rest)(hr:off+(iQ x).length≤T.length) :
 bQ (frW T (nF T)) 0 (frW T (nF T)).length (aR T off:Nat)=((gFn (iQ x),gT (iQ x)),((aR T (off+(iQ x).length):Nat):Int),0):=by
 have hl:=vE hm;have r1:=GG T [] [] (o:=off) (m:=14) (by omega);have r2:=GG T [] [] (o:=off) (m:=(iQ x).length) hr;rw[yP,yE,hd] at r1 r2;rw[List.take_left' rfl] at r2;have e1:aD (frW T (nF T)) 0 (frW T (nF T)).length (aR T off:Nat) 14=((iQ x++rest).take 14,((aR T (off+14):Nat):Int),0):=r1;have e2:aD (frW T (nF T)) 0 (frW T (nF T)).length (aR T off:Nat) (dK (aD (frW T (nF T)) 0 (frW T (nF T)).length (aR T off:Nat) 14).1)=(iQ x,((aR T (off+(iQ x).length):Nat):Int),0):=by
  rw[e1,J5 hm];exact r2
 have h4:=(G0 (im:=frW T (nF T)) (fr:=0) (to:=(frW T (nF T)).length) (ref:=(aR T off:Nat)) (by rw[e1]) (by rw[e2]) (by rw[e2];exact(DZ hm).1))
 rw[h4,e2]
theorem J9{x:Ino}(hm:fI x.1 x.2):sI (gFn (iQ x)) (gT (iQ x)) x.1 x.2:=(DZ hm).2
def pV(l:List Int)(n:Int):Int:=match l.findIdx? (fun x=>decide (x=n)) with
|some i=>i
|none=>0
structure BSt where
 ino:By
 lst:By
 fur:By
 refs:List Int
 sets:List (List Xa×Int)
 many:Nat
def vO(n:Nat):BSt:=⟨[],[],[],bg n 0,[],0⟩
def dY(s:BSt)(X:List Xa):Int×BSt:=
 if X.length=0 then (0,s) else
 match s.sets.find? (fun y=>decide (y.1=X)) with
|some y=>(y.2+1,s)
|none=>((aR s.fur s.fur.length:Nat)+1,{ s with fur:=s.fur++(kX X).1,sets:=s.sets++[(X,((aR s.fur s.fur.length:Nat):Int))] })
def ndB(qs:List (NdH×Nd))(k:Int):Nd:=(qs.getD k.toNat (Dk,nd0)).2
def inB(qs:List (NdH×Nd))(ids:List Int)(k:Int)(i:Ino)(xr:Int):Ino:=
 (fun j=>[(ndB qs k).kind,(ndB qs k).md,pV ids (ndB qs k).ud,pV ids (ndB qs k).gd,Av qs k,xr,i.1 6,i.1 7,i.1 8,i.1 9].getD j 0,i.2)
def lI(qs:List (NdH×Nd))(ids:List Int)(k:Int)(i:Ino)(s:BSt):BSt:=
 { (dY s (ndB qs k).xs).2 with
  ino:=(dY s (ndB qs k).xs).2.ino++(oC (inB qs ids k i (dY s (ndB qs k).xs).1).1 (inB qs ids k i (dY s (ndB qs k).xs).1).2).1
  refs:=(dY s (ndB qs k).xs).2.refs.set (ndB qs k).ino.toNat ((aR (dY s (ndB qs k).xs).2.ino (dY s (ndB qs k).xs).2.ino.length:Nat)+1)
  many:=(dY s (ndB qs k).xs).2.many+1 }
def wrK(wr:Int→BSt→BSt)(qs:List (NdH×Nd)):List Int→BSt→BSt×List Ent
|[],s=>(s,[])
|j::r,s=>((wrK wr qs r (wr j s)).1,(bB (ndB qs j).names,(ndB qs j).kind,(wr j s).refs.getD (ndB qs j).ino.toNat 0-1)::(wrK wr qs r (wr j s)).2)
def Ko(s:BSt)(b:By):Ino:=(fun j=>if j=6 then ((aR s.lst s.lst.length:Nat):Int) else if j=7 then b.length else 0,[])
def wrB(qs:List (NdH×Nd))(ids:List Int)(files:List Ino):Nat→Int→BSt→BSt
|0,_,s=>s
|n+1,k,s=>
   if 0<s.refs.getD (ndB qs k).ino.toNat 0 then s
   else if (ndB qs k).kind=2 then lI qs ids k (files.getD (ndB qs k).ino.toNat kO) s
   else if (ndB qs k).kind=3 then lI qs ids k (zF,(ndB qs k).tgt) s
   else if (ndB qs k).kind=1 then
    lI qs ids k (Ko (wrK (wrB qs ids files n) qs (cD qs (ndB qs k).names qs.length) s).1 (iO (wrK (wrB qs ids files n) qs (cD qs (ndB qs k).names qs.length) s).2).1)
     { (wrK (wrB qs ids files n) qs (cD qs (ndB qs k).names qs.length) s).1 with lst:=(wrK (wrB qs ids files n) qs (cD qs (ndB qs k).names qs.length) s).1.lst++(iO (wrK (wrB qs ids files n) qs (cD qs (ndB qs k).names qs.length) s).2).1 }
   else lI qs ids k (zF,[]) s
structure FSt where
 ds:DS
 tails:List By
 files:List Ino
def iZ(s:FSt)(x:Nd):FSt:=
 if x.kind≠2∨(s.files.getD x.ino.toNat kO).1 0=2 then s
 else ⟨(jV 64 s.ds x.data).1,(fF s.tails (fQ x.data)).1,s.files.set x.ino.toNat (fun j=>[2,0,0,0,0,0,((jV 64 s.ds x.data).2:Int),x.data.length,((fF s.tails (fQ x.data)).2.1:Int),((fF s.tails (fQ x.data)).2.2:Int)].getD j 0,[])⟩
def cB(qs:List (NdH×Nd)):FSt:=(nds qs).foldl iZ ⟨⟨[],[]⟩,[],bg (qs.length+1) kO⟩
def gC:List By→DS→DS×List Int
|[],s=>(s,[])
|t::r,s=>((gC r (pX 64 s t).1).1,((pX 64 s t).2:Int)::(gC r (pX 64 s t).1).2)
def dnW(T:By):By:=frW T (nF T)
structure Gc where
 d:DS
 pl:List Int
 s:BSt
def aI(qs:List (NdH×Nd))(ids:List Int):Gc:=⟨(gC (cB qs).tails (cB qs).ds).1,(gC (cB qs).tails (cB qs).ds).2,wrB qs ids (cB qs).files 17 0 (vO (qs.length+1))⟩
def mY(a:Gc):By:=a.d.B
def jW(a:Gc):By:=mY a++dnW a.s.ino
def jM(a:Gc):By:=jW a++dnW a.s.lst
def iX(a:Gc):By:=jM a++dnW (aL a.pl 4).1
def iH(a:Gc)(ids:List Int):By:=iX a++dnW (aL ids 2).1
def gJ(a:Gc)(ids:List Int):By:=iH a ids++dnW a.s.fur
def cG(qs:List (NdH×Nd))(ids:List Int)(a:Gc):Nat→Int:=fun j=>[64+((gJ a ids).length:Int),a.s.many,64+(mY a).length,64+(jW a).length,64+(jM a).length,64+(iX a).length,64+(iH a ids).length,ids.length,a.pl.length,a.s.refs.getD (ndB qs 0).ino.toNat 0-1].getD j 0
def uX(qs:List (NdH×Nd))(ids:List Int):By×Int:=
 if 1048576<64+((gJ (aI qs ids) ids).length:Int) then ([],3)
 else ((jL (cG qs ids (aI qs ids))).1++gJ (aI qs ids) ids,0)
structure Bg (z:Nat)(C:Value→Value→List Value):Prop where
 g0:∀ a b,(C a b)[z]?=some a
 g1:∀ a b,(C a b)[z+1]?=some b
 s0:∀ a b v,(C a b).set z v=C v b
 s1:∀ a b v,(C a b).set (z+1) v=C a v
 l0:∀ a b,ba z (C a b).length=true
 l1:∀ a b,ba (z+1) (C a b).length=true
section
variable {C:Value→Value→List Value}{T:TypeId}
def RwI(C:Value→Value→List Value)(T:TypeId)(D:Nat→Prop)(H:Array Obj)(g:Nat)(f t:By):Prop:=
 ∃ fo fc to tc,H[g]?=some (.cells (C (.slice fo f.length fc) (.slice to t.length tc)).toArray T (0,0))∧Own b8 5 H fo fc f∧Own b8 5 H to tc t∧¬ blk fo g∧¬ blk to g∧Ap fo to∧D g∧(∀ k,blk fo k→D k)∧(∀ k,blk to k→D k)
section
variable {D:Nat→Prop}{g:Nat}{f t:List UInt8}
theorem RwI.lt{H:Array Obj}(h:RwI C T D H g f t):g<H.size:=by obtain⟨fo,fc,to,tc,hg,_⟩:=h;exact(Z1.1 hg).1
theorem RwI.shrink{S:Nat→Prop}{w w':World}(h:RwI C T D w.heap g f t)(hf:aA S w w')(hs:∀ k,D k→¬ S k):RwI C T (fun k=>D k∧(k<w.heap.size∨w'.heap.size≤k)) w'.heap g f t:=by
 have hl:=h.lt;obtain⟨fo,fc,to,tc,hg,h1,h2,h3,h4,h5,h6,h7,h8⟩:=h;exact⟨fo,fc,to,tc,hf.obj hg (hs g h6),h1.ZN hf (fun a ha=>hs _ (h7 _ ⟨a,ha,rfl⟩)),h2.ZN hf (fun a ha=>hs _ (h8 _ ⟨a,ha,rfl⟩)),h3,h4,h5,⟨h6,.inl hl⟩,
  fun k ⟨a,ha,hb⟩=>⟨h7 k ⟨a,ha,hb⟩,.inl (by have:=h1.lt a ha;omega)⟩,fun k ⟨a,ha,hb⟩=>⟨h8 k ⟨a,ha,hb⟩,.inl (by have:=h2.lt a ha;omega)⟩⟩
end
theorem Lj{D:Nat→Prop}{W w1 w2:World}{g:Nat}{f t t':By}{fo to to':Option Addr}{fc tc tc':Nat}(hD:∀ k,W.heap.size≤k→D k)
 (hg:W.heap[g]?=some (.cells (C (.slice fo f.length fc) (.slice to t.length tc)).toArray T (0,0)))(h1:Own b8 5 W.heap fo fc f)(h3:¬ blk fo g)(h4:¬ blk to g)(h5:Ap fo to)(h6:D g)(h7:∀ k,blk fo k→D k)(h8:∀ k,blk to k→D k)
 (ho:Own b8 5 w1.heap to' tc' t')(hf1:aA (blk to) W w1)(hr:∀ a,to'=some a→to=some a∨W.heap.size≤a.block)
 (hg2:w2.heap[g]?=some (.cells (C (.slice fo f.length fc) (.slice to' t'.length tc')).toArray T (0,0)))(hf2:aA (· = g) w1 w2) :
 RwI C T D w2.heap g f t'∧aA D W w2:=by
 have hgl:=(Z1.1 hg).1;have hD1:aA D W w1:=hf1.mono h8;have hD2:aA D W w2:=hD1.trans (hf2.mono (fun k h=>by have h:k=g:=h;subst h;exact h6));have hn:¬ blk to' g:=fun⟨a,ha,hb⟩=>by
  rcases hr a ha with h|h
  ·exact h4 ⟨a,h,hb⟩
  ·omega
 refine⟨⟨fo,fc,to',tc',hg2,(h1.ZN hf1 (fun a ha ⟨b,hb,h⟩=>h5 a b ha hb h.symm)).ZN hf2 (fun a ha h=>h3 ⟨a,ha,h⟩),ho.ZN hf2 (fun a ha h=>hn ⟨a,ha,h⟩),h3,hn,fun a b ha hb e=>?_,h6,h7,fun k ⟨a,ha,hb⟩=>?_⟩,hD2⟩
 · rcases hr b hb with h|h
   ·exact h5 a b ha h e
   ·have:=h1.lt a ha;omega
 · rcases hr a ha with h|h
   ·exact h8 k ⟨a,h,hb⟩
   ·exact hD k (by omega)
theorem Lk{D:Nat→Prop}{W w1 w2:World}{g:Nat}{f t f':By}{fo to fo':Option Addr}{fc tc fc':Nat}(hD:∀ k,W.heap.size≤k→D k)
 (hg:W.heap[g]?=some (.cells (C (.slice fo f.length fc) (.slice to t.length tc)).toArray T (0,0)))(h2:Own b8 5 W.heap to tc t)(h3:¬ blk fo g)(h4:¬ blk to g)(h5:Ap fo to)(h6:D g)(h7:∀ k,blk fo k→D k)(h8:∀ k,blk to k→D k)
 (ho:Own b8 5 w1.heap fo' fc' f')(hf1:aA (blk fo) W w1)(hr:∀ a,fo'=some a→fo=some a∨W.heap.size≤a.block)
 (hg2:w2.heap[g]?=some (.cells (C (.slice fo' f'.length fc') (.slice to t.length tc)).toArray T (0,0)))(hf2:aA (· = g) w1 w2) :
 RwI C T D w2.heap g f' t∧aA D W w2:=by
 have hgl:=(Z1.1 hg).1;have hD1:aA D W w1:=hf1.mono h7;have hD2:aA D W w2:=hD1.trans (hf2.mono (fun k h=>by have h:k=g:=h;subst h;exact h6));have hn:¬ blk fo' g:=fun⟨a,ha,hb⟩=>by
  rcases hr a ha with h|h
  ·exact h3 ⟨a,h,hb⟩
  ·omega
 refine⟨⟨fo',fc',to,tc,hg2,ho.ZN hf2 (fun a ha h=>hn ⟨a,ha,h⟩),(h2.ZN hf1 (fun a ha ⟨b,hb,h⟩=>h5 b a hb ha h)).ZN hf2 (fun a ha h=>h4 ⟨a,ha,h⟩),hn,h4,fun a b ha hb e=>?_,h6,fun k ⟨a,ha,hb⟩=>?_,h8⟩,hD2⟩
 · rcases hr a ha with h|h
   ·exact h5 a b h hb e
   ·have:=h2.lt b hb;omega
 · rcases hr a ha with h|h
   ·exact h7 k ⟨a,h,hb⟩
   ·exact hD k (by omega)
theorem Oe{D:Nat→Prop}{W w2:World}{g:Nat}{f t:By}{fo to:Option Addr}{fc tc:Nat}
 (hg:W.heap[g]?=some (.cells (C (.slice fo f.length fc) (.slice to t.length tc)).toArray T (0,0)))(h1:Own b8 5 W.heap fo fc f)(h3:¬ blk fo g)(h6:D g)(h7:∀ k,blk fo k→D k)
 (hg2:w2.heap[g]?=some (.cells (C (.slice fo f.length fc) sN).toArray T (0,0)))(hf2:aA (· = g) W w2) :
 RwI C T D w2.heap g f []∧aA D W w2:=
 ⟨⟨fo,fc,none,0,hg2,h1.ZN hf2 (fun a ha h=>h3 ⟨a,ha,h⟩),Zu,h3,(fun⟨a,ha,_⟩=>by cases ha),Zr,h6,h7,(fun k ⟨a,ha,_⟩=>by cases ha)⟩,hf2.mono (fun k h=>by have h:k=g:=h;subst h;exact h6)⟩
theorem Jm{z:Nat}(hC:Bg z C)(D:Nat→Prop)(g:Nat)(f t:By)(bo:Option Addr)(bc:Nat)(b:By)(W:World)(hM:RwI C T D W.heap g f t)(hD:∀ k,W.heap.size≤k→D k)(hv:Vw b8 W.heap bo bc b)(hbD:b≠[]→∀ k,blk bo k→¬ D k)(htl:t.length<128)(hb:f.length+2*(t.length+b.length)≤1099511627776) :
 CA 29 [.pointer (some ⟨g,z,none⟩),.slice bo b.length bc] W fun v w'=>v=iV (256*f.length+t.length:Nat)∧RwI C T D w'.heap g (bI f (t++b)).1 (bI f (t++b)).2∧aA D W w':=by
 have hM0:=hM;obtain⟨fo,fc,to,tc,hg,h1,h2,h3,h4,h5,h6,h7,h8⟩:=hM;have hvl:=hv.ZL;refine cS 67 [(0,_),(1,_)] Tryz.func29 ?_;refine Gz 6 ?_;refine Ww 13 [0,1,2,3,4,5,6,7,8,9,10,11,12] aK (by kernel_rfl) ?_;refine Gz 3 ?_;refine xC rfl (Wk aX rfl (by first|exact cN hg (hC.g0 _ _)|exact cN hg (hC.g1 _ _))) ?_;refine Gz 1 ?_;refine xC rfl (WN rfl rfl (by omega)) ?_;refine Gz 3 ?_;refine xC rfl (Wk aX rfl (by first|exact cN hg (hC.g0 _ _)|exact cN hg (hC.g1 _ _))) ?_;refine Gz 12 ?_;refine Wp (β:=Nat×(By×By)) (fun⟨i,⟨f9,t9⟩⟩=>[(0,.pointer (some ⟨g,z,none⟩)),(1,.slice bo b.length bc),(5,iV (256*f.length+t.length:Nat)),(6,iV i)]) (fun⟨i,⟨f9,t9⟩⟩ w=>i≤b.length∧bI f (t++b.take i)=(f9,t9)∧RwI C T D w.heap g f9 t9∧aA D W w) (fun⟨i,⟨f9,t9⟩⟩=>b.length-i) ⟨0,⟨f,t⟩⟩ ⟨rfl,rfl,rfl,rfl,trivial⟩ ⟨ZZ _,by rw[List.take_zero,List.append_nil,dZ htl],hM0,(Zn _ _).draws 1⟩ ?_;rintro⟨i,⟨f9,t9⟩⟩ w3 ⟨hi,hcw,hM3,hF3⟩;obtain⟨hoA,hcap,ko,kc,kg,k1,k2,k3,k4,k5,k6,k7,k8⟩:=hM3;have hM3:RwI C T D w3.heap g f9 t9:=⟨hoA,hcap,ko,kc,kg,k1,k2,k3,k4,k5,k6,k7,k8⟩
 have hv9:Vw b8 w3.heap bo bc b:=hv.keepN hF3 (fun hne a ha h=>hbD hne _ ⟨a,ha,rfl⟩ h);refine fK 6 ?_ ?_<;>intro h24
 ·have hib:i<b.length:=by omega
  have hsn:=CG f (t++b.take i) (b.getD i 0);rw[Z6,←HB hib,hcw] at hsn;have hsn:bI f (t++b.take (i+1))=if (t9++[b.getD i 0]).length=128 then (f9++(dB (t9++[b.getD i 0])).1,[]) else (f9,t9++[b.getD i 0]):=hsn
  have hln:=vK f (t++b.take i);rw[hcw,ZR,ZT] at hln;have hrl:=jB f (t++b.take i);rw[hcw] at hrl;have hln:f9.length+2*t9.length≤f.length+2*(t.length+min i b.length):=hln;have hrl:t9.length<128:=hrl;refine Gz 5 ?_;refine WL (β:=By×By) (fun⟨f8,t8⟩=>[(0,.pointer (some ⟨g,z,none⟩)),(1,.slice bo b.length bc),(5,iV (256*f.length+t.length:Nat)),(6,iV i)]) (fun⟨f8,t8⟩ w=>bI f (t++b.take (i+1))=(f8,t8)∧RwI C T D w.heap g f8 t8∧aA D W w) ?_ ?_
  ·refine Gz 2 ?_;refine Wv 13 (fun H=>Vw b8 H bo bc b∧H[g]?=some (.cells (C (.slice hoA f9.length hcap) (.slice ko t9.length kc)).toArray T (0,0))) [9,10,13] [0,1,2,3,4,5,6,7,8,9,10,11,12,13] aK (by kernel_rfl) (⟨hv9,kg⟩) ?_;refine Gz 4 ?_;refine xC rfl (Wt aX rfl (fun H hH=>cN hH.2 (hC.g1 _ _))) ?_;refine Gz 2 ?_;refine xC rfl (Wi aH rfl rfl hv.non (by omega)) ?_;refine xC rfl (Wt eC rfl (fun H hH=>hH.1.gd 0 hib)) ?_;refine Wo rfl rfl (WS (enc:=b8) (u:=b.getD i 0) aH (aP _) rfl rfl ?_);intro w4 ho4 hs4 hf4;have hf4:=hf4.ZK;refine Wu (by exact⟨(hv9).ZM hf4,hf4.obj kg id⟩) ?_;refine Wo rfl rfl (Wq aP aH rfl rfl (k2.ZM hf4) ho4.vw (by simp only[ZU];omega) (by simp only[ZU];unfold maxLen;omega) rfl ?_);intro to5 tc5 w5 ho5 hf5 hr5 hn5;have hg5:=hf5.obj (hf4.obj kg id) k4;have hv5:Vw b8 w5.heap bo bc b:=(hv9.ZM hf4).keepN hf5 (fun hne a ha h=>hbD hne _ ⟨a,ha,rfl⟩ (k8 _ h));refine Wu (by exact⟨hv5,hg5⟩) ?_;refine Gz 2 ?_;refine Wo rfl rfl (Wl aX rfl rfl rfl hg5 (hC.l1 _ _) ?_);intro w6 hg6 hs6 hf6;refine WW rfl ?_;rw[hC.s1] at hg6;obtain⟨hM6,hF6⟩:=Lj (dV hf4 (dV hF3 hD)) (hf4.obj kg id) (k1.ZM hf4) k3 k4 k5 k6 k7 k8 ho5 hf5 hr5 hg6 hf6;have hF6:=hf4.any.trans hF6;obtain⟨jo,jc,lo,lc,jg,j1,j2,j3,j4,j5,j6,j7,j8⟩:=hM6;refine Gz 7 ?_;refine cL (Wk aX rfl (by first|exact cN jg (hC.g0 _ _)|exact cN jg (hC.g1 _ _))) ?_;refine fK 1 ?_ ?_<;>intro h45
   ·rw[ZP (by omega)] at hsn;have hps:=iG (b:=t9++[b.getD i 0]) (by omega);refine Gz 8 ?_;refine cL (Wk aX rfl (by first|exact cN jg (hC.g0 _ _)|exact cN jg (hC.g1 _ _))) ?_;refine cA 0 Ke (nX lo lc (t9++[b.getD i 0]) w6 j2.vw) ?_;rintro _ w7 ⟨o7,c7,rfl,ho7,hfr7,hf7⟩;have hg7:=hf7.obj jg id;refine Gz 13 ?_;refine cL (Wk aX rfl (by first|exact cN hg7 (hC.g0 _ _)|exact cN hg7 (hC.g1 _ _))) ?_;refine Gz 1 ?_;refine Wq aP aH rfl rfl (j1.ZM hf7) ho7.vw (by omega) (by unfold maxLen;omega) rfl ?_;intro fo8 fc8 w8 ho8 hf8 hr8 hn8;have hg8:=hf8.obj hg7 j3;refine Gz 2 ?_;refine Wl aX rfl rfl rfl hg8 (hC.l0 _ _) ?_;intro w9 hg9 hs9 hf9;rw[hC.s0] at hg9;obtain⟨hM9,hF9⟩:=Lk (dV hf7 (dV hF6 (dV hF3 hD))) hg7 (j2.ZM hf7) j3 j4 j5 j6 j7 j8 ho8 hf8 hr8 hg9 hf9;obtain⟨io,ic,mo,mc,ig,i1,i2,i3,i4,i5,i6,i7,i8⟩:=hM9;refine Gz 6 ?_;refine Wl aX rfl rfl rfl ig (hC.l1 _ _) ?_;intro w10 hg10 hs10 hf10;rw[hC.s1] at hg10;obtain⟨hM10,hF10⟩:=Oe ig i1 i3 i6 i7 hg10 hf10;refine Gz 2 ?_;exact aC ⟨f9++(dB (t9++[b.getD i 0])).1,[]⟩ ⟨hsn,hM10,(((hF3.trans hF6).trans hf7.any).trans hF9).trans hF10⟩
   rw[ZO (by omega)] at hsn;refine Gz 5 ?_;exact aC ⟨f9,t9++[b.getD i 0]⟩ ⟨hsn,⟨jo,jc,lo,lc,jg,j1,j2,j3,j4,j5,j6,j7,j8⟩,hF3.trans hF6⟩
  rintro⟨f8,t8⟩ w12 ⟨hcw12,hM12,hF12⟩;refine Gz 5 ?_;exact aG ⟨i+1,⟨f8,t8⟩⟩ ⟨by omega,hcw12,hM12,hF12⟩ (by show b.length-(i+1)<b.length-i;omega)
 have hib:i=b.length:=by omega
 subst hib;rw[be] at hcw;refine Gz 16 ?_;rw[hcw];exact⟨_,rfl,rfl,hM3,hF3⟩
theorem GB{z:Nat}(hC:Bg z C)(D:Nat→Prop)(g:Nat)(f t:By)(W:World)(hM:RwI C T D W.heap g f t)(hb:f.length≤1099511627000)(htl:t.length<128) :
 CA 30 [.pointer (some ⟨g,z,none⟩)] W (rJ W (pQ f t)):=by
 obtain⟨fo,fc,to,tc,hg,h1,h2,h3,h4,h5,h6,h7,h8⟩:=hM;refine cS 30 [(0,_)] Tryz.func30 ?_;refine Gz 7 ?_;refine WC b8 aH rfl ?_;intro w1 ho1 hs1 hf1;have hg1:=hf1.obj hg id;refine Gz 3 ?_;refine cL (Wk aX rfl (by first|exact cN hg1 (hC.g0 _ _)|exact cN hg1 (hC.g1 _ _))) ?_;refine Wq aP aH rfl rfl ho1 (h1.ZM hf1).vw (by simp only[Z7];omega) (by simp only[Z7];unfold maxLen;omega) rfl ?_;intro o2 c2 w2 ho2 hf2 hr2 hn2;rw[aq] at ho2 ⊢;have hF2:aA nob W w2:=hf1.ZJ hf2 (cX _).step;have hfr2:Fr W.heap.size o2:=aS (cX _) hr2 hf1.size;have hg2:=hF2.obj hg id;refine Gz 9 ?_;refine cL (Wk aX rfl (by first|exact cN hg2 (hC.g0 _ _)|exact cN hg2 (hC.g1 _ _))) ?_;refine fK 1 ?_ ?_<;>intro h17
 ·have e:pQ f t=f++(dB t).1:=by unfold pQ;rw[ZO (by omega)]
  have hps:=iG (b:=t) (by omega);refine Gz 8 ?_;refine cL (Wk aX rfl (by first|exact cN hg2 (hC.g0 _ _)|exact cN hg2 (hC.g1 _ _))) ?_;refine cA 0 Ke (nX to tc t w2 (h2.ZM hF2).vw) ?_;rintro _ w3 ⟨o3,c3,rfl,ho3,hfr3,hf3⟩;refine Gz 10 ?_;refine Wq aP aH rfl rfl (ho2.ZM hf3) ho3.vw (by omega) (by unfold maxLen;omega) rfl ?_;intro o4 c4 w4 ho4 hf4 hr4 hn4;refine Gz 11 ?_;rw[e];exact⟨_,rfl,o4,c4,rfl,ho4,aS hfr2 hr4 (hF2.trans hf3).size,(hF2.trans hf3).ZJ hf4 hfr2.step⟩
 have e:pQ f t=f:=by unfold pQ;rw[ZP (by omega)]
 refine Gz 13 ?_;rw[e];exact⟨_,rfl,o2,c2,rfl,ho2,hfr2,hF2⟩
theorem RwI.tight{D:Nat→Prop}{H:Array Obj}{g:Nat}{f t:By}(h:RwI C T D H g f t):RwI C T (fun k=>D k∧k<H.size) H g f t:=by
 have hl:=h.lt;obtain⟨fo,fc,to,tc,hg,h1,h2,h3,h4,h5,h6,h7,h8⟩:=h;exact⟨fo,fc,to,tc,hg,h1,h2,h3,h4,h5,⟨h6,hl⟩,fun k ⟨a,ha,hb⟩=>⟨h7 k ⟨a,ha,hb⟩,by have:=h1.lt a ha;omega⟩,fun k ⟨a,ha,hb⟩=>⟨h8 k ⟨a,ha,hb⟩,by have:=h2.lt a ha;omega⟩⟩
theorem RwI.mono{D D':Nat→Prop}{H:Array Obj}{g:Nat}{f t:By}(h:RwI C T D H g f t)(hd:∀ k,D k→D' k):RwI C T D' H g f t:=by
 obtain⟨fo,fc,to,tc,hg,h1,h2,h3,h4,h5,h6,h7,h8⟩:=h;exact⟨fo,fc,to,tc,hg,h1,h2,h3,h4,h5,hd _ h6,fun k hk=>hd _ (h7 k hk),fun k hk=>hd _ (h8 k hk)⟩
theorem RwI.nx{A:Nat→Prop}{W w':World}{g:Nat}{f t:By}(h:RwI C T (fun k=>A k∨W.heap.size≤k) w'.heap g f t):RwI C T (Nx A W w') w'.heap g f t:=
 h.tight.mono (fun k hk=>hk.1.elim .inl (fun h2=>.inr ⟨h2,hk.2⟩))
theorem sP{z:Nat}(hC:Bg z C)(A:Nat→Prop)(g:Nat)(Q:By)(bo:Option Addr)(bc:Nat)(b:By)(W:World)(hM:RwI C T A W.heap g (bI [] Q).1 (bI [] Q).2)(hv:Vw b8 W.heap bo bc b)(hbA:b≠[]→∀ k,blk bo k→¬ A k)(hb:Q.length+b.length≤274877906944) :
 CA 29 [.pointer (some ⟨g,z,none⟩),.slice bo b.length bc] W fun v w'=>v=iV (aR Q Q.length:Nat)∧RwI C T (Nx A W w') w'.heap g (bI [] (Q++b)).1 (bI [] (Q++b)).2∧aA A W w':=by
 have hs:=yI Q b;have hr:=jB [] Q;refine(Jm hC (fun k=>A k∨W.heap.size≤k) g _ _ bo bc b W (hM.mono (fun k h=>.inl h)) (fun k h=>.inr h) hv (fun hne k hk h=>h.elim (hbA hne k hk) (fun h=>by obtain⟨a,ha,rfl⟩:=hk;have:=hv.lt hne a ha;omega)) hr (by omega)).mono ?_;rintro e w' ⟨v,rfl,rfl,h1,h2⟩;rw[←EC,←vL] at *;exact⟨_,rfl,rfl,h1.nx,h2.nx⟩
theorem qI{z:Nat}(hC:Bg z C)(A:Nat→Prop)(g:Nat)(Q:By)(W:World)(hM:RwI C T A W.heap g (bI [] Q).1 (bI [] Q).2)(hb:Q.length≤274877906944) :
 CA 30 [.pointer (some ⟨g,z,none⟩)] W (rJ W (frW Q (nF Q))):=by
 have hs:=yI Q [];have hr:=jB [] Q;have:=GB hC A g _ _ W hM (by rw[Z7] at hs;omega) hr;rwa[CE] at this
end
theorem B4(ao:Option Addr)(ac:Nat)(b:By)(W:World)(hv:Vw b8 W.heap ao ac b)(hb:b.length≤1000000000) :
 CA 154 [.slice ao b.length ac] W (Rp W (fA b)):=by
 refine cS 52 [(0,_)] Tryz.func154 ?_;refine Gz 8 ?_;refine WC b8 aH rfl ?_;intro w1 ho1 hs1 hf1;refine Gz 1 ?_;refine Wq aP aH rfl rfl ho1 (hv.ZM hf1) (by simp only[Z7];omega) (by simp only[Z7];unfold maxLen;omega) rfl ?_;intro o2 c2 w2 ho2 hf2 hr2 hn2;rw[aq] at ho2 ⊢;have hfr2:=aS (cX _) hr2 hf1.size;have hF2:aA nob W w2:=hf1.ZJ hf2 (cX _).step;refine cL (WA (cs:=#[.slice o2 b.length c2,iV 0]) wJ pK rfl (by kernel_rfl)) ?_;refine Wn pK rfl ?_;intro w3 hg3 hs3 hf3;obtain⟨p,ep⟩:∃ p,p=w2.heap.size:=⟨_,rfl⟩
 rw[←ep] at hg3 ⊢;refine sA rfl xA (by simp[Value.oneCell']) hg3 ?_;intro w4 hg4 hs4 hf4;have hF24:aA nob w2 w4:=hf3.tw hf4;have hF4:=hF2.trans hF24;have hz2:=hF2.size;have hl2:=ho2.lt;have hP4:RdR (fun k=>W.heap.size≤k∧k<w4.heap.size) w4.heap p 0 b:=⟨o2,c2,hg4,(ho2.ZM hF24).vw,⟨by have:=(Z1.1 hg4).1;omega,by have:=(Z1.1 hg4).1;omega⟩,fun _=>⟨fun⟨a,ha,e⟩=>by have:=hl2 a ha;omega,fun k ⟨a,ha,e⟩=>by have h1:=hl2 a ha;have h2:=hfr2 a ha;omega⟩⟩
 refine Gz 9 ?_;refine Wp (β:=(List Ent×Rd)×(Option Addr×Nat)) (fun⟨⟨l,s⟩,⟨oo,oc⟩⟩=>[(0,.slice ao b.length ac),(4,pT p),(5,.slice oo l.length oc)]) (fun⟨⟨l,s⟩,⟨oo,oc⟩⟩ w=>DtI b l s∧(s.1=0→l.length+s.2.length≤b.length)∧l.length≤b.length+1∧s.2.length≤b.length∧(∀ x∈l,x.1.length≤255)∧RdR (fun k=>W.heap.size≤k∧k<w4.heap.size) w.heap p s.1 s.2∧bJ 3 bH 39 w.heap oo oc l∧Fr w4.heap.size oo∧aA (fun k=>k=p∨w4.heap.size≤k) w4 w) (fun⟨⟨l,s⟩,⟨oo,oc⟩⟩=>(if s.1=0 then s.2.length+1 else 0)) ⟨⟨[],(0,b)⟩,⟨none,0⟩⟩ ⟨rfl,rfl,rfl,trivial⟩ ⟨DtI.zero b,fun _=>by simp,by simp,Z0 _,by simp,hP4,Zy,Zs,Zn _ _⟩ ?_;rintro⟨⟨l,s⟩,⟨oo,oc⟩⟩ w5 ⟨hI,hlen,hl1,hsl,hsm,hP5,hoo,hfro,hF5⟩;refine Gz 4 ?_;have hPP:=hP5;obtain⟨xo,xc,hobj,hxv,hap⟩:=hPP;refine fK 1 ?_ ?_<;>intro h16
 ·have e0:s.1=0:=h16;refine fW 4 ?_ ?_<;>intro h21
  ·have hne:s.2≠[]:=by intro e;rw[e] at h21;simp at h21
   have hst:=hI.step hne;have hlen2:=hlen e0;refine Gz 2 ?_;refine aW [(0,_),(4,_),(5,_),(22,_)] ?_;refine Gz 7 ?_;refine Wh PZ rfl (zW p s.1 s.2 w5 hP5 (by omega)) rfl ?_;rintro _ w6 ⟨rfl,hP6,hF6⟩;have hP6:RdR (fun k=>W.heap.size≤k∧k<w4.heap.size) w6.heap p (eW s).1 (eW s).2:=hP6;rw[show fD (tE s.1 s.2) (tR s.1 s.2) (tN s.1 s.2)=gTx s from rfl];have hl6:(eW s).2.length≤s.2.length:=aj (cC _ _ _) (cC _ _ _);refine Gz 5 ?_;refine Wh eD rfl (bT p _ _ 1 w6 hP6 (by omega)) rfl ?_;rintro _ w7 ⟨rfl,hP7,hF7⟩;have hP7:RdR (fun k=>W.heap.size≤k∧k<w4.heap.size) w7.heap p (gS 1 (eW s)).1 (gS 1 (eW s)).2:=hP7;have hl7:(gS 1 (eW s)).2.length≤s.2.length:=aj (cC _ _ _) hl6;refine Gz 7 ?_;refine Wh eD rfl (bT p _ _ 4 w7 hP7 (by omega)) rfl ?_;rintro _ w8 ⟨rfl,hP8,hF8⟩;have hP8:RdR (fun k=>W.heap.size≤k∧k<w4.heap.size) w8.heap p (jT s).1 (jT s).2:=hP8;have hF58:=(hF6.trans hF7).trans hF8;refine cL (bU (bH (kT s)) Ah pR) ?_;refine WD lW (cs:=(bH (kT s)).toArray) pR rfl rfl rfl (by kernel_rfl) rfl ?_;intro w9 hg9 hs9 hf9;have ho9:=bS (e:=39) (xs:=[kT s]) bA (by simpa using hg9) (by show 1≤maxLen;decide);have hoo8:=hoo.ZN hF58 (fun a ha e=>by have h1:=hfro a ha;have h2:a.block=p:=e;omega);refine Wx bA rfl lW rfl rfl (hoo8.ZM hf9) (ho9.vw bA) (by simp only[ZU];omega) (by simp only[ZU];unfold maxLen;omega) rfl ?_;intro o10 c10 w10 ho10 hf10 hr10 hn10;have hz58:=hF58.size;have hz5:=hF5.size;have hF10:aA (fun k=>k=p∨w4.heap.size≤k) w4 w10:=((hF5.trans (hF58.mono (fun k h=>.inl h))).trans hf9.any).trans (hf10.mono (fun k ⟨a,ha,e⟩=>.inr (by have:=hfro a ha;omega)));refine Gz 3 ?_;refine aG ⟨⟨l++[kT s],jT s⟩,⟨o10,c10⟩⟩ ⟨hst.1,fun h=>?_,?_,aj (LJ s) hsl,?_,?_,ho10,aS hfro hr10 (by omega),hF10⟩ ?_
   · rw[ZR,ZU];have e:((0,s.2):Rd)=s:=fm e0.symm rfl
     have h2:=uJ (ys:=s.2) (by rw[e];exact h);rw[e] at h2;omega
   · rw[ZR,ZU];have:0<s.2.length:=bw.2 hne
     omega
   · intro x hx
     rcases an.1 hx with h|h
     ·exact hsm x h
     ·rw[ai] at h;subst h;exact Ip s
   ·exact(hP8.ZM hf9).ZN hf10 (fun k hk ⟨a,ha,e⟩=>by have:=hfro a ha;have:=hk.2;omega)
   · show (if (jT s).1=0 then (jT s).2.length+1 else 0)<(if s.1=0 then s.2.length+1 else 0)
     rw[ZP e0];by_cases h:(jT s).1=0
     · rw[ZP h];have e:((0,s.2):Rd)=s:=fm e0.symm rfl
       have h2:=uJ (ys:=s.2) (by rw[e];exact h);rw[e] at h2;omega
     ·rw[ZO h];omega
  have hye:s.2=[]:=Z9 (by omega);have hend:∀ L,aT [] L→b=bE L→L=l:=fun L h1 h2=>by
   obtain⟨R,rfl,hs⟩:=hI L h1 h2;rw[hs] at hye;cases R with
  |nil=>simp
  |cons x R=>have:=congrArg cv hye;simp[bE,oO] at this
  refine Gz 2 ?_;refine aW [(0,_),(4,_),(5,_),(22,_)] ?_;refine Gz 10 ?_;refine Wh Ra rfl (Ad oo oc l w5 (hoo.vw bA) (fun x hx=>aj (hsm x hx) (by unfold maxLen;decide)) (by omega)) rfl ?_;rintro _ w6 ⟨o6,c6,rfl,ho6,hfr6,hf6⟩;have hPP:=hP5.ZM hf6;obtain⟨xo2,xc2,hobj2,hxv2,hap2⟩:=hPP;have hF6:aA nob W w6:=((hF4.any.ZJ hF5 (fun k h=>.inl h)).fresh (fun k h=>by rcases h with h|h<;>omega)).trans hf6;refine fK 12 ?_ ?_<;>intro h39
  ·have hbad:fA b=([],2):=nC (fun L h1 h2=>by have h3:=hI L h1 h2;obtain⟨R,_,h4⟩:=h3;rw[h4] at h39;exact h39 rfl);refine Gz 23 ?_;rw[hbad];exact⟨_,rfl,none,0,rfl,Zy,Zs,hF6⟩
  refine fW 2 ?_ ?_<;>intro h42
  ·have hbad:fA b=([],2):=nC (fun L h1 h2=>by rw[hend L h1 h2] at h1;exact h42 (by show (iO l).2=0;unfold iO;rw[ZP h1]));refine Gz 20 ?_;rw[hbad];exact⟨_,rfl,none,0,rfl,Zy,Zs,hF6⟩
  have hch:aT [] l:=ZY fun h=>h42 (by show (iO l).2≠0;unfold iO;rw[ZO h];decide);have hpe:iO l=(bE l,0):=ZP hch;refine Gz 3 ?_;refine cW (WG aH ty5 ty9 rfl ho6.vw) ?_;refine Gz 1 ?_;refine cW (WG aH ty5 ty9 rfl (hv.ZM hF6)) ?_;refine fW 0 ?_ ?_<;>intro h49
  ·have hbad:fA b=([],2):=nC (fun L h1 h2=>h49 (by rw[hpe,h2,hend L h1 h2]));refine Gz 13 ?_;rw[hbad];exact⟨_,rfl,none,0,rfl,Zy,Zs,hF6⟩
  have hgood:fA b=(l,0):=vI hch (by have h:=Z5.1 h49;rw[hpe] at h;exact h.symm);refine Gz 15 ?_;rw[hgood];exact⟨_,rfl,oo,oc,rfl,hoo.ZM hf6,hfro.mono hF4.size,hF6⟩
 have e0:¬ s.1=0:=h16;have hend:∀ L,aT [] L→b=bE L→L=l:=fun L h1 h2=>by
  obtain⟨R,rfl,hs⟩:=hI L h1 h2;rw[hs] at e0;exact absurd rfl e0
 refine Gz 7 ?_;refine aW [(0,_),(4,_),(5,_),(22,_)] ?_;refine Gz 10 ?_;refine Wh Ra rfl (Ad oo oc l w5 (hoo.vw bA) (fun x hx=>aj (hsm x hx) (by unfold maxLen;decide)) (by omega)) rfl ?_;rintro _ w6 ⟨o6,c6,rfl,ho6,hfr6,hf6⟩;have hPP:=hP5.ZM hf6;obtain⟨xo2,xc2,hobj2,hxv2,hap2⟩:=hPP;have hF6:aA nob W w6:=((hF4.any.ZJ hF5 (fun k h=>.inl h)).fresh (fun k h=>by rcases h with h|h<;>omega)).trans hf6;refine fK 12 ?_ ?_<;>intro h39
 ·have hbad:fA b=([],2):=nC (fun L h1 h2=>by have h3:=hI L h1 h2;obtain⟨R,_,h4⟩:=h3;rw[h4] at h39;exact h39 rfl);refine Gz 23 ?_;rw[hbad];exact⟨_,rfl,none,0,rfl,Zy,Zs,hF6⟩
 refine fW 2 ?_ ?_<;>intro h42
 ·have hbad:fA b=([],2):=nC (fun L h1 h2=>by rw[hend L h1 h2] at h1;exact h42 (by show (iO l).2=0;unfold iO;rw[ZP h1]));refine Gz 20 ?_;rw[hbad];exact⟨_,rfl,none,0,rfl,Zy,Zs,hF6⟩
 have hch:aT [] l:=ZY fun h=>h42 (by show (iO l).2≠0;unfold iO;rw[ZO h];decide);have hpe:iO l=(bE l,0):=ZP hch;refine Gz 3 ?_;refine cW (WG aH ty5 ty9 rfl ho6.vw) ?_;refine Gz 1 ?_;refine cW (WG aH ty5 ty9 rfl (hv.ZM hF6)) ?_;refine fW 0 ?_ ?_<;>intro h49
 ·have hbad:fA b=([],2):=nC (fun L h1 h2=>h49 (by rw[hpe,h2,hend L h1 h2]));refine Gz 13 ?_;rw[hbad];exact⟨_,rfl,none,0,rfl,Zy,Zs,hF6⟩
 have hgood:fA b=(l,0):=vI hch (by have h:=Z5.1 h49;rw[hpe] at h;exact h.symm);refine Gz 15 ?_;rw[hgood];exact⟨_,rfl,oo,oc,rfl,hoo.ZM hf6,hfro.mono hF4.size,hF6⟩
theorem Ck{l:List Ent}{s:By}{i:Nat}{x:Ent}(hx:l[i]?=some x)(h:x.1=s)(hno:∀ (j:Nat) (y:Ent),j<i→l[j]?=some y→y.1≠s):oF l s=(x,0):=by
 have:l.find? (fun x=>decide (x.1=s))=some x:=by
  rw[List.find?_eq_some_iff_getElem];obtain⟨hi,rfl⟩:=ZS.1 hx;exact⟨Z3 h,i,hi,rfl,fun j hj=>by
   have:=hno j l[j] hj (ZQ (by omega));simp[this]⟩
 unfold oF;rw[this]
theorem As{l:List Ent}{s:By}(hno:∀ (j:Nat) (y:Ent),l[j]?=some y→y.1≠s):oF l s=(lJ,20):=by
 have:l.find? (fun x=>decide (x.1=s))=none:=by
  rw[List.find?_eq_none];intro x hx;obtain⟨j,hj⟩:=ab hx;simp[hno j x hj]
 unfold oF;rw[this]
theorem Jv(lo:Option Addr)(lc:Nat)(l:List Ent)(s:By)(W:World)(hv:VwM 3 bH W.heap lo lc l) :
 CA 130 [.slice lo l.length lc,.string (bs s)] W fun v w'=>v=.tuple #[.agg (bH (oF l s).1).toArray,iV (oF l s).2]∧aA nob W w':=by
 have h63:=hv.ZL;obtain⟨r,er⟩:∃ r,r=W.heap.size:=⟨_,rfl⟩
 refine cS 25 [(0,_),(1,_)] Tryz.func130 ?_;refine Gz 2 ?_;refine Wn pR rfl ?_;intro w1 hg1 hs1 hf1;have hg1:w1.heap[W.heap.size]?=some (.cells (bH lJ).toArray 39 (0,0)):=hg1;rw[←er] at hg1 ⊢;have hv1:=hv.ZM hf1;refine Gz 10 ?_;refine Wp (β:=Nat) (fun i=>[(0,.slice lo l.length lc),(1,.string (bs s)),(4,pT r),(6,iV i)]) (fun i w=>i≤l.length∧(∀ (j:Nat) (y:Ent),j<i→l[j]?=some y→y.1≠s)∧w=w1) (fun i=>l.length-i) 0 ⟨rfl,rfl,rfl,rfl,trivial⟩ ⟨ZZ _,fun j y hj=>by omega,rfl⟩ ?_;rintro i w ⟨hi,hno,hw⟩;subst w;refine fK 6 ?_ ?_<;>intro h10
 ·have hil:i<l.length:=by omega
  obtain⟨x,hx⟩:∃ x,l[i]?=some x:=⟨_,ZQ hil⟩
  refine Gz 11 ?_;refine cL (Wj lW rfl rfl hv1.non (by omega)) ?_;refine Gz 1 ?_;refine cL (Wk gH rfl (hv1.rowZ i rfl hx 0 _ rfl)) ?_;refine fK 1 ?_ ?_<;>intro h19
  ·refine Gz 7 ?_;refine cL (Wj lW rfl rfl hv1.non (by omega)) ?_;refine cL (Ws (cs:=bH x) eA rfl (fun j v hj=>hv1.rowZ i rfl hx j v hj)) ?_;refine sA rfl eA (by exact fT _) hg1 ?_;intro w2 hg2 hs2 hf2;refine Gz 9 ?_;refine rC hg2 eA ?_;exact⟨_,rfl,by rw[Ck hx h19 hno],hf1.tw hf2⟩
  have hnx:x.1≠s:=h19;refine Gz 11 ?_;refine aG (i+1) ⟨by omega,fun j y hj hy=>?_,rfl⟩ (by show l.length-(i+1)<l.length-i;omega);by_cases e:j=i
  ·subst e;rw[hx] at hy;cases hy;exact hnx
  ·exact hno j y (by omega) hy
 refine Gz 10 ?_;refine cL (bU (bH lJ) Ah pR) ?_;refine sA rfl eA (by exact fT _) hg1 ?_;intro w2 hg2 hs2 hf2;refine Gz 4 ?_;refine rC hg2 eA ?_;exact⟨_,rfl,by rw[As (fun j y hy=>hno j y (by have:=(ZS.1 hy).1;omega) hy)],hf1.tw hf2⟩
theorem Jt(ao bo:Option Addr)(ac bc:Nat)(a b:List Ent)(W:World)(ha:VwM 3 bH W.heap ao ac a)(hb:VwM 3 bH W.heap bo bc b) :
 CA 97 [.slice ao a.length ac,.slice bo b.length bc] W fun v w'=>v=.bool (decide (a=b))∧aA nob W w':=by
 have h63:=ha.ZL;refine cS 26 [(0,_),(1,_)] Tryz.func97 ?_;refine fK 12 ?_ ?_<;>intro h10
 ·have hne:¬ a=b:=fun e=>h10 (by rw[e]);refine Gz 11 ?_;exact⟨_,rfl,by rw[ZV hne],Zn _ _⟩
 have hab:a.length=b.length:=by omega
 refine Gz 12 ?_;refine Wp (β:=Nat) (fun i=>[(0,.slice ao a.length ac),(1,.slice bo b.length bc),(5,iV i)]) (fun i w=>i≤a.length∧a.take i=b.take i∧aA nob W w) (fun i=>a.length-i) 0 ⟨rfl,rfl,rfl,trivial⟩ ⟨ZZ _,rfl,Zn _ _⟩ ?_;rintro i w ⟨hi,heq,hF⟩;refine fK 6 ?_ ?_<;>intro h14
 ·have hil:i<a.length:=by omega
  obtain⟨x,hx⟩:∃ x,a[i]?=some x:=⟨_,ZQ hil⟩
  obtain⟨y,hy⟩:∃ y,b[i]?=some y:=⟨_,ZQ (by omega)⟩
  have ha2:=ha.ZM hF;have hb2:=hb.ZM hF;refine Gz 8 ?_;refine Ww 9 [0,1,2,3,4,5,6,7,8] aK (by kernel_rfl) ?_;refine Gz 2 ?_;refine xC rfl (Wj lW rfl rfl ha2.non (by omega)) ?_;refine xC rfl (Ws (cs:=bH x) eA rfl (fun j v hj=>ha2.rowZ i rfl hx j v hj)) ?_;refine Gz 2 ?_;refine xC rfl (Wj lW rfl rfl hb2.non (by omega)) ?_;refine xC rfl (Ws (cs:=bH y) eA rfl (fun j v hj=>hb2.rowZ i rfl hy j v hj)) ?_;refine X3 rfl rfl (XY rfl rfl) rfl (fun h25=>?_) (fun h25=>?_)
  ·have hne:¬ a=b:=fun e=>h25 (by rw[e,hy] at hx;exact(dx.inj hx).symm);refine Gz 15 ?_;exact⟨_,rfl,by rw[ZV hne],hF.draws 1⟩
  have hxy:x=y:=Z5.1 h25;refine Gz 11 ?_;refine aG (i+1) ⟨by omega,by rw[lV hx,lV hy,heq,hxy],hF.draws 1⟩ (by show a.length-(i+1)<a.length-i;omega)
 refine Gz 15 ?_;exact⟨_,rfl,by rw[Z3 (show a=b from by rw[←be (l:=a),←be (l:=b),←hab,show a.length=i by omega];exact heq)],hF⟩
section
open Go Go.RowKit Go.Maps
structure ItM {α:Type}(enc:α→Value)(H:Array Obj)(g r:Nat)(m:List (α×Value))(seen:List Nat):Prop where
 map:kS enc H g m
 it:H[r]?=some (.mapIter (some g) m.length seen.toArray m.length)
 nd:seen.Nodup
 lt:∀ j∈seen,j<m.length
theorem EZ:∀ (n:Nat) (l:List Nat),l.Nodup→(∀ x∈l,x<n)→l.length≤n
|0,[],_,_=>Z0 _
|0,x::l,_,h=>absurd (h x (by simp)) (Nat.not_lt_zero _)
|n+1,l,hn,h=>by
   have h1:=EZ n (l.erase n) (hn.erase n) (fun x hx=>by
    have h2:=(List.Nodup.mem_erase_iff hn).1 hx;have:=h x h2.2;have:=h2.1;omega)
   have:=List.length_erase (a:=n) (l:=l)
   split at this
   ·omega
   ·omega
section
variable {P:Program}{N:Nt}{Q:Exit→Act→World→Prop}{l:SF}{w:World}{ops:Array Oper}{rest:List Oper}
variable {ty:TypeId}{pos:String}{aft:Array Edge}{d:Nat}{x:Operand}{t k e:TypeId}{α:Type}{enc:α→Value}{g r:Nat}{m:List (α×Value)}{seen:List Nat}
theorem ItM.ZN{w w':World}(h:ItM enc w.heap g r m seen)(hg:w'.heap[g]?=w.heap[g]?)(hr:w'.heap[r]?=w.heap[r]?):ItM enc w'.heap g r m seen:=⟨⟨hg.trans h.map.1,h.map.2⟩,hr.trans h.it,h.nd,h.lt⟩
theorem YD(ht:P.underlying t=some (.map k e))(hx:evL l x=some (.map (some g)))(hm:kS enc w.heap g m)(hd:ba d N.n=true)
 (h:∀ w',ItM enc w'.heap g w.heap.size m []→w'.heap.size=w.heap.size+1→aA nob w w'→Sl P N ops Q rest ((d,pT w.heap.size)::l) w') :
 Sl P N ops Q (⟨some d,.range t x,ty,pos,aft,none⟩::rest) l w:=by
 have hf:=aA.alloc nob w (.mapIter (some g) m.length #[] m.length);refine W2 (w':=w.alloc (.mapIter (some g) m.length #[] m.length)) (fun a ha=>?_) hd (h _ ⟨hm.ZN hf id,heap_alloc_new w _,List.nodup_nil,by simp⟩ (by simp) hf);simp[execOp,ha.ev hx,run_range_map w t k e g _ _ ht hm.1]
theorem wV(m:List (α×Value)):(eY enc m).map (·.born)=bu m.length:=by
 apply cd;intro i;by_cases hi:i<m.length
 ·simp[eY,hi]
 ·simp[eY,hi]
theorem IF{m:List (α×Value)}{x:MapEntry}(h:x∈eY enc m):x.born<m.length∧∃ p,m[x.born]?=some p∧x.key=enc p.1∧x.val=p.2:=by
 obtain⟨j,hj⟩:=ab h;obtain⟨p,hp,rfl⟩:=DB hj;exact⟨(ZS.1 hp).1,p,hp,rfl,rfl⟩
theorem YU(hx:evL l x=some (pT r))(hi:ItM enc w.heap g r m seen)(hd:ba d N.n=true)
 (h1:(∀ j,j<m.length→j∈seen)→Sl P N ops Q rest ((d,.tuple [Value.bool false].toArray)::l) w)
 (h2:∀ (j:Nat) (p:α×Value) (w':World),j<m.length→j∉seen→m[j]?=some p→ItM enc w'.heap g r m (seen++[j])→w'.heap.size=w.heap.size→aA (· = r) w w'→(Instr.entry (pT r)).run P w'=.ok (.tuple [enc p.1,p.2].toArray) w' →
   Sl P N ops Q rest ((d,.tuple [Value.bool true,enc p.1,p.2].toArray)::l) w') :
 Sl P N ops Q (⟨some d,.next x false,ty,pos,aft,none⟩::rest) l w:=by
 have hold:∀ x∈(eY enc m).toArray.toList,x.born<m.length:=fun x hx=>(IF (by simpa using hx)).1;rcases run_next_at (P:=P) w ty r g m.length m.length seen.toArray (eY enc m).toArray m.length hi.it hi.map.1 hold (Z0 _) with⟨h0,hrun⟩|⟨e,he,w1,hal,hrun⟩
 · refine W2 (w':=w) (fun a ha=>?_) hd (h1 fun j hj=>?_)
   ·simp only[execOp,ha.ev hx,Sem.run_bind,hrun];rfl
   · have:∃ x∈eY enc m,x.born=j:=by
      have:j∈(eY enc m).map (·.born):=by rw[wV];exact List.mem_range.2 hj
      obtain⟨x,hx,e⟩:=av.1 this;exact⟨x,hx,e⟩
     obtain⟨x,hx,rfl⟩:=this;have:=all_seen (eY enc m).toArray seen.toArray h0 x (by simpa using hx);simpa using this
 · obtain⟨hem,hes⟩:=mem_left he
   have hem':e∈eY enc m:=by simpa using hem
   obtain⟨hb,p,hp,hk,hv⟩:=IF hem';have hns:e.born∉seen:=by simpa using hes
   have hr1:w1.heap[r]?=some (.mapIter (some g) m.length seen.toArray m.length):=by rcases hal with rfl|rfl<;>exact hi.it
   obtain⟨s1,s2,s3⟩:=yJ (o':=.mapIter (some g) m.length (seen.toArray.push e.born) m.length) hr1;have hf:aA (· = r) w (ChangeMaps.setBlock w1 r (.mapIter (some g) m.length (seen.toArray.push e.born) m.length)):=by
    rcases hal with rfl|rfl
    ·exact s3
    ·exact⟨s3.os,s3.tape,s3.output,s3.size,s3.same⟩
   have hrg:¬ g=r:=fun h=>by subst h;have:=hi.map.1;rw[hi.it] at this;cases this
   have hmp:=hi.map.ZN hf hrg;have hit:ItM enc (ChangeMaps.setBlock w1 r (.mapIter (some g) m.length (seen.toArray.push e.born) m.length)).heap g r m (seen++[e.born]):=⟨hmp,by rw[s1];simp,
    fg.2 ⟨hi.nd,by simp,by simp only[ai];rintro a ha b rfl rfl;exact hns ha⟩,fun j hj=>by
     rcases an.1 hj with h|h
     ·exact hi.lt j h
     ·rw[ai] at h;subst h;exact hb⟩
   have hen:=run_entry_at (P:=P) _ r g m.length seen.toArray (eY enc m).toArray m.length e s1 hmp.1 hem (by
    have:=wV (enc:=enc) m;simp only at this ⊢;rw[this];exact List.nodup_range)
   rw[hk,hv] at hen hrun;refine W2 (w':=ChangeMaps.setBlock w1 r (.mapIter (some g) m.length (seen.toArray.push e.born) m.length)) (fun a ha=>?_) hd (h2 e.born p _ hb hns hp hit (by rcases hal with rfl|rfl<;>exact s2) hf hen);simp only[execOp,ha.ev hx,Sem.run_bind,hrun];rfl
theorem YE{dd:Option Nat}{gd:Option (Nat×Bool)}{w0:World}{v:Value}(hx:evL l x=some (pT r))(h:∀ w:World,w.heap=w0.heap→(Instr.entry (pT r)).run P w=.ok v w) :
 Cm P N (· = w0.heap) l ⟨dd,.entry x,ty,pos,aft,gd⟩ v:=fun a w ha hw=>by
 simp only[execOp,ha.ev hx,Sem.run_bind,h w hw];rfl
theorem ItM.entry{w:World}{j:Nat}{p:α×Value}(h:ItM enc w.heap g r m (seen++[j]))(hp:m[j]?=some p):∀ w2:World,w2.heap=w.heap→(Instr.entry (pT r)).run P w2=.ok (.tuple [enc p.1,p.2].toArray) w2:=fun w2 e2=>by
 have hj:(eY enc m)[j]?=some ⟨enc p.1,p.2,j⟩:=by simp[eY,List.getElem?_mapIdx,hp]
 have hi:w2.heap[r]?=some (.mapIter (some g) m.length (seen.toArray.push j) m.length):=by rw[e2,h.it];simp
 have hm:w2.heap[g]?=some (.map (eY enc m).toArray m.length):=by rw[e2];exact h.map.1
 exact run_entry_at (P:=P) w2 r g m.length seen.toArray (eY enc m).toArray m.length ⟨enc p.1,p.2,j⟩ hi hm (by simpa using ZW hj) (by
  have:=wV (enc:=enc) m;simp only at this ⊢;rw[this];exact List.nodup_range)
variable {k2:TypeId}{z:Value}
theorem YF{gd:Option (Nat×Bool)}{dd:Option Nat}{CH:Array Obj→Prop}(ht:NP P t k e z)(hx:evL l x=some (.map (some g)))(hm:∀ H,CH H→kS enc H g m):Cm P N CH l ⟨dd,.call ⟨.builtin .len,#[x],#[t]⟩,ty,pos,aft,gd⟩ (iV m.length):=fun b w hb hw=>by
 obtain⟨h1,hn⟩:=hm _ hw;have hg:=MapKept.run_getObj_map (P:=P) h1;simp[execOp,hb.ev hx,resolve,invoke,builtin,Builtin.len_,run_underlying ht.und,hg,goInt,Na]
end
end
def RrC(H:Array Obj)(ad:Addr)(io:Option Addr)(il ic:Nat)(fr to:Int):Prop:=bK H (ad.add 0)=some (.slice io il ic)∧bK H (ad.add 1)=some (iV fr)∧bK H (ad.add 2)=some (iV to)
def RrA(H:Array Obj)(ad:Addr)(io:Option Addr)(ic:Nat)(im:By)(fr to:Int):Prop:=RrC H ad io im.length ic fr to∧Vw b8 H io ic im
theorem RrC.ZN{S:Nat→Prop}{w w':World}{ad:Addr}{io:Option Addr}{il ic:Nat}{fr to:Int}(h:RrC w.heap ad io il ic fr to)(f:aA S w w')(hs:¬ S ad.block):RrC w'.heap ad io il ic fr to:=
 ⟨dR h.1 f (by rwa[oS]),dR h.2.1 f (by rwa[oS]),dR h.2.2 f (by rwa[oS])⟩
theorem RrC.ZM{w w':World}{ad:Addr}{io:Option Addr}{il ic:Nat}{fr to:Int}(h:RrC w.heap ad io il ic fr to)(f:aA nob w w'):RrC w'.heap ad io il ic fr to:=h.ZN f id
theorem RrA.ZM{w w':World}{ad:Addr}{io:Option Addr}{ic:Nat}{im:By}{fr to:Int}(h:RrA w.heap ad io ic im fr to)(f:aA nob w w'):RrA w'.heap ad io ic im fr to:=⟨h.1.ZM f,h.2.ZM f⟩
theorem Jj(ad:Addr)(io:Option Addr)(ic:Nat)(im:By)(fr to:Int)(W:World)(hM:RrA W.heap ad io ic im fr to) :
 CA 149 [.pointer (some ad)] W fun v w'=>v=.bool (dX im fr to)∧aA nob W w':=by
 obtain⟨hg,hv⟩:=hM;refine cS 31 [(0,_)] Tryz.func149 ?_;refine Gz 6 ?_;refine Ww 29 [0,1,2,3,4,5,6,7,8,9,10,11,12,13,14,15,16,17,18,19,20,21,22,23,24,25,26,27,28] aK (by kernel_rfl) ?_;refine Gz 3 ?_;refine xC rfl (Wk aF rfl (by first|exact hg.1|exact hg.2.1|exact hg.2.2)) ?_;refine xK 0 ?_ ?_<;>intro h7
 ·refine Gz 4 ?_;refine xV rfl (Wk aF rfl (by first|exact hg.1|exact hg.2.1|exact hg.2.2)) ?_;refine Gz 3 ?_;refine xV rfl (Wk aX rfl (by first|exact hg.1|exact hg.2.1|exact hg.2.2)) ?_;refine xW 1 ?_ ?_<;>intro h18
  ·refine Gz 5 ?_;refine xV rfl (Wk aF rfl (by first|exact hg.1|exact hg.2.1|exact hg.2.2)) ?_;refine Gz 3 ?_;refine xV rfl (Wk aF rfl (by first|exact hg.1|exact hg.2.1|exact hg.2.2)) ?_;refine xW 0 ?_ ?_<;>intro h29
   ·refine Gz 6 ?_;refine⟨_,rfl,congrArg Value.bool (iM ⟨fun h=>?_,fun h=>?_⟩),(Zn _ _).draws 1⟩
    · first
     |omega
     |exact absurd h (by decide)
    · first
     |rfl
     |exact absurd h (by omega)
   refine Gz 6 ?_;refine⟨_,rfl,congrArg Value.bool (iM ⟨fun h=>?_,fun h=>?_⟩),(Zn _ _).draws 1⟩
   · first
    |omega
    |exact absurd h (by decide)
   · first
    |rfl
    |exact absurd h (by omega)
  refine Gz 17 ?_;refine⟨_,rfl,congrArg Value.bool (iM ⟨fun h=>?_,fun h=>?_⟩),(Zn _ _).draws 1⟩
  · first
   |omega
   |exact absurd h (by decide)
  · first
   |rfl
   |exact absurd h (by omega)
 refine Gz 28 ?_;refine⟨_,rfl,congrArg Value.bool (iM ⟨fun h=>?_,fun h=>?_⟩),(Zn _ _).draws 1⟩
 · first
  |omega
  |exact absurd h (by decide)
 · first
  |rfl
  |exact absurd h (by omega)
theorem Ez(ad:Addr)(io:Option Addr)(ic:Nat)(im:By)(fr to a:Int)(W:World)(hM:RrA W.heap ad io ic im fr to)(hmay:dX im fr to=true)(him:im.length≤1099511627776)(ha:0≤a∧a≤9223372036854775807) :
 CA 150 [.pointer (some ad),iV a] W (KE W (cM im fr to a)):=by
 obtain⟨hg,hv⟩:=hM;obtain⟨hm1,hm2,hm3⟩:=uQ hmay;refine cS 58 [(0,_),(1,_)] Tryz.func150 ?_;refine Gz 9 ?_;refine Ww 11 [0,1,2,3,4,5,6,7,8,9,10] aK (by kernel_rfl) ?_;refine Gz 4 ?_;refine xC rfl (Wk aF rfl (by first|exact hg.1|exact hg.2.1|exact hg.2.2)) ?_;refine Gz 3 ?_;refine xC rfl (Wk aF rfl (by first|exact hg.1|exact hg.2.1|exact hg.2.2)) ?_;refine xK 1 ?_ ?_<;>intro h20
 ·have hn:cM im fr to a=([],0,2):=by unfold cM bO;rw[ZP (by omega)]
  refine Gz 13 ?_;rw[hn];exact⟨_,rfl,none,0,rfl,Zu,Zs,Zo 1⟩
 refine Gz 6 ?_;refine Wv 18 (fun H=>RrC H ad io im.length ic fr to) [10] [0,1,2,3,4,5,6,7,8,9,10,11,12,13,14,15,16,17] aK (by kernel_rfl) (hg) ?_;refine Gz 3 ?_;refine xC rfl (Wt aX rfl (fun H hH=>by first|exact hH.1|exact hH.2.1|exact hH.2.2)) ?_;refine Gz 3 ?_;refine xC rfl (Wt aF rfl (fun H hH=>by first|exact hH.1|exact hH.2.1|exact hH.2.2)) ?_;refine Gz 2 ?_;refine Wo rfl rfl (Wh Iy rfl (rR io ic im (fr+a) _ (hv.ZM ((Zo 1).draws 1)) him (by omega)) rfl ?_);rintro _ w1 ⟨o1,c1,rfl,ho1,hfr1,hf1⟩;refine Wu (by exact hg.ZM hf1.ZK.ZK) ?_;have hf1:=hf1.ZK.ZK;have hg1:=hg.ZM hf1;obtain⟨t,hT⟩:∃ t,t=bD im (fr+a):=⟨_,rfl⟩
 rw[←hT];rw[←hT] at ho1;have hho:bO im fr to a=if t.2.2≠0∨to<t.2.1∨t.1.length=0 then none else some (t.1,t.2.1-fr):=by unfold bO;rw[ZO (by omega),←hT]
 have htk:=qC (im:=im) (a:=fr+a);rw[←hT] at htk;refine fK 13 ?_ ?_<;>intro h37
 ·rw[ZP (.inl h37)] at hho;have hn:cM im fr to a=([],0,2):=by unfold cM;rw[hho]
  refine Gz 26 ?_;rw[hn];exact⟨_,rfl,none,0,rfl,Zu,Zs,hf1⟩
 have he:t.2.2=0:=Z5.1 h37;have htk:=htk he;refine Gz 5 ?_;refine cW (Wk aF rfl (by first|exact hg1.1|exact hg1.2.1|exact hg1.2.2)) ?_;refine fW 0 ?_ ?_<;>intro h44
 ·rw[ZP (.inr (.inl h44))] at hho;have hn:cM im fr to a=([],0,2):=by unfold cM;rw[hho]
  refine Gz 19 ?_;rw[hn];exact⟨_,rfl,none,0,rfl,Zu,Zs,hf1⟩
 refine fW 4 ?_ ?_<;>intro h49
 ·rw[ZP (.inr (.inr (by omega)))] at hho;have hn:cM im fr to a=([],0,2):=by unfold cM;rw[hho]
  refine Gz 14 ?_;rw[hn];exact⟨_,rfl,none,0,rfl,Zu,Zs,hf1⟩
 rw[ZO (by rintro(h|h|h);exact h37 h;omega;omega)] at hho;have hn:cM im fr to a=(t.1,t.2.1-fr,0):=by unfold cM;rw[hho]
 refine Gz 7 ?_;refine Ww 10 [0,1,2,3,4,5,6,7,8,9] aK (by kernel_rfl) ?_;refine Gz 5 ?_;refine xC rfl (Wk aF rfl (by first|exact hg1.1|exact hg1.2.1|exact hg1.2.2)) ?_;refine Gz 8 ?_;rw[hn];exact⟨_,rfl,o1,c1,rfl,ho1,hfr1,hf1.draws 1⟩
theorem iN(ad:Addr)(io:Option Addr)(ic:Nat)(im:By)(fr to ref n:Int)(W:World)(hM:RrA W.heap ad io ic im fr to)(him:im.length≤1099511627776)(href : -9223372036854775808≤ref∧ref≤9223372036854775807)(hn:n≤1099511627776) :
 CA 126 [.pointer (some ad),iV ref,iV n] W (KE W (aD im fr to ref n)):=by
 refine cS 88 [(0,_),(1,_),(2,_)] Tryz.func126 ?_;refine fK 11 ?_ ?_<;>intro h18
 ·have e:aD im fr to ref n=([],0,1):=by unfold aD;rw[ZP (by omega)]
  refine Gz 17 ?_;exact⟨_,rfl,none,0,by rw[e];rfl,by rw[e];exact Zu,Zs,Zn _ _⟩
 refine fW 2 ?_ ?_<;>intro h21
 ·have e:aD im fr to ref n=([],0,1):=by unfold aD;rw[ZP (by omega)]
  refine Gz 14 ?_;exact⟨_,rfl,none,0,by rw[e];rfl,by rw[e];exact Zu,Zs,Zn _ _⟩
 obtain⟨m,rfl⟩:∃ m:Nat,n=m:=⟨n.toNat,by omega⟩
 refine cA 9 P8 (Jj ad io ic im fr to W hM) ?_;rintro _ w1 ⟨rfl,hf1⟩;refine Gz 7 ?_;refine WF (WX rfl) rfl (fun h26=>?_) (fun h26=>?_)
 ·have e:aD im fr to ref m=([],0,2):=by unfold aD;rw[ZO (by omega),ZP h26]
  refine Gz 13 ?_;exact⟨_,rfl,none,0,by rw[e];rfl,by rw[e];exact Zu,Zs,hf1⟩
 have hmay:dX im fr to=true:=by simpa using h26
 obtain⟨hm1,hm2,hm3⟩:=uQ hmay;have e:aD im fr to ref m=rdL im fr to m (ref/256) (ref%256).toNat []:=by unfold aD;rw[ZO (by omega),ZO h26,ak]
 refine Gz 7 ?_;refine WC b8 aH rfl ?_;intro wl hol0 hsl hfl;have hF1:=hf1.trans hfl;refine Gz 6 ?_;refine cL (W6 rfl rfl (by omega) (by decide)) ?_;refine Gz 6 ?_;refine cL (W7 rfl rfl (by omega) (by decide)) ?_;refine Gz 5 ?_;refine Wp (β:=(Int×Nat)×(By×(Option Addr×Nat))) (fun⟨⟨at_,i⟩,⟨out,⟨o,c⟩⟩⟩=>[(0,.pointer (some ad)),(2,iV m),(10,.slice o out.length c),(11,iV at_),(12,iV i)]) (fun⟨⟨at_,i⟩,⟨out,⟨o,c⟩⟩⟩ w=>rdL im fr to m at_ i out=aD im fr to ref m∧out.length≤m∧0≤at_∧256*at_+i≤9223372036854775807∧i≤255∧Own b8 5 w.heap o c out∧Fr W.heap.size o∧aA nob W w) (fun⟨⟨at_,i⟩,⟨out,⟨o,c⟩⟩⟩=>m-out.length) ⟨⟨ref/256,(ref%256).toNat⟩,⟨[],⟨some ⟨w1.heap.size,0,none⟩,0⟩⟩⟩ ⟨rfl,rfl,rfl,rfl,(by show some (Value.int .i64 _)=some (Value.int .i64 _);congr 2;omega),trivial⟩ ⟨e.symm,ZZ _,by omega,by omega,by omega,hol0,(cX _).mono hf1.size,hF1⟩ ?_;rintro⟨⟨at_,i⟩,⟨out,⟨o,c⟩⟩⟩ w2 ⟨hj,hol,hat,hai,hi8,ho2,hfr2,hF2⟩;refine fK 6 ?_ ?_<;>intro h35
 ·have hon:out.length<m:=by omega
  refine Gz 10 ?_;refine Wh P7 rfl (Ez ad io ic im fr to at_ w2 (hM.ZM hF2) hmay him ⟨hat,by omega⟩) rfl ?_;rintro _ w3 ⟨bo,bc,rfl,hob,hfrb,hf3⟩;obtain⟨t,hT⟩:∃ t,t=cM im fr to at_:=⟨_,rfl⟩
  rw[←hT];rw[←hT] at hob;have hF3:=hF2.trans hf3;have ho3:=ho2.ZM hf3;refine fK 13 ?_ ?_<;>intro h44
  ·have hbad:rdL im fr to m at_ i out=([],0,2):=jI hon (xO (by rw[←hT];exact h44));refine Gz 23 ?_
   (rw[hbad] at hj;exact⟨_,rfl,none,0,by rw[←hj];rfl,by rw[←hj];exact Zu,Zs,hF3⟩)
  have he:t.2.2=0:=Z5.1 h44;have hh:=xN (im:=im) (fr:=fr) (to:=to) (a:=at_) (by rw[←hT];exact he);rw[←hT] at hh;have hs:=dU hh;refine fW 4 ?_ ?_<;>intro h49
  ·have hbad:rdL im fr to m at_ i out=([],0,2):=lD hon hh (by omega);refine Gz 18 ?_
   (rw[hbad] at hj;exact⟨_,rfl,none,0,by rw[←hj];rfl,by rw[←hj];exact Zu,Zs,hF3⟩)
  have hib:¬ t.1.length≤i:=by omega
  have hlb:=hob.vw.le;obtain⟨x,hx⟩:∃ x,x=(t.1.drop i).take (m-out.length):=⟨_,rfl⟩
  have hxl:x.length=min (t.1.length-i) (m-out.length):=by rw[hx,ZT,ZX];omega
  refine Gz 16 ?_;refine cL (Wm (u:=iV (x.length:Nat)) (Xh rfl rfl) (by congr 1;omega)) ?_;refine Gz 11 ?_;refine cL (Wm (u:=.slice (aO bo bc i 1) x.length (bc-i)) (Xe aH rfl rfl rfl (by omega) (by omega)) (by rw[hxl];congr 1;omega)) ?_;have hvx:=FK hob.vw hx (by omega);refine Wq aP aH rfl rfl ho3 hvx (by omega) (by unfold maxLen;omega) rfl ?_;intro o6 c6 w6 ho6 hf6 hr6 hn6;have hF6:aA nob W w6:=hF3.ZJ hf6 hfr2.step;have hfr6:=aS hfr2 hr6 hF3.size;have hal:(out++x).length=out.length+x.length:=ZR;have hxb:x.length=((t.1.drop i).take (m-out.length)).length:=by rw[hx]
  refine fK 17 ?_ ?_<;>intro h74
  ·refine fW 3 ?_ ?_<;>intro h78
   ·have hbad:rdL im fr to m at_ i out=([],0,2):=lE hon hh hib (by rw[←hxb];omega) (by rw[←hx];omega);refine Gz 18 ?_
    (rw[hbad] at hj;exact⟨_,rfl,none,0,by rw[←hj];rfl,by rw[←hj];exact Zu,Zs,hF6⟩)
   refine fK 9 ?_ ?_<;>intro h81
   ·have hgo:=fR (i:=i) (n:=m) hon hh hib (by rw[←hxb];omega);rw[←hx,hj] at hgo;refine Gz 13 ?_;exact aG ⟨⟨t.2.1,0⟩,⟨out++x,⟨o6,c6⟩⟩⟩ ⟨hgo.symm,by omega,by omega,by omega,by omega,ho6,hfr6,hF6⟩ (by show m-(out++x).length<m-out.length;omega)
   have h128:¬ i+((t.1.drop i).take (m-out.length)).length=128:=by rw[←hxb];omega
   have hgo:=mB (i:=i) (n:=m) hon hh hib h128 (by rw[←hx];omega);rw[←hx,hj] at hgo;refine Gz 5 ?_;exact aG ⟨⟨at_,i+x.length⟩,⟨out++x,⟨o6,c6⟩⟩⟩ ⟨hgo.symm,by omega,hat,by omega,by omega,ho6,hfr6,hF6⟩ (by show m-(out++x).length<m-out.length;omega)
  refine fK 13 ?_ ?_<;>intro h81
  ·have hgo:=fR (i:=i) (n:=m) hon hh hib (by rw[←hxb];omega);rw[←hx,hj] at hgo;refine Gz 13 ?_;exact aG ⟨⟨t.2.1,0⟩,⟨out++x,⟨o6,c6⟩⟩⟩ ⟨hgo.symm,by omega,by omega,by omega,by omega,ho6,hfr6,hF6⟩ (by show m-(out++x).length<m-out.length;omega)
  have h128:¬ i+((t.1.drop i).take (m-out.length)).length=128:=by rw[←hxb];omega
  have hgo:=mB (i:=i) (n:=m) hon hh hib h128 (by rw[←hx];omega);rw[←hx,hj] at hgo;refine Gz 5 ?_;exact aG ⟨⟨at_,i+x.length⟩,⟨out++x,⟨o6,c6⟩⟩⟩ ⟨hgo.symm,by omega,hat,by omega,by omega,ho6,hfr6,hF6⟩ (by show m-(out++x).length<m-out.length;omega)
 have hon:¬ out.length<m:=by omega
 rw[jJ hon] at hj;refine Gz 12 ?_;refine cL (WN rfl rfl (by omega)) ?_;refine Gz 9 ?_;exact⟨_,rfl,o,c,by rw[←hj],by rw[←hj];exact ho2,hfr2,hF2⟩
theorem GC(ad:Addr)(io:Option Addr)(ic:Nat)(im:By)(fr to ref:Int)(W:World)(hM:RrA W.heap ad io ic im fr to)(him:im.length≤1099511627776)(href : -9223372036854775808≤ref∧ref≤9223372036854775807) :
 CA 151 [.pointer (some ad),iV ref] W fun v w'=>
  v=.tuple #[.agg (aN (bQ im fr to ref).1.1 (bQ im fr to ref).1.2).toArray,iV (bQ im fr to ref).2.1,iV (bQ im fr to ref).2.2]∧aA nob W w':=by
 obtain⟨R,hR⟩:∃ R,R=aD im fr to ref 14:=⟨_,rfl⟩
 obtain⟨S,hS⟩:∃ S,S=aD im fr to ref (gY R.1):=⟨_,rfl⟩
 obtain⟨n1,n2⟩:=OW R.1;obtain⟨q,hq⟩:∃ q,q=W.heap.size:=⟨_,rfl⟩
 refine cS 47 [(0,_),(1,_)] Tryz.func151 ?_;refine Gz 2 ?_;refine Wn mO rfl ?_;intro w1 hg1 hs1 hf1;rw[←hq] at hg1 ⊢;have hg1:w1.heap[q]?=some (.cells (aN (fun _=>0) []).toArray 84 (0,0)):=hg1;refine Gz 8 ?_;refine Wh oM rfl (iN ad io ic im fr to ref 14 w1 (hM.ZM hf1) him href (by decide)) rfl ?_;rw[←hR];rintro _ w2 ⟨o2,c2,rfl,ho2,hfr2,hf2⟩;have hg2:=hf2.obj hg1 id;have hz2:=hf2.size;have hF2:=hf1.trans hf2;refine fK 13 ?_ ?_<;>intro h22
 ·have e:=MD (im:=im) (fr:=fr) (to:=to) (ref:=ref) (by rw[←hR];exact h22);refine Gz 5 ?_;refine cL (bU (aN (fun _=>0) []) qT mO) ?_;refine sA rfl bM (by intro v hv;exact bY _ _ v hv) hg2 ?_;intro w20 hg20 hs20 hf20;have hFx:aA nob W w20:=hF2.tw hf20;refine Gz 6 ?_;refine Xm (cs:=aN (fun _=>0) []) rfl bM rfl rfl rfl (fun j v hj=>aB hg20 hj) ?_;exact⟨_,rfl,by rw[e],hFx⟩
 have e22:R.2.2=0:=Z5.1 h22;have hlR:(R.1.length:Int)=14:=by rw[hR] at e22 ⊢;exact(cJ e22).2.2.2.1
 refine Gz 8 ?_;refine Wh Ss rfl (Lw o2 c2 R.1 w2 ho2.vw (by omega)) rfl ?_;rintro _ w2 ⟨rfl,rfl⟩;refine Gz 8 ?_;refine Wh oM rfl (iN ad io ic im fr to ref (gY R.1) w2 ((hM.ZM hf1).ZM hf2) him href (by omega)) rfl ?_;rw[←hS];rintro _ w8 ⟨o8,c8,rfl,ho8,hfr8,hf8⟩;have hz8:=hf8.size;have hq8:=hf8.obj hg2 id;have hF8:=hF2.trans hf8;refine fK 13 ?_ ?_<;>intro h35
 ·have e:bQ im fr to ref=((fun _=>0,[]),0,2):=by
   by_cases hl:gY R.1=dK R.1
   ·exact G2 (by rw[←hR];exact e22) (by rw[←hR,←hl,←hS];exact h35)
   ·exact AE (by rw[←hR];exact e22) (by rw[←hR];exact hl)
  refine Gz 5 ?_;refine cL (bU (aN (fun _=>0) []) qT mO) ?_;refine sA rfl bM (by intro v hv;exact bY _ _ v hv) hq8 ?_;intro w20 hg20 hs20 hf20;have hFx:aA nob W w20:=hF8.tw hf20;refine Gz 6 ?_;refine Xm (cs:=aN (fun _=>0) []) rfl bM rfl rfl rfl (fun j v hj=>aB hg20 hj) ?_;exact⟨_,rfl,by rw[e],hFx⟩
 have e35:S.2.2=0:=Z5.1 h35;have hlS:(S.1.length:Int)=gY R.1:=by rw[hS] at e35 ⊢;exact(cJ e35).2.2.2.1
 refine Gz 8 ?_;refine Wh Sr rfl (Ln S.1 o8 c8 w8 ho8.vw (by omega)) rfl ?_;rintro _ w9 ⟨rfl,hf9⟩;have hq9:=hf9.obj hq8 id;have hz9:=hf9.size;refine Gz 3 ?_;refine Wn mO rfl ?_;intro w10 hg10 hs10 hf10;have hq10:=hf10.obj hq9 id;refine sA rfl bM (by intro v hv;exact bY _ _ v hv) hg10 ?_;intro w11 hg11 hs11 hf11;obtain⟨q2,hq2⟩:∃ q2,q2=w9.heap.size:=⟨_,rfl⟩
 rw[←hq2] at hg11 hf11 ⊢;have hq11:=hf11.obj hq10 (fun h=>by have h:q=q2:=h;omega);have hF11:aA nob W w11:=((hF8.trans hf9).trans hf10).ZJ hf11 (fun k hk=>.inr (by have h:k=q2:=hk;have:=hF8.size;omega));refine fK 7 ?_ ?_<;>intro h43
 ·have hno:¬ kV S.1:=fun h=>h43 (vS h).2.2;have e:bQ im fr to ref=((fun _=>0,[]),0,2):=by
   by_cases hl:gY R.1=dK R.1
   ·exact G1 (by rw[←hR];exact e22) (by rw[←hR,←hl,←hS];exact e35) (by rw[←hR,←hl,←hS];exact hno)
   ·exact AE (by rw[←hR];exact e22) (by rw[←hR];exact hl)
  refine Gz 5 ?_;refine cL (bU (aN (fun _=>0) []) qT mO) ?_;refine sA rfl bM (by intro v hv;exact bY _ _ v hv) hq11 ?_;intro w20 hg20 hs20 hf20;have hFx:aA nob W w20:=hF11.tw hf20;refine Gz 6 ?_;refine Xm (cs:=aN (fun _=>0) []) rfl bM rfl rfl rfl (fun j v hj=>aB hg20 hj) ?_;exact⟨_,rfl,by rw[e],hFx⟩
 have hyes:kV S.1:=HA (Z5.1 h43);have hl:gY R.1=dK R.1:=ZY fun hl=>by
  have h1:=hlS;rw[(H6 hl).1] at h1;have h2:S.1=[]:=Z9 (by omega);exact L6 (h2 ▸ hyes)
 rw[hl] at hS;have e:=G0 (im:=im) (fr:=fr) (to:=to) (ref:=ref) (by rw[←hR];exact e22) (by rw[←hR,←hS];exact e35) (by rw[←hR,←hS];exact hyes);obtain⟨k1,k2,k3⟩:=vS hyes;rw[k1,k2] at hg11;refine Gz 7 ?_;refine cL (Ws (cs:=aN (gFn S.1) (gT S.1)) bM rfl (fun j v hj=>aB hg11 hj)) ?_;refine Gz 1 ?_;refine sA rfl bM (by intro v hv;exact bY _ _ v hv) hq11 ?_;intro w20 hg20 hs20 hf20;have hFx:aA nob W w20:=hF11.tw hf20;refine Gz 5 ?_;refine Xm (cs:=aN (gFn S.1) (gT S.1)) rfl bM rfl rfl rfl (fun j v hj=>aB hg20 hj) ?_;exact⟨_,rfl,by rw[e,←hR,←hS],hFx⟩
theorem Es(ad:Addr)(io:Option Addr)(ic:Nat)(im:By)(fr to ref:Int)(W:World)(hM:RrA W.heap ad io ic im fr to)(him:im.length≤1073741824)(href:bdT ref) :
 CA 171 [.pointer (some ad),iV ref] W fun v w'=>v=.tuple #[.string (bs (jF im fr to ref).1),iV (jF im fr to ref).2.1,iV (jF im fr to ref).2.2]∧aA nob W w':=by
 obtain⟨R,hR⟩:∃ R,R=aD im fr to ref 1:=⟨_,rfl⟩
 refine cS 36 [(0,_),(1,_)] Tryz.func171 ?_;refine Gz 11 ?_;refine Wh oM rfl (iN ad io ic im fr to ref 1 W hM (by omega) href (by decide)) rfl ?_;rw[←hR];rintro _ w1 ⟨o1,c1,rfl,ho1,hfr1,hf1⟩;refine fK 13 ?_ ?_<;>intro h19
 ·have e:=C6 (im:=im) (fr:=fr) (to:=to) (ref:=ref) (by rw[←hR];exact h19);refine Gz 14 ?_;exact⟨_,rfl,by rw[e,hR];rfl,hf1⟩
 have e19:R.2.2=0:=Z5.1 h19;have hl1:(R.1.length:Int)=1:=by have:=e19;rw[hR] at this ⊢;exact(cJ this).2.2.2.1
 have e:=zV (im:=im) (fr:=fr) (to:=to) (ref:=ref) (by rw[←hR];exact e19);rw[←hR] at e;have hu:=dl (R.1.getD 0 0);have hRb:bdT R.2.1:=by rw[hR];exact nY href him
 refine Gz 10 ?_;refine cL (Wi aH rfl rfl ho1.vw.non (by omega)) ?_;refine cL (Wk eC rfl (ho1.vw.gz 0 0 rfl (by omega))) ?_;refine cL (Wr (n:=((R.1.getD 0 0).toNat:Int)) is5 ty3 rfl (tO _)) ?_;refine Wh oM rfl (iN ad io ic im fr to R.2.1 (R.1.getD 0 0).toNat w1 (hM.ZM hf1) (by omega) hRb (by omega)) rfl ?_;rw[←e];rintro _ w2 ⟨o2,c2,rfl,ho2,hfr2,hf2⟩;refine Gz 12 ?_;refine cL (WG aH ty5 ty9 rfl ho2.vw) ?_;refine Gz 9 ?_;exact⟨_,rfl,rfl,hf1.trans hf2⟩
theorem Bl(ad:Addr)(io:Option Addr)(ic:Nat)(im:By)(fr to ref:Int)(W:World)(hM:RrA W.heap ad io ic im fr to)(him:im.length≤1073741824)(href:bdT ref) :
 CA 152 [.pointer (some ad),iV ref] W fun v w'=>∃ o c,
  v=.tuple #[.slice o (fG im fr to ref).1.length c,iV (fG im fr to ref).2]∧XsV (fun k=>W.heap.size≤k∧k<w'.heap.size) w'.heap ⟨o,(fG im fr to ref).1.length,c⟩ (fG im fr to ref).1∧(∀ x∈(fG im fr to ref).1,x.1.length≤255)∧aA nob W w':=by
 obtain⟨R,hR⟩:∃ R,R=aD im fr to ref 1:=⟨_,rfl⟩
 refine cS 80 [(0,_),(1,_)] Tryz.func152 ?_;refine Gz 10 ?_;refine Wh oM rfl (iN ad io ic im fr to ref 1 W hM (by omega) href (by decide)) rfl ?_;rw[←hR];rintro _ w1 ⟨o1,c1,rfl,ho1,hfr1,hf1⟩;refine fK 13 ?_ ?_<;>intro h26
 ·have e:fG im fr to ref=([],2):=nV (.inl (by rw[←hR];exact h26));refine Gz 25 ?_;exact⟨_,rfl,none,0,by rw[e];rfl,by rw[e];exact XsV.zero,by rw[e];simp,hf1⟩
 have e26:R.2.2=0:=Z5.1 h26;have hl1:(R.1.length:Int)=1:=by have:=e26;rw[hR] at this ⊢;exact(cJ this).2.2.2.1
 have hu:=dl (R.1.getD 0 0);obtain⟨n,hn⟩:∃ n,n=(R.1.getD 0 0).toNat:=⟨_,rfl⟩
 have hRb:bdT R.2.1:=by rw[hR];exact nY href him
 refine Gz 2 ?_;refine cW (Wi aH rfl rfl ho1.vw.non (by omega)) ?_;refine cW (Wk eC rfl (ho1.vw.gz 0 0 rfl (by omega))) ?_;refine fW 0 ?_ ?_<;>intro h31
 ·have e:fG im fr to ref=([],2):=nV (.inr (.inl (by rw[←hR];omega)));refine Gz 20 ?_;exact⟨_,rfl,none,0,by rw[e];rfl,by rw[e];exact XsV.zero,by rw[e];simp,hf1⟩
 have h31:¬ ((R.1.getD 0 0).toNat:Int)=0:=h31;refine Gz 3 ?_;refine cW (Wi aH rfl rfl ho1.vw.non (by omega)) ?_;refine cW (Wk eC rfl (ho1.vw.gz 0 0 rfl (by omega))) ?_;refine cW (Wr (n:=(n:Int)) is5 ty3 rfl (by rw[hn];exact tO _)) ?_;refine fW 0 ?_ ?_<;>intro h38
 ·have e:fG im fr to ref=([],2):=nV (.inr (.inr (by rw[←hR];omega)));refine Gz 13 ?_;exact⟨_,rfl,none,0,by rw[e];rfl,by rw[e];exact XsV.zero,by rw[e];simp,hf1⟩
 have hgood:¬ ((aD im fr to ref 1).2.2≠0∨((aD im fr to ref 1).1.getD 0 0).toNat=0∨8<((aD im fr to ref 1).1.getD 0 0).toNat):=by rw[←hR];rintro(h|h|h);exact h e26;omega;omega
 refine Gz 8 ?_;refine Xc cE iC rfl ?_;intro w2 ho2 hs2 hf2;refine Gz 10 ?_;refine Wp (β:=((List By×List (By×Hd))×Int×Nat)×(Option Addr×Nat)) (fun⟨⟨⟨ls,ys⟩,q,i⟩,⟨oo,oc⟩⟩=>[(0,.pointer (some ad)),(6,.slice o1 R.1.length c1),(7,iV q),(9,.slice oo ys.length oc),(10,iV i)]) (fun⟨⟨⟨ls,ys⟩,q,i⟩,⟨oo,oc⟩⟩ w=>TxI im fr to R.2.1 (2*n) ls q∧ls.length=2*i∧bJ 2 pY 183 w.heap oo oc ys∧XdV (fun k=>w1.heap.size≤k∧k<w.heap.size∧¬ blk oo k) w.heap ys (bZ ls)∧Fr w1.heap.size oo∧aA nob w1 w) (fun⟨⟨⟨ls,ys⟩,q,i⟩,⟨oo,oc⟩⟩=>n-i) ⟨⟨⟨[],[]⟩,R.2.1,0⟩,⟨some ⟨w1.heap.size,0,none⟩,0⟩⟩ ⟨rfl,rfl,rfl,rfl,rfl,trivial⟩ ⟨TxI.zero hRb,rfl,ho2,ZH,cX _,hf2⟩ ?_;rintro⟨⟨⟨ls,ys⟩,q,i⟩,⟨oo,oc⟩⟩ w3 ⟨hI,hli,hoo,hX,hfro,hF3⟩;refine Gz 5 ?_;refine cL (Wi aH rfl rfl (ho1.ZM hF3).vw.non (by omega)) ?_;refine cL (Wk eC rfl ((ho1.ZM hF3).vw.gz 0 0 rfl (by omega))) ?_;refine cL (Wr (n:=(n:Int)) is5 ty3 rfl (by rw[hn];exact tO _)) ?_;refine fK 0 ?_ ?_<;>intro h46
 ·obtain⟨i1,i2,i3,i4⟩:=hI;have hI:TxI im fr to R.2.1 (2*n) ls q:=⟨i1,i2,i3,i4⟩
  have hFW3:=hf1.trans hF3;obtain⟨S,hS⟩:∃ S,S=jF im fr to q:=⟨_,rfl⟩
  have hSl:=zU (im:=im) (fr:=fr) (to:=to) q;rw[←hS] at hSl;have hSb:=HQ (im:=im) (fr:=fr) (to:=to) i3 him;rw[←hS] at hSb;obtain⟨Z,hZ⟩:∃ Z,Z=jF im fr to S.2.1:=⟨_,rfl⟩
  have hZl:=zU (im:=im) (fr:=fr) (to:=to) S.2.1;rw[←hZ] at hZl;refine Gz 1 ?_;refine aW [(0,_),(6,_),(7,_),(9,_),(10,_),(46,_)] ?_;refine cA 10 P2 (Es ad io ic im fr to q w3 (hM.ZM hFW3) him i3) ?_;rw[←hS];rintro _ w4 ⟨rfl,hf4⟩;refine fK 13 ?_ ?_<;>intro h57
  ·have e:fG im fr to ref=([],2):=wG hgood (by rw[←hR,←hn];exact hI.bad (by omega) (by rw[←hS];exact h57));refine Gz 17 ?_;exact⟨_,rfl,none,0,by rw[e];rfl,by rw[e];exact XsV.zero,by rw[e];simp,(hFW3.trans hf4)⟩
  have e57:S.2.2=0:=Z5.1 h57;have hI2:=hI.next (by omega) him (by rw[←hS];exact e57)
  rw[←hS] at hI2;refine cA 9 P2 (Es ad io ic im fr to S.2.1 w4 (hM.ZM (hFW3.trans hf4)) him hSb) ?_;rw[←hZ];rintro _ w5 ⟨rfl,hf5⟩;have hf35:=hf4.trans hf5;have hz5:=hf35.size;refine fK 13 ?_ ?_<;>intro h66
  ·have e:fG im fr to ref=([],2):=wG hgood (by rw[←hR,←hn];exact hI2.bad (by rw[ZR,ZU];omega) (by rw[←hZ];exact h66));refine Gz 17 ?_;exact⟨_,rfl,none,0,by rw[e];rfl,by rw[e];exact XsV.zero,by rw[e];simp,hFW3.trans hf35⟩
  have e66:Z.2.2=0:=Z5.1 h66;have hI3:=hI2.next (by rw[ZR,ZU];omega) him (by rw[←hZ];exact e66)
  rw[←hZ] at hI3;refine Gz 10 ?_;refine XU ty9 aH ty5 rfl (by unfold maxLen;omega) rfl ?_;intro w6 c6 hv6 hs6 hf6;obtain⟨z6,hz6⟩:∃ z6:Hd,z6=⟨some ⟨w5.heap.size,0,none⟩,Z.1.length,c6⟩:=⟨_,rfl⟩
  rw[show Value.slice (some ⟨w5.heap.size,0,none⟩) Z.1.length c6=hd z6 by rw[hz6];rfl];refine cL (WA (cs:=#[.string (bs S.1),hd z6]) LR Bz rfl (by kernel_rfl)) ?_;refine WD iC (cs:=[.string (bs S.1),hd z6].toArray) Bz rfl rfl rfl (by kernel_rfl) rfl ?_;intro w7 hg7 hs7 hf7;have ho7:bJ 2 pY 183 w7.heap (some ⟨w6.heap.size,0,none⟩) 1 [(S.1,z6)]:=bS (xs:=[(S.1,z6)]) cE hg7 (by show 1≤maxLen;decide);have hf37:=(hf35.trans hf6).trans hf7;have hyl:=hX.1;rw[kE] at hyl;refine Wx cE rfl iC rfl rfl (hoo.ZM hf37) (ho7.vw cE) (by simp only[ZU];omega) (by simp only[ZU];unfold maxLen;omega) rfl ?_;intro o8 c8 w8 ho8 hf8 hr8 hn8;have hz8:=hf8.size;have hlo:=hoo.lt;have hX8:=((hX.ZN hf37 (fun _ _=>id)).ZN hf8 (fun k hk=>hk.2.2))
  have hv8:=(hv6.ZM hf7).ZN hf8 (fun a ha ⟨b,hb,e⟩=>by cases ha;have:=hlo b hb;have e:b.block=w5.heap.size:=e;omega);have hF8:aA nob w1 w8:=(hF3.trans hf37).ZJ hf8 hfro.step;refine Gz 14 ?_;refine aG ⟨⟨⟨ls++[S.1]++[Z.1],ys++[(S.1,z6)]⟩,Z.2.1,i+1⟩,⟨o8,c8⟩⟩ ⟨hI3,by simp only[ZR,ZU];omega,ho8,?_,aS hfro hr8 (by have:=hF3.size;omega),hF8⟩ (by show n-(i+1)<n-i;omega);rw[EQ hli];refine(hX8.mono ?_).snoc (by rw[hz6]) (by rw[hz6];exact hv8) (by unfold maxLen;omega) ?_
  · rintro k ⟨h0,h1,h2⟩
    refine⟨h0,by omega,fun⟨a,ha,e⟩=>?_⟩;rcases hr8 a ha with h|h
    ·exact h2 ⟨a,h,e⟩
    ·omega
  · rintro k ⟨a,ha,e⟩
    rw[hz6] at ha;cases ha;have e:w5.heap.size=k:=e;refine⟨by have:=hF3.size;omega,by omega,fun⟨b,hb,e2⟩=>?_⟩;rcases hr8 b hb with h|h
    ·have:=hlo b h;omega
    ·omega
 refine Gz 1 ?_;refine aW [(0,_),(6,_),(7,_),(9,_),(10,_),(46,_)] ?_;refine Gz 10 ?_;have hdn:=hI.done (by omega);rw[show ys.length=(bZ ls).length from hX.1];refine cA 0 Pd (uC oo oc (bZ ls) w3 (hX.xav hoo)) ?_;rintro _ w4 ⟨rfl,hf4⟩;refine Gz 7 ?_;refine WF (WX rfl) rfl (fun h78=>?_) (fun h78=>?_)
 ·have hno:¬ fB (bZ ls):=of_decide_eq_false h78;have e:fG im fr to ref=([],2):=Et hgood (by rw[←hR,←hn];exact hdn) hno;refine Gz 12 ?_;exact⟨_,rfl,none,0,by rw[e];rfl,by rw[e];exact XsV.zero,by rw[e];simp,(hf1.trans hF3).trans hf4⟩
 have hyes:fB (bZ ls):=ZY fun h=>h78 (ZV h);have e:fG im fr to ref=(bZ ls,0):=zS hgood (by rw[←hR,←hn];exact hdn) hyes;refine Gz 14 ?_;have hz1:=hf1.size;have hz4:=hf4.size;have hlo:=hoo.lt;exact⟨_,rfl,oo,oc,by rw[e],by rw[e];exact(hX.xs hoo (fun k hk=>⟨by have:=hk.1;omega,by have:=hk.2.1;omega⟩) (fun k ⟨a,ha,e⟩=>by have h1:=hfro a ha;have h2:=hlo a ha;subst e;exact⟨by omega,by omega⟩) hf4),by rw[e];exact Cb hI.2.2.2,(hf1.trans hF3).trans hf4⟩
theorem Rv:(Tryz.prog.info? 112).map (fun i=>i.zero.map (·.cells))=some (some #[iV 0,iV 0,iV 0,iV 0,iV 0,iV 0,iV 0,iV 0,iV 0,iV 0,.string ByteArray.empty,iV 0,sN,sN]):=by kernel_rfl
theorem PF:(Tryz.prog.info? 107).map (fun i=>i.zero.map (·.cells))=some (some #[.pointer none,sN,iV 0,iV 0,iV 0,iV 0,iV 0,iV 0,iV 0,iV 0,iV 0,iV 0,sN,sN,.pointer none,.pointer none,.pointer none,.map none,iV 0]):=by kernel_rfl
theorem aA.setCells(b:Nat):∀ (vs:List Value) (o:Nat) (w:World),aA (· = b) w (w.setCells b o vs)
|[],o,w=>Zn _ _
|v::vs,o,w=>by
   have h1:aA (· = b) w (w.setCell ⟨b,o,none⟩ v):=⟨rfl,rfl,rfl,by simp[World.setCell],fun k hk hn=>Below.heap_setCell _ _ _ _ hn⟩
   exact h1.trans (aA.setCells b vs (o+1) _)
section
variable {P:Program}{N:Nt}{Q:Exit→Act→World→Prop}{l:SF}{w:World}{ops:Array Oper}{rest:List Oper}
variable {ty:TypeId}{pos:String}{aft:Array Edge}{x:Operand}{t:TypeId}
theorem YG{α:Type}{enc:α→Value}{e:TypeId}{bytes:Nat}(ht:aZ P t e 1 bytes){z:Value}(hz:(P.info? e).map (·.zero)=some (some z))(hzc:z.cells=#[z])(h1:z.oneCell'=true)
 {b o n c cap:Nat}{xs:List α}(hx:evL l x=some (.slice (some ⟨b,o,none⟩) n c))(ho:Own enc e w.heap (some ⟨b,0,none⟩) cap xs)(hn:0<n)(hc:o+n≤cap)
 (h:∀ w',aA (· = b) w w'→Sl P N ops Q rest l w'):Sl P N ops Q (⟨none,.call ⟨.builtin .clear,#[x],#[t]⟩,ty,pos,aft,none⟩::rest) l w:=fun a ha=>by
 obtain⟨i,zz,hi,h2,_⟩:=ht.parts;obtain⟨cur,hg⟩:∃ cur:Array Value,w.heap[b]?=some (.cells cur e (0,0))∧cur.size=cap:=by
  rcases ho with⟨h,_⟩|⟨g,cur,hh,hg,_,_,hs,_⟩
  ·cases h
  ·cases hh;exact⟨cur,hg,hs⟩
 obtain⟨hg,hcs⟩:=hg;have hv:∀ w:World,(zeroValue e).run P w=.ok z w:=fun w=>by
  obtain⟨j,hj,hj1⟩:=ae.1 hz;simp[zeroValue,typeInfo,hj,hj1]
 have hr:=Lib.run_clear_slice (P:=P) w t e ty z ht.und hv hzc h1 b o n c hn (fun j hj=>by simp[World.cell?,hg];omega) (fun j hj=>by simp[World.frozen?,hg]);unfold wpList;rw[ZP (by simp[Region.wanted])];refine .inl ?_;unfold Oper.wp;have:(execOp a.eval ⟨none,.call ⟨.builtin .clear,#[x],#[t]⟩,ty,pos,aft,none⟩).run P w=.ok (.value (.tuple #[])) (w.setCells b o (bg n z)):=by
  simp[execOp,ha.ev hx,resolve,invoke,builtin,hr]
 rw[this];exact h _ (aA.setCells b _ o w) _ ha
end
theorem Ft:∀ x,(i64 x).oneCell'=true:=fun _=>rfl
theorem Kt(ao:Option Addr)(c:Nat)(l:List Int)(W:World)(hv:Vw i64 W.heap ao c l)(hl:l.length≤1000000) :
 CA 81 [.slice ao l.length c] W fun v w'=>∃ o c',v=.slice o l.length c'∧Own i64 3 w'.heap o c' l∧Fr W.heap.size o∧aA nob W w':=by
 cases ao with
|none=>
   have hx:l=[]:=by
    rcases Nat.eq_zero_or_pos l.length with h|h
    ·exact Z9 h
    ·exact absurd rfl (hv.non (by omega))
   subst hx;refine cS 8 [(0,_)] Tryz.func81 ?_;refine Gz 9 ?_;refine cL (Xg bP rfl rfl) ?_;refine Gz 11 ?_;exact⟨_,rfl,none,0,rfl,Zu,Zs,Zn _ _⟩
|some a=>
   refine cS 8 [(0,_)] Tryz.func81 ?_;refine Gz 9 ?_;refine cL (Xg bP rfl rfl) ?_;refine Gz 7 ?_;refine WC i64 bP rfl ?_;intro w1 ho1 hs1 hf1;refine Gz 1 ?_;refine Wq Ft bP rfl rfl ho1 (hv.ZM hf1) (by simp only[Z7];omega) (by simp only[Z7];unfold maxLen;omega) rfl ?_;intro o2 c2 w2 ho2 hf2 hr2 hn2;refine Gz 5 ?_;exact⟨_,rfl,o2,c2,rfl,ho2,aS (cX _) hr2 hf1.size,hf1.ZJ hf2 (cX _).step⟩
def apI(l:List Int):Prop:=∀ i,i+1<l.length→l.getD i 0≠l.getD (i+1) 0
theorem Hh(b cap:Nat)(l:List Int)(W:World)(hv:Own i64 3 W.heap (some ⟨b,0,none⟩) cap l)(hl:l.length≤1000000) :
 CA 80 [.slice (some ⟨b,0,none⟩) l.length cap] W fun v w'=>∃ (a:Option Addr) (n c:Nat),v=.slice a n c∧(n=l.length↔apI l)∧aA (· = b) W w':=by
 have hle:=hv.vw.le;refine cS 61 [(0,_)] Tryz.func80 ?_;refine fK 10 ?_ ?_<;>intro h8
 ·have hap:apI l:=fun i hi=>by omega
  refine Gz 12 ?_;exact⟨_,rfl,_,_,_,rfl,⟨fun _=>hap,fun _=>rfl⟩,Zn _ _⟩
 refine Gz 12 ?_;refine Wp (β:=Nat) (fun k=>[(0,.slice (some ⟨b,0,none⟩) l.length cap),(3,iV k)]) (fun k w=>1≤k∧k≤l.length∧(∀ j,1≤j→j<k→l.getD (j-1) 0≠l.getD j 0)∧w.heap=W.heap∧aA nob W w) (fun k=>l.length-k) 1 ⟨rfl,rfl,trivial⟩ ⟨Z0 _,by omega,fun j h1 h2=>by omega,rfl,Zn _ _⟩ ?_;rintro k w2 ⟨hk1,hkl2,hno,hw2,hF2⟩;rw[←hw2] at hv;refine fK 6 ?_ ?_<;>intro h13
 ·have hkl:k<l.length:=by omega
  refine Gz 8 ?_;refine Ww 10 [0,1,2,3,4,5,6,7,8,9] aK (by kernel_rfl) ?_;refine Gz 2 ?_;refine xC rfl (Wi bP rfl rfl (by simp) (by omega)) ?_;refine xC rfl (Wk aF rfl (hv.vw.gz 0 k rfl (by omega))) ?_;refine Gz 3 ?_;refine xC rfl (Wi bP rfl rfl (by simp) (by omega)) ?_;refine xC rfl (Wk aF rfl (hv.vw.gz 0 (k-1) (by omega) (by omega))) ?_;refine xK 0 ?_ ?_<;>intro h25
  ·have hnap:¬ apI l:=fun h=>h (k-1) (by omega) (by rw[Nat.sub_add_cancel hk1];exact h25.symm);refine Gz 7 ?_;refine cL (Wm (u:=.slice (aO (some ⟨b,0,none⟩) cap k 1) (l.length-k) (cap-k)) (WR bP rfl rfl (by omega)) (by rw[ak])) ?_;refine Gz 10 ?_;refine Wp (β:=(Nat×Nat)×List Int) (fun⟨⟨k2,q⟩,ys⟩=>[(0,.slice (some ⟨b,0,none⟩) l.length cap),(3,iV k2),(4,.slice (aO (some ⟨b,0,none⟩) cap k 1) (l.length-k) (cap-k)),(5,iV q)]) (fun⟨⟨k2,q⟩,ys⟩ w=>k≤k2∧1≤q∧k2+1≤k+q∧q≤l.length-k∧ys.length=l.length∧Own i64 3 w.heap (some ⟨b,0,none⟩) cap ys∧aA (· = b) W w) (fun⟨⟨k2,q⟩,ys⟩=>l.length-q) ⟨⟨k,1⟩,l⟩ ⟨rfl,rfl,rfl,rfl,trivial⟩ ⟨Z0 _,Z0 _,by omega,by omega,rfl,hv,hF2.any.draws 1⟩ ?_;rintro⟨⟨k2,q⟩,ys⟩ w3 ⟨hkk,hq1,hkq,hql,hyl,how,hF3⟩;refine fK 6 ?_ ?_<;>intro h32
   ·have hvc:Vw i64 w3.heap (aO (some ⟨b,0,none⟩) cap k 1) (cap-k) (ys.drop k):=by
     have:=how.vw.cut (l:=k) (h:=l.length) (m:=cap) (by omega) (by omega) (by omega) (Z0 _);rwa[List.take_of_length_le (by rw[ZX];omega)] at this
    have hdl:(ys.drop k).length=l.length-k:=by rw[ZX,hyl]
    refine Gz 8 ?_;refine Ww 10 [0,1,2,3,4,5,6,7,8,9] aK (by kernel_rfl) ?_;refine Gz 2 ?_;refine xC rfl (Wi bP rfl rfl (hvc.non (by omega) |> fun h _=>h) (by omega)) ?_;refine xC rfl (Wk aF rfl (hvc.gz 0 q rfl (by omega))) ?_;refine Gz 3 ?_;refine xC rfl (Wi bP rfl rfl (hvc.non (by omega) |> fun h _=>h) (by omega)) ?_;refine xC rfl (Wk aF rfl (hvc.gz 0 (q-1) (by omega) (by omega))) ?_;refine xK 0 ?_ ?_<;>intro h44
    ·refine Gz 9 ?_;refine cL (Wi bP rfl rfl (hvc.non (by omega) |> fun h _=>h) (by omega)) ?_;refine cL (Wk aF rfl (hvc.gz 0 q rfl (by omega))) ?_;refine cL (Wi bP rfl rfl (by simp) (by omega)) ?_;refine W0 Ft aF (z:=(k2:Int)) rfl rfl how (by rw[hyl];omega) ?_;intro w4 how4 hs4 hf4;refine Gz 14 ?_;refine aG ⟨⟨k2+1,q+1⟩,ys.set (k2:Int).toNat ((ys.drop k).getD q 0)⟩ ⟨by omega,by omega,by omega,by omega,by rw[cm];exact hyl,how4,hF3.trans (hf4.ZK.mono (fun k ⟨a,ha,e⟩=>by cases ha;exact e.symm))⟩ (by show l.length-(q+1)<l.length-q;omega)
    refine Gz 11 ?_;exact aG ⟨⟨k2,q+1⟩,ys⟩ ⟨by omega,by omega,by omega,by omega,hyl,how,hF3.draws 1⟩ (by show l.length-(q+1)<l.length-q;omega)
   refine Gz 12 ?_;refine cL (Wm (u:=.slice (some ⟨b,k2,none⟩) (l.length-k2) (cap-k2)) (WR bP rfl rfl (by omega)) (by rw[ak];unfold aO;rw[ZO (by omega)];simp[Addr.add_lit])) ?_;refine YG bP (z:=iV 0) z3 rfl rfl rfl how (by omega) (by omega) ?_;intro w5 hf5;refine Gz 6 ?_;refine cL (Wm (u:=.slice (some ⟨b,0,none⟩) k2 cap) (WE bP rfl rfl (by omega)) (by rw[bF,ak])) ?_;refine Gz 10 ?_;exact⟨_,rfl,_,_,_,rfl,⟨fun h=>by omega,fun h=>absurd h hnap⟩,hF3.trans hf5⟩
  have hnk:l.getD (k-1) 0≠l.getD k 0:=fun h=>h25 h.symm;refine Gz 11 ?_;refine aG (k+1) ⟨by omega,by omega,fun j h1 h2=>?_,hw2,hF2.draws 1⟩ (by show l.length-(k+1)<l.length-k;omega);by_cases e:j=k
  ·subst e;exact hnk
  ·exact hno j h1 (by omega)
 have hap:apI l:=fun i hi=>hno (i+1) (by omega) (by omega);refine Gz 16 ?_;exact⟨_,rfl,_,_,_,rfl,⟨fun _=>hap,fun _=>rfl⟩,hF2.any⟩
theorem FP(W:World):CA 80 [sN] W fun v w'=>v=sN∧w'=W:=by
 refine cS 61 [(0,_)] Tryz.func80 ?_;refine Gz 10 ?_;refine cL (Xo (Xr rfl rfl) (by decide)) ?_;refine Gz 12 ?_;exact⟨_,rfl,rfl,rfl⟩
theorem FQ(o:Option Addr)(cap:Nat)(l:List Int)(W:World)(hv:Own i64 3 W.heap o cap l)(hl:l.length≤1000000) :
 CA 80 [.slice o l.length cap] W fun v w'=>∃ (a:Option Addr) (n c:Nat),v=.slice a n c∧(n=l.length↔apI l)∧aA (blk o) W w':=by
 have hv0:=hv;rcases hv0 with⟨rfl,rfl,rfl⟩|⟨g,cur,rfl,hg,_⟩
 · refine(FP W).mono ?_
   rintro e w' ⟨v,rfl,rfl,rfl⟩;exact⟨_,rfl,none,0,0,rfl,⟨fun _ i hi=>by simp at hi,fun _=>rfl⟩,Zn _ _⟩
 · refine(Hh g cap l W hv hl).mono ?_
   rintro e w' ⟨v,rfl,a,n,c,h1,h2,h3⟩;exact⟨_,rfl,a,n,c,h1,h2,h3.mono (fun k hk=>⟨_,rfl,hk.symm⟩)⟩
theorem qJ(l:List Int):kW l↔upI l∧apI l:=
 ⟨fun h=>⟨fun i hi=>by have:=h i hi;omega,fun i hi=>by have:=h i hi;omega⟩,fun⟨h1,h2⟩ i hi=>by have a:=h1 i hi;have b:=h2 i hi;omega⟩
def pnV(g:Nat):Value:=pT g
def moC(tp:Nat)(bo:Option Addr)(bl bc:Nat)(F:Nat→Int)(pv iv r1 r2 r3:Value)(gm:Nat)(nm:Int):List Value:=
 [pT tp,.slice bo bl bc,iV (F 0),iV (F 1),iV (F 2),iV (F 3),iV (F 4),iV (F 5),iV (F 6),iV (F 7),iV (F 8),iV (F 9),pv,iv,r1,r2,r3,.map (some gm),iV nm]
theorem oE(g tp:Nat)(bo:Option Addr)(bc:Nat)(im:By)(F:Nat→Int)(pv iv r1 r2 r3:Value)(gm:Nat)(nm fr to:Int)(W:World)
 (hg:W.heap[g]?=some (.cells (moC tp bo im.length bc F pv iv r1 r2 r3 gm nm).toArray 107 (0,0)))(hv:Vw b8 W.heap bo bc im)(ht:TbV W.heap tp)(hb:im.length≤1099511627776) :
 CA 35 [pT g,iV fr,iV to] W fun v w'=>∃ h,v=pT h∧W.heap.size≤h∧MrO (fun k=>W.heap.size≤k∧k<w'.heap.size) w'.heap h tp im fr to∧aA nob W w':=by
 refine cS 18 [(0,_),(1,_),(2,_)] Tryz.func35 ?_;refine Gz 6 ?_;refine Wv 12 (fun H=>H[g]?=some (.cells (moC tp bo im.length bc F pv iv r1 r2 r3 gm nm).toArray 107 (0,0))) [10] [0,1,2,3,4,5,6,7,8,9,10,11] aK (by kernel_rfl) (hg) ?_;refine Gz 10 ?_;refine Wo rfl rfl (Wh Vz rfl (Mj tp bo bc im fr to (W.drewN 1) ht hv (by omega)) rfl ?_);rintro _ w1 ⟨h,rfl,hh,hM,hf1⟩;refine Wu (by exact hf1.ZK.obj hg id) ?_;refine Gz 5 ?_;exact⟨_,rfl,h,rfl,hh,hM.tight,hf1.ZK⟩
theorem DW{im:By}{fr to wide:Int}(hw:wide=2∨wide=4):∀ (k:Nat) (ref:Int) (os:List Int) (r:Int),nG im fr to wide k ref=some (os,r)→os.length=k∧∀ x∈os,0≤x∧x≤4294967295
|0,ref,os,r,h=>by simp[nG] at h;rw[h.1];simp
|k+1,ref,os,r,h=>by
   rw[nS] at h;by_cases he:(aD im fr to ref wide).2.2≠0
   ·rw[ZP he] at h;cases h
   · rw[ZO he] at h
     obtain⟨⟨l,r'⟩,hl,e⟩:=ae.1 h;obtain⟨h1,h2⟩:=DW hw k _ l r' hl;cases e;have hr:=(cJ (Z5.1 he)).2.2.2.1;have hv:=tM (aD im fr to ref wide).1;have hp:256 ^ (aD im fr to ref wide).1.length≤256 ^ 4:=Nat.pow_le_pow_right (by decide) (by omega);refine⟨by simp[h1],fun x hx=>?_⟩;rcases aw.1 hx with rfl|hx
     · have:(256:Nat) ^ 4=4294967296:=by decide
       omega
     ·exact h2 x hx
theorem CZ{im:By}{fr to many wide:Int}(hm:many≤1000000):(tnS im fr to many wide).1.length≤1000000∧(∀ x∈(tnS im fr to many wide).1,0≤x∧x≤4294967295)∧((tnS im fr to many wide).2=0→((tnS im fr to many wide).1.length:Int)=many):=by
 by_cases h1:many<0∨¬ (wide=2∨wide=4)
 ·rw[tQ h1];simp
 · cases hms:dX im fr to with
  |false=>rw[yF h1 hms];simp
  |true=>
     cases hn:nG im fr to wide many.toNat 0 with
    |none=>rw[tP h1 hn];simp
    |some p=>
       obtain⟨os,r⟩:=p;obtain⟨f1,f2⟩:=DW (by omega) _ _ _ _ hn;by_cases he:(aD im fr to r 1).2.2=0
       ·rw[qB h1 hn he];simp
       ·rw[nQ h1 hms hn he];exact⟨by show os.length≤1000000;omega,f2,fun _=>by show (os.length:Int)=many;omega⟩
theorem Mi(g tp:Nat)(bo:Option Addr)(bc:Nat)(im:By)(F:Nat→Int)(r1 r2 r3:Value)(gm:Nat)(nm:Int)(W:World)
 (hg:W.heap[g]?=some (.cells (moC tp bo im.length bc F sN sN r1 r2 r3 gm nm).toArray 107 (0,0)))(hv:Vw b8 W.heap bo bc im)(hbg:¬ blk bo g)(ht:TbV W.heap tp)(htg:tp≠g)(hb:im.length≤1073741824)(hF7:F 7≤2048)(hF8:F 8≤1024) :
 CA 36 [pT g] W fun v w'=>
  v=.bool (decide ((tnS im (F 4) (F 5) (F 8) 4).2=0∧(tnS im (F 5) (F 6) (F 7) 2).2=0∧kW (tnS im (F 5) (F 6) (F 7) 2).1))∧∃ po pc io ic,
  w'.heap[g]?=some (.cells (moC tp bo im.length bc F (.slice po (tnS im (F 4) (F 5) (F 8) 4).1.length pc) (.slice io (tnS im (F 5) (F 6) (F 7) 2).1.length ic) r1 r2 r3 gm nm).toArray 107 (0,0)) ∧
  Own i64 3 w'.heap po pc (tnS im (F 4) (F 5) (F 8) 4).1∧Own i64 3 w'.heap io ic (tnS im (F 5) (F 6) (F 7) 2).1∧Fr W.heap.size po∧Fr W.heap.size io∧aA (· = g) W w':=by
 have hgl:=(Z1.1 hg).1;have hbk:∀ a,bo=some a→¬ a.block=g:=fun a ha e=>hbg ⟨a,ha,e⟩;obtain⟨P,hP⟩:∃ P,P=tnS im (F 4) (F 5) (F 8) 4:=⟨_,rfl⟩
 obtain⟨I,hI⟩:∃ I,I=tnS im (F 5) (F 6) (F 7) 2:=⟨_,rfl⟩
 have hIl:I.1.length≤1000000:=by rw[hI];exact(CZ (by omega)).1
 rw[←hP,←hI];refine cS 68 [(0,_)] Tryz.func36 ?_;refine Gz 10 ?_;refine cL (Ws (cs:=bW F) cH rfl (aQ hg 2 rfl)) ?_;refine Wn nD rfl ?_;intro w1 hg1 hs1 hf1;obtain⟨q,eq⟩:∃ q,q=W.heap.size:=⟨_,rfl⟩
 rw[←eq] at hg1 ⊢;refine sA rfl cH (by exact dH _) hg1 ?_;intro w2 hg2 hs2 hf2;have hF2:aA nob W w2:=hf1.tw hf2;refine Gz 9 ?_;refine Wv 17 (fun H=>H[q]?=some (.cells (bW F).toArray 93 (0,0))∧True) [6,9,15] [0,1,2,3,4,5,7,8,6,9,10,11,12,13,14,15,16] aK (by kernel_rfl) (⟨hg2,trivial⟩) ?_;refine Gz 8 ?_;refine Wo rfl rfl (Wh MX rfl (oE g tp bo bc im F _ _ r1 r2 r3 gm nm (F 4) (F 5) (w2.drewN 1) (hF2.obj hg id) (hv.ZM (hF2.draws 1)) (hF2.obj ht id) (by omega)) rfl ?_);rintro _ w3 ⟨h,rfl,hh,hM,hf3⟩;have hf3:=hf3.ZK;have hz3:=hf3.size;refine Wu (by exact⟨hf3.obj hg2 id,trivial⟩) ?_;refine Wo rfl rfl (Wh R3 rfl (DV (fun k=>w2.heap.size≤k∧k<w3.heap.size) h tp im (F 4) (F 5) (F 8) 4 w3 hM (fun k hk=>hk.2) hb (by omega)) rfl ?_);rw[←hP];rintro _ w4 ⟨po,pc,rfl,hpo,hpf,hM4,hf4⟩;have hf24:aA nob w2 w4:=(hf3.any.trans hf4).fresh (fun k hk=>hk.1);have hz4:=hf4.size;have hF4:=hF2.trans hf24;refine Wu (by exact⟨hf24.obj hg2 id,trivial⟩) ?_;refine Gz 5 ?_;refine Wo rfl rfl (Wl mU rfl rfl rfl (hF4.obj hg id) rfl ?_);intro w5 hg5 hs5 hf5;have hg5:w5.heap[g]?=some (.cells (moC tp bo im.length bc F (.slice po P.1.length pc) sN r1 r2 r3 gm nm).toArray 107 (0,0)):=hg5;have hF5:aA (· = g) W w5:=hF4.any.trans hf5;refine Wu (by exact⟨hf5.obj (hf24.obj hg2 id) (fun h=>by have h:q=g:=h;omega),trivial⟩) ?_;have hq5:=hf5.obj (hf24.obj hg2 id) (fun h=>by have h:q=g:=h;omega);have hpo5:=hpo.ZN hf5 (fun a ha e=>by have:=hpf a ha;have e:a.block=g:=e;omega);refine Gz 4 ?_;refine Wv 17 (fun H=>H[q]?=some (.cells (bW F).toArray 93 (0,0))∧True) [6,9,15] [0,1,2,3,4,5,7,8,6,9,10,11,12,13,14,15,16] aK (by kernel_rfl) (⟨hq5,trivial⟩) ?_;refine Gz 8 ?_;refine Wo rfl rfl (Wh MX rfl (oE g tp bo bc im F _ _ r1 r2 r3 gm nm (F 5) (F 6) (w5.drewN 1) hg5 (hv.ZN (hF5.draws 1) hbk) (hF5.obj ht htg) (by omega)) rfl ?_);rintro _ w6 ⟨h2,rfl,hh2,hM6,hf6⟩;have hf6:=hf6.ZK;have hz6:=hf6.size;refine Wu (by exact⟨hf6.obj hq5 id,trivial⟩) ?_;refine Wo rfl rfl (Wh R3 rfl (DV (fun k=>w5.heap.size≤k∧k<w6.heap.size) h2 tp im (F 5) (F 6) (F 7) 2 w6 hM6 (fun k hk=>hk.2) hb (by omega)) rfl ?_);rw[←hI];rintro _ w7 ⟨io,ic,rfl,hio,hif,hM7,hf7⟩;have hf57:aA nob w5 w7:=(hf6.any.trans hf7).fresh (fun k hk=>hk.1);refine Wu (by exact⟨hf57.obj hq5 id,trivial⟩) ?_;refine Gz 5 ?_;refine Wo rfl rfl (Wl mU rfl rfl rfl (hf57.obj hg5 id) rfl ?_);intro w8 hg8 hs8 hf8;have hg8:w8.heap[g]?=some (.cells (moC tp bo im.length bc F (.slice po P.1.length pc) (.slice io I.1.length ic) r1 r2 r3 gm nm).toArray 107 (0,0)):=hg8;have hF8:aA (· = g) W w8:=(hF5.trans hf57.any).trans hf8;refine Wu (by exact⟨hf8.obj (hf57.obj hq5 id) (fun h=>by have h:q=g:=h;omega),trivial⟩) ?_;have hpo8:=(hpo5.ZM hf57).ZN hf8 (fun a ha e=>by have:=hpf a ha;have e:a.block=g:=e;omega);have hio8:=hio.ZN hf8 (fun a ha e=>by have:=hif a ha;have e:a.block=g:=e;omega);have hfp:Fr q po:=hpf.mono (by omega);have hfi:Fr q io:=hif.mono (by omega);refine Gz 4 ?_;refine Wv 29 (fun H=>H[g]?=some (.cells (moC tp bo im.length bc F (.slice po P.1.length pc) (.slice io I.1.length ic) r1 r2 r3 gm nm).toArray 107 (0,0))∧Vw i64 H io ic I.1) [11,18,19] [0,1,2,3,4,5,6,7,8,9,10,11,12,13,14,15,16,17,21,22,23,24,25,18,19,20,26,27,28] aK (by kernel_rfl) (⟨hg8,hio8.vw⟩) ?_;refine xK 1 ?_ ?_<;>intro h41
 ·refine xW 2 ?_ ?_<;>intro h44
  ·refine Gz 6 ?_;refine Wo rfl rfl (Wy rfl rfl R0 rfl (xI io ic I.1 (w8.drewN 1) (hio8.vw.ZM (Zo 1))) rfl ?_);rintro _ w9 ⟨rfl,hf9⟩;have hf9:=hf9.ZK;refine Wu (by exact⟨hf9.obj hg8 id,hio8.vw.ZM hf9⟩) ?_;by_cases h51:upI I.1
   ·rw[Z3 h51];refine Gz 11 ?_;refine Wo rfl rfl (Wy rfl rfl Vx rfl (Kt io ic I.1 w9 (hio8.vw.ZM hf9) hIl) rfl ?_);rintro _ w10 ⟨co,cc,rfl,hco,hcf,hf10⟩;refine Wu (by exact⟨(hf9.trans hf10).obj hg8 id,hio8.vw.ZM (hf9.trans hf10)⟩) ?_;refine Wo rfl rfl (Wy rfl rfl Vy rfl (FQ co cc I.1 w10 hco hIl) rfl ?_);rintro _ w11 ⟨xo,xn,xc,rfl,hxn,hf11⟩;have hf911:aA nob w9 w11:=hf10.ZJ hf11 hcf.step;have hf811:=hf9.trans hf911;refine Wu (by exact⟨hf811.obj hg8 id,hio8.vw.ZM hf811⟩) ?_;refine xW 1 ?_ ?_<;>intro h66
    ·refine Gz 6 ?_;have hF11:=hF8.trans hf811.any;refine⟨_,rfl,by rw[Z3 (show P.2=0∧I.2=0∧kW I.1 from ⟨h41,h44,(qJ _).2 ⟨h51,hxn.1 (by omega)⟩⟩)],po,pc,io,ic,hf811.obj hg8 id,hpo8.ZM hf811,hio8.ZM hf811,hfp,hfi,hF11⟩
    refine Gz 6 ?_;have hno:¬ (P.2=0∧I.2=0∧kW I.1):=fun⟨h1,h2,h3⟩=>by
     have h4:=(qJ _).1 h3
     first|exact h41 h1|exact h44 h2|exact h51 h4.1|exact h66 (by rw[hxn.2 h4.2])
    exact⟨_,rfl,congrArg Value.bool (ZV hno).symm,po,pc,io,ic,hf811.obj hg8 id,hpo8.ZM hf811,hio8.ZM hf811,hfp,hfi,hF8.trans hf811.any⟩
   rw[ZV h51];refine Gz 11 ?_;refine Wo rfl rfl (Xb rfl rfl rfl rfl ?_);refine Wu (by exact(by first|exact⟨hf9.obj hg8 id,hio8.vw.ZM hf9⟩|exact⟨hg8,hio8.vw⟩)) ?_;refine Wo rfl rfl (Xb rfl rfl rfl rfl ?_);refine Wu (by exact(by first|exact⟨hf9.obj hg8 id,hio8.vw.ZM hf9⟩|exact⟨hg8,hio8.vw⟩)) ?_;refine Gz 8 ?_;have hno:¬ (P.2=0∧I.2=0∧kW I.1):=fun⟨h1,h2,h3⟩=>by
    have h4:=(qJ _).1 h3
    first|exact h41 h1|exact h44 h2|exact h51 h4.1|exact h66 (by rw[hxn.2 h4.2])
   exact⟨_,rfl,congrArg Value.bool (ZV hno).symm,po,pc,io,ic,hf9.obj hg8 id,hpo8.ZM hf9,hio8.ZM hf9,hfp,hfi,hF8.trans hf9.any⟩
  refine Gz 6 ?_;refine Wo rfl rfl (Xb rfl rfl rfl rfl ?_);refine Wu (by exact⟨hg8,hio8.vw⟩) ?_;refine Gz 11 ?_;refine Wo rfl rfl (Xb rfl rfl rfl rfl ?_);refine Wu (by exact(by first|exact⟨hf9.obj hg8 id,hio8.vw.ZM hf9⟩|exact⟨hg8,hio8.vw⟩)) ?_;refine Wo rfl rfl (Xb rfl rfl rfl rfl ?_);refine Wu (by exact(by first|exact⟨hf9.obj hg8 id,hio8.vw.ZM hf9⟩|exact⟨hg8,hio8.vw⟩)) ?_;refine Gz 8 ?_;have hno:¬ (P.2=0∧I.2=0∧kW I.1):=fun⟨h1,h2,h3⟩=>by
   have h4:=(qJ _).1 h3
   first|exact h41 h1|exact h44 h2|exact h51 h4.1|exact h66 (by rw[hxn.2 h4.2])
  exact⟨_,rfl,congrArg Value.bool (ZV hno).symm,po,pc,io,ic,hg8,hpo8,hio8,hfp,hfi,hF8.draws 1⟩
 refine Gz 9 ?_;refine Wo rfl rfl (Xb rfl rfl rfl rfl ?_);refine Wu (by exact⟨hg8,hio8.vw⟩) ?_;refine Gz 11 ?_;refine Wo rfl rfl (Xb rfl rfl rfl rfl ?_);refine Wu (by exact(by first|exact⟨hf9.obj hg8 id,hio8.vw.ZM hf9⟩|exact⟨hg8,hio8.vw⟩)) ?_;refine Wo rfl rfl (Xb rfl rfl rfl rfl ?_);refine Wu (by exact(by first|exact⟨hf9.obj hg8 id,hio8.vw.ZM hf9⟩|exact⟨hg8,hio8.vw⟩)) ?_;refine Gz 8 ?_;have hno:¬ (P.2=0∧I.2=0∧kW I.1):=fun⟨h1,h2,h3⟩=>by
  have h4:=(qJ _).1 h3
  first|exact h41 h1|exact h44 h2|exact h51 h4.1|exact h66 (by rw[hxn.2 h4.2])
 exact⟨_,rfl,congrArg Value.bool (ZV hno).symm,po,pc,io,ic,hg8,hpo8,hio8,hfp,hfi,hF8.draws 1⟩
theorem IR:(Tryz.prog.info? 76).map (fun i=>i.zero.map (·.cells))=some (some #[sN,sN,sN,sN,sN,sN,sN,sN,sN,sN,sN,sN,iV 0]):=by kernel_rfl
def biC(lv iv a1 b1 a2 b2 a3 b3 rv fv sv tv:Value)(many:Int):List Value:=[lv,iv,a1,b1,a2,b2,a3,b3,rv,fv,sv,tv,iV many]
structure BiA where
 lo:Option Addr
 lc:Nat
 io:Option Addr
 ic:Nat
 f1:Option Addr
 c1:Nat
 t1:Option Addr
 d1:Nat
 f2:Option Addr
 c2:Nat
 t2:Option Addr
 d2:Nat
 f3:Option Addr
 c3:Nat
 t3:Option Addr
 d3:Nat
 ro:Option Addr
 rc:Nat
 fo:Option Addr
 fc:Nat
 so:Option Addr
 sc:Nat
 tr:Option Addr
 tc:Nat
 hs:List Hd
def biK(a:BiA)(qs:List (NdH×Nd))(ids:List Int)(files:List Ino)(s:BSt):List Value:=
 biC (.slice a.lo qs.length a.lc) (.slice a.io ids.length a.ic) (.slice a.f1 (bI [] s.ino).1.length a.c1) (.slice a.t1 (bI [] s.ino).2.length a.d1) (.slice a.f2 (bI [] s.lst).1.length a.c2) (.slice a.t2 (bI [] s.lst).2.length a.d2)
  (.slice a.f3 (bI [] s.fur).1.length a.c3) (.slice a.t3 (bI [] s.fur).2.length a.d3) (.slice a.ro s.refs.length a.rc) (.slice a.fo files.length a.fc) (.slice a.so s.sets.length a.sc) (.slice a.tr s.sets.length a.tc) s.many
def WrM(ow:Nat→Nat)(z:Nat)(H:Array Obj)(Q:By)(fo:Option Addr)(fc:Nat)(to:Option Addr)(tc:Nat):Prop:=
 Own b8 5 H fo fc (bI [] Q).1∧Own b8 5 H to tc (bI [] Q).2∧Ap fo to∧(∀ k,blk fo k→ow k=z)∧(∀ k,blk to k→ow k=z)
def BiW(a:BiA)(ow:Nat→Nat)(H:Array Obj)(g:Nat)(qs:List (NdH×Nd))(ids:List Int)(files:List Ino)(s:BSt):Prop:=
 H[g]?=some (.cells (biK a qs ids files s).toArray 76 (0,0))∧ow g=6 ∧
 (dG (fun k=>ow k=4) H a.lo a.lc qs∧(qs≠[]→∀ k,blk a.lo k→ow k=4))∧(Vw i64 H a.io a.ic ids∧∀ k,blk a.io k→ow k=4)∧(VwM 11 Bo H a.fo a.fc files∧∀ k,blk a.fo k→ow k=4) ∧
 WrM ow 1 H s.ino a.f1 a.c1 a.t1 a.d1∧WrM ow 2 H s.lst a.f2 a.c2 a.t2 a.d2∧WrM ow 3 H s.fur a.f3 a.c3 a.t3 a.d3 ∧
 (Own i64 3 H a.ro a.rc s.refs∧∀ k,blk a.ro k→ow k=5)∧(Own hd 66 H a.so a.sc a.hs∧∀ k,blk a.so k→ow k=7) ∧
 (a.hs.length=s.sets.length∧∀ (i:Nat) (h:Hd) (y:List Xa×Int),a.hs[i]?=some h→s.sets[i]?=some y→XsV (fun k=>ow k=4) H h y.1)∧(Own i64 3 H a.tr a.tc (s.sets.map (·.2))∧∀ k,blk a.tr k→ow k=8)
def Lb(ow:Nat→Nat):Nat→Prop:=fun k=>ow k≠0∧ow k≠4
theorem WrM.ZN{ow ow':Nat→Nat}{z:Nat}{S:Nat→Prop}{w w':World}{Q:By}{fo to:Option Addr}{fc tc:Nat}(h:WrM ow z w.heap Q fo fc to tc)(f:aA S w w')(hS:∀ k,ow k=z→¬ S k)(ho:∀ k,ow k=z→ow' k=z):WrM ow' z w'.heap Q fo fc to tc:=
 ⟨h.1.ZN f (fun a ha=>hS _ (h.2.2.2.1 _ ⟨a,ha,rfl⟩)),h.2.1.ZN f (fun a ha=>hS _ (h.2.2.2.2 _ ⟨a,ha,rfl⟩)),h.2.2.1,fun k hk=>ho k (h.2.2.2.1 k hk),fun k hk=>ho k (h.2.2.2.2 k hk)⟩
section
variable {a:BiA}{ow ow':Nat→Nat}{g:Nat}{qs:List (NdH×Nd)}{ids:List Int}{files:List Ino}{s:BSt}
theorem eG{D D' S:Nat→Prop}{w w':World}{lo:Option Addr}{lc:Nat}(h:dG D w.heap lo lc qs)(f:aA S w w')(hS:∀ k,D k→¬ S k)(hl:qs≠[]→∀ k,blk lo k→¬ S k)(hD:∀ k,D k→D' k):dG D' w'.heap lo lc qs:=
 ⟨h.1.keep' f (fun hne a ha=>hl hne _ ⟨a,ha,rfl⟩),fun p hp=>((h.2 p hp).ZN f hS).mono hD⟩
theorem BiW.ZN{S:Nat→Prop}{w w':World}(h:BiW a ow w.heap g qs ids files s)(f:aA S w w')(hS:∀ k,ow k≠0→¬ S k)(ho:∀ k,ow k≠0→ow' k=ow k):BiW a ow' w'.heap g qs ids files s:=by
 obtain⟨hg,hl,⟨n1,n2⟩,⟨i1,i2⟩,⟨f1,f2⟩,w1,w2,w3,⟨r1,r2⟩,⟨s1,s2⟩,⟨e1,e2⟩,t1,t2⟩:=h;have key:∀ z,z≠0→∀ k,ow k=z→¬ S k:=fun z hz k hk=>hS k (by omega);have kz:∀ z,z≠0→∀ k,ow k=z→ow' k=z:=fun z hz k hk=>by rw[ho k (by omega)];exact hk
 exact⟨f.obj hg (hS g (by omega)),kz 6 (by decide) g hl,⟨eG n1 f (key 4 (by decide)) (fun hne k hk=>key 4 (by decide) k (n2 hne k hk)) (kz 4 (by decide)),fun hne k hk=>kz 4 (by decide) k (n2 hne k hk)⟩,
  ⟨i1.ZN f (fun a ha=>key 4 (by decide) _ (i2 _ ⟨a,ha,rfl⟩)),fun k hk=>kz 4 (by decide) k (i2 k hk)⟩,⟨f1.ZN f (fun a ha=>key 4 (by decide) _ (f2 _ ⟨a,ha,rfl⟩)),fun k hk=>kz 4 (by decide) k (f2 k hk)⟩,
  w1.ZN f (key 1 (by decide)) (kz 1 (by decide)),w2.ZN f (key 2 (by decide)) (kz 2 (by decide)),w3.ZN f (key 3 (by decide)) (kz 3 (by decide)),
  ⟨r1.ZN f (fun a ha=>key 5 (by decide) _ (r2 _ ⟨a,ha,rfl⟩)),fun k hk=>kz 5 (by decide) k (r2 k hk)⟩,⟨s1.ZN f (fun a ha=>key 7 (by decide) _ (s2 _ ⟨a,ha,rfl⟩)),fun k hk=>kz 7 (by decide) k (s2 k hk)⟩,
  ⟨e1,fun i h y hh hy=>((e2 i h y hh hy).ZN f (key 4 (by decide))).mono (kz 4 (by decide))⟩,t1.ZN f (fun a ha=>key 8 (by decide) _ (t2 _ ⟨a,ha,rfl⟩)),fun k hk=>kz 8 (by decide) k (t2 k hk)⟩
theorem BiW.ZM{w w':World}(h:BiW a ow w.heap g qs ids files s)(f:aA nob w w'):BiW a ow w'.heap g qs ids files s:=h.ZN f (fun _ _=>id) (fun _ _=>rfl)
def PT(a:BiA)(qs:List (NdH×Nd))(ids:List Int)(files:List Ino)(s:BSt)(x y:Value):List Value:=
 biC (.slice a.lo qs.length a.lc) (.slice a.io ids.length a.ic) x y (.slice a.f2 (bI [] s.lst).1.length a.c2) (.slice a.t2 (bI [] s.lst).2.length a.d2) (.slice a.f3 (bI [] s.fur).1.length a.c3) (.slice a.t3 (bI [] s.fur).2.length a.d3) (.slice a.ro s.refs.length a.rc) (.slice a.fo files.length a.fc) (.slice a.so s.sets.length a.sc) (.slice a.tr s.sets.length a.tc) s.many
theorem Ic(a:BiA)(qs:List (NdH×Nd))(ids:List Int)(files:List Ino)(s:BSt):Bg 2 (PT a qs ids files s):=⟨fun _ _=>rfl,fun _ _=>rfl,fun _ _ _=>rfl,fun _ _ _=>rfl,fun _ _=>rfl,fun _ _=>rfl⟩
theorem BiW.rwi1{H:Array Obj}(h:BiW a ow H g qs ids files s):RwI (PT a qs ids files s) 76 (fun k=>k=g∨ow k=1) H g (bI [] s.ino).1 (bI [] s.ino).2:=by
 obtain⟨hg,hl,_,_,_,w1,w2,w3,_⟩:=h;exact⟨a.f1,a.c1,a.t1,a.d1,hg,w1.1,w1.2.1,fun h=>by have:=w1.2.2.2.1 g h;omega,fun h=>by have:=w1.2.2.2.2 g h;omega,w1.2.2.1,.inl rfl,fun k hk=>.inr (w1.2.2.2.1 k hk),fun k hk=>.inr (w1.2.2.2.2 k hk)⟩
theorem Kz(bo:Option Addr)(bc:Nat)(b:By)(W:World)(hM:BiW a ow W.heap g qs ids files s)(hn:∀ k,W.heap.size≤k→ow k=0)(hv:Vw b8 W.heap bo bc b)(hb:b≠[]→∀ k,blk bo k→ow k=0∨ow k=4)(hl:s.ino.length+b.length≤274877906944) :
 CA 29 [.pointer (some ⟨g,2,none⟩),.slice bo b.length bc] W fun v w'=>v=iV (aR s.ino s.ino.length:Nat)∧∃ (a':BiA) (ow':Nat→Nat),BiW a' ow' w'.heap g qs ids files { s with ino:=s.ino++b } ∧
  (a'.lo=a.lo∧a'.lc=a.lc∧a'.ro=a.ro∧a'.rc=a.rc)∧(∀ k,k<W.heap.size→ow' k=ow k)∧(∀ k,w'.heap.size≤k→ow' k=0)∧aA (fun k=>k=g∨ow k=1) W w':=by
 have hle:∀ z,z≠0→∀ k,ow k=z→k<W.heap.size:=fun z hz k hk=>ZY fun hc=>by have:=hn k (by omega);omega
 have h6:=hM.2.1;refine(sP (Ic a qs ids files s) (fun k=>k=g∨ow k=1) g s.ino bo bc b W hM.rwi1 hv (fun hne k hk h=>by rcases hb hne k hk with h2|h2<;>rcases h with rfl|h<;>omega) hl).mono ?_;rintro e w' ⟨v,rfl,rfl,⟨fo,fc,to,tc,hg',o1,o2,n1,n2,ap,_,l1,l2⟩,hf⟩;obtain⟨hg,_,⟨nd1,nd2⟩,⟨i1,i2⟩,⟨f1,f2⟩,w1,w2,w3,⟨r1,r2⟩,⟨s1,s2⟩,⟨e1,e2⟩,t1,t2⟩:=hM;obtain⟨ow',eo⟩:∃ o:Nat→Nat,o=fun k=>if k<W.heap.size then ow k else if k<w'.heap.size then 1 else 0:=⟨_,rfl⟩
 have c1:∀ k,k<W.heap.size→ow' k=ow k:=fun k hk=>by rw[eo];exact ZP hk
 have c2:∀ k,w'.heap.size≤k→ow' k=0:=fun k hk=>by
  rw[eo];have:=hf.size;show (if k<W.heap.size then ow k else if k<w'.heap.size then 1 else 0)=0;rw[ZO (by omega),ZO (by omega)]
 have c3:∀ k,k≠g→Nx (fun k=>k=g∨ow k=1) W w' k→ow' k=1:=fun k hk h=>by
  rcases h with(h|h)|⟨h,h2⟩
  ·exact absurd h hk
  ·rw[c1 k (hle 1 (by decide) k h)];exact h
  · rw[eo]
    show (if k<W.heap.size then ow k else if k<w'.heap.size then 1 else 0)=1;rw[ZO (by omega),ZP h2]
 have key:∀ z,z≠0→z≠1→z≠6→∀ k,ow k=z→¬ (k=g∨ow k=1):=fun z _ h1 h2 k hk h=>by rcases h with rfl|h<;>omega
 have kz:∀ z,z≠0→∀ k,ow k=z→ow' k=z:=fun z hz k hk=>by rw[c1 k (hle z hz k hk)];exact hk
 refine⟨_,rfl,rfl,{ a with f1:=fo,c1:=fc,t1:=to,d1:=tc },ow',⟨hg',kz 6 (by decide) g h6,⟨eG nd1 hf (key 4 (by decide) (by decide) (by decide)) (fun hne k hk=>key 4 (by decide) (by decide) (by decide) k (nd2 hne k hk)) (kz 4 (by decide)),fun hne k hk=>kz 4 (by decide) k (nd2 hne k hk)⟩,
  ⟨i1.ZN hf (fun a ha=>key 4 (by decide) (by decide) (by decide) _ (i2 _ ⟨a,ha,rfl⟩)),fun k hk=>kz 4 (by decide) k (i2 k hk)⟩,⟨f1.ZN hf (fun a ha=>key 4 (by decide) (by decide) (by decide) _ (f2 _ ⟨a,ha,rfl⟩)),fun k hk=>kz 4 (by decide) k (f2 k hk)⟩,
  ⟨o1,o2,ap,fun k hk=>c3 k (fun e=>n1 (e ▸ hk)) (l1 k hk),fun k hk=>c3 k (fun e=>n2 (e ▸ hk)) (l2 k hk)⟩,w2.ZN hf (key 2 (by decide) (by decide) (by decide)) (kz 2 (by decide)),w3.ZN hf (key 3 (by decide) (by decide) (by decide)) (kz 3 (by decide)),
  ⟨r1.ZN hf (fun a ha=>key 5 (by decide) (by decide) (by decide) _ (r2 _ ⟨a,ha,rfl⟩)),fun k hk=>kz 5 (by decide) k (r2 k hk)⟩,⟨s1.ZN hf (fun a ha=>key 7 (by decide) (by decide) (by decide) _ (s2 _ ⟨a,ha,rfl⟩)),fun k hk=>kz 7 (by decide) k (s2 k hk)⟩,
  ⟨e1,fun i h y hh hy=>((e2 i h y hh hy).ZN hf (key 4 (by decide) (by decide) (by decide))).mono (kz 4 (by decide))⟩,t1.ZN hf (fun a ha=>key 8 (by decide) (by decide) (by decide) _ (t2 _ ⟨a,ha,rfl⟩)),fun k hk=>kz 8 (by decide) k (t2 k hk)⟩,⟨rfl,rfl,rfl,rfl⟩,c1,c2,hf⟩
def PS(a:BiA)(qs:List (NdH×Nd))(ids:List Int)(files:List Ino)(s:BSt)(x y:Value):List Value:=
 biC (.slice a.lo qs.length a.lc) (.slice a.io ids.length a.ic) (.slice a.f1 (bI [] s.ino).1.length a.c1) (.slice a.t1 (bI [] s.ino).2.length a.d1) x y (.slice a.f3 (bI [] s.fur).1.length a.c3) (.slice a.t3 (bI [] s.fur).2.length a.d3) (.slice a.ro s.refs.length a.rc) (.slice a.fo files.length a.fc) (.slice a.so s.sets.length a.sc) (.slice a.tr s.sets.length a.tc) s.many
theorem Ib(a:BiA)(qs:List (NdH×Nd))(ids:List Int)(files:List Ino)(s:BSt):Bg 4 (PS a qs ids files s):=⟨fun _ _=>rfl,fun _ _=>rfl,fun _ _ _=>rfl,fun _ _ _=>rfl,fun _ _=>rfl,fun _ _=>rfl⟩
theorem BiW.rwi2{H:Array Obj}(h:BiW a ow H g qs ids files s):RwI (PS a qs ids files s) 76 (fun k=>k=g∨ow k=2) H g (bI [] s.lst).1 (bI [] s.lst).2:=by
 obtain⟨hg,hl,_,_,_,w1,w2,w3,_⟩:=h;exact⟨a.f2,a.c2,a.t2,a.d2,hg,w2.1,w2.2.1,fun h=>by have:=w2.2.2.2.1 g h;omega,fun h=>by have:=w2.2.2.2.2 g h;omega,w2.2.2.1,.inl rfl,fun k hk=>.inr (w2.2.2.2.1 k hk),fun k hk=>.inr (w2.2.2.2.2 k hk)⟩
theorem Ky(bo:Option Addr)(bc:Nat)(b:By)(W:World)(hM:BiW a ow W.heap g qs ids files s)(hn:∀ k,W.heap.size≤k→ow k=0)(hv:Vw b8 W.heap bo bc b)(hb:b≠[]→∀ k,blk bo k→ow k=0∨ow k=4)(hl:s.lst.length+b.length≤274877906944) :
 CA 29 [.pointer (some ⟨g,4,none⟩),.slice bo b.length bc] W fun v w'=>v=iV (aR s.lst s.lst.length:Nat)∧∃ (a':BiA) (ow':Nat→Nat),BiW a' ow' w'.heap g qs ids files { s with lst:=s.lst++b } ∧
  (a'.lo=a.lo∧a'.lc=a.lc∧a'.ro=a.ro∧a'.rc=a.rc)∧(∀ k,k<W.heap.size→ow' k=ow k)∧(∀ k,w'.heap.size≤k→ow' k=0)∧aA (fun k=>k=g∨ow k=2) W w':=by
 have hle:∀ z,z≠0→∀ k,ow k=z→k<W.heap.size:=fun z hz k hk=>ZY fun hc=>by have:=hn k (by omega);omega
 have h6:=hM.2.1;refine(sP (Ib a qs ids files s) (fun k=>k=g∨ow k=2) g s.lst bo bc b W hM.rwi2 hv (fun hne k hk h=>by rcases hb hne k hk with h2|h2<;>rcases h with rfl|h<;>omega) hl).mono ?_;rintro e w' ⟨v,rfl,rfl,⟨fo,fc,to,tc,hg',o1,o2,n1,n2,ap,_,l1,l2⟩,hf⟩;obtain⟨hg,_,⟨nd1,nd2⟩,⟨i1,i2⟩,⟨f1,f2⟩,w1,w2,w3,⟨r1,r2⟩,⟨s1,s2⟩,⟨e1,e2⟩,t1,t2⟩:=hM;obtain⟨ow',eo⟩:∃ o:Nat→Nat,o=fun k=>if k<W.heap.size then ow k else if k<w'.heap.size then 2 else 0:=⟨_,rfl⟩
 have c1:∀ k,k<W.heap.size→ow' k=ow k:=fun k hk=>by rw[eo];exact ZP hk
 have c2:∀ k,w'.heap.size≤k→ow' k=0:=fun k hk=>by
  rw[eo];have:=hf.size;show (if k<W.heap.size then ow k else if k<w'.heap.size then 2 else 0)=0;rw[ZO (by omega),ZO (by omega)]
 have c3:∀ k,k≠g→Nx (fun k=>k=g∨ow k=2) W w' k→ow' k=2:=fun k hk h=>by
  rcases h with(h|h)|⟨h,h2⟩
  ·exact absurd h hk
  ·rw[c1 k (hle 2 (by decide) k h)];exact h
  · rw[eo]
    show (if k<W.heap.size then ow k else if k<w'.heap.size then 2 else 0)=2;rw[ZO (by omega),ZP h2]
 have key:∀ z,z≠0→z≠2→z≠6→∀ k,ow k=z→¬ (k=g∨ow k=2):=fun z _ h1 h2 k hk h=>by rcases h with rfl|h<;>omega
 have kz:∀ z,z≠0→∀ k,ow k=z→ow' k=z:=fun z hz k hk=>by rw[c1 k (hle z hz k hk)];exact hk
 refine⟨_,rfl,rfl,{ a with f2:=fo,c2:=fc,t2:=to,d2:=tc },ow',⟨hg',kz 6 (by decide) g h6,⟨eG nd1 hf (key 4 (by decide) (by decide) (by decide)) (fun hne k hk=>key 4 (by decide) (by decide) (by decide) k (nd2 hne k hk)) (kz 4 (by decide)),fun hne k hk=>kz 4 (by decide) k (nd2 hne k hk)⟩,
  ⟨i1.ZN hf (fun a ha=>key 4 (by decide) (by decide) (by decide) _ (i2 _ ⟨a,ha,rfl⟩)),fun k hk=>kz 4 (by decide) k (i2 k hk)⟩,⟨f1.ZN hf (fun a ha=>key 4 (by decide) (by decide) (by decide) _ (f2 _ ⟨a,ha,rfl⟩)),fun k hk=>kz 4 (by decide) k (f2 k hk)⟩,
  w1.ZN hf (key 1 (by decide) (by decide) (by decide)) (kz 1 (by decide)),⟨o1,o2,ap,fun k hk=>c3 k (fun e=>n1 (e ▸ hk)) (l1 k hk),fun k hk=>c3 k (fun e=>n2 (e ▸ hk)) (l2 k hk)⟩,w3.ZN hf (key 3 (by decide) (by decide) (by decide)) (kz 3 (by decide)),
  ⟨r1.ZN hf (fun a ha=>key 5 (by decide) (by decide) (by decide) _ (r2 _ ⟨a,ha,rfl⟩)),fun k hk=>kz 5 (by decide) k (r2 k hk)⟩,⟨s1.ZN hf (fun a ha=>key 7 (by decide) (by decide) (by decide) _ (s2 _ ⟨a,ha,rfl⟩)),fun k hk=>kz 7 (by decide) k (s2 k hk)⟩,
  ⟨e1,fun i h y hh hy=>((e2 i h y hh hy).ZN hf (key 4 (by decide) (by decide) (by decide))).mono (kz 4 (by decide))⟩,t1.ZN hf (fun a ha=>key 8 (by decide) (by decide) (by decide) _ (t2 _ ⟨a,ha,rfl⟩)),fun k hk=>kz 8 (by decide) k (t2 k hk)⟩,⟨rfl,rfl,rfl,rfl⟩,c1,c2,hf⟩
def PR(a:BiA)(qs:List (NdH×Nd))(ids:List Int)(files:List Ino)(s:BSt)(x y:Value):List Value:=
 biC (.slice a.lo qs.length a.lc) (.slice a.io ids.length a.ic) (.slice a.f1 (bI [] s.ino).1.length a.c1) (.slice a.t1 (bI [] s.ino).2.length a.d1) (.slice a.f2 (bI [] s.lst).1.length a.c2) (.slice a.t2 (bI [] s.lst).2.length a.d2) x y (.slice a.ro s.refs.length a.rc) (.slice a.fo files.length a.fc) (.slice a.so s.sets.length a.sc) (.slice a.tr s.sets.length a.tc) s.many
theorem Ia(a:BiA)(qs:List (NdH×Nd))(ids:List Int)(files:List Ino)(s:BSt):Bg 6 (PR a qs ids files s):=⟨fun _ _=>rfl,fun _ _=>rfl,fun _ _ _=>rfl,fun _ _ _=>rfl,fun _ _=>rfl,fun _ _=>rfl⟩
theorem BiW.rwi3{H:Array Obj}(h:BiW a ow H g qs ids files s):RwI (PR a qs ids files s) 76 (fun k=>k=g∨ow k=3) H g (bI [] s.fur).1 (bI [] s.fur).2:=by
 obtain⟨hg,hl,_,_,_,w1,w2,w3,_⟩:=h;exact⟨a.f3,a.c3,a.t3,a.d3,hg,w3.1,w3.2.1,fun h=>by have:=w3.2.2.2.1 g h;omega,fun h=>by have:=w3.2.2.2.2 g h;omega,w3.2.2.1,.inl rfl,fun k hk=>.inr (w3.2.2.2.1 k hk),fun k hk=>.inr (w3.2.2.2.2 k hk)⟩
theorem Kx(bo:Option Addr)(bc:Nat)(b:By)(W:World)(hM:BiW a ow W.heap g qs ids files s)(hn:∀ k,W.heap.size≤k→ow k=0)(hv:Vw b8 W.heap bo bc b)(hb:b≠[]→∀ k,blk bo k→ow k=0∨ow k=4)(hl:s.fur.length+b.length≤274877906944) :
 CA 29 [.pointer (some ⟨g,6,none⟩),.slice bo b.length bc] W fun v w'=>v=iV (aR s.fur s.fur.length:Nat)∧∃ (a':BiA) (ow':Nat→Nat),BiW a' ow' w'.heap g qs ids files { s with fur:=s.fur++b } ∧
  (a'.lo=a.lo∧a'.lc=a.lc∧a'.ro=a.ro∧a'.rc=a.rc)∧(∀ k,k<W.heap.size→ow' k=ow k)∧(∀ k,w'.heap.size≤k→ow' k=0)∧aA (fun k=>k=g∨ow k=3) W w':=by
 have hle:∀ z,z≠0→∀ k,ow k=z→k<W.heap.size:=fun z hz k hk=>ZY fun hc=>by have:=hn k (by omega);omega
 have h6:=hM.2.1;refine(sP (Ia a qs ids files s) (fun k=>k=g∨ow k=3) g s.fur bo bc b W hM.rwi3 hv (fun hne k hk h=>by rcases hb hne k hk with h2|h2<;>rcases h with rfl|h<;>omega) hl).mono ?_;rintro e w' ⟨v,rfl,rfl,⟨fo,fc,to,tc,hg',o1,o2,n1,n2,ap,_,l1,l2⟩,hf⟩;obtain⟨hg,_,⟨nd1,nd2⟩,⟨i1,i2⟩,⟨f1,f2⟩,w1,w2,w3,⟨r1,r2⟩,⟨s1,s2⟩,⟨e1,e2⟩,t1,t2⟩:=hM;obtain⟨ow',eo⟩:∃ o:Nat→Nat,o=fun k=>if k<W.heap.size then ow k else if k<w'.heap.size then 3 else 0:=⟨_,rfl⟩
 have c1:∀ k,k<W.heap.size→ow' k=ow k:=fun k hk=>by rw[eo];exact ZP hk
 have c2:∀ k,w'.heap.size≤k→ow' k=0:=fun k hk=>by
  rw[eo];have:=hf.size;show (if k<W.heap.size then ow k else if k<w'.heap.size then 3 else 0)=0;rw[ZO (by omega),ZO (by omega)]
 have c3:∀ k,k≠g→Nx (fun k=>k=g∨ow k=3) W w' k→ow' k=3:=fun k hk h=>by
  rcases h with(h|h)|⟨h,h2⟩
  ·exact absurd h hk
  ·rw[c1 k (hle 3 (by decide) k h)];exact h
  · rw[eo]
    show (if k<W.heap.size then ow k else if k<w'.heap.size then 3 else 0)=3;rw[ZO (by omega),ZP h2]
 have key:∀ z,z≠0→z≠3→z≠6→∀ k,ow k=z→¬ (k=g∨ow k=3):=fun z _ h1 h2 k hk h=>by rcases h with rfl|h<;>omega
 have kz:∀ z,z≠0→∀ k,ow k=z→ow' k=z:=fun z hz k hk=>by rw[c1 k (hle z hz k hk)];exact hk
 refine⟨_,rfl,rfl,{ a with f3:=fo,c3:=fc,t3:=to,d3:=tc },ow',⟨hg',kz 6 (by decide) g h6,⟨eG nd1 hf (key 4 (by decide) (by decide) (by decide)) (fun hne k hk=>key 4 (by decide) (by decide) (by decide) k (nd2 hne k hk)) (kz 4 (by decide)),fun hne k hk=>kz 4 (by decide) k (nd2 hne k hk)⟩,
  ⟨i1.ZN hf (fun a ha=>key 4 (by decide) (by decide) (by decide) _ (i2 _ ⟨a,ha,rfl⟩)),fun k hk=>kz 4 (by decide) k (i2 k hk)⟩,⟨f1.ZN hf (fun a ha=>key 4 (by decide) (by decide) (by decide) _ (f2 _ ⟨a,ha,rfl⟩)),fun k hk=>kz 4 (by decide) k (f2 k hk)⟩,
  w1.ZN hf (key 1 (by decide) (by decide) (by decide)) (kz 1 (by decide)),w2.ZN hf (key 2 (by decide) (by decide) (by decide)) (kz 2 (by decide)),⟨o1,o2,ap,fun k hk=>c3 k (fun e=>n1 (e ▸ hk)) (l1 k hk),fun k hk=>c3 k (fun e=>n2 (e ▸ hk)) (l2 k hk)⟩,
  ⟨r1.ZN hf (fun a ha=>key 5 (by decide) (by decide) (by decide) _ (r2 _ ⟨a,ha,rfl⟩)),fun k hk=>kz 5 (by decide) k (r2 k hk)⟩,⟨s1.ZN hf (fun a ha=>key 7 (by decide) (by decide) (by decide) _ (s2 _ ⟨a,ha,rfl⟩)),fun k hk=>kz 7 (by decide) k (s2 k hk)⟩,
  ⟨e1,fun i h y hh hy=>((e2 i h y hh hy).ZN hf (key 4 (by decide) (by decide) (by decide))).mono (kz 4 (by decide))⟩,t1.ZN hf (fun a ha=>key 8 (by decide) (by decide) (by decide) _ (t2 _ ⟨a,ha,rfl⟩)),fun k hk=>kz 8 (by decide) k (t2 k hk)⟩,⟨rfl,rfl,rfl,rfl⟩,c1,c2,hf⟩
end
theorem AF{im:By}{fr to ref:Int}(h:(bQ im fr to ref).2.2=0):fI (bQ im fr to ref).1.1 (bQ im fr to ref).1.2:=by
 unfold bQ at h ⊢
 split at h
 ·cases h
 · rename_i h1
   rw[ZO h1]
   split at h
   ·cases h
   · rename_i h2
     rw[ZO h2]
     split at h
     ·rename_i h3;rw[ZP h3];exact h3.2
     ·cases h
def xY(x:Rec)(nm:Int)(lo:Option Addr)(lc:Nat)(xo:Option Addr)(xc:Nat):List Value:=
 [iV (x.ino.1 0),iV (x.ino.1 1),iV (x.ino.1 2),iV (x.ino.1 3),iV (x.ino.1 4),iV (x.ino.1 5),iV (x.ino.1 6),iV (x.ino.1 7),iV (x.ino.1 8),iV (x.ino.1 9),.string (bs x.ino.2),iV nm,.slice lo x.list.length lc,.slice xo x.xs.length xc]
def RcV(E:Nat→Prop)(H:Array Obj)(x:Rec)(nm:Int)(p:Nat):Prop:=
 ∃ lo lc xo xc,H[p]?=some (.cells (xY x nm lo lc xo xc).toArray 112 (0,0))∧VwM 3 bH H lo lc x.list∧(x.list≠[]→∀ k,blk lo k→E k)∧XsV E H ⟨xo,x.xs.length,xc⟩ x.xs∧∀ y∈x.xs,y.1.length≤255
theorem O3(ow:Nat→Nat)(a b q c:Nat)(B L:Nat→Prop)(hab:a≤b)(hbc:b≤c)(hqb:b≤q)(hqc:q<c)(hB:∀ k,B k→k<c)(hL:∀ k,L k→k<c):∃ ow':Nat→Nat,(∀ k,k<a→ow' k=ow k)∧(∀ k,a≤k→k<b→ow' k=1)∧ow' q=5 ∧
 (∀ k,b≤k→k≠q→B k→ow' k=3)∧(∀ k,b≤k→k≠q→¬ B k→L k→ow' k=2)∧(∀ k,b≤k→k<c→k≠q→¬ B k→¬ L k→ow' k=4)∧(∀ k,c≤k→ow' k=0):=by
 classical
 refine⟨fun k=>if k<a then ow k else if k<b then 1 else if k=q then 5 else if B k then 3 else if L k then 2 else if k<c then 4 else 0,?_,?_,?_,?_,?_,?_,?_⟩
 ·intro k h;simp[h]
 ·intro k h1 h2;simp[show ¬ k<a by omega,h2]
 ·simp[show ¬ q<a by omega,show ¬ q<b by omega]
 ·intro k h1 h2 h3;simp[show ¬ k<a by omega,show ¬ k<b by omega,h2,h3]
 ·intro k h1 h2 h3 h4;simp[show ¬ k<a by omega,show ¬ k<b by omega,h2,h3,h4]
 ·intro k h1 h2 h3 h4 h5;simp[show ¬ k<a by omega,show ¬ k<b by omega,h2,h3,h4,h5]
 · intro k h
   have h1:¬ B k:=fun h'=>by have:=hB k h';omega
   have h2:¬ L k:=fun h'=>by have:=hL k h';omega
   simp[show ¬ k<a by omega,show ¬ k<b by omega,show ¬ k=q by omega,h1,h2,show ¬ k<c by omega]
theorem ED{im:By}{F:Nat→Int}{n:Int}(h:0<n):cP im F n=fG im (F 6) (F 0) (n-1):=ZP h
theorem EE{im:By}{F:Nat→Int}{n:Int}(h:¬ 0<n):cP im F n=([],0):=ZO h
section
variable {im:List UInt8}{F:Nat→Int}{ids:List Int}{ref kind:Int}
theorem jG(h:kR F ids (bQ im (F 2) (F 3) ref) kind):eV im F ids ref kind=none:=ZP h
theorem BZ(h:¬ kR F ids (bQ im (F 2) (F 3) ref) kind)(h2:(cP im F ((bQ im (F 2) (F 3) ref).1.1 5)).2≠0):eV im F ids ref kind=none:=by unfold eV;rw[ZO h,ZP h2]
theorem rT(h:¬ kR F ids (bQ im (F 2) (F 3) ref) kind)(h2:(cP im F ((bQ im (F 2) (F 3) ref).1.1 5)).2=0)(hk:kind=2)(h3:yB im F (bQ im (F 2) (F 3) ref).1.1):eV im F ids ref kind=none:=by
 unfold eV;rw[ZO h,ZO (fun e=>e h2),ZP hk,ZP h3]
theorem rS(h:¬ kR F ids (bQ im (F 2) (F 3) ref) kind)(h2:(cP im F ((bQ im (F 2) (F 3) ref).1.1 5)).2=0)(hk:kind=2)(h3:¬ yB im F (bQ im (F 2) (F 3) ref).1.1) :
 eV im F ids ref kind=some ⟨ref,(bQ im (F 2) (F 3) ref).1,[],(cP im F ((bQ im (F 2) (F 3) ref).1.1 5)).1⟩:=by
 unfold eV;rw[ZO h,ZO (fun e=>e h2),ZP hk,ZO h3]
theorem lP(h:¬ kR F ids (bQ im (F 2) (F 3) ref) kind)(h2:(cP im F ((bQ im (F 2) (F 3) ref).1.1 5)).2=0)(hk:kind=1)(h3:(nK im F (bQ im (F 2) (F 3) ref).1.1).2≠0):eV im F ids ref kind=none:=by
 unfold eV;rw[ZO h,ZO (fun e=>e h2),ZO (by omega),ZP hk,ZP h3]
theorem Aa(h:¬ kR F ids (bQ im (F 2) (F 3) ref) kind)(h2:(cP im F ((bQ im (F 2) (F 3) ref).1.1 5)).2=0)(hk:kind=1)(h3:(nK im F (bQ im (F 2) (F 3) ref).1.1).2=0) :
 eV im F ids ref kind=some ⟨ref,(bQ im (F 2) (F 3) ref).1,(nK im F (bQ im (F 2) (F 3) ref).1.1).1,(cP im F ((bQ im (F 2) (F 3) ref).1.1 5)).1⟩:=by
 unfold eV;rw[ZO h,ZO (fun e=>e h2),ZO (by omega),ZP hk,ZO (fun e=>e h3)]
theorem B1(h:¬ kR F ids (bQ im (F 2) (F 3) ref) kind)(h2:(cP im F ((bQ im (F 2) (F 3) ref).1.1 5)).2=0)(hk:kind≠2)(hk1:kind≠1) :
 eV im F ids ref kind=some ⟨ref,(bQ im (F 2) (F 3) ref).1,[],(cP im F ((bQ im (F 2) (F 3) ref).1.1 5)).1⟩:=by
 unfold eV;rw[ZO h,ZO (fun e=>e h2),ZO hk,ZO hk1]
end
def Rds(ow:Nat→Nat):Nat→Prop:=fun k=>ow k=1∨ow k=2∨ow k=3
def Be(ow:Nat→Nat)(W:World)(tp g1 g2 g3:Nat)(im:By)(F:Nat→Int)(r:Option Rec)(v:Value)(w':World):Prop:=aA (Rds ow) W w'∧match r with
|none=>v=.pointer none
|some x=>∃ (ow':Nat→Nat) (q:Nat),v=.pointer (some ⟨q,0,none⟩)∧W.heap.size≤q∧q<w'.heap.size∧(∀ k,k<W.heap.size→ow' k=ow k)∧(∀ k,w'.heap.size≤k→ow' k=0)∧(∀ k,W.heap.size≤k→k≠q→ow' k≤4)∧ow' q=5∧RcV (fun k=>ow' k=4) w'.heap x 0 q ∧
   MrO (fun k=>ow' k=1) w'.heap g1 tp im (F 2) (F 3)∧MrO (fun k=>ow' k=2) w'.heap g2 tp im (F 3) (F 4)∧MrO (fun k=>ow' k=3) w'.heap g3 tp im (F 6) (F 0)
theorem lC{ow:Nat→Nat}{W w':World}{tp g1 g2 g3:Nat}{im:By}{F:Nat→Int}{r:Option Rec}(hf:aA (Rds ow) W w')(hn:r=none):Be ow W tp g1 g2 g3 im F r (.pointer none) w':=by
 subst hn;exact⟨hf,rfl⟩
theorem HS{ow:Nat→Nat}{W w1 w':World}{tp g1 g2 g3 q z:Nat}{im:By}{F:Nat→Int}{x:Rec}{r:Option Rec}(hx:r=some x){B L:Nat→Prop}{lo xo:Option Addr}{lc xc:Nat}
 (hnew:∀ k,W.heap.size≤k→ow k=0)(hot:ow tp=0)(hf:aA (Rds ow) W w')(hs1:W.heap.size≤w1.heap.size)(hs2:w1.heap.size≤q)(hs3:q<z)(hs4:z≤w'.heap.size)(htl:tp<W.heap.size)
 (h1:MrO (Nx (fun k=>ow k=1) W w1) w'.heap g1 tp im (F 2) (F 3))(h2:MrO L w'.heap g2 tp im (F 3) (F 4))(h3:MrO B w'.heap g3 tp im (F 6) (F 0))
 (hL:∀ k,L k→ow k=2∨(z≤k∧k<w'.heap.size))(hB:∀ k,B k→ow k=3∨(z≤k∧k<w'.heap.size))(hLB:∀ k,z≤k→L k→¬ B k)
 (hq:w'.heap[q]?=some (.cells (xY x 0 lo lc xo xc).toArray 112 (0,0)))(hl:VwM 3 bH w'.heap lo lc x.list)(hld:x.list≠[]→∀ k,blk lo k→z≤k∧k<w'.heap.size∧¬ B k∧¬ L k)
 (hxs:XsV (fun k=>z≤k∧k<w'.heap.size∧¬ B k∧¬ L k) w'.heap ⟨xo,x.xs.length,xc⟩ x.xs)(hx5:∀ y∈x.xs,y.1.length≤255):Be ow W tp g1 g2 g3 im F r (pT q) w':=by
 subst hx;obtain⟨ow',o1,o2,o3,o4,o5,o6,o7⟩:=O3 ow W.heap.size w1.heap.size q w'.heap.size (fun k=>B k∧z≤k∧k<w'.heap.size) (fun k=>L k∧z≤k∧k<w'.heap.size) hs1 (by omega) hs2 (by omega) (fun k h=>h.2.2) (fun k h=>h.2.2);have hlt:∀ n,n≠0→∀ k,ow k=n→k<W.heap.size:=fun n hn k hk=>ZY fun hc=>by have:=hnew k (by omega);omega
 have htp:ow' tp=0:=by rw[o1 tp htl];exact hot
 have e4:∀ k,z≤k∧k<w'.heap.size∧¬ B k∧¬ L k→ow' k=4:=fun k h=>o6 k (by omega) h.2.1 (by omega) (fun h'=>h.2.2.1 h'.1) (fun h'=>h.2.2.2 h'.1);refine⟨hf,ow',q,rfl,by omega,by omega,o1,o7,fun k hk hkq=>?_,o3,⟨lo,lc,xo,xc,hq,hl,fun hne k hk=>e4 k (hld hne k hk),hxs.mono e4,hx5⟩,h1.mono (fun k hk=>?_) (by rw[htp];decide),h2.mono (fun k hk=>?_) (by rw[htp];decide),h3.mono (fun k hk=>?_) (by rw[htp];decide)⟩
 · by_cases c1:k<w1.heap.size
   ·rw[o2 k hk c1];decide
   · by_cases c2:w'.heap.size≤k
     ·rw[o7 k c2];decide
     · by_cases c3:B k∧z≤k∧k<w'.heap.size
       ·rw[o4 k (by omega) hkq c3];decide
       · by_cases c4:L k∧z≤k∧k<w'.heap.size
         ·rw[o5 k (by omega) hkq c3 c4];decide
         ·rw[o6 k (by omega) (by omega) hkq c3 c4];decide
 · rcases hk with hk|hk
   ·rw[o1 k (hlt 1 (by decide) k hk)];exact hk
   ·exact o2 k hk.1 hk.2
 · rcases hL k hk with h|h
   ·rw[o1 k (hlt 2 (by decide) k h)];exact h
   ·exact o5 k (by omega) (by omega) (fun h'=>hLB k h.1 hk h'.1) ⟨hk,h⟩
 · rcases hB k hk with h|h
   ·rw[o1 k (hlt 3 (by decide) k h)];exact h
   ·exact o4 k (by omega) (by omega) ⟨hk,h⟩
theorem Ae{ow:Nat→Nat}{W w1 w':World}{tp g1 g2 g3 q z:Nat}{im:By}{F:Nat→Int}{x:Rec}{r:Option Rec}(hx:r=some x){B:Nat→Prop}{xo:Option Addr}{xc:Nat}
 (hnew:∀ k,W.heap.size≤k→ow k=0)(hot:ow tp=0)(hf:aA (Rds ow) W w')(hs1:W.heap.size≤w1.heap.size)(hs2:w1.heap.size≤q)(hs3:q<z)(hs4:z≤w'.heap.size)(htl:tp<W.heap.size)
 (h1:MrO (Nx (fun k=>ow k=1) W w1) w'.heap g1 tp im (F 2) (F 3))(h2:MrO (fun k=>ow k=2) w'.heap g2 tp im (F 3) (F 4))(h3:MrO B w'.heap g3 tp im (F 6) (F 0))
 (hB:∀ k,B k→ow k=3∨(z≤k∧k<w'.heap.size))
 (hq:w'.heap[q]?=some (.cells (xY x 0 none 0 xo xc).toArray 112 (0,0)))(hl:x.list=[]){n:Nat}
 (hxs:XsV (fun k=>z≤k∧k<n∧¬ B k) w'.heap ⟨xo,x.xs.length,xc⟩ x.xs)(hn:n≤w'.heap.size)(hx5:∀ y∈x.xs,y.1.length≤255):Be ow W tp g1 g2 g3 im F r (pT q) w':=by
 have hle2:∀ k,ow k=2→k<W.heap.size:=fun k hk=>ZY fun hc=>by have:=hnew k (by omega);omega
 refine HS (L:=fun k=>ow k=2) hx hnew hot hf hs1 hs2 hs3 hs4 htl h1 h2 h3 (fun k h=>.inl h) hB (fun k hz hk=>absurd (hle2 k hk) (by omega)) hq (by rw[hl];exact Zx 0 (ZZ _)) (fun h=>absurd hl h) (hxs.mono (fun k hk=>⟨hk.1,by have:=hk.2.1;omega,hk.2.2,fun e=>by have:=hle2 k e;have:=hk.1;omega⟩)) hx5
theorem JX(ow:Nat→Nat)(g tp g1 g2 g3 gm:Nat)(bo po io:Option Addr)(bc pl pc ic:Nat)(im:By)(F:Nat→Int)(ids:List Int)(nm ref kind:Int)(W:World)
 (hg:W.heap[g]?=some (.cells (moC tp bo im.length bc F (.slice po pl pc) (.slice io ids.length ic) (pnV g1) (pnV g2) (pnV g3) gm nm).toArray 107 (0,0)))(hv:Vw b8 W.heap bo bc im)(hbo:∀ k,blk bo k→ow k=4)(hog:ow g=6)(hot:ow tp=0)
 (h1:MrO (fun k=>ow k=1) W.heap g1 tp im (F 2) (F 3))(h2:MrO (fun k=>ow k=2) W.heap g2 tp im (F 3) (F 4))(h3:MrO (fun k=>ow k=3) W.heap g3 tp im (F 6) (F 0))
 (hnew:∀ k,W.heap.size≤k→ow k=0)(hb:im.length≤1073741824)(href:0≤ref∧ref≤4294967295) :
 CA 82 [pT g,iV ref,iV kind] W fun v w'=>Be ow W tp g1 g2 g3 im F (eV im F ids ref kind) v w':=by
 have hgl:=(Z1.1 hg).1;have hle:∀ n,n≠0→∀ k,ow k=n→k<W.heap.size:=fun n hn k hk=>ZY fun hc=>by have:=hnew k (by omega);omega
 have htl:=(Z1.1 h1.tab.1).1;obtain⟨R,hR⟩:∃ R,R=bQ im (F 2) (F 3) ref:=⟨_,rfl⟩
 refine cS 137 [(0,_),(1,_),(2,_)] Tryz.func82 ?_;refine Gz 12 ?_;refine Wh S1 rfl (MC (fun k=>ow k=1) g1 tp im (F 2) (F 3) ref W h1 (hle 1 (by decide)) (by omega) (by omega)) rfl ?_;rw[←hR];rintro _ w1 ⟨rfl,hM1,hF1⟩;have hz1:=hF1.size;have hg1:=hF1.obj hg (by omega);refine Gz 4 ?_;refine Wn mO rfl ?_;intro w2 hg2 hs2 hf2;obtain⟨a,ea⟩:∃ a,a=w1.heap.size:=⟨_,rfl⟩
 rw[←ea] at hg2 ⊢;refine sA rfl bM (by intro v hv;exact bY _ _ v hv) hg2 ?_;intro w3 hg3 hs3 hf3;have hf13:aA nob w1 w3:=hf2.tw hf3;have hgA:=hf13.obj hg1 id;have hA3:aA (Rds ow) W w3:=(hF1.mono (fun k h=>.inl h)).trans hf13.any;refine Gz 6 ?_;refine Ww 31 [0,1,2,3,4,5,6,7,8,9,10,11,12,13,14,15,16,17,18,19,20,21,22,23,24,25,26,27,28,29,30] aK (by kernel_rfl) ?_;refine xK 1 ?_ ?_<;>intro h25
 ·have hbad:kR F ids R kind:=.inl h25;refine Gz 40 ?_;exact⟨_,rfl,lC (hA3.draws 1) (jG (by rw[←hR];exact hbad))⟩
 have e0:R.2.2=0:=Z5.1 h25;have hmay:fI R.1.1 R.1.2:=by rw[hR] at e0 ⊢;exact AF e0
 have hma:=hmay.1;unfold bG at hma;refine Gz 2 ?_;refine xV rfl (Wk aF rfl (aB hg3 rfl)) ?_;refine xW 1 ?_ ?_<;>intro h30
 ·have hbad:kR F ids R kind:=.inr (.inl h30);refine Gz 35 ?_;exact⟨_,rfl,lC (hA3.draws 1) (jG (by rw[←hR];exact hbad))⟩
 refine Gz 3 ?_;refine xV rfl (Wk aF rfl (aB hg3 rfl)) ?_;refine Gz 1 ?_;refine xV rfl (Wk aF rfl (aB hg3 rfl)) ?_;refine xV rfl (XI rfl rfl) ?_;refine Gz 3 ?_;refine xV rfl (Wk mU rfl (aB hgA rfl)) ?_;refine xW 1 ?_ ?_<;>intro h43
 ·have hbad:kR F ids R kind:=by
   unfold kR
   split at h43<;>omega
  refine Gz 22 ?_;exact⟨_,rfl,lC (hA3.draws 1) (jG (by rw[←hR];exact hbad))⟩
 have hids:¬ (ids.length:Int)≤R.1.1 2∧¬ (ids.length:Int)≤R.1.1 3:=by split at h43<;>omega
 refine Gz 3 ?_;refine xV rfl (Wk aF rfl (aB hg3 rfl)) ?_;refine Gz 4 ?_;refine xV rfl (Wk aF rfl (aB (i:=10) hgA rfl)) ?_;refine xW 0 ?_ ?_<;>intro h53
 ·have hbad:kR F ids R kind:=.inr (.inr (.inr (.inr h53)));refine Gz 12 ?_;exact⟨_,rfl,lC (hA3.draws 1) (jG (by rw[←hR];exact hbad))⟩
 have hgood:¬ kR F ids R kind:=by
  rintro(h|h|h|h|h)
  ·exact h25 h
  ·exact h30 h
  ·exact hids.1 h
  ·exact hids.2 h
  ·exact h53 h
 refine Gz 8 ?_;refine cL (Ws (cs:=aN R.1.1 R.1.2) bM rfl (aQ hg3 0 rfl)) ?_;refine cL (bU (xY ⟨ref,R.1,[],[]⟩ 0 none 0 none 0) QK Rv) ?_;refine WO rfl rfl ?_;intro w4 hg4 hs4 hf4;obtain⟨q,eq⟩:∃ q,q=(w3.drewN 1).heap.size:=⟨_,rfl⟩
 have eq3:q=w3.heap.size:=eq;have hf4:=hf4.ZK;have hg4:w4.heap[(w3.drewN 1).heap.size]?=some (.cells (xY ⟨ref,R.1,[],[]⟩ 0 none 0 none 0).toArray 112 (0,0)):=hg4;rw[←eq] at hg4 ⊢;have hga4:=hf4.obj hg3 id;have hgA4:=hf4.obj hgA id;have hf14:=hf13.trans hf4;refine Gz 3 ?_;refine WL (β:=(Option Addr×Nat)×(Nat→Prop)) (fun⟨⟨xo,xc⟩,B⟩=>[(0,pT g),(1,iV ref),(2,iV kind),(7,pT a),(10,pT q)]) (fun⟨⟨xo,xc⟩,B⟩ w=>(cP im F (R.1.1 5)).2=0∧w.heap[q]?=some (.cells (xY ⟨ref,R.1,[],(cP im F (R.1.1 5)).1⟩ 0 none 0 xo xc).toArray 112 (0,0))∧MrO B w.heap g3 tp im (F 6) (F 0)∧(∀ k,B k→ow k=3∨(w4.heap.size≤k∧k<w.heap.size))∧XsV (fun k=>w4.heap.size≤k∧k<w.heap.size∧¬ B k) w.heap ⟨xo,(cP im F (R.1.1 5)).1.length,xc⟩ (cP im F (R.1.1 5)).1∧(∀ x∈(cP im F (R.1.1 5)).1,x.1.length≤255)∧aA (fun k=>k=q∨ow k=3) w4 w) ?_ ?_
 ·refine fK 4 ?_ ?_<;>intro h60
  ·have hrx:=ED (im:=im) (F:=F) h60;refine Gz 4 ?_;refine Wv 16 (fun H=>H[g]?=some (.cells (moC tp bo im.length bc F (.slice po pl pc) (.slice io ids.length ic) (pnV g1) (pnV g2) (pnV g3) gm nm).toArray 107 (0,0))∧H[a]?=some (.cells (aN R.1.1 R.1.2).toArray 84 (0,0))) [8,14] [0,1,2,3,4,5,6,7,8,9,10,11,12,13,14,15] aK (by kernel_rfl) (⟨hgA4,hga4⟩) ?_;refine Gz 8 ?_;refine Wo rfl rfl (Wh S0 rfl (DU (fun k=>ow k=3) g3 tp im (F 6) (F 0) (R.1.1 5-1) (w4.drewN 1) ((h3.ZN hF1 (fun k hk e=>by omega) (by omega)).ZM (hf14.draws 1)) (fun k hk=>by have:=hle 3 (by decide) k hk;show k<w4.heap.size;omega) hb (by constructor<;>omega)) rfl ?_);rw[←hrx];rintro _ w5 ⟨xo,xc,rfl,B,hX,hX5,hM5,hB5,hF5⟩;have hF5:=hF5.ZK;have hq5:∀ k,k=q∨k=a∨k=g→¬ ow k=3:=fun k hk e=>by have:=hle 3 (by decide) k e;rcases hk with h|h|h<;>first|omega|(rw[h,hog] at e;cases e)
   refine Wu (by exact⟨hF5.obj hgA4 (hq5 g (.inr (.inr rfl))),hF5.obj hga4 (hq5 a (.inr (.inl rfl)))⟩) ?_;refine Gz 5 ?_;refine Wo rfl rfl (Wl eK rfl rfl rfl (hF5.obj hg4 (hq5 q (.inl rfl))) rfl ?_);intro w6 hg6 hs6 hf6;have hq6:∀ k,k=q→¬ B k:=fun k hk e=>by rcases hB5 k e with h|h;have:=hle 3 (by decide) k h;omega;have h7:w4.heap.size≤k:=h.1;omega
   have hqa:¬ a=q:=by omega
   have hqg:¬ g=q:=by omega
   refine Wu (by exact⟨hf6.obj (hF5.obj hgA4 (hq5 g (.inr (.inr rfl)))) hqg,hf6.obj (hF5.obj hga4 (hq5 a (.inr (.inl rfl)))) hqa⟩) ?_;refine fK 6 ?_ ?_<;>intro h76
   ·have hno:=BZ (im:=im) (ref:=ref) (by rw[←hR];exact hgood) (by rw[←hR];exact h76);refine Gz 11 ?_;exact⟨_,rfl,lC (((hA3.trans hf4.any).trans (hF5.mono (fun k h=>.inr (.inr h)))).tw hf6) hno⟩
   have ex:(cP im F (R.1.1 5)).2=0:=Z5.1 h76;refine Gz 4 ?_;refine aC ⟨⟨xo,xc⟩,B⟩ ⟨ex,hg6,hM5.ZN hf6 (fun k hk e=>hq6 k e hk) (by intro e;have e:tp=q:=e;omega),(fun k hk=>(hB5 k hk).imp id (fun h=>⟨h.1,by have h8:=h.2;have h9:w6.heap.size=w5.heap.size:=hs6;omega⟩)),?_,hX5,(hF5.mono (fun k h=>.inr h)).trans (hf6.mono (fun k h=>.inl h))⟩;exact(hX.ZN hf6 (fun k hk e=>by have e:k=q:=e;have h7:w4.heap.size≤k:=hk.1;omega)).mono (fun k hk=>⟨hk.1,by have h8:=hk.2.1;have h9:w6.heap.size=w5.heap.size:=hs6;omega,hk.2.2⟩)
  have hrx:=EE (im:=im) (F:=F) h60;refine Gz 4 ?_;refine aC ⟨⟨none,0⟩,fun k=>ow k=3⟩ ⟨by rw[hrx],by rw[hrx];exact hg4,(h3.ZN hF1 (fun k hk e=>by omega) (by omega)).ZM hf14,(fun k hk=>.inl hk),by rw[hrx];exact XsV.zero,by rw[hrx];simp,Zn _ _⟩
 rintro⟨⟨xo,xc⟩,B⟩ w7 ⟨ex,hq7,hM7,hB7,hX7,hX75,hF7⟩;have hz7:=hF7.size;have hS7:∀ k,k≠q→ow k≠3→¬ (k=q∨ow k=3):=fun k h1 h2 h=>h.elim h1 h2;have hg7:=hF7.obj hgA4 (hS7 g (by omega) (by omega));have ha7:=hF7.obj hga4 (hS7 a (by omega) (fun e=>by have:=hle 3 (by decide) a e;omega));have hF17:aA (fun k=>ow k=3∨w1.heap.size≤k) w1 w7:=hf14.any.ZJ hF7 (fun k h=>h.elim (fun h=>.inr (by omega)) (fun h=>.inl (.inl h)));have hvb:Vw b8 w7.heap bo bc im:=(hv.ZN hF1 (fun x hx e=>by have:=hbo _ ⟨x,hx,rfl⟩;omega)).ZN hF17 (fun x hx e=>by have h4:=hbo _ ⟨x,hx,rfl⟩;have:=hle 4 (by decide) _ h4;rcases e with e|e<;>omega);have h2b:MrO (fun k=>ow k=2) w7.heap g2 tp im (F 3) (F 4):=(h2.ZN hF1 (fun k hk e=>by omega) (by omega)).ZN hF17 (fun k hk e=>by have:=hle 2 (by decide) k hk;rcases e with e|e<;>omega) (by intro e;rcases e with e|e<;>omega);have hM17:=hM1.ZN hF17 (fun k hk e=>by rcases hk with hk|hk<;>rcases e with e|e<;>first|omega|(have:=hle 1 (by decide) k hk;omega)|(have:=hle 3 (by decide) k e;omega)) (by intro e;rcases e with e|e<;>omega);have hA7:aA (Rds ow) W w7:=(hF1.mono (fun k h=>.inl h)).ZJ hF17 (fun k h=>h.elim (fun h=>.inl (.inr (.inr h))) (fun h=>.inr (by omega)));refine fK 9 ?_ ?_<;>intro h79
 ·have hk2:kind=2:=h79;refine Gz 5 ?_;refine Wv 18 (fun H=>H[g]?=some (.cells (moC tp bo im.length bc F (.slice po pl pc) (.slice io ids.length ic) (pnV g1) (pnV g2) (pnV g3) gm nm).toArray 107 (0,0))∧H[a]?=some (.cells (aN R.1.1 R.1.2).toArray 84 (0,0))) [13] [0,1,2,3,4,5,6,7,8,9,10,11,12,13,14,15,16,17] aK (by kernel_rfl) (⟨hg7,ha7⟩) ?_;refine Gz 12 ?_;refine xC rfl (Wt aF rfl (fun H hH=>aB (i:=4) hH.1 rfl)) ?_;refine Wo rfl rfl (Wh SZ rfl (Nh bo bc im (R.1.1 6) (R.1.1 7) (F 2) (w7.drewN 1) (hvb.ZM (Zo 1)) (by omega) (by omega)) rfl ?_);rintro _ w8 ⟨rfl,hf8⟩;have hf8:=hf8.ZK;refine Wu (by exact⟨hf8.obj hg7 id,hf8.obj ha7 id⟩) ?_;have ha8:=hf8.obj ha7 id;refine fK 10 ?_ ?_<;>intro h99
  ·refine fW 2 ?_ ?_<;>intro h102
   ·refine Gz 18 ?_;exact⟨_,rfl,lC (hA7.trans hf8.any) (rT (by rw[←hR];exact hgood) (by rw[←hR];exact ex) hk2 (by rw[←hR];exact⟨h99,by first|exact .inl h102|exact .inr h106⟩))⟩
   refine fW 3 ?_ ?_<;>intro h106
   ·refine Gz 14 ?_;exact⟨_,rfl,lC (hA7.trans hf8.any) (rT (by rw[←hR];exact hgood) (by rw[←hR];exact ex) hk2 (by rw[←hR];exact⟨h99,by first|exact .inl h102|exact .inr h106⟩))⟩
   have hnb:¬ yB im F R.1.1:=fun h=>h.2.elim h102 h106;refine Gz 16 ?_;have hrec:eV im F ids ref kind=some ⟨ref,R.1,[],(cP im F (R.1.1 5)).1⟩:=by rw[hR];exact rS (by rw[←hR];exact hgood) (by rw[←hR];exact ex) hk2 (by rw[←hR];exact hnb)
   have hz8:=hf8.size;exact⟨_,rfl,Ae hrec hnew hot (hA7.trans hf8.any) hz1 (by omega) (by omega) (by omega) htl (hM17.ZM hf8) (h2b.ZM hf8) (hM7.ZM hf8) (fun k h=>(hB7 k h).imp id (fun h=>⟨h.1,by omega⟩)) (hf8.obj hq7 id) rfl (hX7.ZN hf8 (fun _ _=>id)) hz8 hX75⟩
  have hnb:¬ yB im F R.1.1:=fun h=>h99 h.1;refine Gz 23 ?_;have hrec:eV im F ids ref kind=some ⟨ref,R.1,[],(cP im F (R.1.1 5)).1⟩:=by rw[hR];exact rS (by rw[←hR];exact hgood) (by rw[←hR];exact ex) hk2 (by rw[←hR];exact hnb)
  have hz8:=hf8.size;exact⟨_,rfl,Ae hrec hnew hot (hA7.trans hf8.any) hz1 (by omega) (by omega) (by omega) htl (hM17.ZM hf8) (h2b.ZM hf8) (hM7.ZM hf8) (fun k h=>(hB7 k h).imp id (fun h=>⟨h.1,by omega⟩)) (hf8.obj hq7 id) rfl (hX7.ZN hf8 (fun _ _=>id)) hz8 hX75⟩
 have hk2:¬ kind=2:=h79;refine fK 6 ?_ ?_<;>intro h110
 ·have hk1:kind=1:=h110;refine Gz 5 ?_;refine Wv 16 (fun H=>H[g]?=some (.cells (moC tp bo im.length bc F (.slice po pl pc) (.slice io ids.length ic) (pnV g1) (pnV g2) (pnV g3) gm nm).toArray 107 (0,0))∧H[a]?=some (.cells (aN R.1.1 R.1.2).toArray 84 (0,0))) [8] [0,1,2,3,4,5,6,7,8,9,10,11,12,13,14,15] aK (by kernel_rfl) (⟨hg7,ha7⟩) ?_;refine Gz 8 ?_;refine Wo rfl rfl (Wh sL rfl (fX (fun k=>ow k=2) g2 tp im (F 3) (F 4) (R.1.1 6) (R.1.1 7) (w7.drewN 1) (h2b.ZM (Zo 1)) (by omega) (by omega) (by omega)) rfl ?_);obtain⟨S,hS⟩:∃ S,S=aD im (F 3) (F 4) (R.1.1 6) (R.1.1 7):=⟨_,rfl⟩
  rw[←hS];rintro _ w8 ⟨so,sc,rfl,hso,hsf,hM8,hF8⟩;have hF8:=hF8.ZK;have hz8:=hF8.size;have hq8:∀ k,k=q∨k=a∨k=g→¬ ow k=2:=fun k hk e=>by have:=hle 2 (by decide) k e;rcases hk with h|h|h<;>first|omega|(rw[h,hog] at e;cases e)
  refine Wu (by exact⟨hF8.obj hg7 (hq8 g (.inr (.inr rfl))),hF8.obj ha7 (hq8 a (.inr (.inl rfl)))⟩) ?_;have hq8b:=hF8.obj hq7 (hq8 q (.inl rfl));refine fK 13 ?_ ?_<;>intro h125
  ·have hno:=lP (im:=im) (ref:=ref) (by rw[←hR];exact hgood) (by rw[←hR];exact ex) hk1 (by rw[←hR];unfold nK;rw[←hS,ZP h125];decide);refine Gz 13 ?_;exact⟨_,rfl,lC (hA7.trans (hF8.mono (fun k h=>.inr (.inl h)))) hno⟩
  have es:S.2.2=0:=Z5.1 h125;have hSl:(S.1.length:Int)=R.1.1 7:=by rw[hS] at es ⊢;exact(cJ es).2.2.2.1
  have hlr:nK im F R.1.1=fA S.1:=by unfold nK;rw[←hS,ZO h125]
  refine Gz 9 ?_;refine Wh SY rfl (Kn so sc S.1 w8 hso.vw (by omega)) rfl ?_;rintro _ w9 ⟨lo,lc,rfl,hlo,hlf,hf9⟩;have hz9:=hf9.size;refine Gz 5 ?_;refine Wl HP rfl rfl rfl (hf9.obj hq8b id) rfl ?_;intro w10 hg10 hs10 hf10;refine fK 6 ?_ ?_<;>intro h135
  ·have hno:=lP (im:=im) (ref:=ref) (by rw[←hR];exact hgood) (by rw[←hR];exact ex) hk1 (by rw[←hR,hlr];exact h135);refine Gz 12 ?_;exact⟨_,rfl,lC ((hA7.trans (hF8.mono (fun k h=>.inr (.inl h)))).trans hf9.any |>.tw hf10) hno⟩
  have es2:(fA S.1).2=0:=Z5.1 h135;refine Gz 14 ?_;have hrec:eV im F ids ref kind=some ⟨ref,R.1,(fA S.1).1,(cP im F (R.1.1 5)).1⟩:=by rw[hR];rw[hR] at hlr;rw[←hlr];exact Aa (by rw[←hR];exact hgood) (by rw[←hR];exact ex) hk1 (by rw[hlr];exact es2)
  have hq10:w10.heap[q]?=some (.cells (xY ⟨ref,R.1,(fA S.1).1,(cP im F (R.1.1 5)).1⟩ 0 lo lc xo xc).toArray 112 (0,0)):=hg10;have hlt:=hlo.lt;have hf810:aA (· = q) w8 w10:=hf9.any.trans hf10;have hlq:∀ k,(Nx (fun k=>ow k=2) (w7.drewN 1) w8 k∧¬ blk so k)→ow k=2∨(w7.heap.size≤k∧k<w8.heap.size):=fun k hk=>hk.1;have hlo10:=hlo.ZN hf10 (fun x hx e=>by have:=hlf x hx;have e:x.block=q:=e;omega);exact⟨_,rfl,HS (z:=w4.heap.size) hrec hnew hot ((hA7.trans (hF8.mono (fun k h=>.inr (.inl h)))).tw hf810) hz1 (by omega) (by omega) (by omega) htl ((hM17.ZN hF8 (fun k hk e=>by rcases hk with hk|hk<;>first|omega|(have:=hle 2 (by decide) k e;omega)) (by omega)).ZN hf810 (fun k hk e=>by have e:k=q:=e;rcases hk with hk|hk<;>first|omega|(have:=hle 1 (by decide) k hk;omega)) (by intro e;have e:tp=q:=e;omega)) (hM8.ZN hf810 (fun k hk e=>by have e:k=q:=e;rcases hlq k hk with h|h<;>first|omega|(have:=hle 2 (by decide) k h;omega)) (by intro e;have e:tp=q:=e;omega)) ((hM7.ZN hF8 (fun k hk e=>by rcases hB7 k hk with h|h<;>first|omega|(have:=hle 2 (by decide) k e;omega)) (by omega)).ZN hf810 (fun k hk e=>by have e:k=q:=e;rcases hB7 k hk with h|h<;>first|omega|(have:=hle 3 (by decide) k h;omega)) (by intro e;have e:tp=q:=e;omega)) (fun k hk=>(hlq k hk).imp id (fun h=>by omega)) (fun k hk=>(hB7 k hk).imp id (fun h=>by omega)) (fun k hz hk hb=>by rcases hlq k hk with h|h<;>rcases hB7 k hb with h2|h2<;>first|omega|(have:=hle 2 (by decide) k h;omega)|(have:=hle 3 (by decide) k h2;omega)) hq10 (hlo10.vw bA) (fun _ k ⟨x,hx,e⟩=>by have h5:=hlf x hx;have h6:=hlt x hx;refine⟨by omega,by omega,fun hb=>?_,fun hl=>?_⟩;(rcases hB7 k hb with h2|h2<;>first|omega|(have:=hle 3 (by decide) k h2;omega));rcases hlq k hl with h|h<;>first|omega|(have:=hle 2 (by decide) k h;omega)) (((hX7.ZN hF8 (fun k hk e=>by have:=hle 2 (by decide) k e;have h7:=hk.1;omega)).ZN hf810 (fun k hk e=>by have e:k=q:=e;have h7:=hk.1;omega)).mono (fun k hk=>⟨hk.1,by have h7:=hk.2.1;omega,hk.2.2,fun hl=>by have h7:=hk.1;have h8:=hk.2.1;rcases hlq k hl with h|h<;>first|omega|(have:=hle 2 (by decide) k h;omega)⟩)) hX75⟩
 have hk1:¬ kind=1:=h110;refine Gz 15 ?_;have hrec:eV im F ids ref kind=some ⟨ref,R.1,[],(cP im F (R.1.1 5)).1⟩:=by rw[hR];exact B1 (by rw[←hR];exact hgood) (by rw[←hR];exact ex) hk2 hk1
 exact⟨_,rfl,Ae hrec hnew hot hA7 hz1 (by omega) (by omega) hz7 htl hM17 h2b hM7 hB7 hq7 rfl hX7 (Z0 _) hX75⟩
def k6(z:Int):I6:=if h : -9223372036854775808≤z∧z≤9223372036854775807 then ⟨z,h⟩ else ⟨0,by decide⟩
theorem Dp{z:Int}(h:0≤z∧z≤4294967295):(k6 z).1=z:=by unfold k6;rw[dif_pos (by omega)]
def kG(l:List (Rec×Int))(ps:List Nat):List (I6×Value):=(l.zip ps).map fun z=>(k6 z.1.1.ref,pnV z.2)
def PlM(s:MSt):Prop:=s.2≤1024∧(∀ r∈s.1,(0≤r.1.ref∧r.1.ref≤4294967295)∧0≤r.2∧r.2≤s.2)∧(s.1.map (·.1.ref)).Nodup∧s.1.length≤s.2
theorem Fs(r:Rec×Int)(l:List (Rec×Int))(ref:Int):fL (r::l) ref=if r.1.ref=ref then some 0 else (fL l ref).map (· + 1):=by
 unfold fL;rw[List.findIdx?_cons];by_cases h:r.1.ref=ref<;>simp[h]
theorem qX{l:List (Rec×Int)}{ref:Int}{i:Nat}(h:fL l ref=some i):∃ r,l[i]?=some r∧r.1.ref=ref:=by
 unfold fL at h;obtain⟨hi,hp,_⟩:=cw.1 h;exact⟨l[i],ZQ hi,of_decide_eq_true hp⟩
theorem Fq{l:List (Rec×Int)}{ref:Int}(h:fL l ref=none):∀ r∈l,r.1.ref≠ref:=by
 unfold fL at h;rw[dk] at h;intro r hr e;have:=h r hr;simp[e] at this
theorem AK{ref:Int}(hr:0≤ref∧ref≤4294967295):∀ {l:List (Rec×Int)} {ps:List Nat},ps.length=l.length→(∀ r∈l,0≤r.1.ref∧r.1.ref≤4294967295)→oL (kG l ps) (k6 ref)=(fL l ref).map (fun i=>pnV (ps.getD i 0))
|[],ps,_,_=>rfl
|r::l,[],h,_=>by simp at h
|r::l,p::ps,h,hb=>by
   have ih:=AK hr (l:=l) (ps:=ps) (by simpa using h) (fun r hr=>hb r (by simp[hr]));have e:kG (r::l) (p::ps)=(k6 r.1.ref,pnV p)::kG l ps:=rfl;rw[e,Fs];unfold oL;have hk:(k6 r.1.ref=k6 ref)↔r.1.ref=ref:=⟨fun h=>by rw[←Dp (hb r (by simp)),←Dp hr,h],fun h=>by rw[h]⟩
   by_cases h2:r.1.ref=ref
   ·rw[ZP (hk.2 h2),ZP h2];rfl
   · rw[ZO (fun h'=>h2 (hk.1 h')),ZO h2,ih]
     cases fL l ref<;>simp
theorem J2{l:List (Rec×Int)}{ps:List Nat}(h:ps.length=l.length)(r:Rec×Int)(p:Nat):kG (l++[r]) (ps++[p])=kG l ps++[(k6 r.1.ref,pnV p)]:=by
 unfold kG;rw[List.zip_append h.symm];simp
theorem J3{l:List (Rec×Int)}{ps:List Nat}(i:Nat)(r:Rec×Int)(hi:l[i]?=some r)(n:Int):kG (l.set i (r.1,n)) ps=kG l ps:=by
 unfold kG;apply cd;intro j;simp only[ax,List.zip,List.getElem?_zipWith,cg];by_cases hj:i=j
 · subst hj
   have hlt:=(ZS.1 hi).1;rw[ZP rfl,ZP hlt,hi];cases ps[i]?<;>rfl
 ·rw[ZO hj]
def MoV(ow:Nat→Nat)(H:Array Obj)(g tp:Nat)(im:By)(F:Nat→Int)(P ids:List Int)(s:MSt)(ps:List Nat):Prop:=
 ∃ bo bc po pc io ic g1 g2 g3 gm,
  H[g]?=some (.cells (moC tp bo im.length bc F (.slice po P.length pc) (.slice io ids.length ic) (pnV g1) (pnV g2) (pnV g3) gm s.2).toArray 107 (0,0)) ∧
  (Vw b8 H bo bc im∧∀ k,blk bo k→ow k=4)∧(Vw i64 H po pc P∧∀ k,blk po k→ow k=4)∧(Vw i64 H io ic ids∧∀ k,blk io k→ow k=4) ∧
  MrO (fun k=>ow k=1) H g1 tp im (F 2) (F 3)∧MrO (fun k=>ow k=2) H g2 tp im (F 3) (F 4)∧MrO (fun k=>ow k=3) H g3 tp im (F 6) (F 0) ∧
  kS enI H gm (kG s.1 ps)∧ps.length=s.1.length∧(∀ (i:Nat) (r:Rec×Int) (p:Nat),s.1[i]?=some r→ps[i]?=some p→RcV (fun k=>ow k=4) H r.1 r.2 p∧ow p=5)∧ps.Nodup ∧
  ow g=6∧ow gm=7∧ow tp=0
theorem RcV.ZN{E E' S:Nat→Prop}{w w':World}{x:Rec}{nm:Int}{p:Nat}(h:RcV E w.heap x nm p)(f:aA S w w')(hp:¬ S p)(hS:∀ k,E k→¬ S k)(hE:∀ k,E k→E' k):RcV E' w'.heap x nm p:=by
 obtain⟨lo,lc,xo,xc,h1,h2,h3,h4,h5⟩:=h;exact⟨lo,lc,xo,xc,f.obj h1 hp,h2.keep' f (fun hne a ha=>hS _ (h3 hne _ ⟨a,ha,rfl⟩)),fun hne k hk=>hE k (h3 hne k hk),(h4.ZN f hS).mono hE,h5⟩
theorem MoV.ZN{ow:Nat→Nat}{S:Nat→Prop}{w w':World}{g tp:Nat}{im:By}{F:Nat→Int}{P ids:List Int}{s:MSt}{ps:List Nat}(h:MoV ow w.heap g tp im F P ids s ps)(f:aA S w w')(hS:∀ k,S k→ow k=0)(htp:¬ S tp):MoV ow w'.heap g tp im F P ids s ps:=by
 obtain⟨bo,bc,po,pc,io,ic,g1,g2,g3,gm,hg,⟨v1,l1⟩,⟨v2,l2⟩,⟨v3,l3⟩,m1,m2,m3,hm,hl,hr,hn,o1,o2,o3⟩:=h;have key:∀ n k,n≠0→ow k=n→¬ S k:=fun n k hn0 h e=>by have:=hS k e;omega
 exact⟨bo,bc,po,pc,io,ic,g1,g2,g3,gm,f.obj hg (key 6 g (by decide) o1),⟨v1.ZN f (fun a ha=>key 4 _ (by decide) (l1 _ ⟨a,ha,rfl⟩)),l1⟩,⟨v2.ZN f (fun a ha=>key 4 _ (by decide) (l2 _ ⟨a,ha,rfl⟩)),l2⟩,⟨v3.ZN f (fun a ha=>key 4 _ (by decide) (l3 _ ⟨a,ha,rfl⟩)),l3⟩,
  m1.ZN f (fun k hk=>key 1 k (by decide) hk) htp,m2.ZN f (fun k hk=>key 2 k (by decide) hk) htp,m3.ZN f (fun k hk=>key 3 k (by decide) hk) htp,hm.ZN f (key 7 gm (by decide) o2),hl,
  fun i r p h1 h2=>⟨(hr i r p h1 h2).1.ZN f (key 5 p (by decide) (hr i r p h1 h2).2) (fun k hk=>key 4 k (by decide) hk) (fun _ h=>h),(hr i r p h1 h2).2⟩,hn,o1,o2,o3⟩
theorem MoV.ZM{ow:Nat→Nat}{w w':World}{g tp:Nat}{im:By}{F:Nat→Int}{P ids:List Int}{s:MSt}{ps:List Nat}(h:MoV ow w.heap g tp im F P ids s ps)(f:aA nob w w'):MoV ow w'.heap g tp im F P ids s ps:=h.ZN f (fun _ h=>h.elim) id
theorem B0{im:By}{F:Nat→Int}{ids:List Int}{ref kind:Int}{x:Rec}(h:eV im F ids ref kind=some x):x.ref=ref∧∀ y∈x.list,Kf y:=by
 unfold eV at h
 split at h
 ·cases h
 · split at h
   ·cases h
   · split at h
     · split at h
       ·cases h
       ·cases h;exact⟨rfl,by simp⟩
     · split at h
       · split at h
         ·cases h
         · rename_i h5
           cases h;refine⟨rfl,fun y hy=>?_⟩;unfold nK at hy
           split at hy
           ·cases hy
           · rcases AT (aD im (F 3) (F 4) ((bQ im (F 2) (F 3) ref).1.1 6) ((bQ im (F 2) (F 3) ref).1.1 7)).1 with⟨L,e,hc,_⟩|e
             ·rw[e] at hy;exact AZ hc y hy
             ·rw[e] at hy;cases hy
       ·cases h;exact⟨rfl,by simp⟩
theorem PlM.snoc{s:MSt}(h:PlM s){x:Rec}(hx:0≤x.ref∧x.ref≤4294967295)(hn:∀ r∈s.1,r.1.ref≠x.ref)(h2:s.2+1≤1024):PlM (s.1++[(x,1)],s.2+1):=by
 obtain⟨h1,h3,h4,h5⟩:=h;refine⟨h2,fun r hr=>?_,?_,by simp;omega⟩
 · rcases an.1 hr with hr|hr
   ·have:=h3 r hr;exact⟨this.1,this.2.1,by have:=this.2.2;show r.2≤((s.2+1:Nat):Int);omega⟩
   ·rw[ai] at hr;subst hr;exact⟨hx,by show (0:Int)≤1;decide,by show (1:Int)≤((s.2+1:Nat):Int);omega⟩
 · rw[dr,List.map_singleton]
   refine fg.2 ⟨h4,by simp,?_⟩;intro a ha b hb e;rw[ai] at hb;obtain⟨r,hr,rfl⟩:=av.1 ha;exact hn r hr (e.trans hb)
theorem PlM.bump{s:MSt}(h:PlM s){i:Nat}{r:Rec×Int}(hi:s.1[i]?=some r)(h2:s.2+1≤1024):PlM (eL s.1 i,s.2+1):=by
 obtain⟨h1,h3,h4,h5⟩:=h;have hd:s.1.getD i (qN,0)=r:=by rw[Z2,hi];rfl
 refine⟨h2,fun t ht=>?_,?_,by unfold eL;rw[cm];show _≤s.2+1;omega⟩
 · unfold eL at ht
   rw[hd] at ht;have hrm:=h3 r (ZW hi);rcases eu ht with ht|rfl
   ·have:=h3 t ht;exact⟨this.1,this.2.1,by have:=this.2.2;show t.2≤((s.2+1:Nat):Int);omega⟩
   ·exact⟨hrm.1,by have:=hrm.2.1;show 0≤r.2+1;omega,by have:=hrm.2.2;show r.2+1≤((s.2+1:Nat):Int);omega⟩
 · have e:(eL s.1 i).map (·.1.ref)=s.1.map (·.1.ref):=by
    unfold eL;rw[map_set,hd];apply cd;intro j;rw[cg];by_cases hj:i=j
    · subst hj
      have hlt:=(ZS.1 hi).1;rw[ZP rfl,ZP (by simpa using hlt),ax,hi];rfl
    ·rw[ZO hj]
   show ((eL s.1 i).map (·.1.ref)).Nodup;rw[e];exact h4
theorem mpR:NP Tryz.prog 104 3 110 (.pointer none):=⟨by kernel_rfl,Vg⟩
theorem PU{z:Int}(h:0≤z∧z≤4294967295)(h' : -9223372036854775808≤z∧z≤9223372036854775807):(⟨z,h'⟩:I6)=k6 z:=by unfold k6;rw[dif_pos h']
theorem LI{ow:Nat→Nat}{W w':World}{tp g1 g2 g3:Nat}{im:By}{F:Nat→Int}{r:Option Rec}{v:Value}(h:Be ow W tp g1 g2 g3 im F r v w'):∃ pq:Option Addr,v=.pointer pq∧aA (Rds ow) W w'∧((pq.isNone=true∧r=none)∨∃ (x:Rec) (q:Nat) (ow':Nat→Nat),pq=some ⟨q,0,none⟩∧r=some x∧W.heap.size≤q∧q<w'.heap.size∧(∀ k,k<W.heap.size→ow' k=ow k)∧(∀ k,w'.heap.size≤k→ow' k=0)∧(∀ k,W.heap.size≤k→k≠q→ow' k≤4)∧ow' q=5∧RcV (fun k=>ow' k=4) w'.heap x 0 q ∧
 MrO (fun k=>ow' k=1) w'.heap g1 tp im (F 2) (F 3)∧MrO (fun k=>ow' k=2) w'.heap g2 tp im (F 3) (F 4)∧MrO (fun k=>ow' k=3) w'.heap g3 tp im (F 6) (F 0)):=by
 obtain⟨hf,h⟩:=h;cases r with
|none=>exact⟨none,h,hf,.inl ⟨rfl,rfl⟩⟩
|some x=>obtain⟨ow',q,rfl,h1⟩:=h;exact⟨_,rfl,hf,.inr ⟨x,q,ow',rfl,rfl,h1⟩⟩
def Lbs(ow:Nat→Nat):Nat→Prop:=fun k=>ow k≠0∧ow k≠4
def Hr(ow:Nat→Nat)(W:World)(g tp:Nat)(im:By)(F:Nat→Int)(P ids:List Int)(r:Option MSt)(v:Value)(w':World):Prop:=aA (Lbs ow) W w'∧((v=.bool false∧r=none) ∨
 ∃ (s':MSt) (ow':Nat→Nat) (ps':List Nat),v=.bool true∧r=some s'∧MoV ow' w'.heap g tp im F P ids s' ps'∧(∀ k,k<W.heap.size→ow' k=ow k)∧(∀ k,w'.heap.size≤k→ow' k=0)∧PlM s')
theorem DN{ow:Nat→Nat}{W w':World}{g tp:Nat}{im:By}{F:Nat→Int}{P ids:List Int}{r:Option MSt}{v:Value}(h:Hr ow W g tp im F P ids r v w'):∃ b:Bool,v=.bool b∧aA (Lbs ow) W w'∧((b=false∧r=none) ∨
 ∃ (s':MSt) (ow':Nat→Nat) (ps':List Nat),b=true∧r=some s'∧MoV ow' w'.heap g tp im F P ids s' ps'∧(∀ k,k<W.heap.size→ow' k=ow k)∧(∀ k,w'.heap.size≤k→ow' k=0)∧PlM s'):=by
 obtain⟨hf,⟨h1,h2⟩|⟨s',ow',ps',h1,h2⟩⟩:=h
 ·exact⟨false,h1,hf,.inl ⟨rfl,h2⟩⟩
 ·exact⟨true,h1,hf,.inr ⟨s',ow',ps',rfl,h2⟩⟩
section
variable {im:List UInt8}{F:Nat→Int}{ids:List Int}{n:Nat}{ref kind:Int}{s:MSt}
theorem AJ(h:1024<s.2+1):goM im F ids (n+1) ref kind s=none:=by unfold goM;rw[ZP h]
theorem Ds{i:Nat}(h:¬ 1024<s.2+1)(hi:fL s.1 ref=some i)(hk:kind≠1∧(s.1.getD i (qN,0)).1.ino.1 0=kind):goM im F ids (n+1) ref kind s=some (eL s.1 i,s.2+1):=by
 unfold goM;rw[ZO h,hi];exact ZP hk
theorem mJ{i:Nat}(h:¬ 1024<s.2+1)(hi:fL s.1 ref=some i)(hk:¬ (kind≠1∧(s.1.getD i (qN,0)).1.ino.1 0=kind)):goM im F ids (n+1) ref kind s=none:=by
 unfold goM;rw[ZO h,hi];exact ZO hk
theorem Du(h:¬ 1024<s.2+1)(hi:fL s.1 ref=none)(hx:eV im F ids ref kind=none):goM im F ids (n+1) ref kind s=none:=by
 unfold goM;rw[ZO h,hi];simp only[hx]
theorem Dt{x:Rec}(h:¬ 1024<s.2+1)(hi:fL s.1 ref=none)(hx:eV im F ids ref kind=some x):goM im F ids (n+1) ref kind s=goL (goM im F ids n) x.list (s.1++[(x,1)],s.2+1):=by
 conv=>lhs;unfold goM
 rw[ZO h,hi];simp only[hx]
end
theorem PlM.lt{s:MSt}(h:PlM s){i:Nat}{r:Rec×Int}(hi:s.1[i]?=some r):0≤r.2∧r.2≤1024:=by
 have h1:=h.2.1 r (ZW hi);have:=h.1;exact⟨h1.2.1,by have:=h1.2.2;omega⟩
theorem JP{α:Type}{l:List α}(h:l.Nodup){i j:Nat}{x:α}(hi:l[i]?=some x)(hj:l[j]?=some x):i=j:=by
 obtain⟨h1,e1⟩:=ZS.1 hi;obtain⟨h2,e2⟩:=ZS.1 hj;have hp:=bj.1 h;rcases fb i j with h3|h3|h3
 ·exact absurd (e1.trans e2.symm) (hp i j h1 h2 h3)
 ·exact h3
 ·exact absurd (e2.trans e1.symm) (hp j i h2 h1 h3)
def WkS(g tp:Nat)(im:By)(F:Nat→Int)(P ids:List Int)(n:Nat):Prop:=∀ (ow:Nat→Nat) (s:MSt) (ps:List Nat) (ref kind:Int) (W:World),MoV ow W.heap g tp im F P ids s ps→(∀ k,W.heap.size≤k→ow k=0)→PlM s→(0≤ref∧ref≤4294967295) →
 CA 37 [pT g,iV ref,iV kind,iV (17-n)] W (Hr ow W g tp im F P ids (goM im F ids n ref kind s))
theorem GV(g tp:Nat)(im:By)(F:Nat→Int)(P ids:List Int):WkS g tp im F P ids 0:=by
 intro ow s ps ref kind W hM hnew hp href;obtain⟨bo,bc,po,pc,io,ic,g1,g2,g3,gm,hg,_,_,_,_,_,_,_,_,_,_,o1,_,_⟩:=hM;have hp1:=hp.1;refine cS 92 [(0,_),(1,_),(2,_),(3,_)] Tryz.func37 ?_;refine Gz 14 ?_;refine Wl aF rfl rfl rfl hg rfl ?_;intro w1 hg1 hs1 hf1;refine Gz 6 ?_;refine cL (Xo (XA rfl rfl) (by decide)) ?_;refine Gz 18 ?_;exact⟨_,rfl,hf1.mono (fun k h=>by have h:k=g:=h;subst h;show _∧_;omega),.inl ⟨rfl,rfl⟩⟩
theorem GU(g tp:Nat)(im:By)(F:Nat→Int)(P ids:List Int)(hb:im.length≤1073741824)(n:Nat)(hn:n+1≤17)(ih:WkS g tp im F P ids n):WkS g tp im F P ids (n+1):=by
 intro ow s ps ref kind W hM hnew hp href;have hle:∀ z,z≠0→∀ k,ow k=z→k<W.heap.size:=fun z hz k hk=>ZY fun hc=>by have:=hnew k (by omega);omega
 obtain⟨bo,bc,po,pc,io,ic,g1,g2,g3,gm,hg,⟨v1,l1⟩,⟨v2,l2⟩,⟨v3,l3⟩,m1,m2,m3,hm,hl,hr,hnd,o1,o2,o3⟩:=hM;have hp1:=hp.1;have hgl:=(Z1.1 hg).1;have htl:=(Z1.1 m1.tab.1).1;have hog:∀ k,ow k≠6→¬ k=g:=fun k h e=>h (e ▸ o1);have h4g:∀ k,ow k=4→¬ k=g:=fun k h=>hog k (by omega);obtain⟨oi,hoi⟩:∃ oi,oi=fL s.1 ref:=⟨_,rfl⟩
 refine cS 92 [(0,_),(1,_),(2,_),(3,_)] Tryz.func37 ?_;refine Gz 14 ?_;refine Wl aF rfl rfl rfl hg rfl ?_;intro w1 hg1 hs1 hf1;have hg1:w1.heap[g]?=some (.cells (moC tp bo im.length bc F (.slice po P.length pc) (.slice io ids.length ic) (pnV g1) (pnV g2) (pnV g3) gm ((s.2+1:Nat):Int)).toArray 107 (0,0)):=hg1;have hF1:aA (Lbs ow) W w1:=hf1.mono (fun k h=>by have h:k=g:=h;subst h;show _∧_;omega);have hm1:=hm.ZN hf1 (hog gm (by omega));have v11:=v1.ZN hf1 (fun a ha=>h4g _ (l1 _ ⟨a,ha,rfl⟩));have v21:=v2.ZN hf1 (fun a ha=>h4g _ (l2 _ ⟨a,ha,rfl⟩));have v31:=v3.ZN hf1 (fun a ha=>h4g _ (l3 _ ⟨a,ha,rfl⟩));have m11:=m1.ZN hf1 (fun k hk=>hog k (by omega)) (hog tp (by omega));have m21:=m2.ZN hf1 (fun k hk=>hog k (by omega)) (hog tp (by omega));have m31:=m3.ZN hf1 (fun k hk=>hog k (by omega)) (hog tp (by omega));have hr1:∀ (i:Nat) (r:Rec×Int) (p:Nat),s.1[i]?=some r→ps[i]?=some p→RcV (fun k=>ow k=4) w1.heap r.1 r.2 p∧ow p=5:=fun i r p h1 h2=>⟨(hr i r p h1 h2).1.ZN hf1 (hog p (by have:=(hr i r p h1 h2).2;omega)) (fun k hk=>h4g k hk) (fun _ h=>h),(hr i r p h1 h2).2⟩
 refine Gz 6 ?_;refine cL (W8 (XA rfl rfl) (by omega)) ?_;refine fW 5 ?_ ?_<;>intro h28
 ·have hres:goM im F ids (n+1) ref kind s=none:=AJ (by omega);refine Gz 12 ?_;exact⟨_,rfl,hF1,.inl ⟨rfl,hres⟩⟩
 have h28:¬ 1024<s.2+1:=by omega
 refine Gz 14 ?_;refine cL (Wm (u:=.tuple [(oi.map (fun i=>pnV (ps.getD i 0))).getD (.pointer none),.bool (decide (oi.isSome=true))].toArray) (XD mpR (a:=(⟨ref,by omega⟩:I6)) My rfl rfl (fun _ e=>by rw[e];exact hm1)) (by rw[PU href,AK href hl (fun r h=>(hp.2.1 r h).1),←hoi];cases oi<;>rfl)) ?_;refine Gz 2 ?_;refine WF (Xw rfl rfl) rfl (fun h38=>?_) (fun h38=>?_)
 ·obtain⟨i,rfl⟩:∃ i,oi=some i:=fj.1 h38;obtain⟨r,hri,hrr⟩:=qX hoi.symm;have hil:=(ZS.1 hri).1;obtain⟨p,hpi⟩:∃ p,ps[i]?=some p:=⟨_,ZQ (by omega)⟩
  have hpd:ps.getD i 0=p:=by rw[Z2,hpi];rfl
  have hrd:s.1.getD i (qN,0)=r:=by rw[Z2,hri];rfl
  obtain⟨hrv,hop⟩:=hr1 i r p hri hpi;obtain⟨lo,lc,xo,xc,hpc,hvl,hvd,hvx,hx5⟩:=hrv;have hr2:=hp.lt hri;rw[show ((some i).map (fun i=>pnV (ps.getD i 0))).getD (.pointer none)=pT p by rw[dp,getD_some,hpd];rfl];refine Gz 19 ?_;refine Wl aF rfl rfl rfl hpc rfl ?_;intro w2 hpc2 hs2 hf2;have hpc2:w2.heap[p]?=some (.cells (xY r.1 (r.2+1) lo lc xo xc).toArray 112 (0,0)):=hpc2;refine fK 5 ?_ ?_<;>intro h48
  ·refine Gz 5 ?_;refine cW (Wk aF rfl (aB (i:=0) hpc2 rfl)) ?_;refine fW 1 ?_ ?_<;>intro h56
   ·have hres:goM im F ids (n+1) ref kind s=some (eL s.1 i,s.2+1):=Ds h28 hoi.symm ⟨h48,by rw[hrd];exact h56⟩;refine Gz 7 ?_;have hpn:∀ k,ow k≠5→¬ k=p:=fun k h e=>h (e ▸ hop);have h4p:∀ k,ow k=4→¬ k=p:=fun k h=>hpn k (by omega);refine⟨_,rfl,hF1.trans (hf2.mono (fun k h=>by have h:k=p:=h;subst h;show _∧_;omega)),.inr ⟨_,ow,ps,rfl,hres,⟨bo,bc,po,pc,io,ic,g1,g2,g3,gm,hf2.obj hg1 (hpn g (by omega)),⟨v11.ZN hf2 (fun a ha=>h4p _ (l1 _ ⟨a,ha,rfl⟩)),l1⟩,⟨v21.ZN hf2 (fun a ha=>h4p _ (l2 _ ⟨a,ha,rfl⟩)),l2⟩,⟨v31.ZN hf2 (fun a ha=>h4p _ (l3 _ ⟨a,ha,rfl⟩)),l3⟩,m11.ZN hf2 (fun k hk=>hpn k (by omega)) (hpn tp (by omega)),m21.ZN hf2 (fun k hk=>hpn k (by omega)) (hpn tp (by omega)),m31.ZN hf2 (fun k hk=>hpn k (by omega)) (hpn tp (by omega)),?_,by unfold eL;rw[cm];exact hl,fun i2 r2 p2 h1 h2=>?_,hnd,o1,o2,o3⟩,fun _ _=>rfl,fun k hk=>hnew k (by have h:w2.heap.size=w1.heap.size:=hs2;omega),hp.bump hri (by omega)⟩⟩
    · show kS enI w2.heap gm (kG (eL s.1 i) ps)
      unfold eL;rw[hrd,J3 i r hri];exact hm1.ZN hf2 (hpn gm (by omega))
    · by_cases hi2:i=i2
      · subst hi2
        rw[hpi] at h2;cases h2;have h1:(eL s.1 i)[i]?=some r2:=h1;unfold eL at h1;rw[cg,ZP rfl,ZP hil,hrd] at h1;cases h1;exact⟨⟨lo,lc,xo,xc,hpc2,hvl.keep' hf2 (fun hne a ha=>h4p _ (hvd hne _ ⟨a,ha,rfl⟩)),hvd,hvx.ZN hf2 (fun k hk=>h4p k hk),hx5⟩,hop⟩
      · have h1:(eL s.1 i)[i2]?=some r2:=h1
        unfold eL at h1;rw[cg,ZO hi2] at h1;obtain⟨h3,h5⟩:=hr1 i2 r2 p2 h1 h2;have hpp:¬ p2=p:=fun e=>by
         subst e;exact hi2 (JP hnd hpi h2)
        exact⟨h3.ZN hf2 hpp (fun k hk=>h4p k hk) (fun _ h=>h),h5⟩
   have hres:goM im F ids (n+1) ref kind s=none:=mJ h28 hoi.symm (fun h=>h56 (by rw[hrd] at h;exact h.2));refine Gz 7 ?_;exact⟨_,rfl,hF1.trans (hf2.mono (fun k h=>by have h:k=p:=h;subst h;show _∧_;omega)),.inl ⟨rfl,hres⟩⟩
  have hres:goM im F ids (n+1) ref kind s=none:=mJ h28 hoi.symm (fun h=>h48 h.1);refine Gz 15 ?_;exact⟨_,rfl,hF1.trans (hf2.mono (fun k h=>by have h:k=p:=h;subst h;show _∧_;omega)),.inl ⟨rfl,hres⟩⟩
 obtain rfl:oi=none:=by cases oi;rfl;exact absurd rfl h38
 refine Gz 17 ?_;refine Wh Vv rfl (JX ow g tp g1 g2 g3 gm bo po io bc P.length pc ic im F ids _ ref kind w1 hg1 v11 l1 o1 o3 m11 m21 m31 (fun k hk=>hnew k (by omega)) hb href) rfl ?_;intro v2 w2 hR2;obtain⟨pq,rfl,hF2,hR2⟩:=LI hR2;refine Gz 7 ?_;refine WF (WK (WZ QE rfl rfl)) rfl (fun h63=>?_) (fun h63=>?_)
 ·have hrm:eV im F ids ref kind=none:=by
   rcases hR2 with h|⟨x,q,ow2,rfl,h⟩
   ·exact h.2
   ·cases h63
  have hres:goM im F ids (n+1) ref kind s=none:=Du h28 hoi.symm hrm;refine Gz 11 ?_;exact⟨_,rfl,hF1.trans (hF2.mono (fun k h=>by have h:ow k=1∨ow k=2∨ow k=3:=h;show _∧_;omega)),.inl ⟨rfl,hres⟩⟩
 obtain⟨x,q,ow2,rfl,hrm,hq1,hq2,c1,c2,c3,c4,hrv,m12,m22,m32⟩:=hR2.resolve_left (fun h=>h63 h.1);have hres:=Dt (n:=n) h28 hoi.symm hrm;have hqg:¬ q=g:=by omega
 have hRd:∀ k,(k=g∨ow k=4∨ow k=5∨ow k=7)→¬ Rds ow k:=fun k h e=>by
  have e:ow k=1∨ow k=2∨ow k=3:=e;rcases h with rfl|h|h|h<;>omega
 have hg2:=hF2.obj hg1 (hRd g (.inl rfl));have hm2:=hm1.ZN hF2 (hRd gm (.inr (.inr (.inr o2))));obtain⟨lo,lc,xo,xc,hqc,hvl,hvd,hvx,hx5⟩:=hrv;have hxr:=B0 hrm;have hgml:=hm1.obj;refine Gz 10 ?_;refine Wl aF rfl rfl rfl hqc rfl ?_;intro w3 hqc3 hs3 hf3;have hqc3:w3.heap[q]?=some (.cells (xY x 1 lo lc xo xc).toArray 112 (0,0)):=hqc3;have hg3:=hf3.obj hg2 (by intro e;have e:g=q:=e;omega);have hm3:=hm2.ZN hf3 (by intro e;have e:gm=q:=e;omega);refine Gz 10 ?_;refine XJ mpR (a:=(⟨ref,by omega⟩:I6)) My rfl rfl rfl hm3 ?_;intro w4 hm4 hs4 hf4;have hget:oL (kG s.1 ps) (k6 ref)=none:=by rw[AK href hl (fun r h=>(hp.2.1 r h).1),←hoi];rfl
 have hm4:kS enI w4.heap gm (kG (s.1++[(x,1)]) (ps++[q])):=by
  rw[PU href,wD _ hget] at hm4;rw[J2 hl];show kS enI w4.heap gm (kG s.1 ps++[(k6 x.ref,pnV q)]);rw[hxr.1];exact hm4
 have hf34:aA (fun k=>k=q∨k=gm) w2 w4:=(hf3.mono (fun k h=>.inl h)).trans (hf4.mono (fun k h=>.inr h));have hq7:∀ k,k<w1.heap.size→ow k≠7→¬ (k=q∨k=gm):=fun k h1 h2 e=>by rcases e with e|e;omega;rw[e] at h2;exact h2 o2
 have hn7:∀ k,ow2 k≤4→ow2 k≠0→¬ (k=q∨k=gm):=fun k h1 h0 e=>by rcases e with e|e;rw[e,c4] at h1;omega;rw[e,c1 gm hgml,o2] at h1;omega
 have hg4:=hf34.obj hg2 (hq7 g (by omega) (by omega));have hpm:PlM (s.1++[(x,1)],s.2+1):=hp.snoc (by rw[hxr.1];exact href) (fun r h=>by rw[hxr.1];exact Fq hoi.symm r h) (by omega);have hkv:∀ {α:Type} {en:α→Value} {ao:Option Addr} {c:Nat} {y:List α},Vw en w1.heap ao c y→(∀ k,blk ao k→ow k=4)→Vw en w4.heap ao c y∧∀ k,blk ao k→ow2 k=4:=fun hv hl4=>⟨(hv.ZN hF2 (fun a ha=>hRd _ (.inr (.inl (hl4 _ ⟨a,ha,rfl⟩))))).ZN hf34 (fun a ha=>hq7 _ (by have:=hle 4 (by decide) _ (hl4 _ ⟨a,ha,rfl⟩);omega) (by have:=hl4 _ ⟨a,ha,rfl⟩;omega)),fun k hk=>by rw[c1 k (by have:=hle 4 (by decide) _ (hl4 _ hk);omega)];exact hl4 k hk⟩
 have hx4:RcV (fun k=>ow2 k=4) w4.heap x 1 q:=⟨lo,lc,xo,xc,hf4.obj hqc3 (by intro e;have e:q=gm:=e;omega),hvl.keep' hf34 (fun hne a ha=>hn7 _ (by have:=hvd hne _ ⟨a,ha,rfl⟩;omega) (by have:=hvd hne _ ⟨a,ha,rfl⟩;omega)),hvd,hvx.ZN hf34 (fun k hk=>hn7 k (by have hk:ow2 k=4:=hk;omega) (by have hk:ow2 k=4:=hk;omega)),hx5⟩
 have htq:¬ (tp=q∨tp=gm):=hq7 tp (by omega) (by omega)
 have hM4:MoV ow2 w4.heap g tp im F P ids (s.1++[(x,1)],s.2+1) (ps++[q]):=by
  refine⟨bo,bc,po,pc,io,ic,g1,g2,g3,gm,hg4,hkv v11 l1,hkv v21 l2,hkv v31 l3,m12.ZN hf34 (fun k hk=>hn7 k (by omega) (by omega)) htq,m22.ZN hf34 (fun k hk=>hn7 k (by omega) (by omega)) htq,m32.ZN hf34 (fun k hk=>hn7 k (by omega) (by omega)) htq,hm4,by simp[hl],fun i r p h1 h2=>?_,?_,by rw[c1 g (by omega)];exact o1,by rw[c1 gm hgml];exact o2,by rw[c1 tp (by omega)];exact o3⟩
  · by_cases hi:i<s.1.length
    · have h1:(s.1++[(x,1)])[i]?=some r:=h1
      rw[au hi] at h1;rw[au (by omega)] at h2;obtain⟨h3,h5⟩:=hr1 i r p h1 h2;have hpl:=hle 5 (by decide) p h5;refine⟨(h3.ZN hF2 (hRd p (.inr (.inr (.inl h5)))) (fun k hk=>hRd k (.inr (.inl hk))) (fun _ h=>h)).ZN hf34 (hq7 p (by omega) (by omega)) (fun k hk=>hq7 k (by have:=hle 4 (by decide) k hk;omega) (by omega)) (fun k hk=>by rw[c1 k (by have:=hle 4 (by decide) k hk;omega)];exact hk),by rw[c1 p (by omega)];exact h5⟩
    · have h1:(s.1++[(x,1)])[i]?=some r:=h1
      have hi2:i=s.1.length:=by have:=(ZS.1 h1).1;simp at this;omega
      subst hi2;rw[da (Z0 _)] at h1;rw[da (by omega),hl] at h2;simp at h1 h2;subst h1;subst h2;exact⟨hx4,c4⟩
  · refine fg.2 ⟨hnd,by simp,fun a ha b hb2 e=>?_⟩
    rw[ai] at hb2;obtain⟨j,hj⟩:=ab ha;have hjl:=(ZS.1 hj).1;have h5:=(hr1 j _ a (ZQ (by omega)) hj).2;have:=hle 5 (by decide) a h5;omega
 have hG4:aA (Lbs ow) W w4:=(hF1.trans (hF2.mono (fun k h=>by have h:ow k=1∨ow k=2∨ow k=3:=h;show _∧_;omega))).ZJ hf34 (fun k h=>h.elim (fun h=>.inr (by omega)) (fun h=>.inl (by rw[h];show _∧_;omega)));have hvl4:=hx4;obtain⟨lo,lc,xo,xc,hq4,hvl4,hvd4,_,_⟩:=hvl4;have hll:=hvl4.ZL;refine Gz 14 ?_;refine Wp (β:=(Nat×MSt)×((Nat→Nat)×List Nat)) (fun⟨⟨j,s5⟩,⟨ow5,ps5⟩⟩=>[(0,pT g),(3,iV (17-((n+1:Nat):Int))),(76,.slice lo x.list.length lc),(77,iV x.list.length),(78,iV j)]) (fun⟨⟨j,s5⟩,⟨ow5,ps5⟩⟩ w=>j≤x.list.length∧goL (goM im F ids n) (x.list.drop j) s5=goL (goM im F ids n) x.list (s.1++[(x,1)],s.2+1)∧MoV ow5 w.heap g tp im F P ids s5 ps5∧(∀ k,k<w4.heap.size→ow5 k=ow2 k)∧(∀ k,w.heap.size≤k→ow5 k=0)∧PlM s5∧VwM 3 bH w.heap lo lc x.list∧aA (Lbs ow) W w∧aA (fun k=>Lbs ow2 k∨w4.heap.size≤k) w4 w) (fun⟨⟨j,s5⟩,⟨ow5,ps5⟩⟩=>x.list.length-j) ⟨⟨0,(s.1++[(x,1)],s.2+1)⟩,⟨ow2,ps++[q]⟩⟩ ⟨rfl,rfl,rfl,rfl,rfl,trivial⟩ ⟨ZZ _,rfl,hM4,fun _ _=>rfl,fun k hk=>c2 k (by omega),hpm,hvl4,hG4,Zn _ _⟩ ?_;rintro⟨⟨j,s5⟩,⟨ow5,ps5⟩⟩ w5 ⟨hj,hgo,hM5,d1,d2,hp5,hvl5,hG5,hF5⟩;refine fK 2 ?_ ?_<;>intro h79
 ·have hil:j<x.list.length:=by omega
  obtain⟨y,hy⟩:∃ y,x.list[j]?=some y:=⟨_,ZQ hil⟩
  have hfy:=hxr.2 y (ZW hy);have hdr:x.list.drop j=y::x.list.drop (j+1):=by obtain⟨h,rfl⟩:=ZS.1 hy;exact bz h
  rw[hdr] at hgo;have hz5:=hF5.size;refine Gz 10 ?_;refine cL (Wj lW rfl rfl hvl5.non (by omega)) ?_;refine cL (Ws (cs:=bH y) eA rfl (fun a v ha=>hvl5.rowZ j rfl hy a v ha)) ?_;refine Wn pR rfl ?_;intro w6 hg6 hs6 hf6;obtain⟨e6,he6⟩:∃ e6,e6=w5.heap.size:=⟨_,rfl⟩
  rw[←he6] at hg6 ⊢;refine sA rfl eA (by exact fT _) hg6 ?_;intro w7 hg7 hs7 hf7;have hf57:aA nob w5 w7:=hf6.tw hf7;refine Gz 1 ?_;refine aW [(0,_),(3,_),(13,_),(76,_),(77,_),(78,_),(79,_)] ?_;refine Gz 9 ?_;refine cL (Wm (u:=iV (17-(n:Nat))) (W5 rfl rfl (by omega)) (by congr 1;omega)) ?_;refine Wh Sb rfl (ih ow5 s5 ps5 y.2.2 y.2.1 w7 (hM5.ZM hf57) (fun k hk=>d2 k (by omega)) hp5 ⟨hfy.2.2.2.1,hfy.2.2.2.2⟩) rfl ?_;intro v8 w8 hW8;obtain⟨b,rfl,hF8,hW8⟩:=DN hW8;have hG8:aA (Lbs ow) W w8:=hG5.trans hf57.any |>.ZJ hF8 (fun k h=>by
   by_cases hk:k<w4.heap.size
   · have h:ow5 k≠0∧ow5 k≠4:=h
     rw[d1 k hk] at h;by_cases hk2:k<w1.heap.size
     ·rw[c1 k hk2] at h;exact .inl h
     ·exact .inr (by omega)
   ·exact .inr (by omega))
  have hF58:aA (Lbs ow5) w5 w8:=hf57.any.trans hF8;refine WF (WX rfl) rfl (fun h90=>?_) (fun h90=>?_)
  ·have hrn:goM im F ids n y.2.2 y.2.1 s5=none:=(hW8.resolve_right (fun⟨s9,ow9,ps9,h,_⟩=>by rw[h90] at h;cases h)).2;have hres2:goM im F ids (n+1) ref kind s=none:=by
    rw[hres,←hgo];show (match goM im F ids n y.2.2 y.2.1 s5 with|none=>none|some s9=>goL (goM im F ids n) (x.list.drop (j+1)) s9)=none;rw[hrn]
   refine Gz 15 ?_;exact⟨_,rfl,hG8,.inl ⟨rfl,hres2⟩⟩
  obtain⟨s9,ow9,ps9,hbt,hr9,hM9,e1,e2,hp9⟩:=hW8.resolve_left (fun h=>h90 h.1);have hgo9:goL (goM im F ids n) (x.list.drop (j+1)) s9=goL (goM im F ids n) x.list (s.1++[(x,1)],s.2+1):=by
   rw[←hgo];show _=(match goM im F ids n y.2.2 y.2.1 s5 with|none=>none|some s9=>goL (goM im F ids n) (x.list.drop (j+1)) s9)
   rw[hr9]
  refine Gz 10 ?_;refine aG ⟨⟨j+1,s9⟩,⟨ow9,ps9⟩⟩ ⟨by omega,hgo9,hM9,fun k hk=>by rw[e1 k (by omega)];exact d1 k hk,e2,hp9,?_,hG8,hF5.ZJ hF58 (fun k h=>?_)⟩ (by show x.list.length-(j+1)<x.list.length-j;omega)
  · refine hvl5.keep' hF58 (fun hne a ha h=>?_)
    have h4:ow2 a.block=4:=hvd4 hne _ ⟨a,ha,rfl⟩;have hlt:a.block<w4.heap.size:=ZY fun hc=>by have:=c2 a.block (by omega);omega
    have h:ow5 a.block≠0∧ow5 a.block≠4:=h;rw[d1 _ hlt] at h;exact h.2 h4
  · by_cases hk:k<w4.heap.size
    · have h:ow5 k≠0∧ow5 k≠4:=h
      rw[d1 k hk] at h;exact .inl (.inl h)
    ·exact .inl (.inr (by omega))
 refine Gz 16 ?_;have hdn:x.list.drop j=[]:=de (by omega);rw[hdn] at hgo;exact⟨_,rfl,hG5,.inr ⟨s5,ow5,ps5,rfl,by rw[hres,←hgo];rfl,hM5,fun k hk=>by rw[d1 k (by omega),c1 k (by omega)],d2,hp5⟩⟩
theorem Ci(g tp:Nat)(im:By)(F:Nat→Int)(P ids:List Int)(hb:im.length≤1073741824):∀ (n:Nat),n≤17→WkS g tp im F P ids n
|0,_=>GV g tp im F P ids
|n+1,hn=>GU g tp im F P ids hb n hn (Ci g tp im F P ids hb n (by omega))
section
variable {P:Program}{ops:Array Oper}{CH:Array Obj→Prop}{N:Nt}{n:Nat}{effs:List Nat}{K0:Act→World→Prop}{Q:Exit→Act→World→Prop}{l:SF}{w:World}
theorem HD(hsel:Region.noSelect ops=true)(hfin:vB ops n=true){i:Nat}{r:List Nat}{fuel:Nat}{listed:Array Bool}{a:Act}(he:effs.contains i=true)(hf:r.length≤fuel)(hm:sJ ops n effs r (listed.setIfInBounds i true)=true)
 (ha:dN N l a)(inv:HeadInv .any ops n listed)(hi:i<n)(hr:i∈Region.ready .any ops listed)(h:Sx P N ops n CH effs K0 (i::r) l w) :
 wpOp P ops (nN K0) i (cZ P .any ops n CH K0 fuel (listed.setIfInBounds i true)) a w:=by
 obtain⟨o,ho,h⟩:=h;rw[he] at h;simp only[cond_true] at h;have h1:=h a ha;unfold wpList at h1;unfold wpOp;simp only[ho];have key:∀ a' w',wpList P ops (nN fun a w=>∃ l',dN N l' a∧∃ CH':Array Obj→Prop,(∀ H,CH' H→CH H)∧(ba i n=true→CH' w.heap)∧Sx P N ops n CH' effs K0 r l' w) [] a' w'→cZ P .any ops n CH K0 fuel (listed.setIfInBounds i true) a' w':=by
  intro a' w' h2;obtain⟨l',h3,CH',hsub,h4,h5⟩:=h2;exact cZ.mono hsub (qD hsel hfin r CH' fuel _ l' a' w' hf hm h3 (.inl ⟨inv.set hr hi,h4 (by simpa[dg] using hi)⟩) h5)
 split
 · rename_i hw
   rw[ZP hw] at h1;rcases h1 with h1|⟨_,_,_,h1⟩
   ·exact .inl (Zv key h1)
   ·exact h1.elim
 · rename_i hw
   rw[ZO hw] at h1;exact key _ _ h1
def MT(ops:Array Oper)(n:Nat)(effs:List Nat)(i:Nat)(r1:List Nat)(j:Nat)(r2:List Nat)(listed:Array Bool):Bool:=
 (match Region.ready .any ops listed with|[a,b]=>(ja a i && ja b j) || (ja a j && ja b i)|_=>false) && ba i n && ba j n && effs.contains i && effs.contains j &&
 sJ ops n effs r1 (listed.setIfInBounds i true) && sJ ops n effs r2 (listed.setIfInBounds j true)
def EN(ops:Array Oper)(n:Nat)(effs:List Nat)(i:Nat)(r1:List Nat)(j:Nat)(r2:List Nat):List Nat→Array Bool→Bool
|[],listed=>MT ops n effs i r1 j r2 listed
|k::r,listed=>(!effs.contains k) && (Region.ready .any ops listed).contains k && Region.free .any ops listed k && ba k n && EN ops n effs i r1 j r2 r (listed.setIfInBounds k true)
def KFx(P:Program)(N:Nt)(ops:Array Oper)(n:Nat)(CH:Array Obj→Prop)(effs:List Nat)(K0:Act→World→Prop)(i:Nat)(r1:List Nat)(j:Nat)(r2:List Nat):Act→World→Prop:=
 fun a w=>∃ l',dN N l' a∧Sx P N ops n CH effs K0 (i::r1) l' w∧Sx P N ops n CH effs K0 (j::r2) l' w
theorem BJ(hsel:Region.noSelect ops=true)(hfin:vB ops n=true){i j:Nat}{r1 r2:List Nat}:∀ (pre:List Nat) (fuel:Nat) (listed:Array Bool) (l:SF) (a:Act) (w:World),pre.length+r1.length+1≤fuel∧pre.length+r2.length+1≤fuel→EN ops n effs i r1 j r2 pre listed=true →
 dN N l a→HeadInv .any ops n listed→CH w.heap→Sx P N ops n CH effs (KFx P N ops n CH effs K0 i r1 j r2) pre l w→cZ P .any ops n CH K0 fuel listed a w
|[],0,_,_,_,_,hf,_,_,_,_,_=>by omega
|[],f+1,listed,l,a,w,hf,hm,ha,inv,hc,h=>by
   obtain⟨l',ha',h1,h2⟩:=h a ha;simp only[EN,MT,ag] at hm;obtain⟨⟨⟨⟨⟨⟨m1,m2⟩,m3⟩,m4⟩,m5⟩,m6⟩,m7⟩:=hm;have hi:i<n:=by simpa[dg] using m2
   have hj:j<n:=by simpa[dg] using m3
   have hrd:Region.ready .any ops listed=[i,j]∨Region.ready .any ops listed=[j,i]:=by
    split at m1
    · rename_i x y hxy
      simp only[Bool.or_eq_true,ag,Nat.beq_eq] at m1;rw[hxy];rcases m1 with⟨rfl,rfl⟩|⟨rfl,rfl⟩
      ·exact .inl rfl
      ·exact .inr rfl
    ·cases m1
   have hmi:i∈Region.ready .any ops listed:=by rcases hrd with h|h<;>rw[h]<;>simp
   have hmj:j∈Region.ready .any ops listed:=by rcases hrd with h|h<;>rw[h]<;>simp
   simp at hf;refine⟨fun _=>hc,fun h0=>(by rw[h0] at hmi;cases hmi),fun k hk=>?_⟩;have hk:k=i∨k=j:=by
    rcases hrd with h|h<;>rw[h] at hk<;>simp at hk
    ·exact hk
    ·exact hk.symm
   rcases hk with rfl|rfl
   ·exact HD hsel hfin m4 (by omega) m6 ha' inv hi hmi h1
   ·exact HD hsel hfin m5 (by omega) m7 ha' inv hj hmj h2
|k::r,0,_,_,_,_,hf,_,_,_,_,_=>by simp at hf
|k::r,f+1,listed,l,a,w,hf,hm,ha,inv,hc,h=>by
   obtain⟨o,ho,h⟩:=h;simp only[EN,ag,Bool.not_eq_true'] at hm;obtain⟨⟨⟨⟨he,m1⟩,m2⟩,m3⟩,m4⟩:=hm;rw[he] at h;simp only[cond_false] at h;obtain⟨v,hy,l',hl',hs⟩:=h;have hin:k<n:=by simpa[dg] using m3
   have hir:k∈Region.ready .any ops listed:=by simpa using m1
   exact oU ho (Region.noSelect_spec hsel) hfin hin f listed a w inv hc (Region.free_spec ho m2) hir (hy a ha) (BJ hsel hfin r f _ l' _ w (by simp at hf;omega) m4 (hl' a ha) (inv.set hir hin) hc hs)
theorem YV{id:Nat}{lops:List Oper}(n:Nat)(CH:Array Obj→Prop)(effs pre:List Nat)(i:Nat)(r1:List Nat)(j:Nat)(r2:List Nat)(hm:P.follows .mixedOrders=true)(hs:(Region.noSelect lops.toArray && vB lops.toArray n &&
 EN lops.toArray n effs i r1 j r2 pre (Array.replicate lops.length false))=true)(hc:CH w.heap)(hfu:(Nat.ble (pre.length+r1.length+1) lops.length && Nat.ble (pre.length+r2.length+1) lops.length)=true)
 (h:Sx P N lops.toArray n CH effs (KFx P N lops.toArray n CH effs (fun a w=>Q .normal a w) i r1 j r2) pre l (w.drewN 1)):Sc P N (.region id lops.toArray true) Q l w:=fun a ha=>by
 simp only[ag] at hs;obtain⟨⟨hs,hfin⟩,hok⟩:=hs;have h1:=BJ (P:=P) (N:=N) (K0:=fun a w=>Q .normal a w) hs hfin pre lops.length _ l a (w.drewN 1) (by simpa[Nat.ble_eq] using hfu) hok ha
  (by have:=uY (ops:=lops.toArray) (n:=n);simpa using this) hc h
 have h2:=wp_region_any (P:=P) (id:=id) (ops:=lops.toArray) (Q:=nN fun a w=>Q .normal a w) (a:=a) (w:=w) hm (by
  have:=h1.any;simpa[World.drewN] using this)
 refine wp_mono h2 ?_;intro e a' w' hq;cases e<;>first|exact hq|exact hq.elim
theorem Zf{i j:Nat}{r1 r2:List Nat}(h1:Sx P N ops n CH effs K0 (i::r1) l w)(h2:Sx P N ops n CH effs K0 (j::r2) l w):Sx P N ops n CH effs (KFx P N ops n CH effs K0 i r1 j r2) [] l w:=fun a ha=>⟨l,ha,h1,h2⟩
end
section
variable {im:List UInt8}{F:Nat→Int}{P I:List Int×Int}
def mtP(im:By)(F:Nat→Int):List Int×Int:=tnS im (F 4) (F 5) (F 8) 4
def mtI(im:By)(F:Nat→Int):List Int×Int:=tnS im (F 5) (F 6) (F 7) 2
theorem Dl(h:(aJ im).2≠0):mnt im=none:=ZP h
theorem uP(h0:aJ im=(F,0))(h:¬ ((mtP im F).2=0∧(mtI im F).2=0∧kW (mtI im F).1)):mnt im=none:=by
 unfold mtP mtI at h;unfold mnt;rw[h0];simp only[ne_eq,not_true,if_false];by_cases h1:(tnS im (F 4) (F 5) (F 8) 4).2=0
 · by_cases h2:(tnS im (F 5) (F 6) (F 7) 2).2=0
   · have h3:¬ kW (tnS im (F 5) (F 6) (F 7) 2).1:=fun h3=>h ⟨h1,h2,h3⟩
     rw[ZO (fun e=>e h1),ZO (fun e=>e h2),ZP h3]
   ·rw[ZO (fun e=>e h1),ZP h2]
 ·rw[ZP h1]
theorem GW(h0:aJ im=(F,0))(h:(mtP im F).2=0∧(mtI im F).2=0∧kW (mtI im F).1):mnt im=match goM im F (mtI im F).1 17 (F 9) 1 ([],0) with
|none=>none
|some s=>if (s.1.length:Int)≠F 1∨¬ (∀ r∈s.1,r.2=r.1.ino.1 4) then none else some ⟨im,F,(mtP im F).1,(mtI im F).1,s.1⟩:=by
 unfold mtP mtI at h ⊢;unfold mnt;rw[h0];simp only[ne_eq,not_true,if_false];rw[ZO (fun e=>e h.1),ZO (fun e=>e h.2.1),ZO (fun e=>e h.2.2)];rfl
end
theorem OS{l:List (Rec×Int)}{ps:List Nat}{j:Nat}{p:I6×Value}(h:(kG l ps)[j]?=some p):∃ r q,l[j]?=some r∧ps[j]?=some q∧p.2=pnV q:=by
 unfold kG at h;rw[ax,ae] at h;obtain⟨z,hz,rfl⟩:=h;rw[List.getElem?_zip_eq_some] at hz;exact⟨z.1,z.2,hz.1,hz.2,rfl⟩
theorem Ar{l:List (Rec×Int)}{ps:List Nat}(h:ps.length=l.length):(kG l ps).length=l.length:=by unfold kG;simp[h]
def Ro(W:World)(im:By)(r:Option Img)(v:Value)(w':World):Prop:=aA nob W w'∧((v=.tuple #[.pointer none,iV 2]∧r=none) ∨
 ∃ (x:Img) (g tp:Nat) (ow:Nat→Nat) (ps:List Nat) (n:Nat),v=.tuple #[pT g,iV 0]∧r=some x∧x.im=im∧W.heap.size≤g∧MoV ow w'.heap g tp im x.F x.places x.ids (x.recs,n) ps∧PlM (x.recs,n)∧gD x.F∧im.length≤1048576)
def ow0(g gm tp a b c d e f:Nat)(k:Nat):Nat:=if k=g then 6 else if k=gm then 7 else if k=tp then 0 else if k<a then 0 else if k<b then 4 else if k<c then 1 else if k<d then 2 else if k<e then 3 else if k<f then 4 else 0
section
variable {g gm tp a b c d e f k:Nat}
theorem OC(ha:a≤b)(h1:b≤c)(h2:c≤d)(h3:d≤e)(h4:e≤f)(hg:g<b)(hm:gm<b)(hk:f≤k):ow0 g gm tp a b c d e f k=0:=by
 unfold ow0;rw[ZO (by omega),ZO (by omega)];by_cases ht:k=tp
 ·rw[ZP ht]
 ·rw[ZO ht,ZO (by omega),ZO (by omega),ZO (by omega),ZO (by omega),ZO (by omega),ZO (by omega)]
theorem RJ:ow0 g gm tp a b c d e f g=6:=ZP rfl
theorem RI(h:g≠gm):ow0 g gm tp a b c d e f gm=7:=by unfold ow0;rw[ZO (fun e=>h e.symm),ZP rfl]
theorem H3(h1:tp≠g)(h2:tp≠gm):ow0 g gm tp a b c d e f tp=0:=by unfold ow0;rw[ZO h1,ZO h2,ZP rfl]
theorem OB(ha:a≤g)(hb:a≤gm)(hk:k<a):ow0 g gm tp a b c d e f k=0:=by
 unfold ow0;rw[ZO (by omega),ZO (by omega)];by_cases ht:k=tp
 ·rw[ZP ht]
 ·rw[ZO ht,ZP hk]
theorem RK(h1:k≠g)(h2:k≠gm)(h3:k≠tp)(h4:a≤k)(h5:k<b):ow0 g gm tp a b c d e f k=4:=by unfold ow0;rw[ZO h1,ZO h2,ZO h3,ZO (by omega),ZP h5]
theorem RN(ha:a≤b)(hg:g<b)(hm:gm<b)(ht:tp<b)(h4:b≤k)(h5:k<c):ow0 g gm tp a b c d e f k=1:=by unfold ow0;rw[ZO (by omega),ZO (by omega),ZO (by omega),ZO (by omega),ZO (by omega),ZP h5]
theorem RM(ha:a≤b)(hb:b≤c)(hg:g<b)(hm:gm<b)(ht:tp<b)(h4:c≤k)(h5:k<d):ow0 g gm tp a b c d e f k=2:=by unfold ow0;rw[ZO (by omega),ZO (by omega),ZO (by omega),ZO (by omega),ZO (by omega),ZO (by omega),ZP h5]
theorem RL(ha:a≤b)(hb:b≤c)(hc:c≤d)(hg:g<b)(hm:gm<b)(ht:tp<b)(h4:d≤k)(h5:k<e):ow0 g gm tp a b c d e f k=3:=by unfold ow0;rw[ZO (by omega),ZO (by omega),ZO (by omega),ZO (by omega),ZO (by omega),ZO (by omega),ZO (by omega),ZP h5]
theorem PN(ha:a≤b)(hb:b≤c)(hc:c≤d)(hd:d≤e)(hg:g<b)(hm:gm<b)(ht:tp<b)(h4:e≤k)(h5:k<f):ow0 g gm tp a b c d e f k=4:=by unfold ow0;rw[ZO (by omega),ZO (by omega),ZO (by omega),ZO (by omega),ZO (by omega),ZO (by omega),ZO (by omega),ZO (by omega),ZP h5]
end
theorem Fe(g tp:Nat)(im:By)(F:Nat→Int)(P ids:List Int)(hb:im.length≤1073741824)(ow:Nat→Nat)(s:MSt)(ps:List Nat)(ref kind:Int)(W:World)(hM:MoV ow W.heap g tp im F P ids s ps)(hnew:∀ k,W.heap.size≤k→ow k=0)(hp:PlM s)(href:0≤ref∧ref≤4294967295) :
 CA 37 [pT g,iV ref,iV kind,iV 0] W (Hr ow W g tp im F P ids (goM im F ids 17 ref kind s)):=by
 have h:=Ci g tp im F P ids hb 17 (Z0 _) ow s ps ref kind W hM hnew hp href;rwa[show (17-((17:Nat):Int))=0 by decide] at h
theorem uO(io:Option Addr)(ic:Nat)(im:By)(W:World)(hv:Vw b8 W.heap io ic im)(hb:im.length≤1073741824) :
 CA 11 [.slice io im.length ic] W (Ro W im (mnt im)):=by
 obtain⟨T,hT⟩:∃ T,T=aJ im:=⟨_,rfl⟩
 refine cS 91 [(0,_)] Tryz.func11 ?_;refine cA 8 VW (Kr W) ?_;rintro _ w1 ⟨rfl,hf1⟩;refine Wn Ql rfl ?_;intro w2 hg2 hs2 hf2;refine WP (vs:=tab) DJ rfl rfl HC hg2 (by rw[C1,List.length_replicate]) ?_;intro w3 hg3 hs3 hf3;obtain⟨tp,hp⟩:∃ p,p=w1.heap.size:=⟨_,rfl⟩
 have hF3:aA nob W w3:=(hf1.trans hf2).ZJ hf3 (fun k hk=>.inr (by have h:k=w1.heap.size:=hk;have:=hf1.size;omega));rw[←hp] at hg3 ⊢;have ht3:TbV w3.heap tp:=hg3;have htW:W.heap.size≤tp:=by rw[hp];exact hf1.size
 refine Gz 5 ?_;refine Wh VV rfl (I3 tp io ic im w3 ht3 (hv.ZM hF3) (by omega)) rfl ?_;rw[←hT];rintro _ w4 ⟨rfl,hf4⟩;have hF4:=hF3.trans hf4;have ht4:=hf4.obj ht3 id;refine Gz 3 ?_;refine Wn nD rfl ?_;intro w5 hg5 hs5 hf5;obtain⟨b,eb⟩:∃ b,b=w4.heap.size:=⟨_,rfl⟩
 rw[←eb] at hg5 ⊢;refine sA rfl cH (by exact dH _) hg5 ?_;intro w6 hg6 hs6 hf6;have hf46:aA nob w4 w6:=hf5.tw hf6;have hF6:=hF4.trans hf46;have ht6:=hf46.obj ht4 id;have hv6:=hv.ZM hF6;have hz34:=hf4.size;refine fK 7 ?_ ?_<;>intro h17
 ·have hno:mnt im=none:=Dl (by rw[←hT];exact h17);refine Gz 12 ?_;exact⟨_,rfl,hF6,.inl ⟨rfl,hno⟩⟩
 have e2:T.2=0:=Z5.1 h17;have hok:gE im:=ZY fun h=>h17 (by rw[hT];show (aJ im).2≠0;unfold aJ;rw[ZO h];decide);have eT:aJ im=(suF im,0):=ZP hok;obtain⟨F,hFF⟩:∃ F,F=suF im:=⟨_,rfl⟩
 rw[←hFF] at eT;have eT1:T.1=F:=by rw[hT,eT]
 rw[eT1] at hg6;obtain⟨q64,qm,_,q0⟩:=hok;rw[←hFF] at qm q0;have qm2:=qm;obtain⟨⟨s1,s2,s3,s4,s5,s6,s7⟩,u1,u2,u3,u4,u5,u6,u7,u8⟩:=qm2;refine Gz 5 ?_;refine WL (β:=(Option Addr×Nat)×(Nat×Nat)) (fun⟨⟨bo,bc⟩,⟨g,gm⟩⟩=>[(4,pT tp),(5,pT b),(7,pT g)]) (fun⟨⟨bo,bc⟩,⟨g,gm⟩⟩ w=>w.heap[g]?=some (.cells (moC tp bo im.length bc F sN sN (.pointer none) (.pointer none) (.pointer none) gm 0).toArray 107 (0,0))∧w.heap[b]?=some (.cells (bW F).toArray 93 (0,0))∧Own b8 5 w.heap bo bc im∧kS enI w.heap gm []∧Fr w6.heap.size bo∧w6.heap.size≤g∧w6.heap.size≤gm∧¬ gm=g∧¬ blk bo g∧¬ blk bo gm∧aA nob w6 w) ?_ ?_
 ·refine YV 7 (fun H=>H[b]?=some (.cells (bW F).toArray 93 (0,0))) [1,3,5] [0,2] 1 [3,4,5,6] 3 [1,4,5,6] aK (by kernel_rfl) (hg6) rfl ?_;refine Gz 1 ?_;refine xC rfl (W9 (cs:=bW F) cH rfl (fun H hH j v hj=>aQ hH 0 rfl j v hj)) ?_;refine Zf ?_ ?_
  ·refine Wo rfl rfl (Wh G9 rfl (kB io ic im (w6.drewN 1) (hv6.ZM (Zo 1)) (by omega)) rfl ?_);rintro _ w7 ⟨bo,bc,rfl,hob,hbf,hf7⟩;have hf7:=hf7.ZK;have hz7:=hf7.size;have hbf:Fr w6.heap.size bo:=hbf;refine Wu (by exact hf7.obj hg6 id) ?_;refine Wo rfl rfl (XF (enc:=enI) rfl ?_);intro w8 hm8 hs8 hf8;obtain⟨gm,egm⟩:∃ gm,gm=w7.heap.size:=⟨_,rfl⟩
   rw[←egm] at hm8 ⊢;refine Wu (by exact hf8.obj (hf7.obj hg6 id) id) ?_;refine xC rfl (bU (moC tp bo im.length bc F sN sN (.pointer none) (.pointer none) (.pointer none) gm 0) LT PF) ?_;refine Wo rfl rfl (WO rfl rfl ?_);intro w9 hg9 hs9 hf9;obtain⟨g,eg⟩:∃ g,g=w8.heap.size:=⟨_,rfl⟩
   have hg9:w9.heap[w8.heap.size]?=some (.cells (moC tp bo im.length bc F sN sN (.pointer none) (.pointer none) (.pointer none) gm 0).toArray 107 (0,0)):=hg9;rw[←eg] at hg9 ⊢;have hlb:=hob.lt;refine Wu (by exact hf9.obj (hf8.obj (hf7.obj hg6 id) id) id) ?_;have hob9:=(hob.ZM hf8).ZM hf9;have hm9:=hm8.ZN hf9 id;have hbm:¬ blk bo gm:=fun⟨a,ha,e⟩=>by have:=hlb a ha;omega
   have hF9:aA nob w6 w9:=(hf7.trans hf8).trans hf9;have hb9:=hF9.obj hg6 id;refine Gz 2 ?_;exact aC ⟨⟨bo,bc⟩,⟨g,gm⟩⟩ ⟨hg9,hb9,hob9,hm9,hbf,by omega,by omega,by omega,fun⟨a,ha,e⟩=>by have:=hlb a ha;omega,hbm,hF9⟩
  refine Wo rfl rfl (XF (enc:=enI) rfl ?_);intro w8 hm8 hs8 hf8;have hf8:=hf8.ZK;obtain⟨gm,egm⟩:∃ gm,gm=w6.heap.size:=⟨_,rfl⟩
  rw[show (w6.drewN 1).heap.size=gm from egm.symm] at hm8 ⊢;have hz8:=hf8.size;have hs8b:w8.heap.size=w6.heap.size+1:=hs8;refine Wu (by exact hf8.obj hg6 id) ?_;refine Wo rfl rfl (Wh G9 rfl (kB io ic im w8 (hv6.ZM hf8) (by omega)) rfl ?_);rintro _ w7 ⟨bo,bc,rfl,hob,hbf,hf7⟩;have hz7:=hf7.size;refine Wu (by exact hf7.obj (hf8.obj hg6 id) id) ?_;refine xC rfl (bU (moC tp bo im.length bc F sN sN (.pointer none) (.pointer none) (.pointer none) gm 0) LT PF) ?_;refine Wo rfl rfl (WO rfl rfl ?_);intro w9 hg9 hs9 hf9;obtain⟨g,eg⟩:∃ g,g=w7.heap.size:=⟨_,rfl⟩
  have hg9:w9.heap[w7.heap.size]?=some (.cells (moC tp bo im.length bc F sN sN (.pointer none) (.pointer none) (.pointer none) gm 0).toArray 107 (0,0)):=hg9;rw[←eg] at hg9 ⊢;have hlb:=hob.lt;refine Wu (by exact hf9.obj (hf7.obj (hf8.obj hg6 id) id) id) ?_;have hob9:=hob.ZM hf9;have hm9:=(hm8.ZN hf7 id).ZN hf9 id;have hF9:aA nob w6 w9:=(hf8.trans hf7).trans hf9;have hb9:=hF9.obj hg6 id;have hbf8:Fr w8.heap.size bo:=hbf;have hbm:¬ blk bo gm:=fun⟨a,ha,e⟩=>by have:=hbf8 a ha;omega
  have hbf:Fr w6.heap.size bo:=hbf.mono (by omega);refine Gz 2 ?_;exact aC ⟨⟨bo,bc⟩,⟨g,gm⟩⟩ ⟨hg9,hb9,hob9,hm9,hbf,by omega,by omega,by omega,fun⟨a,ha,e⟩=>by have:=hlb a ha;omega,hbm,hF9⟩
 rintro⟨⟨bo,bc⟩,⟨g,gm⟩⟩ w7 ⟨hg7,hb7,hob,hm7,hbf,hyg,hym,hgmg,hnb,hnbm,hF7⟩;have hz7:=hF7.size;have ht7:=hF7.obj ht6 id;have hbg:¬ b=g:=by omega
 have htg:¬ tp=g:=by omega
 have htgm:¬ tp=gm:=by omega
 have hgl7:=(Z1.1 hg7).1;have hml7:=hm7.obj;refine Gz 1 ?_;refine Wv 30 (fun H=>H[b]?=some (.cells (bW F).toArray 93 (0,0))) [8,14,20,23,26,29] [0,1,2,3,4,5,6,7,9,10,11,12,13,15,16,17,18,19,8,14,20,21,22,23,24,25,26,27,28,29] aK (by kernel_rfl) (hb7) ?_;refine Gz 18 ?_;refine Wo rfl rfl (Wh MX rfl (oE g tp bo bc im F _ _ _ _ _ gm 0 (F 2) (F 3) (w7.drewN 1) hg7 (hob.vw.ZM (Zo 1)) ht7 (by omega)) rfl ?_);rintro _ w8 ⟨g1,rfl,hy1,hM1,hf8⟩;have hf8:=hf8.ZK;have hz8:=hf8.size;refine Wu (by exact hf8.obj hb7 id) ?_;refine Wo rfl rfl (Wh MX rfl (oE g tp bo bc im F _ _ _ _ _ gm 0 (F 3) (F 4) w8 (hf8.obj hg7 id) (hob.vw.ZM hf8) (hf8.obj ht7 id) (by omega)) rfl ?_);rintro _ w9 ⟨g2,rfl,hy2,hM2,hf9⟩;have hz9:=hf9.size;have hf79:=hf8.trans hf9;refine Wu (by exact hf79.obj hb7 id) ?_;refine Wo rfl rfl (Wh MX rfl (oE g tp bo bc im F _ _ _ _ _ gm 0 (F 6) (F 0) w9 (hf79.obj hg7 id) (hob.vw.ZM hf79) (hf79.obj ht7 id) (by omega)) rfl ?_);rintro _ w10 ⟨g3,rfl,hy3,hM3,hf10⟩;have hz10:=hf10.size;have hf710:=hf79.trans hf10;refine Wu (by exact hf710.obj hb7 id) ?_;refine Gz 2 ?_;refine Wo rfl rfl (Wl C4 rfl rfl rfl (hf710.obj hg7 id) rfl ?_);intro w11 hg11 hs11 hf11;have hg11:w11.heap[g]?=some (.cells (moC tp bo im.length bc F sN sN (pnV g1) (.pointer none) (.pointer none) gm 0).toArray 107 (0,0)):=hg11;refine Wu (by exact hf11.obj (hf710.obj hb7 id) hbg) ?_;refine Gz 2 ?_;refine Wo rfl rfl (Wl C4 rfl rfl rfl hg11 rfl ?_);intro w12 hg12 hs12 hf12;have hg12:w12.heap[g]?=some (.cells (moC tp bo im.length bc F sN sN (pnV g1) (pnV g2) (.pointer none) gm 0).toArray 107 (0,0)):=hg12;refine Wu (by exact hf12.obj (hf11.obj (hf710.obj hb7 id) hbg) hbg) ?_;refine Gz 2 ?_;refine Wo rfl rfl (Wl C4 rfl rfl rfl hg12 rfl ?_);intro w13 hg13 hs13 hf13;have hg13:w13.heap[g]?=some (.cells (moC tp bo im.length bc F sN sN (pnV g1) (pnV g2) (pnV g3) gm 0).toArray 107 (0,0)):=hg13;have hf1013:aA (· = g) w10 w13:=(hf11.trans hf12).trans hf13;have hb13:=hf1013.obj (hf710.obj hb7 id) hbg;have ht13:=hf1013.obj (hf710.obj ht7 id) htg;have hnbg:∀ a,bo=some a→¬ a.block=g:=fun a ha e=>hnb ⟨a,ha,e⟩;have hob13:=(hob.ZM hf710).ZN hf1013 hnbg;have hm13:=(hm7.ZN hf710 id).ZN hf1013 hgmg;refine Wu (by exact hb13) ?_;refine Gz 4 ?_;refine Wv 20 (fun H=>H[b]?=some (.cells (bW F).toArray 93 (0,0))) [1,7] [0,1,2,3,4,5,6,7,8,9,10,11,12,13,14,15,16,17,18,19] aK (by kernel_rfl) (hb13) ?_;refine Gz 1 ?_;refine Wo rfl rfl (Wh VU rfl (Mi g tp bo bc im F (pnV g1) (pnV g2) (pnV g3) gm 0 (w13.drewN 1) hg13 (hob13.vw.ZM (Zo 1)) hnb ht13 htg hb (by omega) (by omega)) rfl ?_);rintro _ w14 ⟨rfl,po,pc,io2,ic2,hg14,hpo,hio,hpf,hif,hf14⟩;have hf14:=hf14.ZK;have hz14:=hf14.size;have hb14:=hf14.obj hb13 hbg;have hpf:Fr w13.heap.size po:=hpf;have hif:Fr w13.heap.size io2:=hif;refine Wu (by exact hb14) ?_;by_cases h52:(tnS im (F 4) (F 5) (F 8) 4).2=0∧(tnS im (F 5) (F 6) (F 7) 2).2=0∧kW (tnS im (F 5) (F 6) (F 7) 2).1
 ·rw[Z3 h52];have hgo:=GW eT h52;have hlP:=hpo.lt;have hlI:=hio.lt;obtain⟨ow,eow⟩:∃ ow,ow=ow0 g gm tp w6.heap.size w7.heap.size w8.heap.size w9.heap.size w10.heap.size w14.heap.size:=⟨_,rfl⟩
  have hf1014:aA (· = g) w10 w14:=hf1013.trans hf14;have hob14:=hob13.vw.ZN hf14 hnbg;have hm14:=hm13.ZN hf14 hgmg;have hlb7:=hob.lt;have hM14:MoV ow w14.heap g tp im F (tnS im (F 4) (F 5) (F 8) 4).1 (tnS im (F 5) (F 6) (F 7) 2).1 ([],0) []:=by
   rw[eow];refine⟨bo,bc,po,pc,io2,ic2,g1,g2,g3,gm,hg14,⟨hob14,fun k ⟨a,ha,e⟩=>RK (fun e2=>hnb ⟨a,ha,e.trans e2⟩) (fun e2=>hnbm ⟨a,ha,e.trans e2⟩) (by have:=hbf a ha;omega) (by have:=hbf a ha;omega) (by have:=hlb7 a ha;omega)⟩,⟨hpo.vw,fun k ⟨a,ha,e⟩=>PN (by omega) (by omega) (by omega) (by omega) (by omega) (by omega) (by omega) (by have:=hpf a ha;omega) (by have:=hlP a ha;omega)⟩,⟨hio.vw,fun k ⟨a,ha,e⟩=>PN (by omega) (by omega) (by omega) (by omega) (by omega) (by omega) (by omega) (by have:=hif a ha;omega) (by have:=hlI a ha;omega)⟩,?_,?_,?_,hm14,rfl,fun i r p h=>by simp at h,List.nodup_nil,RJ,RI (fun e=>hgmg e.symm),H3 htg htgm⟩
   ·exact(((hM1.ZM hf9).ZM hf10).ZN hf1014 (fun k hk e=>by have e:k=g:=e;have h1:w7.heap.size≤k:=hk.1;omega) (fun e=>htg e)).mono (fun k hk=>RN (by omega) (by omega) (by omega) (by omega) hk.1 hk.2) (by rw[H3 htg htgm];decide)
   ·exact((hM2.ZM hf10).ZN hf1014 (fun k hk e=>by have e:k=g:=e;have h1:=hk.1;omega) (fun e=>htg e)).mono (fun k hk=>RM (by omega) (by omega) (by omega) (by omega) (by omega) hk.1 hk.2) (by rw[H3 htg htgm];decide)
   ·exact(hM3.ZN hf1014 (fun k hk e=>by have e:k=g:=e;have h1:=hk.1;omega) (fun e=>htg e)).mono (fun k hk=>RL (by omega) (by omega) (by omega) (by omega) (by omega) (by omega) hk.1 hk.2) (by rw[H3 htg htgm];decide)
  have hnew14:∀ k,w14.heap.size≤k→ow k=0:=fun k hk=>by rw[eow];exact OC (by omega) (by omega) (by omega) (by omega) (by omega) (by omega) (by omega) hk
  have hold14:∀ k,Lbs ow k→w6.heap.size≤k:=fun k hk=>ZY fun hc=>hk.1 (by rw[eow];exact OB (by omega) (by omega) (by omega));refine xC rfl (WQ rfl) ?_;refine Gz 3 ?_;refine xV rfl (Wt aF rfl (fun H hH=>aB (cs:=bW F) (by first|exact hH|exact hH.1) rfl)) ?_;refine Wo rfl rfl (Wy rfl rfl Sb rfl (Fe g tp im F _ _ hb ow ([],0) [] (F 9) 1 w14 hM14 hnew14 ⟨by decide,by simp,by simp,by decide⟩ ⟨by omega,by omega⟩) rfl ?_);intro v15 w15 hW;obtain⟨bb,rfl,hF15,hW15⟩:=DN hW;have hz15:=hF15.size;have hb15:=hF15.obj hb14 (fun h=>by have:=hold14 b h;omega);obtain⟨sf,owf,psf,gmf,hfin⟩:∃ (sf:MSt) (owf:Nat→Nat) (psf:List Nat) (gmf:Nat),bb=true→(goM im F (tnS im (F 5) (F 6) (F 7) 2).1 17 (F 9) 1 ([],0)=some sf∧MoV owf w15.heap g tp im F (tnS im (F 4) (F 5) (F 8) 4).1 (tnS im (F 5) (F 6) (F 7) 2).1 sf psf∧(∀ k,w15.heap.size≤k→owf k=0)∧PlM sf)∧bK w15.heap ((⟨g,0,none⟩:Addr).add 17)=some (.map (some gmf))∧kS enI w15.heap gmf (kG sf.1 psf):=by
   rcases hW15 with h|⟨s9,ow9,ps9,h1,h2,h3,h4,h5,h6⟩
   ·exact⟨([],0),ow,[],0,fun e=>by rw[h.1] at e;cases e⟩
   · have h33:=h3
     obtain⟨_,_,_,_,_,_,_,_,_,gm9,hg9,_,_,_,_,_,_,hm9,_⟩:=h33;exact⟨s9,ow9,ps9,gm9,fun _=>⟨⟨h2,h3,h5,h6⟩,aB hg9 rfl,hm9⟩⟩
  refine Zj (fun H=>bb=true→bK H ((⟨g,0,none⟩:Addr).add 17)=some (.map (some gmf))∧kS enI H gmf (kG sf.1 psf)) (by exact hb15) (by exact(fun h=>(hfin h).2)) ?_;have hFf:aA nob W w15:=(((hF6.trans hF7).trans hf710).ZJ (hf1013.trans hf14) (fun k h=>.inr (by have h:k=g:=h;omega))).ZJ hF15 (fun k h=>.inr (by have:=hold14 k h;have:=hF6.size;omega));refine Xk rfl rfl rfl rfl (WX rfl) rfl (fun h59=>?_) (fun h59=>?_)
  ·have hno:mnt im=none:=by
    rw[hgo];have h:=(hW15.resolve_right (fun⟨s9,ow9,ps9,h,_⟩=>by rw[h59] at h;cases h)).2;unfold mtI;rw[h]
   refine Gz 23 ?_;exact⟨_,rfl,hFf,.inl ⟨rfl,hno⟩⟩
  have hbb:bb=true:=by cases bb;exact absurd rfl h59;rfl
  obtain⟨⟨hgs,hMf,hnf,hpf2⟩,hcf,hmf⟩:=hfin hbb;have hgo2:mnt im=if (sf.1.length:Int)≠F 1∨¬ (∀ r∈sf.1,r.2=r.1.ino.1 4) then none else some ⟨im,F,(mtP im F).1,(mtI im F).1,sf.1⟩:=by
   rw[hgo];unfold mtI;rw[hgs]
  obtain⟨bo2,bc2,po2,pc2,io3,ic3,h1,h2,h3,gm2,hgf,_,_,_,_,_,_,hmf2,hplf,hrf,hndf,_,_,_⟩:=hMf;refine Gz 5 ?_;refine xV rfl (Wt Lh rfl (fun H hH=>(hH.2 hbb).1)) ?_;refine xV rfl (YF mpR rfl (fun H hH=>(hH.2 hbb).2)) ?_;refine xW 2 ?_ ?_<;>intro h69
  ·have hno:mnt im=none:=by
    rw[hgo2,ZP (.inl (by rw[Ar hplf] at h69;exact h69))]
   refine Gz 13 ?_;exact⟨_,rfl,hFf,.inl ⟨rfl,hno⟩⟩
  have hcnt:(sf.1.length:Int)=F 1:=by rw[Ar hplf] at h69;exact Z5.1 h69
  refine Gz 13 ?_;refine YD (enc:=enI) (by kernel_rfl:Tryz.prog.underlying 104=some (.map 3 110)) rfl hmf2 rfl ?_;intro w16 hi16 hs16 hf16;obtain⟨r,er⟩:∃ r,r=w15.heap.size:=⟨_,rfl⟩
  rw[←er] at hi16 ⊢;refine Gz 3 ?_;refine Wp (β:=List Nat) (fun seen=>[(7,pT g),(75,pT r)]) (fun seen w=>ItM enI w.heap gm2 r (kG sf.1 psf) seen∧(∀ j∈seen,∀ x,sf.1[j]?=some x→x.2=x.1.ino.1 4)∧aA (· = r) w16 w) (fun seen=>(kG sf.1 psf).length-seen.length) [] ⟨rfl,rfl,trivial⟩ ⟨hi16,by simp,Zn _ _⟩ ?_;rintro seen w17 ⟨hi,hsn,hF17⟩;refine Gz 2 ?_;refine YU rfl (hi) rfl ?_ ?_
  ·intro hall;refine Gz 19 ?_;have hall2:∀ r∈sf.1,r.2=r.1.ino.1 4:=fun x hx=>by
    obtain⟨j,hj⟩:=ab hx;exact hsn j (hall j (by rw[Ar hplf];exact(ZS.1 hj).1)) x hj
   have hMw:MoV owf w17.heap g tp im F (mtP im F).1 (mtI im F).1 sf psf:=MoV.ZN (MoV.ZM (hfin hbb).1.2.1 hf16) hF17 (fun k h=>by have h:k=r:=h;rw[h];exact hnf r (by omega)) (by intro e;have e:tp=r:=e;omega);refine⟨_,rfl,((hFf.trans hf16).any.trans hF17).fresh (fun k h=>by have h:k=r:=h;have:=hFf.size;omega),.inr ⟨⟨im,F,(mtP im F).1,(mtI im F).1,sf.1⟩,g,tp,owf,psf,sf.2,rfl,?_,rfl,by have:=hF6.size;omega,hMw,hpf2,qm,by omega⟩⟩;rw[hgo2,ZO (by rintro(h|h);exact h hcnt;exact h hall2)]
  intro j p w18 hjl hjn hpj hi18 hs18 hf18 hen;obtain⟨x,q,hxj,hqj,hpe⟩:=OS hpj;rw[hpe];obtain⟨hrv,hoq⟩:=hrf j x q hxj hqj;have hqr:¬ q=r:=fun e=>by have:=hnf q (by omega);omega
  obtain⟨lo,lc,xo,xc,hqc,_⟩:=hrv;have hqc:=(hf16.any.trans hF17 |>.trans hf18).obj hqc hqr;refine Gz 10 ?_;refine cL (YE rfl (by have:=hi18.entry (P:=Tryz.prog) hpj;rw[hpe] at this;exact this)) ?_;refine Gz 5 ?_;refine Ww 10 [0,1,2,3,4,5,6,7,8,9] aK (by kernel_rfl) ?_;refine Gz 3 ?_;refine xC rfl (Wk aF rfl (aB hqc rfl)) ?_;refine Gz 4 ?_;refine xC rfl (Wk aF rfl (aB (i:=4) hqc rfl)) ?_;refine xK 0 ?_ ?_<;>intro h89
  ·have hno:mnt im=none:=by
    rw[hgo2,ZP (.inr (fun h=>h89 (h x (ZW hxj))))]
   have hFf2:aA nob W w18:=((hFf.trans hf16).any.trans (hF17.trans hf18)).fresh (fun k h=>by have h:k=r:=h;have:=hFf.size;omega);refine Gz 15 ?_;exact⟨_,rfl,hFf2.draws 1,.inl ⟨rfl,hno⟩⟩
  refine Gz 5 ?_;have hle2:=EZ _ _ hi18.nd hi18.lt;refine aG (seen++[j]) ⟨hi18.ZN rfl rfl,fun j2 hj2 y hy=>?_,(hF17.trans hf18).draws 1⟩ (by show (kG sf.1 psf).length-(seen++[j]).length<(kG sf.1 psf).length-seen.length;rw[ZR,ZU] at hle2 ⊢;omega);rcases an.1 hj2 with h|h
  ·exact hsn j2 h y hy
  ·rw[ai] at h;subst h;rw[hxj] at hy;cases hy;exact Z5.1 h89
 rw[ZV h52];have hno:mnt im=none:=uP eT h52;have hFf:aA nob W w14:=((hF6.trans hF7).trans hf710).ZJ (hf1013.trans hf14) (fun k h=>.inr (by have h:k=g:=h;omega));refine xC rfl (WQ rfl) ?_;refine Gz 4 ?_;refine Wo rfl rfl (Xb rfl rfl rfl rfl ?_);refine Wu (by exact(by first|exact hb14)) ?_;refine Gz 24 ?_;exact⟨_,rfl,hFf,.inl ⟨rfl,hno⟩⟩
def vQ(im:By)(F:Nat→Int)(ids:List Int)(x:Rec):Prop:=fI x.ino.1 x.ino.2∧¬ (ids.length:Int)≤x.ino.1 2∧¬ (ids.length:Int)≤x.ino.1 3∧(x.ino.1 0≠1→x.list=[])∧aT [] x.list∧(bE x.list).length≤1048576∧fB x.xs
theorem Jf(im:By)(fr to ref:Int):fB (fG im fr to ref).1:=by
 have h0:fB []:=⟨fun i hi=>by simp at hi,ZZ _⟩
 unfold fG
 split
 ·exact h0
 · split
   ·exact h0
   · split
     ·assumption
     ·exact h0
theorem qM(im:By)(F:Nat→Int)(n:Int):fB (cP im F n).1:=by
 unfold cP
 split
 ·exact Jf _ _ _ _
 ·exact⟨fun i hi=>by simp at hi,ZZ _⟩
theorem Ot{im:By}{F:Nat→Int}{ids:List Int}{ref kind:Int}{x:Rec}(h:eV im F ids ref kind=some x):vQ im F ids x∧x.ino.1 0=kind:=by
 unfold eV at h;by_cases hb:kR F ids (bQ im (F 2) (F 3) ref) kind
 ·rw[ZP hb] at h;cases h
 · rw[ZO hb] at h
   have hg:(bQ im (F 2) (F 3) ref).2.2=0∧(bQ im (F 2) (F 3) ref).1.1 0=kind∧¬ (ids.length:Int)≤(bQ im (F 2) (F 3) ref).1.1 2∧¬ (ids.length:Int)≤(bQ im (F 2) (F 3) ref).1.1 3:=by
    unfold kR at hb;refine⟨ZY fun h=>hb (.inl h),ZY fun h=>hb (.inr (.inl h)),fun h=>hb (.inr (.inr (.inl h))),fun h=>hb (.inr (.inr (.inr (.inl h))))⟩
   have hm:=AF hg.1
   split at h
   ·cases h
   · by_cases h2:kind=2
     · rw[ZP h2] at h
       split at h
       ·cases h
       ·cases h;exact⟨⟨hm,hg.2.2.1,hg.2.2.2,fun _=>rfl,trivial,ZZ _,qM _ _ _⟩,hg.2.1⟩
     · rw[ZO h2] at h
       by_cases h1:kind=1
       · rw[ZP h1] at h
         split at h
         ·cases h
         · cases h
           refine⟨⟨hm,hg.2.2.1,hg.2.2.2,fun hk=>absurd (hg.2.1.trans h1) hk,?_⟩,hg.2.1⟩;show aT [] (nK im F (bQ im (F 2) (F 3) ref).1.1).1∧(bE (nK im F (bQ im (F 2) (F 3) ref).1.1).1).length≤1048576∧fB (cP im F ((bQ im (F 2) (F 3) ref).1.1 5)).1;unfold nK
           split
           ·exact⟨trivial,ZZ _,qM _ _ _⟩
           · rename_i h4
             have hsl:=(cJ (Z5.1 h4)).2.2.2.1;have hma:=hm.1;unfold bG at hma;rcases AT (aD im (F 3) (F 4) ((bQ im (F 2) (F 3) ref).1.1 6) ((bQ im (F 2) (F 3) ref).1.1 7)).1 with⟨L,e,hc,hL⟩|e
             ·rw[e];exact⟨hc,by show (bE L).length≤1048576;rw[←hL];omega,qM _ _ _⟩
             ·rw[e];exact⟨trivial,ZZ _,qM _ _ _⟩
       · rw[ZO h1] at h
         cases h;exact⟨⟨hm,hg.2.2.1,hg.2.2.2,fun _=>rfl,trivial,ZZ _,qM _ _ _⟩,hg.2.1⟩
section
variable {im:List UInt8}{F:Nat→Int}{ids:List Int}
theorem Ik{f:Int→Int→MSt→Option MSt}{Q:MSt→Prop}(hf:∀ ref kind s s',f ref kind s=some s'→Q s→Q s'):∀ (l:List Ent) (s s':MSt),goL f l s=some s'→Q s→Q s'
|[],s,s',h,hq=>by cases h;exact hq
|y::r,s,s',h,hq=>by
   unfold goL at h
   split at h
   ·cases h
   · rename_i s1 h1
     exact Ik hf r s1 s' h (hf _ _ _ _ h1 hq)
theorem Fw:∀ (n:Nat) (ref kind:Int) (s s':MSt),goM im F ids n ref kind s=some s'→(∀ r∈s.1,vQ im F ids r.1)→∀ r∈s'.1,vQ im F ids r.1
|0,_,_,_,_,h,_=>by unfold goM at h;cases h
|n+1,ref,kind,s,s',h,hs=>by
   by_cases h1:1024<s.2+1
   ·rw[AJ h1] at h;cases h
   · cases hi:fL s.1 ref with
    |some i=>
       by_cases hk:kind≠1∧(s.1.getD i (qN,0)).1.ino.1 0=kind
       · rw[Ds h1 hi hk] at h
         cases h;obtain⟨r,hr,_⟩:=qX hi;intro t ht;have ht:t∈eL s.1 i:=ht;unfold eL at ht;rcases eu ht with ht|rfl
         ·exact hs t ht
         · show vQ im F ids (s.1.getD i (qN,0)).1
           rw[Z2,hr];exact hs r (ZW hr)
       ·rw[mJ h1 hi hk] at h;cases h
    |none=>
       cases hx:eV im F ids ref kind with
      |none=>rw[Du h1 hi hx] at h;cases h
      |some x=>
         rw[Dt h1 hi hx] at h;refine Ik (Q:=fun s=>∀ r∈s.1,vQ im F ids r.1) (fun ref kind s s'=>Fw n ref kind s s') _ _ _ h ?_;intro r hr;rcases an.1 hr with hr|hr
         ·exact hs r hr
         ·rw[ai] at hr;subst hr;exact(Ot hx).1
end
def Gb(x:Img):Prop:=(∀ r∈x.recs,vQ x.im x.F x.ids r.1)∧(∀ z∈x.places,0≤z∧z≤4294967295)∧(∀ z∈x.ids,0≤z∧z≤4294967295)
theorem Mk{im:By}{x:Img}(h:mnt im=some x):Gb x∧x.im=im∧aJ im=(x.F,0):=by
 by_cases h0:(aJ im).2≠0
 ·rw[Dl h0] at h;cases h
 · have e0:aJ im=((aJ im).1,0):=fm rfl (Z5.1 h0)
   by_cases h1:(mtP im (aJ im).1).2=0∧(mtI im (aJ im).1).2=0∧kW (mtI im (aJ im).1).1
   · rw[GW e0 h1] at h
     split at h
     ·cases h
     · rename_i s hs
       split at h
       ·cases h
       · cases h
         refine⟨⟨Fw _ _ _ _ _ hs (by simp),?_,?_⟩,rfl,e0⟩
         · show ∀ z∈(mtP im (aJ im).1).1,_
           unfold mtP;have hm:(aJ im).1 8≤1000000:=by
            have hok:gE im:=ZY fun hc=>h0 (by unfold aJ;rw[ZO hc];decide);have e:(aJ im).1=suF im:=by unfold aJ;rw[ZP hok]
            rw[e];have:=hok.2.1;unfold gD at this;omega
           exact(CZ hm).2.1
         · show ∀ z∈(mtI im (aJ im).1).1,_
           unfold mtI;have hm:(aJ im).1 7≤1000000:=by
            have hok:gE im:=ZY fun hc=>h0 (by unfold aJ;rw[ZO hc];decide);have e:(aJ im).1=suF im:=by unfold aJ;rw[ZP hok]
            rw[e];have:=hok.2.1;unfold gD at this;omega
           exact(CZ hm).2.1
   ·rw[uP e0 h1] at h;cases h
def ImV(H:Array Obj)(g:Nat)(x:Img):Prop:=∃ ow tp ps n,MoV ow H g tp x.im x.F x.places x.ids (x.recs,n) ps∧PlM (x.recs,n)∧gD x.F∧x.im.length≤1048576∧Gb x
theorem ImV.ZM{w w':World}{g:Nat}{x:Img}(h:ImV w.heap g x)(f:aA nob w w'):ImV w'.heap g x:=by
 obtain⟨ow,tp,ps,n,h1,h2⟩:=h;exact⟨ow,tp,ps,n,h1.ZM f,h2⟩
theorem Ro.of{W w':World}{im:By}{v:Value}(h:Ro W im (mnt im) v w'):aA nob W w'∧((v=.tuple #[.pointer none,iV 2]∧mnt im=none)∨∃ (x:Img) (g:Nat),v=.tuple #[pT g,iV 0]∧mnt im=some x∧x.im=im∧W.heap.size≤g∧ImV w'.heap g x):=by
 obtain⟨hf,h|⟨x,g,tp,ow,ps,n,h1,h2,h3,h4,h5,h6,h7,h8⟩⟩:=h
 ·exact⟨hf,.inl h⟩
 ·exact⟨hf,.inr ⟨x,g,h1,h2,h3,h4,ow,tp,ps,n,by rw[h3];exact h5,h6,h7,by rw[h3];exact h8,(Mk h2).1⟩⟩
theorem Fx{ref:Int}(hr : -9223372036854775808≤ref∧ref≤9223372036854775807):∀ {l:List (Rec×Int)} {ps:List Nat},ps.length=l.length→(∀ r∈l,0≤r.1.ref∧r.1.ref≤4294967295)→oL (kG l ps) (⟨ref,hr⟩:I6)=(fL l ref).map (fun i=>pnV (ps.getD i 0))
|[],ps,_,_=>rfl
|r::l,[],h,_=>by simp at h
|r::l,p::ps,h,hb=>by
   have ih:=Fx hr (l:=l) (ps:=ps) (by simpa using h) (fun r hr=>hb r (by simp[hr]));have e:kG (r::l) (p::ps)=(k6 r.1.ref,pnV p)::kG l ps:=rfl;rw[e,Fs];unfold oL;have hk:(k6 r.1.ref=(⟨ref,hr⟩:I6))↔r.1.ref=ref:=⟨fun h=>by have:=congrArg Subtype.val h;rwa[Dp (hb r (by simp))] at this,fun h=>Subtype.ext (by rw[Dp (hb r (by simp))];exact h)⟩
   by_cases h2:r.1.ref=ref
   ·rw[ZP (hk.2 h2),ZP h2];rfl
   · rw[ZO (fun h'=>h2 (hk.1 h')),ZO h2,ih]
     cases fL l ref<;>simp
def KnP(H:Array Obj)(x:Img)(ref:Int)(pq:Option Addr)(e:Int):Prop:=(knM x ref=none∧pq=none∧e=1)∨∃ (r:Rec) (nm:Int) (p:Nat) (E:Nat→Prop),knM x ref=some r∧pq=some ⟨p,0,none⟩∧e=0∧RcV E H r nm p∧vQ x.im x.F x.ids r
theorem mF(g:Nat)(x:Img)(ref:Int)(W:World)(hx:ImV W.heap g x)(href : -9223372036854775808≤ref∧ref≤9223372036854775807) :
 CA 38 [pT g,iV ref] W fun v w'=>∃ pq e,v=.tuple #[.pointer pq,iV e]∧KnP W.heap x ref pq e∧w'=W:=by
 obtain⟨ow,tp,ps,n,hM,hp,hq,hl8,hio⟩:=hx;obtain⟨bo,bc,po,pc,io,ic,g1,g2,g3,gm,hg,⟨v1,l1⟩,⟨v2,l2⟩,⟨v3,l3⟩,m1,m2,m3,hm,hl,hr,hnd,o1,o2,o3⟩:=hM;obtain⟨oi,hoi⟩:∃ oi,oi=fL x.recs ref:=⟨_,rfl⟩
 refine cS 20 [(0,_),(1,_)] Tryz.func38 ?_;refine Gz 13 ?_;refine cL (Wm (u:=.tuple [(oi.map (fun i=>pnV (ps.getD i 0))).getD (.pointer none),.bool (decide (oi.isSome=true))].toArray) (XD mpR (a:=(⟨ref,href⟩:I6)) My rfl rfl (fun _ e=>by rw[e];exact hm)) (by rw[Fx href hl (fun r h=>(hp.2.1 r h).1),←hoi];cases oi<;>rfl)) ?_;refine Gz 2 ?_;refine WF (Xw rfl rfl) rfl (fun h16=>?_) (fun h16=>?_)
 ·obtain⟨i,rfl⟩:∃ i,oi=some i:=fj.1 h16;obtain⟨r,hri,hrr⟩:=qX hoi.symm;have hil:=(ZS.1 hri).1;obtain⟨p,hpi⟩:∃ p,ps[i]?=some p:=⟨_,ZQ (by have hl:ps.length=x.recs.length:=hl;omega)⟩
  have hpd:ps.getD i 0=p:=by rw[Z2,hpi];rfl
  obtain⟨hrv,hop⟩:=hr i r p hri hpi;have hkn:knM x ref=some r.1:=by unfold knM;rw[←hoi,dp,Z2,hri];rfl
  rw[show ((some i).map (fun i=>pnV (ps.getD i 0))).getD (.pointer none)=pT p by rw[dp,getD_some,hpd];rfl];refine Gz 8 ?_;refine cL (WQ rfl) ?_;refine Gz 14 ?_;exact⟨_,rfl,some ⟨p,0,none⟩,0,rfl,.inr ⟨r.1,r.2,p,_,hkn,rfl,rfl,hrv,hio.1 r (ZW hri)⟩,rfl⟩
 obtain rfl:oi=none:=by cases oi;rfl;exact absurd rfl h16
 have hkn:knM x ref=none:=by unfold knM;rw[←hoi];rfl
 refine Gz 8 ?_;refine cL (WQ rfl) ?_;refine Gz 12 ?_;exact⟨_,rfl,none,1,rfl,.inl ⟨hkn,rfl,rfl⟩,rfl⟩
theorem wM(g:Nat)(x:Img)(W:World)(hx:ImV W.heap g x):CA 12 [pT g] W fun v w'=>v=iV (x.F 9)∧w'=W:=by
 obtain⟨ow,tp,ps,n,hM,hp,hq,hl8,hio⟩:=hx;obtain⟨bo,bc,po,pc,io,ic,g1,g2,g3,gm,hg,_⟩:=hM;refine cS 8 [(0,_)] Tryz.func12 ?_;refine Gz 11 ?_;refine cL (Wk aF rfl (aB (i:=11) hg rfl)) ?_;refine Gz 5 ?_;exact⟨_,rfl,rfl,rfl⟩
theorem Ku(ao:Option Addr)(c:Nat)(L:List Ent)(W:World)(hv:VwM 3 bH W.heap ao c L)(hl:L.length≤1099511627776) :
 CA 39 [.slice ao L.length c] W fun v w'=>∃ o c',v=.slice o L.length c'∧bJ 3 bH 39 w'.heap o c' L∧Fr W.heap.size o∧aA nob W w':=by
 refine cS 8 [(0,_)] Tryz.func39 ?_;refine Gz 9 ?_;refine WF (WK (Xg lW rfl rfl)) rfl (fun h4=>?_) (fun h4=>?_)
 ·refine Gz 11 ?_;obtain rfl:L=[]:=by
   apply ZY;intro hne;have h0:ao=none:=by simpa using h4
   exact hv.non (by have:=bw.2 hne;omega) h0
  exact⟨_,rfl,none,0,rfl,.inl ⟨rfl,rfl,rfl⟩,Zs,Zn _ _⟩
 refine Gz 7 ?_;refine Xc bA lW rfl ?_;intro w1 ho1 hs1 hf1;refine Gz 1 ?_;refine Wx bA rfl lW rfl rfl ho1 (hv.keep' hf1 (fun _ _ _=>id)) (by simp only[Z7];omega) (by simp only[Z7];unfold maxLen;omega) rfl ?_;intro o2 c2 w2 ho2 hf2 hr2 hn2;rw[aq] at ho2 ⊢;refine Gz 5 ?_;exact⟨_,rfl,o2,c2,rfl,ho2,aS (cX _) hr2 hf1.size,hf1.ZJ hf2 (cX _).step⟩
theorem xS:∀ {l:List Ent} {last:By},aT last l→(∀ y∈l,Z8 last y.1=true)∧l.Pairwise (fun a b=>Z8 a.1 b.1=true)
|[],_,_=>⟨by simp,List.Pairwise.nil⟩
|x::r,last,h=>by
   obtain⟨h1,h2⟩:=xS h.2;have hl:Z8 last x.1=true:=h.1.2.1;refine⟨fun y hy=>?_,List.pairwise_cons.2 ⟨h1,h2⟩⟩;rcases aw.1 hy with rfl|hy
   ·exact hl
   ·exact oR hl (h1 y hy)
theorem rH{l:List Ent}(h:aT [] l){i j:Nat}{x y:Ent}(hx:l[i]?=some x)(hy:l[j]?=some y)(hij:i<j):Z8 x.1 y.1=true:=by
 obtain⟨h1,rfl⟩:=ZS.1 hx;obtain⟨h2,rfl⟩:=ZS.1 hy;exact bj.1 (xS h).2 i j h1 h2 hij
def FV(y:Ent)(s:By):Int:=if Z8 y.1 s=true then -1 else if Z8 s y.1=true then 1 else 0
theorem Fi(y:Ent)(s:By)(W:World):CA 41 [.agg (bH y).toArray,.string (bs s)] W fun v w'=>v=iV (FV y s)∧aA nob W w':=by
 refine cS 15 [(0,_),(1,_)] Tryz.func41 ?_;refine Gz 2 ?_;refine WO rfl rfl ?_;intro w1 hg1 hs1 hf1;have hg1:w1.heap[W.heap.size]?=some (.cells (bH y).toArray 39 (0,0)):=hg1;obtain⟨g,eg⟩:∃ g,g=W.heap.size:=⟨_,rfl⟩
 rw[←eg] at hg1 ⊢;refine Gz 10 ?_;refine WF (WK (Ya (a:=y.1) (b:=s) rfl rfl)) rfl (fun h9=>?_) (fun h9=>?_)
 ·refine Gz 13 ?_;exact⟨_,rfl,by unfold FV;rw[ZP h9],hf1⟩
 refine Gz 9 ?_;refine WF (WK (XT (a:=y.1) (b:=s) rfl rfl)) rfl (fun h14=>?_) (fun h14=>?_)
 ·have hgt:Z8 s y.1=true:=by rw[iI] at h14;simpa using h14
  refine Gz 13 ?_;exact⟨_,rfl,by unfold FV;rw[ZO h9,ZP hgt],hf1⟩
 have hgt:¬ Z8 s y.1=true:=by rw[iI] at h14;simpa using h14
 refine Gz 14 ?_;exact⟨_,rfl,by unfold FV;rw[ZO h9,ZO hgt],hf1⟩
theorem FU{y:Ent}{s:By}:FV y s<0↔Z8 y.1 s=true:=by
 unfold FV;by_cases h:Z8 y.1 s=true
 ·rw[ZP h];exact⟨fun _=>h,fun _=>by decide⟩
 · rw[ZO h]
   refine⟨fun hc=>?_,fun h'=>absurd h' h⟩
   split at hc<;>omega
theorem CN{y:Ent}{s:By}:FV y s=0↔y.1=s:=by
 unfold FV;by_cases h:Z8 y.1 s=true
 · rw[ZP h]
   refine⟨fun h'=>by omega,fun e=>?_⟩;rw[e,gW] at h;cases h
 · rw[ZO h]
   by_cases h2:Z8 s y.1=true
   · rw[ZP h2]
     refine⟨fun h'=>by omega,fun e=>?_⟩;rw[e,gW] at h2;cases h2
   · rw[ZO h2]
     refine⟨fun _=>ZY fun hne=>h2 (NG hne (by simpa using h)),fun _=>rfl⟩
theorem Hm(lo:Option Addr)(lc:Nat)(l:List Ent)(s:By)(W:World)(hv:VwM 3 bH W.heap lo lc l)(hch:aT [] l)(hll:l.length≤1099511627776) :
 CA 40 [.slice lo l.length lc,.string (bs s),.func (.func 41) #[] #[]] W fun v w'=>∃ (i:Nat) (b:Bool),v=.tuple #[iV i,.bool b]∧(b=true→∃ y,l[i]?=some y∧y.1=s)∧(b=false→∀ y∈l,y.1≠s)∧aA nob W w':=by
 refine cS 49 [(0,_),(1,_),(2,_)] Tryz.func40 ?_;refine Gz 22 ?_;refine Wp (β:=Nat×Nat) (fun⟨i,j⟩=>[(0,.slice lo l.length lc),(1,.string (bs s)),(2,.func (.func 41) #[] #[]),(8,iV l.length),(9,iV i),(10,iV j)]) (fun⟨i,j⟩ w=>i≤j∧j≤l.length∧(∀ (k:Nat) (y:Ent),k<i→l[k]?=some y→Z8 y.1 s=true)∧(∀ (k:Nat) (y:Ent),j≤k→l[k]?=some y→¬ Z8 y.1 s=true)∧aA nob W w) (fun⟨i,j⟩=>j-i) ⟨0,l.length⟩ ⟨rfl,rfl,rfl,rfl,rfl,rfl,trivial⟩ ⟨ZZ _,Z0 _,fun k y hk=>by omega,fun k y hk hy=>by have:=(ZS.1 hy).1;omega,Zn _ _⟩ ?_;rintro⟨i,j⟩ w2 ⟨hij0,hjl,hlo,hhi,hF⟩;refine fK 5 ?_ ?_<;>intro h17
 ·refine Gz 11 ?_;refine cL (Wr (n:=((i:Int)+j)) is3 Ry rfl (Rx (by omega))) ?_;refine cL (Ze rfl rfl (by decide)) ?_;refine cL (Wr (n:=(((i+j)/2:Nat):Int)) RQ ty3 rfl (RS (by omega))) ?_;obtain⟨q,hq⟩:∃ q:Nat,q=(i+j)/2:=⟨_,rfl⟩
  rw[←hq];have hql:q<l.length:=by omega
  obtain⟨y,hy⟩:∃ y,l[q]?=some y:=⟨_,ZQ hql⟩
  have hv2:=hv.ZM hF;refine Gz 8 ?_;refine cL (Wj lW rfl rfl hv2.non (by omega)) ?_;refine cL (Ws (cs:=bH y) eA rfl (fun a v ha=>hv2.rowZ q rfl hy a v ha)) ?_;refine Gz 1 ?_;refine Xu Sa rfl rfl (Fi y s w2) rfl ?_;rintro _ w3 ⟨rfl,hf3⟩;refine fK 0 ?_ ?_<;>intro h31
  ·have hls:=FU.1 h31;refine Gz 9 ?_;refine aG ⟨q+1,j⟩ ⟨by omega,hjl,fun k z hk hz=>?_,hhi,hF.trans hf3⟩ (by show j-(q+1)<j-i;omega);by_cases e:k=q
   ·subst e;rw[hy] at hz;cases hz;exact hls
   ·exact oR (rH hch hz hy (by omega)) hls
  have hls:¬ Z8 y.1 s=true:=fun h=>h31 (FU.2 h);refine Gz 8 ?_;refine aG ⟨i,q⟩ ⟨by omega,by omega,hlo,fun k z hk hz=>?_,hF.trans hf3⟩ (by show q-i<j-i;omega);by_cases e:k=q
  ·subst e;rw[hy] at hz;cases hz;exact hls
  ·exact fun h=>hls (oR (rH hch hy hz (by omega)) h)
 have hij:i=j:=by omega
 refine fK 13 ?_ ?_<;>intro h38
 ·have hil:i<l.length:=by omega
  obtain⟨y,hy⟩:∃ y,l[i]?=some y:=⟨_,ZQ hil⟩
  have hv2:=hv.ZM hF;refine Gz 4 ?_;refine cW (Wj lW rfl rfl hv2.non (by omega)) ?_;refine cW (Ws (cs:=bH y) eA rfl (fun a v ha=>hv2.rowZ i rfl hy a v ha)) ?_;refine Gz 1 ?_;refine YA rfl rfl ?_;refine Xu Sa rfl rfl (Fi y s w2) rfl ?_;rintro _ w3 ⟨rfl,hf3⟩;refine fW 0 ?_ ?_<;>intro h47
  ·have hes:=CN.1 h47;refine Gz 7 ?_;exact⟨_,rfl,i,true,rfl,fun _=>⟨y,hy,hes⟩,(fun h=>by cases h),hF.trans hf3⟩
  have hes:¬ y.1=s:=fun h=>h47 (CN.2 h);refine Gz 7 ?_
  have hne:∀ z∈l,z.1≠s:=fun z hz e=>by
   obtain⟨k,hk⟩:=ab hz;rcases fb k i with h|h|h
   ·have:=hlo k z h hk;rw[e,gW] at this;cases this
   · subst h
     (rw[hy] at hk;cases hk;exact hes e)
   · first
     |(have h2:=hhi i y (by omega) hy;have h3:=rH hch hy hk h;rw[e] at h3;exact h2 h3)
     |(have:=(ZS.1 hk).1;omega)
  exact⟨_,rfl,i,false,rfl,(fun h=>by cases h),fun _=>hne,hF.trans hf3⟩
 have hil:i=l.length:=by omega
 refine Gz 16 ?_
 have hne:∀ z∈l,z.1≠s:=fun z hz e=>by
  obtain⟨k,hk⟩:=ab hz;rcases fb k i with h|h|h
  ·have:=hlo k z h hk;rw[e,gW] at this;cases this
  · subst h
    (have:=(ZS.1 hk).1;omega)
  · first
    |(have h2:=hhi i y (by omega) hy;have h3:=rH hch hy hk h;rw[e] at h3;exact h2 h3)
    |(have:=(ZS.1 hk).1;omega)
 exact⟨_,rfl,i,false,rfl,(fun h=>by cases h),fun _=>hne,hF⟩
theorem xQ:∀ l:List Ent,6*l.length≤(bE l).length
|[]=>Z0 _
|x::r=>by
   have:=xQ r;show 6*(r.length+1)≤(nM x++bE r).length;rw[ZR,oO];omega
theorem J4{l:List Ent}{s:By}{i:Nat}{y:Ent}(hch:aT [] l)(hy:l[i]?=some y)(he:y.1=s):oF l s=(y,0):=
 Ck hy he (fun j z hj hz e=>by have:=rH hch hz hy hj;rw[e,he,gW] at this;cases this)
theorem Mr{l:List Ent}{s:By}(h:∀ y∈l,y.1≠s):oF l s=(lJ,20):=As (fun j y hy=>h y (ZW hy))
def stC(L:List Int):List Value:=L.map i64
theorem iL(L:List Int):∀ v∈stC L,v.oneCell'=true:=by intro v hv;obtain⟨z,_,rfl⟩:=av.1 hv;rfl
theorem ImV.ids{H:Array Obj}{g:Nat}{x:Img}(h:ImV H g x):∃ (bo po io:Option Addr) (bc pc ic:Nat) (tp g1 g2 g3 gm n:Nat),H[g]?=some (.cells (moC tp bo x.im.length bc x.F (.slice po x.places.length pc) (.slice io x.ids.length ic) (pnV g1) (pnV g2) (pnV g3) gm n).toArray 107 (0,0))∧Vw b8 H bo bc x.im∧Vw i64 H po pc x.places∧Vw i64 H io ic x.ids∧TbV H tp∧gD x.F∧x.im.length≤1048576∧Gb x:=by
 obtain⟨ow,tp,ps,n,hM,hp,hq,hl8,hio⟩:=h;obtain⟨bo,bc,po,pc,io,ic,g1,g2,g3,gm,hg,⟨v1,l1⟩,⟨v2,l2⟩,⟨v3,l3⟩,m1,_⟩:=hM;exact⟨bo,po,io,bc,pc,ic,tp,g1,g2,g3,gm,n,hg,v1,v2,v3,m1.tab.1,hq,hl8,hio⟩
theorem JW(g:Nat)(x:Img)(ref:Int)(W:World)(hx:ImV W.heap g x)(href : -9223372036854775808≤ref∧ref≤9223372036854775807) :
 CA 15 [pT g,iV ref] W fun v w'=>v=.tuple #[.agg (stC (mT x ref).1).toArray,iV (mT x ref).2]∧aA nob W w':=by
 obtain⟨z,ez⟩:∃ z,z=W.heap.size:=⟨_,rfl⟩
 refine cS 86 [(0,_),(1,_)] Tryz.func15 ?_;refine Gz 2 ?_;refine Wn Bi rfl ?_;intro w1 hg1 hs1 hf1;have hg1:w1.heap[W.heap.size]?=some (.cells (stC [0,0,0,0,0,0]).toArray 45 (0,0)):=hg1;rw[←ez] at hg1 ⊢;have hx1:=hx.ZM hf1;refine cA 7 MW (mF g x ref w1 hx1 href) ?_;rintro _ w2 ⟨pq,e,rfl,hk,hw⟩;subst w2;refine fK 11 ?_ ?_<;>intro h16
 ·obtain⟨hkn,rfl,rfl⟩:=hk.resolve_right (fun⟨_,_,_,_,_,_,e0,_⟩=>h16 e0);have hst:mT x ref=([0,0,0,0,0,0],1):=by unfold mT;rw[hkn]
  refine Gz 5 ?_;refine cL (bU (stC [0,0,0,0,0,0]) H1 Bi) ?_;refine Gz 1 ?_;refine sA rfl eM (by exact iL _) hg1 ?_;intro w9 hg9 hs9 hf9;have hFw:aA nob W w9:=hf1.tw hf9;refine Gz 5 ?_;refine rC hg9 eM ?_;exact⟨_,rfl,by rw[hst],hFw⟩
 obtain⟨r,nm,p,E,hkn,rfl,rfl,hrv,hrok⟩:=hk.resolve_left (fun h=>by have h:=h.2.2;omega);have hst:mT x ref=(stM x r,0):=by unfold mT;rw[hkn]
 obtain⟨lo,lc,xo,xc,hpc,hvl,hvd,hvx,hx5⟩:=hrv;obtain⟨hmay,hu1,hu2,_⟩:=hrok;have hma:=hmay.1;unfold bG at hma;obtain⟨bo,po,io,bc,pc,ic,tp,g1,g2,g3,gm,n,hgc,v1,v2,v3,hts,hq,hl8,hio⟩:=hx1.ids;refine Gz 6 ?_;refine Wv 46 (fun H=>H[p]?=some (.cells (xY r nm lo lc xo xc).toArray 112 (0,0))∧H[g]?=some (.cells (moC tp bo x.im.length bc x.F (.slice po x.places.length pc) (.slice io x.ids.length ic) (pnV g1) (pnV g2) (pnV g3) gm n).toArray 107 (0,0))∧Vw i64 H io ic x.ids) [44,45] [0,1,2,3,4,5,6,7,8,9,10,11,12,13,14,15,16,17,18,19,20,21,22,23,24,25,26,27,28,29,30,31,32,33,34,35,36,37,38,39,40,41,42,43,44,45] aK (by kernel_rfl) (⟨hpc,hgc,v3⟩) ?_;refine Gz 4 ?_;refine xC rfl (Wt aF rfl (fun H hH=>aB (i:=0) hH.1 rfl)) ?_;refine Gz 4 ?_;refine xC rfl (Wt aF rfl (fun H hH=>aB (i:=1) hH.1 rfl)) ?_;refine Gz 8 ?_;refine xC rfl (Wt aF rfl (fun H hH=>aB (i:=2) hH.1 rfl)) ?_;refine xC rfl (Wi bP rfl rfl v3.non (by omega)) ?_;refine xC rfl (Wt aF rfl (fun H hH=>hH.2.2.gz 0 (r.ino.1 2).toNat (by omega) (by omega))) ?_;refine Gz 8 ?_;refine xC rfl (Wt aF rfl (fun H hH=>aB (i:=3) hH.1 rfl)) ?_;refine xC rfl (Wi bP rfl rfl v3.non (by omega)) ?_;refine xC rfl (Wt aF rfl (fun H hH=>hH.2.2.gz 0 (r.ino.1 3).toNat (by omega) (by omega))) ?_;refine xC rfl (bU (stC [r.ino.1 1,x.ids.getD (r.ino.1 2).toNat 0,x.ids.getD (r.ino.1 3).toNat 0]) PM Qm) ?_;refine Gz 4 ?_;refine xC rfl (Wt aF rfl (fun H hH=>aB (i:=4) hH.1 rfl)) ?_;refine Gz 4 ?_;refine xC rfl (Wt aF rfl (fun H hH=>aB (i:=7) hH.1 rfl)) ?_;refine xC rfl (bU (stC [r.ino.1 0,r.ino.1 1,x.ids.getD (r.ino.1 2).toNat 0,x.ids.getD (r.ino.1 3).toNat 0,r.ino.1 4,r.ino.1 7]) H1 Bi) ?_;refine Wo rfl rfl (Wn Bi rfl ?_);intro w3 hg3 hs3 hf3;have hf3:=hf3.ZK;refine Wu (by exact⟨hf3.obj hpc id,hf3.obj hgc id,v3.ZM hf3⟩) ?_;refine Wo rfl rfl (WP (vs:=stC [r.ino.1 0,r.ino.1 1,x.ids.getD (r.ino.1 2).toNat 0,x.ids.getD (r.ino.1 3).toNat 0,r.ino.1 4,r.ino.1 7]) eM rfl rfl (by exact iL _) hg3 rfl ?_);intro w4 hg4 hs4 hf4;obtain⟨y,ey⟩:∃ y,y=w1.heap.size:=⟨_,rfl⟩
 have hf4:aA (· = w1.heap.size) w3 w4:=hf4;have hg4:w4.heap[w1.heap.size]?=some (.cells (stC [r.ino.1 0,r.ino.1 1,x.ids.getD (r.ino.1 2).toNat 0,x.ids.getD (r.ino.1 3).toNat 0,r.ino.1 4,r.ino.1 7]).toArray 45 (0,0)):=hg4;rw[show (w1.drewN 1).heap.size=y from ey.symm];rw[←ey] at hg4 hf4;have hF4:aA nob w1 w4:=hf3.tw hf4;refine Wu (by exact⟨hF4.obj hpc id,hF4.obj hgc id,v3.ZM hF4⟩) ?_;have hp4:=hF4.obj hpc id;have hz4:=hF4.obj hg1 id;have hyz:¬ z=y:=by omega
 refine Gz 9 ?_;refine cL (Wk aF rfl (aB (i:=0) hp4 rfl)) ?_;refine fK 5 ?_ ?_<;>intro h69
 ·have hsz:vY r=r.list.length:=by unfold vY;rw[ZP h69]
  refine Gz 11 ?_;refine Wl aF rfl rfl rfl hg4 rfl ?_;intro w5 hg5 hs5 hf5;have hg5:w5.heap[y]?=some (.cells (stC (stM x r)).toArray 45 (0,0)):=by unfold stM;rw[hsz];exact hg5
  have hF5:aA nob w1 w5:=hF4.tw hf5;have hz5:=hf5.obj hz4 hyz;refine Gz 5 ?_;refine cL (Ws (cs:=stC (stM x r)) eM rfl (aQ hg5 0 rfl)) ?_;refine sA rfl eM (by exact iL _) hz5 ?_;intro w9 hg9 hs9 hf9;have hFw:aA nob W w9:=(hf1.trans hF5).tw hf9;refine Gz 4 ?_;refine rC hg9 eM ?_;exact⟨_,rfl,by rw[hst],hFw⟩
 refine fK 6 ?_ ?_<;>intro h77
 ·have hsz:vY r=r.ino.2.length:=by unfold vY;rw[ZO h69,ZP h77]
  refine Gz 9 ?_;refine cL (Wk gH rfl (aB (i:=10) hp4 rfl)) ?_;refine cL (WM ty9 rfl) ?_;refine Gz 1 ?_;refine Wl aF rfl rfl rfl hg4 rfl ?_;intro w5 hg5 hs5 hf5;have hg5:w5.heap[y]?=some (.cells (stC (stM x r)).toArray 45 (0,0)):=by unfold stM;rw[hsz];exact hg5
  have hF5:aA nob w1 w5:=hF4.tw hf5;have hz5:=hf5.obj hz4 hyz;refine Gz 5 ?_;refine cL (Ws (cs:=stC (stM x r)) eM rfl (aQ hg5 0 rfl)) ?_;refine sA rfl eM (by exact iL _) hz5 ?_;intro w9 hg9 hs9 hf9;have hFw:aA nob W w9:=(hf1.trans hF5).tw hf9;refine Gz 4 ?_;refine rC hg9 eM ?_;exact⟨_,rfl,by rw[hst],hFw⟩
 have hsz:vY r=r.ino.1 7:=by unfold vY;rw[ZO h69,ZO h77]
 have hg5:w4.heap[y]?=some (.cells (stC (stM x r)).toArray 45 (0,0)):=by unfold stM;rw[hsz];exact hg4
 have hF5:=hF4;have hz5:=hz4;refine Gz 9 ?_;refine cL (Ws (cs:=stC (stM x r)) eM rfl (aQ hg5 0 rfl)) ?_;refine sA rfl eM (by exact iL _) hz5 ?_;intro w9 hg9 hs9 hf9;have hFw:aA nob W w9:=(hf1.trans hF5).tw hf9;refine Gz 4 ?_;refine rC hg9 eM ?_;exact⟨_,rfl,by rw[hst],hFw⟩
theorem GD{im:By}{F:Nat→Int}{ids:List Int}{r:Rec}(h:vQ im F ids r):r.list.length≤1099511627776:=by
 have h1:=h.2.2.2.2.2.1;have h2:=xQ r.list;omega
theorem wN(g:Nat)(x:Img)(ref:Int)(W:World)(hx:ImV W.heap g x)(href : -9223372036854775808≤ref∧ref≤9223372036854775807) :
 CA 13 [pT g,iV ref] W fun v w'=>Rp W (fE x ref) v w'∧aT [] (fE x ref).1∧(fE x ref).1.length≤1099511627776:=by
 refine cS 30 [(0,_),(1,_)] Tryz.func13 ?_;refine cA 10 MW (mF g x ref W hx href) ?_;rintro _ w2 ⟨pq,e,rfl,hk,hw⟩;subst w2;refine fK 12 ?_ ?_<;>intro h16
 ·obtain⟨hkn,rfl,rfl⟩:=hk.resolve_right (fun⟨_,_,_,_,_,_,e0,_⟩=>h16 e0);have hli:fE x ref=([],1):=by unfold fE;rw[hkn]
  refine Gz 15 ?_;rw[hli];exact⟨_,rfl,⟨none,0,rfl,Zy,Zs,Zn _ _⟩,trivial,ZZ _⟩
 obtain⟨r,nm,p,E,hkn,rfl,rfl,hrv,hrok⟩:=hk.resolve_left (fun h=>by have h:=h.2.2;omega);obtain⟨lo,lc,xo,xc,hpc,hvl,hvd,hvx,hx5⟩:=hrv;refine Gz 10 ?_;refine cL (Wk aF rfl (aB (i:=0) hpc rfl)) ?_;refine fK 0 ?_ ?_<;>intro h24
 ·have hli:fE x ref=([],24):=by unfold fE;rw[hkn];exact ZP h24
  refine Gz 14 ?_;rw[hli];exact⟨_,rfl,⟨none,0,rfl,Zy,Zs,Zn _ _⟩,trivial,ZZ _⟩
 have hli:fE x ref=(r.list,0):=by unfold fE;rw[hkn];exact ZO h24
 have hll:=GD hrok;refine cA 13 VT (Ku lo lc r.list W hvl hll) ?_;rintro _ w3 ⟨o,c,rfl,ho,hfr,hf3⟩;refine Gz 6 ?_;rw[hli];exact⟨_,rfl,⟨o,c,rfl,ho,hfr,hf3⟩,hrok.2.2.2.2.1,hll⟩
theorem JY(g:Nat)(x:Img)(ref:Int)(s:By)(W:World)(hx:ImV W.heap g x)(href : -9223372036854775808≤ref∧ref≤9223372036854775807) :
 CA 14 [pT g,iV ref,.string (bs s)] W fun v w'=>v=.tuple #[.agg (bH (nA x ref s).1).toArray,iV (nA x ref s).2]∧aA nob W w':=by
 obtain⟨z,ez⟩:∃ z,z=W.heap.size:=⟨_,rfl⟩
 obtain⟨L,hL⟩:∃ L,L=fE x ref:=⟨_,rfl⟩
 refine cS 35 [(0,_),(1,_),(2,_)] Tryz.func14 ?_;refine Gz 2 ?_;refine Wn pR rfl ?_;intro w1 hg1 hs1 hf1;have hg1:w1.heap[W.heap.size]?=some (.cells (bH lJ).toArray 39 (0,0)):=hg1;rw[←ez] at hg1 ⊢;refine cA 7 Rb (wN g x ref w1 (hx.ZM hf1) href) ?_;rw[←hL];rintro _ w2 ⟨⟨o,c,rfl,ho,hfr,hf2⟩,hch,hll⟩;have hg2:=hf2.obj hg1 id;have hF2:=hf1.trans hf2;refine fK 11 ?_ ?_<;>intro h19
 ·have hlk:nA x ref s=(lJ,L.2):=by unfold nA;rw[←hL];exact ZP h19
  refine Gz 5 ?_;refine cL (bU (bH lJ) Ah pR) ?_;refine Gz 1 ?_;refine sA rfl eA (by exact fT _) hg2 ?_;intro w9 hg9 hs9 hf9;have hFw:aA nob W w9:=hF2.tw hf9;refine Gz 5 ?_;refine rC hg9 eA ?_;exact⟨_,rfl,by rw[hlk],hFw⟩
 have hlk:nA x ref s=oF L.1 s:=by unfold nA;rw[←hL];exact ZO h19
 refine cA 9 VS (Hm o c L.1 s w2 (ho.vw bA) hch hll) ?_;rintro _ w3 ⟨i,b,rfl,hbt,hbf,hf3⟩;have hg3:=hf3.obj hg2 id;have hF3:=hF2.trans hf3;refine Gz 11 ?_;refine WF (WX rfl) rfl (fun h29=>?_) (fun h29=>?_)
 ·have hlk2:oF L.1 s=(lJ,20):=Mr (hbf h29);refine Gz 5 ?_;refine cL (bU (bH lJ) Ah pR) ?_;refine sA rfl eA (by exact fT _) hg3 ?_;intro w9 hg9 hs9 hf9;have hFw:aA nob W w9:=hF3.tw hf9;refine Gz 5 ?_;refine rC hg9 eA ?_;exact⟨_,rfl,by rw[hlk,hlk2],hFw⟩
 obtain⟨y,hy,hys⟩:=hbt (by cases b;exact absurd rfl h29;rfl);have hlk2:oF L.1 s=(y,0):=J4 hch hy hys;have hvl:=(ho.vw bA).ZM hf3;have hil:=(ZS.1 hy).1;refine Gz 9 ?_;refine cL (Wj lW rfl rfl hvl.non (by omega)) ?_;refine cL (Ws (cs:=bH y) eA rfl (fun a v ha=>hvl.rowZ i rfl hy a v ha)) ?_;refine sA rfl eA (by exact fT _) hg3 ?_;intro w9 hg9 hs9 hf9;have hFw:aA nob W w9:=hF3.tw hf9;refine Gz 4 ?_;refine rC hg9 eA ?_;exact⟨_,rfl,by rw[hlk,hlk2],hFw⟩
theorem Mh(g:Nat)(x:Img)(ref:Int)(W:World)(hx:ImV W.heap g x)(href : -9223372036854775808≤ref∧ref≤9223372036854775807) :
 CA 44 [pT g,iV ref] W fun v w'=>v=.tuple #[.string (bs (sB x ref).1),iV (sB x ref).2]∧aA nob W w':=by
 refine cS 29 [(0,_),(1,_)] Tryz.func44 ?_;refine cA 10 MW (mF g x ref W hx href) ?_;rintro _ w2 ⟨pq,e,rfl,hk,hw⟩;subst w2;refine fK 11 ?_ ?_<;>intro h15
 ·obtain⟨hkn,rfl,rfl⟩:=hk.resolve_right (fun⟨_,_,_,_,_,_,e0,_⟩=>h15 e0);have hli:sB x ref=([],1):=by unfold sB;rw[hkn]
  refine Gz 20 ?_;rw[hli];exact⟨_,rfl,rfl,Zn _ _⟩
 obtain⟨r,nm,p,E,hkn,rfl,rfl,hrv,hrok⟩:=hk.resolve_left (fun h=>by have h:=h.2.2;omega);obtain⟨lo,lc,xo,xc,hpc,hvl,hvd,hvx,hx5⟩:=hrv;refine Gz 5 ?_;refine cW (Wk aF rfl (aB (i:=0) hpc rfl)) ?_;refine fW 0 ?_ ?_<;>intro h22
 ·have hli:sB x ref=([],1):=by unfold sB;rw[hkn];exact ZP h22
  refine Gz 13 ?_;rw[hli];exact⟨_,rfl,rfl,Zn _ _⟩
 have hli:sB x ref=(r.ino.2,0):=by unfold sB;rw[hkn];exact ZO h22
 refine Gz 12 ?_;refine cL (Wk gH rfl (aB (i:=10) hpc rfl)) ?_;refine Gz 6 ?_;rw[hli];exact⟨_,rfl,rfl,Zn _ _⟩
theorem Af(im:By)(off n:Nat):∀ (k i:Nat) (a:Int) (out:By),out.length≤n→(lF im off n k i a out).1.length≤n
|0,i,a,out,h=>by unfold lF;exact h
|k+1,i,a,out,h=>by
   unfold lF
   split
   ·exact h
   · split
     · split
       ·exact ZZ _
       ·exact Af im off n k _ _ _ h
     · split
       ·exact ZZ _
       ·exact Af im off n k _ _ _ (by rw[ZR,ZT];omega)
theorem B2(im:By)(start size off n:Int)(hn:0≤n):((gX im start size off n).1.length:Int)≤n:=by
 unfold gX
 split
 ·exact hn
 · split
   ·exact hn
   · have:=Af im off.toNat n.toNat (size.toNat/128) 0 start [] (ZZ _)
     omega
theorem Cx(im:By)(pl:List Int)(num off n:Int):(dW im pl num off n).1.length≤n.toNat:=by
 unfold dW
 split
 ·exact ZZ _
 · unfold fS
   split
   ·exact ZZ _
   ·rw[ZT];omega
theorem JZ(g:Nat)(x:Img)(ref off n:Int)(W:World)(hx:ImV W.heap g x)(href : -9223372036854775808≤ref∧ref≤9223372036854775807)(hob : -9223372036854775808≤off∧off≤9223372036854775807)(hnb : -9223372036854775808≤n∧n≤9223372036854775807) :
 CA 43 [pT g,iV ref,iV off,iV n] W (xB W (jS x ref off n)):=by
 refine cS 142 [(0,_),(1,_),(2,_),(3,_)] Tryz.func43 ?_;refine cA 10 MW (mF g x ref W hx href) ?_;rintro _ w2 ⟨pq,e,rfl,hk,hw⟩;subst w2;refine fK 12 ?_ ?_<;>intro h23
 ·obtain⟨hkn,rfl,rfl⟩:=hk.resolve_right (fun⟨_,_,_,_,_,_,e0,_⟩=>h23 e0);have hli:jS x ref off n=([],1):=by unfold jS;rw[hkn]
  refine Gz 15 ?_;rw[hli];exact⟨_,rfl,none,0,rfl,Zu,Zs,Zn _ _⟩
 obtain⟨r,nm,p,E,hkn,rfl,rfl,hrv,hrok⟩:=hk.resolve_left (fun h=>by have h:=h.2.2;omega);obtain⟨lo,lc,xo,xc,hpc,hvl,hvd,hvx,hx5⟩:=hrv;have hma:=hrok.1.1;unfold bG at hma;obtain⟨bo,po,io,bc,pc,ic,tp,g1,g2,g3,gm,nn,hgc,v1,v2,v3,hts,hq,hl8,hio⟩:=hx.ids;have hrd:jS x ref off n=if r.ino.1 0=1 then ([],25) else if r.ino.1 0=3∨off<0∨n<0 then ([],1) else if r.ino.1 7≤off then ([],0) else Bm x r off (if r.ino.1 7-off<n then r.ino.1 7-off else n):=by unfold jS;rw[hkn]
 refine Gz 10 ?_;refine cL (Wk aF rfl (aB (i:=0) hpc rfl)) ?_;refine fK 0 ?_ ?_<;>intro h31
 ·have hli:jS x ref off n=([],25):=by rw[hrd,ZP h31]
  refine Gz 14 ?_;rw[hli];exact⟨_,rfl,none,0,rfl,Zu,Zs,Zn _ _⟩
 rw[ZO h31] at hrd;refine Gz 10 ?_;refine cL (Wk aF rfl (aB (i:=0) hpc rfl)) ?_;refine fK 0 ?_ ?_<;>intro h38
 ·have hli:jS x ref off n=([],1):=by rw[hrd,ZP (.inl h38)]
  refine Gz 22 ?_;rw[hli];exact⟨_,rfl,none,0,rfl,Zu,Zs,Zn _ _⟩
 refine fW 2 ?_ ?_<;>intro h41
 ·have hli:jS x ref off n=([],1):=by rw[hrd,ZP (.inr (.inl h41))]
  refine Gz 19 ?_;rw[hli];exact⟨_,rfl,none,0,rfl,Zu,Zs,Zn _ _⟩
 refine fW 3 ?_ ?_<;>intro h45
 ·have hli:jS x ref off n=([],1):=by rw[hrd,ZP (.inr (.inr h45))]
  refine Gz 15 ?_;rw[hli];exact⟨_,rfl,none,0,rfl,Zu,Zs,Zn _ _⟩
 rw[ZO (by rintro(h|h|h);exact h38 h;exact h41 h;exact h45 h)] at hrd;refine Gz 12 ?_;refine cL (Wk aF rfl (aB (i:=7) hpc rfl)) ?_;refine fK 0 ?_ ?_<;>intro h54
 ·have hli:jS x ref off n=([],0):=by rw[hrd,ZP h54]
  refine Gz 14 ?_;rw[hli];exact⟨_,rfl,none,0,rfl,Zu,Zs,Zn _ _⟩
 rw[ZO h54] at hrd;obtain⟨m,hm⟩:∃ m,m=(if r.ino.1 7-off<n then r.ino.1 7-off else n):=⟨_,rfl⟩
 have hmb:0≤m∧m≤4096:=by rw[hm];split<;>omega
 rw[←hm] at hrd;obtain⟨D,hD⟩:∃ D,D=gX x.im (r.ino.1 6) (r.ino.1 7) off m:=⟨_,rfl⟩
 have hDl:=B2 x.im (r.ino.1 6) (r.ino.1 7) off m hmb.1;rw[←hD] at hDl;unfold Bm at hrd;rw[←hD] at hrd;refine Gz 14 ?_;refine cL (Wk aF rfl (aB (i:=7) hpc rfl)) ?_;refine Gz 2 ?_;refine cL (Wm (u:=iV m) (Xh rfl rfl) (by rw[hm])) ?_;refine Gz 4 ?_;refine Wv 26 (fun H=>H[p]?=some (.cells (xY r nm lo lc xo xc).toArray 112 (0,0))∧H[g]?=some (.cells (moC tp bo x.im.length bc x.F (.slice po x.places.length pc) (.slice io x.ids.length ic) (pnV g1) (pnV g2) (pnV g3) gm nn).toArray 107 (0,0))) [20] [0,1,2,3,4,5,6,7,8,9,10,11,12,13,14,15,16,17,18,19,20,21,22,23,24,25] aK (by kernel_rfl) (⟨hpc,hgc⟩) ?_;refine Gz 12 ?_;refine xC rfl (Wt aF rfl (fun H hH=>aB (i:=6) hH.1 rfl)) ?_;refine Gz 4 ?_;refine xC rfl (Wt aF rfl (fun H hH=>aB (i:=7) hH.1 rfl)) ?_;refine Gz 2 ?_;refine Wo rfl rfl (Wh Vt rfl (Nj tp bo bc x.im (r.ino.1 6) (r.ino.1 7) off m (W.drewN 1) hts (v1.ZM (Zo 1)) (by omega) (by omega) (by omega) (by omega)) rfl ?_);rw[←hD];rintro _ w3 ⟨o,c,rfl,ho,hfr,hf3⟩;have hf3:=hf3.ZK;refine Wu (by exact⟨hf3.obj hpc id,hf3.obj hgc id⟩) ?_;have hp3:=hf3.obj hpc id;have hg3:=hf3.obj hgc id;have hD63:=ho.vw.ZL;refine fK 11 ?_ ?_<;>intro h89
 ·have hli:jS x ref off n=([],35):=by rw[hrd,ZP h89]
  refine Gz 12 ?_;rw[hli];exact⟨_,rfl,none,0,rfl,Zu,Zs,hf3⟩
 rw[ZO h89] at hrd;refine fK 11 ?_ ?_<;>intro h93
 ·have hli:jS x ref off n=(D.1,0):=by rw[hrd,ZP h93]
  refine Gz 13 ?_;rw[hli];exact⟨_,rfl,o,c,rfl,ho,hfr,hf3⟩
 rw[ZO h93] at hrd;refine Gz 11 ?_;refine cL (Wk aF rfl (aB (i:=7) hp3 rfl)) ?_;refine cL (W6 rfl rfl (by omega) (by decide)) ?_;refine cL (WN rfl rfl (by omega)) ?_;refine Gz 4 ?_;refine Wv 37 (fun H=>H[p]?=some (.cells (xY r nm lo lc xo xc).toArray 112 (0,0))∧H[g]?=some (.cells (moC tp bo x.im.length bc x.F (.slice po x.places.length pc) (.slice io x.ids.length ic) (pnV g1) (pnV g2) (pnV g3) gm nn).toArray 107 (0,0))) [31] [0,1,2,3,4,5,6,7,8,9,10,11,12,13,14,15,16,17,18,19,20,21,22,23,24,25,26,27,28,29,30,31,32,33,34,35,36] aK (by kernel_rfl) (⟨hp3,hg3⟩) ?_;refine Gz 16 ?_;refine xC rfl (Wt aF rfl (fun H hH=>aB (i:=8) hH.1 rfl)) ?_;refine Gz 4 ?_;refine xC rfl (Wt aF rfl (fun H hH=>aB (i:=9) hH.1 rfl)) ?_;refine Gz 3 ?_;obtain⟨mx,hmx⟩:∃ mx,mx=(if off-r.ino.1 7/128*128<0 then 0 else off-r.ino.1 7/128*128):=⟨_,rfl⟩
 rw[←hmx] at hrd;refine xC rfl (Wm (u:=iV mx) (XI rfl rfl) (by rw[hmx])) ?_;refine Gz 5 ?_;refine Wo rfl rfl (Wh Vs rfl (MR tp bo bc x.im po pc x.places (r.ino.1 8) (r.ino.1 9+mx) (m-D.1.length) (w3.drewN 1) (hf3.obj hts id) (v1.ZM (hf3.draws 1)) (by omega) (v2.ZM (hf3.draws 1)) (fun z hz=>by have:=hio.2.1 z hz;unfold bd;omega) (by unfold bd;omega) (by unfold bd;omega) (by unfold bd;omega)) rfl ?_);obtain⟨T,hT⟩:∃ T,T=dW x.im x.places (r.ino.1 8) (r.ino.1 9+mx) (m-D.1.length):=⟨_,rfl⟩
 rw[←hT] at hrd ⊢;rintro _ w4 ⟨o2,c2,rfl,ho2,hfr2,hf4⟩;have hf4:=hf4.ZK;refine Wu (by exact⟨hf4.obj hp3 id,hf4.obj hg3 id⟩) ?_;have hT63:=Cx x.im x.places (r.ino.1 8) (r.ino.1 9+mx) (m-D.1.length);rw[←hT] at hT63;refine fK 11 ?_ ?_<;>intro h138
 ·have hli:jS x ref off n=([],35):=by rw[hrd,ZP h138]
  refine Gz 12 ?_;rw[hli];exact⟨_,rfl,none,0,rfl,Zu,Zs,hf3.trans hf4⟩
 have hli:jS x ref off n=(D.1++T.1,0):=by rw[hrd,ZO h138]
 refine Gz 9 ?_;refine Wq aP aH rfl rfl (ho.ZM hf4) ho2.vw (by omega) (by unfold maxLen;omega) rfl ?_;intro o5 c5 w5 ho5 hf5 hr5 hn5;refine Gz 6 ?_;rw[hli];exact⟨_,rfl,o5,c5,rfl,ho5,aS hfr hr5 (hf3.trans hf4).size,(hf3.trans hf4).ZJ hf5 hfr.step⟩
theorem XsV.rows{D:Nat→Prop}{H:Array Obj}{o:Option Addr}{c n:Nat}{X:List Xa}(h:XsV D H ⟨o,n,c⟩ X):∃ ys:List (By×Hd),VwM 2 pY H o c ys∧ys.length=X.length∧∀ (i:Nat) (x:By×Hd) (y:Xa),ys[i]?=some x→X[i]?=some y→x.1=y.1∧x.2.n=y.2.length∧Vw b8 H x.2.a x.2.c y.2:=by
 obtain⟨_,ys,h1,h2,_,h4⟩:=h;exact⟨ys,h1,h2,fun i x y hx hy=>by obtain⟨a,b,c,_⟩:=h4 i x y hx hy;exact⟨a,b,c⟩⟩
theorem Mg(g:Nat)(x:Img)(ref:Int)(W:World)(hx:ImV W.heap g x)(href : -9223372036854775808≤ref∧ref≤9223372036854775807) :
 CA 42 [pT g,iV ref] W fun v w'=>∃ o c,v=.tuple #[.slice o (pS x ref).1.length c,iV (pS x ref).2]∧XsV (fun k=>W.heap.size≤k∧k<w'.heap.size) w'.heap ⟨o,(pS x ref).1.length,c⟩ (pS x ref).1∧fB (pS x ref).1∧aA nob W w':=by
 refine cS 41 [(0,_),(1,_)] Tryz.func42 ?_;refine cA 10 MW (mF g x ref W hx href) ?_;rintro _ w2 ⟨pq,e,rfl,hk,hw⟩;subst w2;refine fK 11 ?_ ?_<;>intro h17
 ·obtain⟨hkn,rfl,rfl⟩:=hk.resolve_right (fun⟨_,_,_,_,_,_,e0,_⟩=>h17 e0);have hli:pS x ref=([],1):=by unfold pS;rw[hkn]
  refine Gz 13 ?_;rw[hli];exact⟨_,rfl,none,0,rfl,XsV.zero,⟨fun i hi=>by simp at hi,ZZ _⟩,Zn _ _⟩
 obtain⟨r,nm,p,E,hkn,rfl,rfl,hrv,hrok⟩:=hk.resolve_left (fun h=>by have h:=h.2.2;omega);obtain⟨lo,lc,xo,xc,hpc,hvl,hvd,hvx,hx5⟩:=hrv;have hli:pS x ref=(r.xs,0):=by unfold pS;rw[hkn]
 have hmx:=hrok.2.2.2.2.2.2;obtain⟨ys,hys,hyl,hyv⟩:=hvx.rows;have hy63:=hys.ZL;refine Gz 11 ?_;rw[←hyl];refine Wh Vu rfl (Ks xo xc ys W hys (by have:=hmx.2;omega)) rfl ?_;rintro _ w3 ⟨o,c,rfl,ho,hfr,hf3⟩;refine Gz 12 ?_;refine Wp (β:=Nat×List (By×Hd)) (fun⟨i,zs⟩=>[(8,.slice o ys.length c),(25,iV ys.length),(26,iV i)]) (fun⟨i,zs⟩ w=>i≤ys.length∧zs.length=ys.length∧bJ 2 pY 183 w.heap o c zs∧(∀ j,i≤j→∀ q,ys[j]?=some q→zs[j]?=some q)∧(∀ (j:Nat) (z:By×Hd) (y:Xa),j<i→zs[j]?=some z→r.xs[j]?=some y→z.1=y.1∧z.2.n=y.2.length∧Vw b8 w.heap z.2.a z.2.c y.2∧∀ k,blk z.2.a k→W.heap.size≤k∧k<w.heap.size∧¬ blk o k)∧aA (blk o) w3 w) (fun⟨i,zs⟩=>ys.length-i) ⟨0,ys⟩ ⟨rfl,rfl,rfl,trivial⟩ ⟨ZZ _,rfl,ho,fun j _ q h=>h,fun j z y h=>by omega,Zn _ _⟩ ?_;rintro⟨i,zs⟩ w4 ⟨hi,hzl,ho4,hold,hnewz,hF4⟩;refine fK 2 ?_ ?_<;>intro h27
 ·have hil:i<ys.length:=by omega
  obtain⟨q,hq⟩:∃ q,ys[i]?=some q:=⟨_,ZQ hil⟩
  obtain⟨y,hy⟩:∃ y,r.xs[i]?=some y:=⟨_,ZQ (by omega)⟩
  obtain⟨y1,y2,y3⟩:=hyv i q y hq hy;have hzq:=hold i (Z0 _) q hq;have hov:=ho4.vw cE;have hg:y.2.length≤200:=by have:=(hmx.1 i (by omega)).2.2.2;rwa[show r.xs.getD i x0=y by rw[Z2,hy];rfl] at this
  refine Gz 19 ?_;refine cL (Wj iC rfl rfl (fun h=>hov.non (by rw[hzl];exact h)) (by omega)) ?_;refine Gz 1 ?_;refine cL (Wm (u:=.slice q.2.a y.2.length q.2.c) (Wk aX rfl (hov.rowZ i rfl hzq 1 _ rfl)) (by rw[←y2];rfl)) ?_;have hlo:=ho4.lt;have hnb:y.2≠[]→∀ a,q.2.a=some a→¬ blk o a.block:=fun hne a ha ⟨b,hb,e⟩=>by have h1:=hfr b hb;have h2:=y3.lt hne a ha;omega
  refine Wh G9 rfl (kB q.2.a q.2.c y.2 w4 ((y3.ZM hf3).keep' hF4 (fun hne a ha=>hnb hne a ha)) (by omega)) rfl ?_;rintro _ w5 ⟨o5,c5,rfl,ho5,hfr5,hf5⟩;have hz5:=hf5.size;have hz34:=hF4.size;have hz3:=hf3.size;refine cL (Wj iC rfl rfl (fun h=>hov.non (by rw[hzl];exact h)) (by omega)) ?_;refine Gz 1 ?_;refine XX cE (i:=i) (j:=1) (x':=((q.1,⟨o5,y.2.length,c5⟩):By×Hd)) hzq (by decide) rfl aX rfl (by rw[ak]) rfl rfl (ho4.ZM hf5) ?_;intro w6 ho6 hs6 hf6;have hl5:=ho5.lt;have hab:∀ k,blk o5 k→¬ blk o k:=fun k ⟨a,ha,e⟩ ⟨b,hb,e2⟩=>by have h1:=hfr5 a ha;have h2:=hlo b hb;omega
  have ho56:=ho5.vw.ZN hf6 (fun a ha=>hab _ ⟨a,ha,rfl⟩);refine Gz 7 ?_;refine aG ⟨i+1,zs.set i (q.1,⟨o5,y.2.length,c5⟩)⟩ ⟨by omega,by rw[cm];exact hzl,ho6,fun j hj p hp=>?_,fun j z y9 hj hz hy9=>?_,hF4.ZJ (hf5.any.trans hf6) (fun k h=>.inl h)⟩ (by show ys.length-(i+1)<ys.length-i;omega)
  ·rw[cg,ZO (by omega)];exact hold j (by omega) p hp
  · by_cases e:j=i
    · subst e
      rw[cg,ZP rfl,ZP (by omega)] at hz;cases hz;rw[hy] at hy9;cases hy9;exact⟨y1,rfl,ho56,fun k hk=>by obtain⟨a,ha,e⟩:=hk;have h1:=hfr5 a ha;have h2:=hl5 a ha;exact⟨by omega,by omega,hab k ⟨a,ha,e⟩⟩⟩
    · rw[cg,ZO (fun h=>e h.symm)] at hz
      obtain⟨a1,a2,a3,a4⟩:=hnewz j z y9 (by omega) hz hy9;exact⟨a1,a2,(a3.ZM hf5).ZN hf6 (fun a ha=>(a4 _ ⟨a,ha,rfl⟩).2.2),fun k hk=>by have:=a4 k hk;exact⟨this.1,by omega,this.2.2⟩⟩
 refine Gz 18 ?_;have hlo:=ho4.lt;rw[hli,hyl];exact⟨_,rfl,o,c,rfl,⟨rfl,zs,ho4.vw cE,by rw[hzl,hyl],fun _ k ⟨a,ha,e⟩=>by have h1:=hfr a ha;have h2:=hlo a ha;exact⟨by omega,by omega⟩,fun j z y hz hy=>by obtain⟨a1,a2,a3,a4⟩:=hnewz j z y (by have:=(ZS.1 hz).1;omega) hz hy;exact⟨a1,a2,a3,fun _ k hk=>by have:=a4 k hk;exact⟨this.1,this.2.1⟩⟩⟩,hmx,hf3.ZJ hF4 hfr.step⟩
theorem pL:(Tryz.prog.info? 137).map (fun i=>i.zero.map (·.cells))=some (some #[iV 0,iV 0,iV 0,iV 0,iV 0,iV 0,iV 0,iV 0,iV 0,iV 0,iV 0,iV 0,.string ByteArray.empty,sN,sN]):=by kernel_rfl
theorem Ru:(Tryz.prog.info? 134).map (fun i=>i.zero.map (·.cells))=some (some #[sN,iV 0,iV 0,iV 0,iV 0,iV 0,iV 0,iV 0,iV 0,iV 0,iV 0,sN,sN,sN,iV 0,iV 0,sN,iV 0,iV 0,sN,iV 0,iV 0,sN,iV 0]):=by kernel_rfl
abbrev QT:=(Rec×Int)×Hd×Hd
def eO(q:QT):List Value:=
 [iV q.1.1.ref,iV q.1.2,iV (q.1.1.ino.1 0),iV (q.1.1.ino.1 1),iV (q.1.1.ino.1 2),iV (q.1.1.ino.1 3),iV (q.1.1.ino.1 4),iV (q.1.1.ino.1 5),iV (q.1.1.ino.1 6),iV (q.1.1.ino.1 7),iV (q.1.1.ino.1 8),iV (q.1.1.ino.1 9),.string (bs q.1.1.ino.2),hd q.2.1,hd q.2.2]
theorem bL(q:QT):∀ v∈eO q,v.oneCell'=true:=by
 intro v hv;simp only[eO,aw,List.not_mem_nil,or_false] at hv;rcases hv with rfl|rfl|rfl|rfl|rfl|rfl|rfl|rfl|rfl|rfl|rfl|rfl|rfl|rfl|rfl<;>rfl
theorem eJ:iT 15 eO:=fun q=>⟨rfl,bL q⟩
def NlV(E:Nat→Prop)(H:Array Obj)(h:Hd)(l:List Ent):Prop:=h.n=l.length∧VwM 3 bH H h.a h.c l∧(l≠[]→∀ k,blk h.a k→E k)
theorem NlV.ZN{E S:Nat→Prop}{w w':World}{h:Hd}{l:List Ent}(v:NlV E w.heap h l)(f:aA S w w')(hS:∀ k,E k→¬ S k):NlV E w'.heap h l:=⟨v.1,v.2.1.keep' f (fun hne a ha=>hS _ (v.2.2 hne _ ⟨a,ha,rfl⟩)),v.2.2⟩
theorem NlV.mono{E E':Nat→Prop}{H:Array Obj}{h:Hd}{l:List Ent}(v:NlV E H h l)(he:∀ k,E k→E' k):NlV E' H h l:=⟨v.1,v.2.1,fun hne k hk=>he k (v.2.2 hne k hk)⟩
def QV(E:Nat→Prop)(H:Array Obj)(q:QT):Prop:=NlV E H q.2.1 q.1.1.list∧XsV E H q.2.2 q.1.1.xs
theorem QV.ZN{E S:Nat→Prop}{w w':World}{q:QT}(v:QV E w.heap q)(f:aA S w w')(hS:∀ k,E k→¬ S k):QV E w'.heap q:=⟨v.1.ZN f hS,v.2.ZN f hS⟩
theorem QV.mono{E E':Nat→Prop}{H:Array Obj}{q:QT}(v:QV E H q)(he:∀ k,E k→E' k):QV E' H q:=⟨v.1.mono he,v.2.mono he⟩
def miC(bo:Option Addr)(bl bc:Nat)(F:Nat→Int)(pv iv lv:Value)(nm:Int):List Value:=
 [.slice bo bl bc,iV (F 0),iV (F 1),iV (F 2),iV (F 3),iV (F 4),iV (F 5),iV (F 6),iV (F 7),iV (F 8),iV (F 9),pv,iv,.slice bo bl bc,iV (F 2),iV (F 3),.slice bo bl bc,iV (F 3),iV (F 4),.slice bo bl bc,iV (F 6),iV (F 0),lv,iV nm]
def MrV(ow:Nat→Nat)(H:Array Obj)(g:Nat)(im:By)(F:Nat→Int)(P ids:List Int)(s:MSt):Prop:=
 ∃ bo bc po pc io ic lo lc,∃ qs:List QT,
  H[g]?=some (.cells (miC bo im.length bc F (.slice po P.length pc) (.slice io ids.length ic) (.slice lo qs.length lc) s.2).toArray 134 (0,0)) ∧
  (Vw b8 H bo bc im∧∀ k,blk bo k→ow k=4)∧(Vw i64 H po pc P∧∀ k,blk po k→ow k=4)∧(Vw i64 H io ic ids∧∀ k,blk io k→ow k=4) ∧
  bJ 15 eO 137 H lo lc qs∧(∀ k,blk lo k→ow k=5)∧qs.map (·.1)=s.1∧(∀ q∈qs,QV (fun k=>ow k=4) H q)∧ow g=6
theorem MrV.ZN{ow:Nat→Nat}{S:Nat→Prop}{w w':World}{g:Nat}{im:By}{F:Nat→Int}{P ids:List Int}{s:MSt}(h:MrV ow w.heap g im F P ids s)(f:aA S w w')(hS:∀ k,S k→ow k=0):MrV ow w'.heap g im F P ids s:=by
 obtain⟨bo,bc,po,pc,io,ic,lo,lc,qs,hg,⟨v1,l1⟩,⟨v2,l2⟩,⟨v3,l3⟩,ho,hl,hq,hqs,o1⟩:=h;have key:∀ n k,n≠0→ow k=n→¬ S k:=fun n k hn0 h e=>by have:=hS k e;omega
 exact⟨bo,bc,po,pc,io,ic,lo,lc,qs,f.obj hg (key 6 g (by decide) o1),⟨v1.ZN f (fun a ha=>key 4 _ (by decide) (l1 _ ⟨a,ha,rfl⟩)),l1⟩,⟨v2.ZN f (fun a ha=>key 4 _ (by decide) (l2 _ ⟨a,ha,rfl⟩)),l2⟩,⟨v3.ZN f (fun a ha=>key 4 _ (by decide) (l3 _ ⟨a,ha,rfl⟩)),l3⟩,
  ho.ZN f (fun a ha=>key 5 _ (by decide) (hl _ ⟨a,ha,rfl⟩)),hl,hq,fun q hm=>(hqs q hm).ZN f (fun k hk=>key 4 k (by decide) hk),o1⟩
theorem MrV.ZM{ow:Nat→Nat}{w w':World}{g:Nat}{im:By}{F:Nat→Int}{P ids:List Int}{s:MSt}(h:MrV ow w.heap g im F P ids s)(f:aA nob w w'):MrV ow w'.heap g im F P ids s:=h.ZN f (fun _ h=>h.elim)
def atZ(l:List (Rec×Int))(ref:Int):Int:=match fL l ref with
|some i=>i
|none=>-1
theorem Q2{l:List (Rec×Int)}{ref:Int}{i:Nat}{r:Rec×Int}(hr:l[i]?=some r)(h:r.1.ref=ref)(hno:∀ (j:Nat) (t:Rec×Int),j<i→l[j]?=some t→t.1.ref≠ref):fL l ref=some i:=by
 unfold fL;rw[cw];obtain⟨hi,rfl⟩:=ZS.1 hr;exact⟨hi,Z3 h,fun j hj=>by have:=hno j l[j] hj (ZQ (by omega));simp[this]⟩
theorem Q1{l:List (Rec×Int)}{ref:Int}(hno:∀ (j:Nat) (t:Rec×Int),l[j]?=some t→t.1.ref≠ref):fL l ref=none:=by
 unfold fL;rw[dk];intro x hx;obtain⟨j,hj⟩:=ab hx;simp[hno j x hj]
theorem H7(ow:Nat→Nat)(g:Nat)(im:By)(F:Nat→Int)(P ids:List Int)(s:MSt)(ref:Int)(W:World)(hM:MrV ow W.heap g im F P ids s) :
 CA 127 [pT g,iV ref] W fun v w'=>v=iV (atZ s.1 ref)∧w'=W:=by
 obtain⟨bo,bc,po,pc,io,ic,lo,lc,qs,hg,_,_,_,ho,hl,hq,hqs,o1⟩:=hM;have hv:=ho.vw eJ;have h63:=hv.ZL;refine cS 26 [(0,_),(1,_)] Tryz.func127 ?_;refine Gz 12 ?_;refine Wp (β:=Nat) (fun i=>[(0,pT g),(1,iV ref),(5,iV i)]) (fun i w=>i≤qs.length∧(∀ (j:Nat) (t:Rec×Int),j<i→s.1[j]?=some t→t.1.ref≠ref)∧w=W) (fun i=>qs.length-i) 0 ⟨rfl,rfl,rfl,trivial⟩ ⟨ZZ _,fun j t hj=>by omega,rfl⟩ ?_;rintro i w ⟨hi,hno,hw⟩;subst w;refine fK 9 ?_ ?_<;>intro h12
 ·have hil:i<qs.length:=by omega
  obtain⟨q,hqi⟩:∃ q,qs[i]?=some q:=⟨_,ZQ hil⟩
  have hri:s.1[i]?=some q.1:=by rw[←hq,ax,hqi];rfl
  refine Gz 14 ?_;refine cL (Wj qF rfl rfl hv.non (by omega)) ?_;refine Gz 1 ?_;refine cL (Wk aF rfl (hv.rowZ i rfl hqi 0 _ rfl)) ?_;refine fK 1 ?_ ?_<;>intro h24
  ·have hres:atZ s.1 ref=(i:Int):=by unfold atZ;rw[Q2 hri h24 hno]
   refine Gz 16 ?_;exact⟨_,rfl,by rw[hres],rfl⟩
  have hne:q.1.1.ref≠ref:=h24;refine Gz 11 ?_;refine aG (i+1) ⟨by omega,fun j t hj ht=>?_,rfl⟩ (by show qs.length-(i+1)<qs.length-i;omega);by_cases e:j=i
  ·subst e;rw[hri] at ht;cases ht;exact hne
  ·exact hno j t (by omega) ht
 refine Gz 15 ?_;have hres:atZ s.1 ref = -1:=by
  unfold atZ;rw[Q1 (fun j t ht=>hno j t (by have:=(ZS.1 ht).1;rw[←hq,aa] at this;omega) ht)]
 exact⟨_,rfl,by rw[hres],rfl⟩
def Wc(W:World)(r:Option Rec)(v:Value)(w':World):Prop:=aA nob W w'∧∃ (q:QT) (b:Bool),v=.tuple #[.agg (eO q).toArray,.bool b]∧((b=false∧r=none)∨(b=true∧r=some q.1.1∧q.1.2=1∧QV (fun k=>W.heap.size≤k∧k<w'.heap.size) w'.heap q))
theorem Mc(g:Nat)(bo po io:Option Addr)(bc pl pc ic:Nat)(lv:Value)(im:By)(F:Nat→Int)(ids:List Int)(nm ref kind:Int)(W:World)
 (hg:W.heap[g]?=some (.cells (miC bo im.length bc F (.slice po pl pc) (.slice io ids.length ic) lv nm).toArray 134 (0,0)))(hv:Vw b8 W.heap bo bc im)(hb:im.length≤1073741824)(href:0≤ref∧ref≤4294967295) :
 CA 128 [pT g,iV ref,iV kind] W (Wc W (eV im F ids ref kind)):=by
 have hgl:=(Z1.1 hg).1;obtain⟨R,hR⟩:∃ R,R=bQ im (F 2) (F 3) ref:=⟨_,rfl⟩
 obtain⟨z,ez⟩:∃ z,z=W.heap.size:=⟨_,rfl⟩
 refine cS 150 [(0,_),(1,_),(2,_)] Tryz.func128 ?_;refine Gz 2 ?_;refine Wn pL rfl ?_;intro w1 hg1 hs1 hf1;have hg1:w1.heap[W.heap.size]?=some (.cells (eO ((qN,0),hd0,hd0)).toArray 137 (0,0)):=hg1;rw[←ez] at hg1 ⊢;refine Gz 9 ?_;refine Wh SI rfl (GC ((⟨g,0,none⟩:Addr).add 13) bo bc im (F 2) (F 3) ref w1 ⟨⟨aB (i:=13) (hf1.obj hg id) rfl,aB (i:=14) (hf1.obj hg id) rfl,aB (i:=15) (hf1.obj hg id) rfl⟩,hv.ZM hf1⟩ (by omega) (by omega)) rfl ?_;rw[←hR];rintro _ w2 ⟨rfl,hf2⟩;have hF2:=hf1.trans hf2;have hz2:=hf2.size;refine Gz 4 ?_;refine Wn mO rfl ?_;intro w3 hg3 hs3 hf3;obtain⟨a,ea⟩:∃ a,a=w2.heap.size:=⟨_,rfl⟩
 rw[←ea] at hg3 ⊢;refine sA rfl bM (by intro v hv;exact bY _ _ v hv) hg3 ?_;intro w4 hg4 hs4 hf4;have hF4:aA nob W w4:=(hF2.trans hf3).tw hf4;have hz4a:w4.heap[z]?=some (.cells (eO ((qN,0),hd0,hd0)).toArray 137 (0,0)):=hf4.obj ((hf2.trans hf3).obj hg1 id) (fun e=>by have e:z=a:=e;omega);refine Gz 7 ?_;refine cL (Ws (cs:=aN R.1.1 R.1.2) bM rfl (aQ hg4 0 rfl)) ?_;refine cL (bU (eO ((⟨ref,R.1,[],[]⟩,1),hd0,hd0)) LS pL) ?_;refine Wn pL rfl ?_;intro w5 hg5 hs5 hf5;obtain⟨b,eb⟩:∃ b,b=w4.heap.size:=⟨_,rfl⟩
 rw[←eb] at hg5 ⊢;refine sA rfl aM (by exact bL _) hg5 ?_;intro w6 hg6 hs6 hf6;have hf46:aA nob w4 w6:=hf5.tw hf6;have hF6:=hF4.trans hf46;have hga6:=hf46.obj hg4 id;have hz6:=hf46.obj hz4a id;have hgA:=hF6.obj hg id;refine Gz 4 ?_;refine Ww 38 [0,1,2,3,4,5,6,7,8,9,10,11,12,13,14,15,16,17,18,19,20,21,22,23,24,25,26,27,28,29,30,31,32,33,34,35,36,37] aK (by kernel_rfl) ?_;refine xK 1 ?_ ?_<;>intro h34
 ·have hbad:kR F ids R kind:=.inl h34;refine Gz 41 ?_;refine cL (Ws (cs:=eO ((⟨ref,R.1,[],[]⟩,1),hd0,hd0)) aM rfl (aQ hg6 0 rfl)) ?_;refine sA rfl aM (by exact bL _) hz6 ?_;intro w9 hg9 hs9 hf9;have hFw:aA nob W w9:=hF6.tw hf9.ZK;have hno:=jG (im:=im) (ref:=ref) (by rw[←hR];exact hbad);refine Gz 5 ?_;refine rC hg9 aM ?_;exact⟨_,rfl,hFw,_,false,rfl,.inl ⟨rfl,hno⟩⟩
 have e0:R.2.2=0:=Z5.1 h34;have hmay:fI R.1.1 R.1.2:=by rw[hR] at e0 ⊢;exact AF e0
 have hma:=hmay.1;unfold bG at hma;refine Gz 2 ?_;refine xV rfl (Wk aF rfl (aB hga6 rfl)) ?_;refine xW 1 ?_ ?_<;>intro h39
 ·have hbad:kR F ids R kind:=.inr (.inl h39);refine Gz 36 ?_;refine cL (Ws (cs:=eO ((⟨ref,R.1,[],[]⟩,1),hd0,hd0)) aM rfl (aQ hg6 0 rfl)) ?_;refine sA rfl aM (by exact bL _) hz6 ?_;intro w9 hg9 hs9 hf9;have hFw:aA nob W w9:=hF6.tw hf9.ZK;have hno:=jG (im:=im) (ref:=ref) (by rw[←hR];exact hbad);refine Gz 5 ?_;refine rC hg9 aM ?_;exact⟨_,rfl,hFw,_,false,rfl,.inl ⟨rfl,hno⟩⟩
 refine Gz 3 ?_;refine xV rfl (Wk aF rfl (aB hga6 rfl)) ?_;refine Gz 3 ?_;refine xV rfl (Wk mU rfl (aB hgA rfl)) ?_;refine xW 1 ?_ ?_<;>intro h49
 ·have hbad:kR F ids R kind:=.inr (.inr (.inl (by omega)));refine Gz 26 ?_;refine cL (Ws (cs:=eO ((⟨ref,R.1,[],[]⟩,1),hd0,hd0)) aM rfl (aQ hg6 0 rfl)) ?_;refine sA rfl aM (by exact bL _) hz6 ?_;intro w9 hg9 hs9 hf9;have hFw:aA nob W w9:=hF6.tw hf9.ZK;have hno:=jG (im:=im) (ref:=ref) (by rw[←hR];exact hbad);refine Gz 5 ?_;refine rC hg9 aM ?_;exact⟨_,rfl,hFw,_,false,rfl,.inl ⟨rfl,hno⟩⟩
 refine Gz 3 ?_;refine xV rfl (Wk aF rfl (aB hga6 rfl)) ?_;refine Gz 3 ?_;refine xV rfl (Wk mU rfl (aB hgA rfl)) ?_;refine xW 1 ?_ ?_<;>intro h59
 ·have hbad:kR F ids R kind:=.inr (.inr (.inr (.inl (by omega))));refine Gz 16 ?_;refine cL (Ws (cs:=eO ((⟨ref,R.1,[],[]⟩,1),hd0,hd0)) aM rfl (aQ hg6 0 rfl)) ?_;refine sA rfl aM (by exact bL _) hz6 ?_;intro w9 hg9 hs9 hf9;have hFw:aA nob W w9:=hF6.tw hf9.ZK;have hno:=jG (im:=im) (ref:=ref) (by rw[←hR];exact hbad);refine Gz 5 ?_;refine rC hg9 aM ?_;exact⟨_,rfl,hFw,_,false,rfl,.inl ⟨rfl,hno⟩⟩
 refine Gz 3 ?_;refine xV rfl (Wk aF rfl (aB hga6 rfl)) ?_;refine Gz 4 ?_;refine xV rfl (Wk aF rfl (aB (i:=9) hgA rfl)) ?_;refine xW 0 ?_ ?_<;>intro h69
 ·have hbad:kR F ids R kind:=.inr (.inr (.inr (.inr h69)));refine Gz 6 ?_;refine cL (Ws (cs:=eO ((⟨ref,R.1,[],[]⟩,1),hd0,hd0)) aM rfl (aQ hg6 0 rfl)) ?_;refine sA rfl aM (by exact bL _) hz6 ?_;intro w9 hg9 hs9 hf9;have hFw:aA nob W w9:=hF6.tw hf9.ZK;have hno:=jG (im:=im) (ref:=ref) (by rw[←hR];exact hbad);refine Gz 5 ?_;refine rC hg9 aM ?_;exact⟨_,rfl,hFw,_,false,rfl,.inl ⟨rfl,hno⟩⟩
 have hgood:¬ kR F ids R kind:=by
  rintro(h|h|h|h|h)
  ·exact h34 h
  ·exact h39 h
  ·omega
  ·omega
  ·exact h69 h
 refine Gz 6 ?_;refine WL (β:=Hd) (fun hx=>[(0,pT g),(1,iV ref),(2,iV kind),(6,pT z),(8,pT a),(11,pT b)]) (fun hx w=>(cP im F (R.1.1 5)).2=0∧w.heap[b]?=some (.cells (eO ((⟨ref,R.1,[],(cP im F (R.1.1 5)).1⟩,1),hd0,hx)).toArray 137 (0,0))∧XsV (fun k=>w6.heap.size≤k∧k<w.heap.size) w.heap hx (cP im F (R.1.1 5)).1∧aA (· = b) w6 w) ?_ ?_
 ·refine fK 4 ?_ ?_<;>intro h74
  ·have hrx:=ED (im:=im) (F:=F) h74;refine Gz 4 ?_;refine Wv 12 (fun H=>H[a]?=some (.cells (aN R.1.1 R.1.2).toArray 84 (0,0))) [6] [0,1,2,3,4,5,6,7,8,9,10,11] aK (by kernel_rfl) (hga6) ?_;refine Gz 6 ?_;refine Wo rfl rfl (Wh SH rfl (Bl ((⟨g,0,none⟩:Addr).add 19) bo bc im (F 6) (F 0) (R.1.1 5-1) _ ⟨⟨aB (i:=19) hgA rfl,aB (i:=20) hgA rfl,aB (i:=21) hgA rfl⟩,hv.ZM ((hF6.draws 1).draws 1)⟩ hb (by constructor<;>omega)) rfl ?_);rw[←hrx];rintro _ w7 ⟨xo,xc,rfl,hX,hX5,hf7⟩;have hf7:=hf7.ZK.ZK;refine Wu (by exact hf7.obj hga6 id) ?_;refine fK 11 ?_ ?_<;>intro h86
   ·have hno:=BZ (im:=im) (ref:=ref) (by rw[←hR];exact hgood) (by rw[←hR];exact h86);refine Gz 5 ?_;refine cL (Ws (cs:=eO ((⟨ref,R.1,[],[]⟩,1),hd0,hd0)) aM rfl (aQ (hf7.obj hg6 id) 0 rfl)) ?_;refine sA rfl aM (by exact bL _) (hf7.obj hz6 id) ?_;intro w9 hg9 hs9 hf9;have hFw:aA nob W w9:=(hF6.trans hf7).tw hf9;refine Gz 6 ?_;refine rC hg9 aM ?_;exact⟨_,rfl,hFw,_,false,rfl,.inl ⟨rfl,hno⟩⟩
   have ex:(cP im F (R.1.1 5)).2=0:=Z5.1 h86;refine Gz 8 ?_;refine Wl eK rfl rfl rfl (hf7.obj hg6 id) rfl ?_;intro w8 hg8 hs8 hf8;refine Gz 1 ?_;refine aC ⟨xo,(cP im F (R.1.1 5)).1.length,xc⟩ ⟨ex,hg8,(hX.ZN hf8 (fun k hk e=>by have e:k=b:=e;have h7:w6.heap.size≤k:=hk.1;omega)).mono (fun k hk=>⟨hk.1,by have:=hk.2;omega⟩),hf7.any.trans hf8⟩
  have hrx:=EE (im:=im) (F:=F) h74;refine Gz 4 ?_;refine aC hd0 ⟨by rw[hrx],by rw[hrx];exact hg6,by rw[hrx];exact XsV.zero,Zo 1⟩
 rintro hx w7 ⟨ex,hq7,hX7,hf7⟩;have hs7:=hf7.size;have hgb:¬ g=b:=by omega
 have hg7:=hf7.obj hgA hgb;have ha7:=hf7.obj hga6 (fun e=>by have e:a=b:=e;omega);have hz7:=hf7.obj hz6 (fun e=>by have e:z=b:=e;omega);have hF7:aA nob W w7:=hF6.tw hf7;have hvb:=hv.ZM hF7;refine fK 4 ?_ ?_<;>intro h91
 ·have hk2:kind=2:=h91;refine fW 3 ?_ ?_<;>intro h95
  ·refine Gz 5 ?_;refine Wv 19 (fun H=>H[g]?=some (.cells (miC bo im.length bc F (.slice po pl pc) (.slice io ids.length ic) lv nm).toArray 134 (0,0))∧H[a]?=some (.cells (aN R.1.1 R.1.2).toArray 84 (0,0))) [13] [0,1,2,3,4,5,6,7,8,9,10,11,12,13,14,15,16,17,18] aK (by kernel_rfl) (⟨hg7,ha7⟩) ?_;refine Gz 12 ?_;refine xC rfl (Wt aF rfl (fun H hH=>aB (i:=3) hH.1 rfl)) ?_;refine Wo rfl rfl (Wh SG rfl (Js bo bc im (R.1.1 6) (R.1.1 7) (F 2) (w7.drewN 1) (hvb.ZM (Zo 1)) (by omega) (by omega)) rfl ?_);rintro _ w8 ⟨rfl,hf8⟩;have hf8:=hf8.ZK;refine Wu (by exact⟨hf8.obj hg7 id,hf8.obj ha7 id⟩) ?_;have ha8:=hf8.obj ha7 id;have hq8:=hf8.obj hq7 id;have hz8:=hf8.obj hz7 id;have hX8:=hX7.ZN hf8 (fun _ _=>id);have hs8:=hf8.size;refine fK 10 ?_ ?_<;>intro h115
   ·refine Gz 10 ?_;refine cL (Ws (cs:=eO ((⟨ref,R.1,[],(cP im F (R.1.1 5)).1⟩,1),hd0,hx)) aM rfl (aQ hq8 0 rfl)) ?_;refine sA rfl aM (by exact bL _) hz8 ?_;intro w9 hg9 hs9 hf9;have hFw:aA nob W w9:=(hF7.trans hf8).tw hf9;have hno:=rT (im:=im) (F:=F) (ids:=ids) (ref:=ref) (by rw[←hR];exact hgood) (by rw[←hR];exact ex) hk2 (by rw[←hR];exact⟨h95,by first|exact .inl h115|exact .inr h119⟩);refine Gz 5 ?_;refine rC hg9 aM ?_;exact⟨_,rfl,hFw,_,false,rfl,.inl ⟨rfl,hno⟩⟩
   refine fW 3 ?_ ?_<;>intro h119
   ·refine Gz 6 ?_;refine cL (Ws (cs:=eO ((⟨ref,R.1,[],(cP im F (R.1.1 5)).1⟩,1),hd0,hx)) aM rfl (aQ hq8 0 rfl)) ?_;refine sA rfl aM (by exact bL _) hz8 ?_;intro w9 hg9 hs9 hf9;have hFw:aA nob W w9:=(hF7.trans hf8).tw hf9;have hno:=rT (im:=im) (F:=F) (ids:=ids) (ref:=ref) (by rw[←hR];exact hgood) (by rw[←hR];exact ex) hk2 (by rw[←hR];exact⟨h95,by first|exact .inl h115|exact .inr h119⟩);refine Gz 5 ?_;refine rC hg9 aM ?_;exact⟨_,rfl,hFw,_,false,rfl,.inl ⟨rfl,hno⟩⟩
   have hnb:¬ yB im F R.1.1:=fun h=>h.2.elim h115 h119;refine Gz 10 ?_;refine cL (W8 (Xn rfl rfl) (by omega)) ?_;refine Gz 7 ?_;refine cL (Ws (cs:=eO ((⟨ref,R.1,[],(cP im F (R.1.1 5)).1⟩,1),hd0,hx)) aM rfl (aQ hq8 0 rfl)) ?_;refine sA rfl aM (by exact bL _) hz8 ?_;intro w9 hg9 hs9 hf9;refine Gz 4 ?_;refine rC hg9 aM ?_;have hrec:eV im F ids ref kind=some ⟨ref,R.1,[],(cP im F (R.1.1 5)).1⟩:=by
    rw[hR];exact rS (by rw[←hR];exact hgood) (by rw[←hR];exact ex) hk2 (by rw[←hR];exact hnb)
   obtain⟨wp,hFp,hXp,hfp⟩:∃ wp,aA nob W wp∧XsV (fun k=>w6.heap.size≤k∧k<w7.heap.size) wp.heap hx (cP im F (R.1.1 5)).1∧(aA (· = z) wp w9∧w7.heap.size≤wp.heap.size):=by
    exact⟨w8,hF7.trans hf8,hX8,hf9,hs8⟩
   have hs9b:=hfp.1.size;exact⟨_,rfl,hFp.tw hfp.1,_,true,rfl,.inr ⟨rfl,hrec,rfl,⟨rfl,Zx 0 (ZZ _),fun h=>absurd rfl h⟩,(hXp.ZN hfp.1 (fun k hk e=>by have h7:=hk.1;have e:k=z:=e;omega)).mono (fun k hk=>⟨by have:=hk.1;omega,by have:=hk.2;omega⟩)⟩⟩
  have hnb:¬ yB im F R.1.1:=fun h=>h95 h.1;refine fK 10 ?_ ?_<;>intro h123
  ·have hk1:kind=1:=h123;refine Gz 4 ?_;refine Wv 15 (fun H=>H[g]?=some (.cells (miC bo im.length bc F (.slice po pl pc) (.slice io ids.length ic) lv nm).toArray 134 (0,0))∧H[a]?=some (.cells (aN R.1.1 R.1.2).toArray 84 (0,0))) [7] [0,1,2,3,4,5,6,7,8,9,10,11,12,13,14] aK (by kernel_rfl) (⟨hg7,ha7⟩) ?_;refine Gz 7 ?_;refine Wo rfl rfl (Wh oM rfl (iN ((⟨g,0,none⟩:Addr).add 16) bo bc im (F 3) (F 4) (R.1.1 6) (R.1.1 7) (w7.drewN 1) ⟨⟨aB (i:=16) hg7 rfl,aB (i:=17) hg7 rfl,aB (i:=18) hg7 rfl⟩,hvb.ZM (Zo 1)⟩ (by omega) (by omega) (by omega)) rfl ?_);obtain⟨S,hS⟩:∃ S,S=aD im (F 3) (F 4) (R.1.1 6) (R.1.1 7):=⟨_,rfl⟩
   rw[←hS];rintro _ w8 ⟨so,sc,rfl,hso,hsf,hf8⟩;have hf8:=hf8.ZK;refine Wu (by exact⟨hf8.obj hg7 id,hf8.obj ha7 id⟩) ?_;have hq8:=hf8.obj hq7 id;have hz8:=hf8.obj hz7 id;have hX8:=hX7.ZN hf8 (fun _ _=>id);refine fK 13 ?_ ?_<;>intro h137
   ·have hno:=lP (im:=im) (ref:=ref) (by rw[←hR];exact hgood) (by rw[←hR];exact ex) hk1 (by rw[←hR];unfold nK;rw[←hS,ZP h137];decide);refine Gz 5 ?_;refine cL (Ws (cs:=eO ((⟨ref,R.1,[],(cP im F (R.1.1 5)).1⟩,1),hd0,hx)) aM rfl (aQ hq8 0 rfl)) ?_;refine sA rfl aM (by exact bL _) hz8 ?_;intro w9 hg9 hs9 hf9;have hFw:aA nob W w9:=(hF7.trans hf8).tw hf9;refine Gz 6 ?_;refine rC hg9 aM ?_;exact⟨_,rfl,hFw,_,false,rfl,.inl ⟨rfl,hno⟩⟩
   have hlr:nK im F R.1.1=fA S.1:=by unfold nK;rw[←hS,ZO h137]
   refine Gz 8 ?_;refine Wh P6 rfl (B4 so sc S.1 w8 hso.vw (by omega)) rfl ?_;rintro _ w10 ⟨lo,lc,rfl,hlo,hlf,hf10⟩;have hq10:=hf10.obj hq8 id;have hz10:=hf10.obj hz8 id;refine fK 11 ?_ ?_<;>intro h145
   ·have hno:=lP (im:=im) (ref:=ref) (by rw[←hR];exact hgood) (by rw[←hR];exact ex) hk1 (by rw[←hR,hlr];exact h145);refine Gz 5 ?_;refine cL (Ws (cs:=eO ((⟨ref,R.1,[],(cP im F (R.1.1 5)).1⟩,1),hd0,hx)) aM rfl (aQ hq10 0 rfl)) ?_;refine sA rfl aM (by exact bL _) hz10 ?_;intro w9 hg9 hs9 hf9;have hFw:aA nob W w9:=((hF7.trans hf8).trans hf10).tw hf9;refine Gz 6 ?_;refine rC hg9 aM ?_;exact⟨_,rfl,hFw,_,false,rfl,.inl ⟨rfl,hno⟩⟩
   have es2:(fA S.1).2=0:=Z5.1 h145;refine Gz 8 ?_;refine Wl HP rfl rfl rfl hq10 rfl ?_;intro w11 hg11 hs11 hf11;have hz11:=hf11.obj hz10 (fun e=>by have e:z=b:=e;omega);have hq11:w11.heap[b]?=some (.cells (eO ((⟨ref,R.1,(fA S.1).1,(cP im F (R.1.1 5)).1⟩,1),⟨lo,(fA S.1).1.length,lc⟩,hx)).toArray 137 (0,0)):=hg11;refine Gz 4 ?_;refine cL (Ws (cs:=eO ((⟨ref,R.1,(fA S.1).1,(cP im F (R.1.1 5)).1⟩,1),⟨lo,(fA S.1).1.length,lc⟩,hx)) aM rfl (aQ hq11 0 rfl)) ?_;refine sA rfl aM (by exact bL _) hz11 ?_;intro w9 hg9 hs9 hf9;refine Gz 4 ?_;refine rC hg9 aM ?_;have hrec:eV im F ids ref kind=some ⟨ref,R.1,(fA S.1).1,(cP im F (R.1.1 5)).1⟩:=by rw[hR];rw[hR] at hlr;rw[←hlr];exact Aa (by rw[←hR];exact hgood) (by rw[←hR];exact ex) hk1 (by rw[hlr];exact es2)
   have hlt:=hlo.lt;have hf89:aA (fun k=>k=b∨k=z) w8 w9:=(hf10.any.trans (hf11.mono (fun k h=>.inl h))).trans (hf9.mono (fun k h=>.inr h));exact⟨_,rfl,((hF7.trans hf8).ZJ hf89 (fun k hk=>.inr (by rcases hk with h|h<;>omega))),_,true,rfl,.inr ⟨rfl,hrec,rfl,⟨rfl,((hlo.ZN hf11 (fun x hx e=>by have:=hlf x hx;have e:x.block=b:=e;omega)).ZN hf9 (fun x hx e=>by have:=hlf x hx;have e:x.block=z:=e;omega)).vw bA,fun _ k ⟨x,hx,e⟩=>by have h1:=hlf x hx;have h2:=hlt x hx;exact⟨by omega,by omega⟩⟩,(hX8.ZN hf89 (fun k hk e=>by have h7:=hk.1;rcases e with e|e<;>omega)).mono (fun k hk=>⟨by have:=hk.1;omega,by have:=hk.2;omega⟩)⟩⟩
  refine Gz 7 ?_;refine cL (Ws (cs:=eO ((⟨ref,R.1,[],(cP im F (R.1.1 5)).1⟩,1),hd0,hx)) aM rfl (aQ hq7 0 rfl)) ?_;refine sA rfl aM (by exact bL _) hz7 ?_;intro w9 hg9 hs9 hf9;refine Gz 4 ?_;refine rC hg9 aM ?_;have hrec:eV im F ids ref kind=some ⟨ref,R.1,[],(cP im F (R.1.1 5)).1⟩:=by
   rw[hR];exact rS (by rw[←hR];exact hgood) (by rw[←hR];exact ex) hk2 (by rw[←hR];exact hnb)
  obtain⟨wp,hFp,hXp,hfp⟩:∃ wp,aA nob W wp∧XsV (fun k=>w6.heap.size≤k∧k<w7.heap.size) wp.heap hx (cP im F (R.1.1 5)).1∧(aA (· = z) wp w9∧w7.heap.size≤wp.heap.size):=by
   exact⟨w7,hF7,hX7,hf9,Z0 _⟩
  have hs9b:=hfp.1.size;exact⟨_,rfl,hFp.tw hfp.1,_,true,rfl,.inr ⟨rfl,hrec,rfl,⟨rfl,Zx 0 (ZZ _),fun h=>absurd rfl h⟩,(hXp.ZN hfp.1 (fun k hk e=>by have h7:=hk.1;have e:k=z:=e;omega)).mono (fun k hk=>⟨by have:=hk.1;omega,by have:=hk.2;omega⟩)⟩⟩
 have hk2:¬ kind=2:=h91;refine fK 14 ?_ ?_<;>intro h123
 ·have hk1:kind=1:=h123;refine Gz 4 ?_;refine Wv 15 (fun H=>H[g]?=some (.cells (miC bo im.length bc F (.slice po pl pc) (.slice io ids.length ic) lv nm).toArray 134 (0,0))∧H[a]?=some (.cells (aN R.1.1 R.1.2).toArray 84 (0,0))) [7] [0,1,2,3,4,5,6,7,8,9,10,11,12,13,14] aK (by kernel_rfl) (⟨hg7,ha7⟩) ?_;refine Gz 7 ?_;refine Wo rfl rfl (Wh oM rfl (iN ((⟨g,0,none⟩:Addr).add 16) bo bc im (F 3) (F 4) (R.1.1 6) (R.1.1 7) (w7.drewN 1) ⟨⟨aB (i:=16) hg7 rfl,aB (i:=17) hg7 rfl,aB (i:=18) hg7 rfl⟩,hvb.ZM (Zo 1)⟩ (by omega) (by omega) (by omega)) rfl ?_);obtain⟨S,hS⟩:∃ S,S=aD im (F 3) (F 4) (R.1.1 6) (R.1.1 7):=⟨_,rfl⟩
  rw[←hS];rintro _ w8 ⟨so,sc,rfl,hso,hsf,hf8⟩;have hf8:=hf8.ZK;refine Wu (by exact⟨hf8.obj hg7 id,hf8.obj ha7 id⟩) ?_;have hq8:=hf8.obj hq7 id;have hz8:=hf8.obj hz7 id;have hX8:=hX7.ZN hf8 (fun _ _=>id);have hs8:=hf8.size;refine fK 13 ?_ ?_<;>intro h137
  ·have hno:=lP (im:=im) (ref:=ref) (by rw[←hR];exact hgood) (by rw[←hR];exact ex) hk1 (by rw[←hR];unfold nK;rw[←hS,ZP h137];decide);refine Gz 5 ?_;refine cL (Ws (cs:=eO ((⟨ref,R.1,[],(cP im F (R.1.1 5)).1⟩,1),hd0,hx)) aM rfl (aQ hq8 0 rfl)) ?_;refine sA rfl aM (by exact bL _) hz8 ?_;intro w9 hg9 hs9 hf9;have hFw:aA nob W w9:=(hF7.trans hf8).tw hf9;refine Gz 6 ?_;refine rC hg9 aM ?_;exact⟨_,rfl,hFw,_,false,rfl,.inl ⟨rfl,hno⟩⟩
  have es:S.2.2=0:=Z5.1 h137;have hSl:(S.1.length:Int)=R.1.1 7:=by rw[hS] at es ⊢;exact(cJ es).2.2.2.1
  have hlr:nK im F R.1.1=fA S.1:=by unfold nK;rw[←hS,ZO h137]
  refine Gz 8 ?_;refine Wh P6 rfl (B4 so sc S.1 w8 hso.vw (by omega)) rfl ?_;rintro _ w10 ⟨lo,lc,rfl,hlo,hlf,hf10⟩;have hs10:=hf10.size;have hq10:=hf10.obj hq8 id;have hz10:=hf10.obj hz8 id;refine fK 11 ?_ ?_<;>intro h145
  ·have hno:=lP (im:=im) (ref:=ref) (by rw[←hR];exact hgood) (by rw[←hR];exact ex) hk1 (by rw[←hR,hlr];exact h145);refine Gz 5 ?_;refine cL (Ws (cs:=eO ((⟨ref,R.1,[],(cP im F (R.1.1 5)).1⟩,1),hd0,hx)) aM rfl (aQ hq10 0 rfl)) ?_;refine sA rfl aM (by exact bL _) hz10 ?_;intro w9 hg9 hs9 hf9;have hFw:aA nob W w9:=((hF7.trans hf8).trans hf10).tw hf9;refine Gz 6 ?_;refine rC hg9 aM ?_;exact⟨_,rfl,hFw,_,false,rfl,.inl ⟨rfl,hno⟩⟩
  have es2:(fA S.1).2=0:=Z5.1 h145;refine Gz 8 ?_;refine Wl HP rfl rfl rfl hq10 rfl ?_;intro w11 hg11 hs11 hf11;have hz11:=hf11.obj hz10 (fun e=>by have e:z=b:=e;omega);have hq11:w11.heap[b]?=some (.cells (eO ((⟨ref,R.1,(fA S.1).1,(cP im F (R.1.1 5)).1⟩,1),⟨lo,(fA S.1).1.length,lc⟩,hx)).toArray 137 (0,0)):=hg11;refine Gz 4 ?_;refine cL (Ws (cs:=eO ((⟨ref,R.1,(fA S.1).1,(cP im F (R.1.1 5)).1⟩,1),⟨lo,(fA S.1).1.length,lc⟩,hx)) aM rfl (aQ hq11 0 rfl)) ?_;refine sA rfl aM (by exact bL _) hz11 ?_;intro w9 hg9 hs9 hf9;refine Gz 4 ?_;refine rC hg9 aM ?_;have hrec:eV im F ids ref kind=some ⟨ref,R.1,(fA S.1).1,(cP im F (R.1.1 5)).1⟩:=by rw[hR];rw[hR] at hlr;rw[←hlr];exact Aa (by rw[←hR];exact hgood) (by rw[←hR];exact ex) hk1 (by rw[hlr];exact es2)
  have hlt:=hlo.lt;have hf89:aA (fun k=>k=b∨k=z) w8 w9:=(hf10.any.trans (hf11.mono (fun k h=>.inl h))).trans (hf9.mono (fun k h=>.inr h));exact⟨_,rfl,((hF7.trans hf8).ZJ hf89 (fun k hk=>.inr (by rcases hk with h|h<;>omega))),_,true,rfl,.inr ⟨rfl,hrec,rfl,⟨rfl,((hlo.ZN hf11 (fun x hx e=>by have:=hlf x hx;have e:x.block=b:=e;omega)).ZN hf9 (fun x hx e=>by have:=hlf x hx;have e:x.block=z:=e;omega)).vw bA,fun _ k ⟨x,hx,e⟩=>by have h1:=hlf x hx;have h2:=hlt x hx;exact⟨by omega,by omega⟩⟩,(hX8.ZN hf89 (fun k hk e=>by have h7:=hk.1;rcases e with e|e<;>omega)).mono (fun k hk=>⟨by have:=hk.1;omega,by have:=hk.2;omega⟩)⟩⟩
 have hk1:¬ kind=1:=h123;refine Gz 7 ?_;refine cL (Ws (cs:=eO ((⟨ref,R.1,[],(cP im F (R.1.1 5)).1⟩,1),hd0,hx)) aM rfl (aQ hq7 0 rfl)) ?_;refine sA rfl aM (by exact bL _) hz7 ?_;intro w9 hg9 hs9 hf9;refine Gz 4 ?_;refine rC hg9 aM ?_;have hrec:eV im F ids ref kind=some ⟨ref,R.1,[],(cP im F (R.1.1 5)).1⟩:=by
  rw[hR];exact B1 (by rw[←hR];exact hgood) (by rw[←hR];exact ex) hk2 hk1
 obtain⟨wp,hFp,hXp,hfp⟩:∃ wp,aA nob W wp∧XsV (fun k=>w6.heap.size≤k∧k<w7.heap.size) wp.heap hx (cP im F (R.1.1 5)).1∧(aA (· = z) wp w9∧w7.heap.size≤wp.heap.size):=by
  exact⟨w7,hF7,hX7,hf9,Z0 _⟩
 have hs9b:=hfp.1.size;exact⟨_,rfl,hFp.tw hfp.1,_,true,rfl,.inr ⟨rfl,hrec,rfl,⟨rfl,Zx 0 (ZZ _),fun h=>absurd rfl h⟩,(hXp.ZN hfp.1 (fun k hk e=>by have h7:=hk.1;have e:k=z:=e;omega)).mono (fun k hk=>⟨by have:=hk.1;omega,by have:=hk.2;omega⟩)⟩⟩
def LbR(ow:Nat→Nat):Nat→Prop:=fun k=>ow k=5∨ow k=6
def NO(ow:Nat→Nat)(W:World)(g:Nat)(im:By)(F:Nat→Int)(P ids:List Int)(r:Option MSt)(v:Value)(w':World):Prop:=aA (LbR ow) W w'∧∃ b:Bool,v=.bool b∧((b=false∧r=none) ∨
 ∃ (s':MSt) (ow':Nat→Nat),b=true∧r=some s'∧MrV ow' w'.heap g im F P ids s'∧(∀ k,k<W.heap.size→ow' k=ow k)∧(∀ k,w'.heap.size≤k→ow' k=0)∧PlM s')
def MkS(g:Nat)(im:By)(F:Nat→Int)(P ids:List Int)(n:Nat):Prop:=∀ (ow:Nat→Nat) (s:MSt) (ref kind:Int) (W:World),MrV ow W.heap g im F P ids s→(∀ k,W.heap.size≤k→ow k=0)→PlM s→(0≤ref∧ref≤4294967295) →
 CA 92 [pT g,iV ref,iV kind,iV (17-n)] W (NO ow W g im F P ids (goM im F ids n ref kind s))
theorem GT(g:Nat)(im:By)(F:Nat→Int)(P ids:List Int):MkS g im F P ids 0:=by
 intro ow s ref kind W hM hnew hp href;obtain⟨bo,bc,po,pc,io,ic,lo,lc,qs,hg,_,_,_,_,_,_,_,o1⟩:=hM;have hp1:=hp.1;refine cS 105 [(0,_),(1,_),(2,_),(3,_)] Tryz.func92 ?_;refine Gz 14 ?_;refine Wl aF rfl rfl rfl hg rfl ?_;intro w1 hg1 hs1 hf1;refine Gz 6 ?_;refine cL (Xo (XA rfl rfl) (by decide)) ?_;refine Gz 18 ?_;exact⟨_,rfl,hf1.mono (fun k h=>by have h:k=g:=h;subst h;exact .inr o1),false,rfl,.inl ⟨rfl,rfl⟩⟩
theorem F5{l:List (Rec×Int)}{ref:Int}(h:0≤atZ l ref):∃ i,fL l ref=some i∧atZ l ref=(i:Int):=by
 unfold atZ at h ⊢;cases hi:fL l ref with
|none=>rw[hi] at h;exact absurd h (by decide)
|some i=>exact⟨i,rfl,rfl⟩
theorem F6{l:List (Rec×Int)}{ref:Int}(h:¬ 0≤atZ l ref):fL l ref=none:=by
 unfold atZ at h;cases hi:fL l ref with
|none=>rfl
|some i=>rw[hi] at h;exact absurd (Int.natCast_nonneg i) h
theorem GS(g:Nat)(im:By)(F:Nat→Int)(P ids:List Int)(hb:im.length≤1073741824)(n:Nat)(hn:n+1≤17)(ih:MkS g im F P ids n):MkS g im F P ids (n+1):=by
 intro ow s ref kind W hM hnew hp href;have hle:∀ z,z≠0→∀ k,ow k=z→k<W.heap.size:=fun z hz k hk=>ZY fun hc=>by have:=hnew k (by omega);omega
 obtain⟨bo,bc,po,pc,io,ic,lo,lc,qs,hg,⟨v1,l1⟩,⟨v2,l2⟩,⟨v3,l3⟩,ho,hl,hq,hqs,o1⟩:=hM;have hp1:=hp.1;have hql:qs.length=s.1.length:=by rw[←hq,aa]
 have hgl:=(Z1.1 hg).1;have hog:∀ k,ow k≠6→¬ k=g:=fun k h e=>h (e ▸ o1);have h4g:∀ k,ow k=4→¬ k=g:=fun k h=>hog k (by omega);refine cS 105 [(0,_),(1,_),(2,_),(3,_)] Tryz.func92 ?_;refine Gz 14 ?_;refine Wl aF rfl rfl rfl hg rfl ?_;intro w1 hg1 hs1 hf1;have hg1:w1.heap[g]?=some (.cells (miC bo im.length bc F (.slice po P.length pc) (.slice io ids.length ic) (.slice lo qs.length lc) ((s.2+1:Nat):Int)).toArray 134 (0,0)):=hg1;have hF1:aA (LbR ow) W w1:=hf1.mono (fun k h=>by have h:k=g:=h;subst h;exact .inr o1);have v11:=v1.ZN hf1 (fun a ha=>h4g _ (l1 _ ⟨a,ha,rfl⟩));have v21:=v2.ZN hf1 (fun a ha=>h4g _ (l2 _ ⟨a,ha,rfl⟩));have v31:=v3.ZN hf1 (fun a ha=>h4g _ (l3 _ ⟨a,ha,rfl⟩));have ho1:=ho.ZN hf1 (fun a ha=>hog _ (by have:=hl _ ⟨a,ha,rfl⟩;omega));have hqs1:∀ q∈qs,QV (fun k=>ow k=4) w1.heap q:=fun q hm=>(hqs q hm).ZN hf1 (fun k hk=>h4g k hk);have hM1:MrV ow w1.heap g im F P ids (s.1,s.2+1):=⟨bo,bc,po,pc,io,ic,lo,lc,qs,hg1,⟨v11,l1⟩,⟨v21,l2⟩,⟨v31,l3⟩,ho1,hl,hq,hqs1,o1⟩
 have hv1:=ho1.vw eJ;refine Gz 6 ?_;refine cL (W8 (XA rfl rfl) (by omega)) ?_;refine fW 5 ?_ ?_<;>intro h28
 ·have hres:goM im F ids (n+1) ref kind s=none:=AJ (by omega);refine Gz 12 ?_;exact⟨_,rfl,hF1,false,rfl,.inl ⟨rfl,hres⟩⟩
 have h28:¬ 1024<s.2+1:=by omega
 refine cA 10 Qc (H7 ow g im F P ids (s.1,s.2+1) ref w1 hM1) ?_;rintro _ wq ⟨rfl,hwq⟩;subst wq;refine fK 7 ?_ ?_<;>intro h34
 ·obtain⟨i,hi,hat⟩:=F5 h34;obtain⟨r,hri,hrr⟩:=qX hi;have hil:=(ZS.1 hri).1;have hil:i<s.1.length:=hil;obtain⟨q,hqi⟩:∃ q,qs[i]?=some q:=⟨_,ZQ (by omega)⟩
  have hqr:q.1=r:=by have h:s.1[i]?=some r:=hri;rw[←hq,ax,hqi] at h;exact dx.inj h
  have hrd:s.1.getD i (qN,0)=r:=by rw[Z2,show s.1[i]?=some r from hri];rfl
  have hr2:=hp.lt hri;rw[hat];refine Gz 10 ?_;refine cL (Wj qF rfl rfl hv1.non (by omega)) ?_;refine Gz 1 ?_;refine cL (Wm (u:=iV q.1.2) (Wk aF rfl (hv1.rowZ i rfl hqi 1 _ rfl)) rfl) ?_;refine cL (W5 rfl rfl (by rw[hqr];omega)) ?_;refine cL (Wj qF rfl rfl hv1.non (by omega)) ?_;refine Gz 1 ?_;refine XX eJ (i:=i) (j:=1) (x':=(((q.1.1,q.1.2+1),q.2):QT)) hqi (by decide) rfl aF rfl (by rw[ak]) rfl rfl ho1 ?_;intro w2 ho2 hs2 hf2;have hlg:¬ blk lo g:=fun h=>by have:=hl g h;omega
  have hg2:=hf2.obj hg1 hlg;have hv2:=ho2.vw eJ;have hqi2:(qs.set i ((q.1.1,q.1.2+1),q.2))[i]?=some (((q.1.1,q.1.2+1),q.2):QT):=List.getElem?_set_self (by omega);have h4l:∀ k,ow k=4→¬ blk lo k:=fun k hk h=>by have:=hl k h;omega
  refine fK 5 ?_ ?_<;>intro h47
  ·refine Gz 6 ?_;refine cW (Wj qF rfl rfl (fun h=>hv2.non (by rw[cm];exact h)) (by omega)) ?_;refine Gz 2 ?_;refine cW (Wm (u:=iV (q.1.1.ino.1 0)) (Wk aF rfl (hv2.rowZ i rfl hqi2 2 _ rfl)) rfl) ?_;refine fW 1 ?_ ?_<;>intro h59
   ·have hres:goM im F ids (n+1) ref kind s=some (eL s.1 i,s.2+1):=Ds h28 hi ⟨h47,by rw[hrd,←hqr];exact h59⟩;refine Gz 7 ?_;refine⟨_,rfl,hF1.trans (hf2.mono (fun k hk=>.inl (hl k hk))),true,rfl,.inr ⟨_,ow,rfl,hres,⟨bo,bc,po,pc,io,ic,lo,lc,qs.set i ((q.1.1,q.1.2+1),q.2),by rw[cm];exact hg2,⟨v11.ZN hf2 (fun a ha=>h4l _ (l1 _ ⟨a,ha,rfl⟩)),l1⟩,⟨v21.ZN hf2 (fun a ha=>h4l _ (l2 _ ⟨a,ha,rfl⟩)),l2⟩,⟨v31.ZN hf2 (fun a ha=>h4l _ (l3 _ ⟨a,ha,rfl⟩)),l3⟩,ho2,hl,?_,fun t ht=>?_,o1⟩,fun _ _=>rfl,fun k hk=>hnew k (by have h:w2.heap.size=w1.heap.size:=hs2;omega),hp.bump hri (by omega)⟩⟩
    · show (qs.set i ((q.1.1,q.1.2+1),q.2)).map (·.1)=eL s.1 i
      unfold eL;rw[map_set,hq,hrd,←hqr]
    · rcases eu ht with ht|rfl
      ·exact(hqs1 t ht).ZN hf2 (fun k hk=>h4l k hk)
      ·exact(hqs1 q (ZW hqi)).ZN hf2 (fun k hk=>h4l k hk)
   have hres:goM im F ids (n+1) ref kind s=none:=mJ h28 hi (fun h=>h59 (by rw[hrd,←hqr] at h;exact h.2));refine Gz 7 ?_;exact⟨_,rfl,hF1.trans (hf2.mono (fun k hk=>.inl (hl k hk))),false,rfl,.inl ⟨rfl,hres⟩⟩
  have hres:goM im F ids (n+1) ref kind s=none:=mJ h28 hi (fun h=>h47 h.1);refine Gz 19 ?_;exact⟨_,rfl,hF1.trans (hf2.mono (fun k hk=>.inl (hl k hk))),false,rfl,.inl ⟨rfl,hres⟩⟩
 have hi:=F6 h34;refine Gz 10 ?_;refine Wh SX rfl (Mc g bo po io bc P.length pc ic _ im F ids _ ref kind w1 hg1 v11 hb href) rfl ?_;rintro _ w2 ⟨hf2,⟨⟨x,nm⟩,⟨la,ln,lc2⟩,hx⟩,b,rfl,hbb⟩;have hz2:=hf2.size;refine Gz 3 ?_;refine Wn pL rfl ?_;intro w3 hg3 hs3 hf3;obtain⟨a,ea⟩:∃ a,a=w2.heap.size:=⟨_,rfl⟩
 rw[←ea] at hg3 ⊢;refine sA rfl aM (by exact bL _) hg3 ?_;intro w4 hg4 hs4 hf4;have hf24:aA nob w2 w4:=hf3.tw hf4;have hf14:=hf2.trans hf24;have hgi4:=hf14.obj hg1 id;have ho4:=ho1.ZM hf14;refine Gz 7 ?_;refine WF (WX rfl) rfl (fun h69=>?_) (fun h69=>?_)
 ·have hrn:eV im F ids ref kind=none:=(hbb.resolve_right (fun h=>by rw[h69] at h;cases h.1)).2;have hres:goM im F ids (n+1) ref kind s=none:=Du h28 hi hrn;refine Gz 11 ?_;exact⟨_,rfl,hF1.trans hf14.any,false,rfl,.inl ⟨rfl,hres⟩⟩
 obtain⟨hbt,hrm,hnm,hqv⟩:=hbb.resolve_left (fun h=>h69 h.1);have hnm:nm=1:=hnm;subst hnm;have hrm:eV im F ids ref kind=some x:=hrm;have hqn:ln=x.list.length:=hqv.1.1;subst hqn;have hres:=Dt (n:=n) h28 hi hrm;have hxr:=B0 hrm;have hqv4:=hqv.ZN hf24 (fun _ _=>id);refine Gz 6 ?_;refine Wv 10 (fun H=>bK H ((⟨g,0,none⟩:Addr).add 22)=some (.slice lo qs.length lc)∧H[a]?=some (.cells (eO ((x,1),⟨la,x.list.length,lc2⟩,hx)).toArray 137 (0,0))) [6,7,10] [0,1,2,3,4,5,6,7,8,9,10] aK (by kernel_rfl) (⟨aB hgi4 rfl,hg4⟩) ?_;refine Gz 4 ?_;refine xC rfl (Wt oZ rfl (fun H hH=>hH.1)) ?_;refine xC rfl (W9 (cs:=eO ((x,1),⟨la,x.list.length,lc2⟩,hx)) aM rfl (fun H hH j v hj=>aB hH.2 hj)) ?_;refine Wo rfl rfl (WD qF (cs:=(eO ((x,1),⟨la,x.list.length,lc2⟩,hx)).toArray) pL rfl rfl rfl (by kernel_rfl) rfl ?_);intro w5 hg5 hs5 hf5;have hf5:=hf5.ZK;have ho5:=bS (e:=137) (xs:=[(((x,1),⟨la,x.list.length,lc2⟩,hx):QT)]) eJ (by simpa using hg5) (by show 1≤maxLen;decide);have hz5:=hf5.size;refine Wu (by exact⟨aB (hf5.obj hgi4 id) rfl,hf5.obj hg4 id⟩) ?_;refine Wo rfl rfl (Wx eJ rfl qF rfl rfl (ho4.ZM hf5) (ho5.vw eJ) (by simp only[ZU];have:=hp.2.2.2;omega) (by simp only[ZU];have:=hp.2.2.2;unfold maxLen;omega) rfl ?_);intro o6 c6 w6 ho6 hf6 hr6 hn6;have hz6:=hf6.size;have hlb:∀ k,blk lo k→k<W.heap.size:=fun k h=>hle 5 (by decide) k (hl k h);have hnlo:∀ k,w1.heap.size≤k∨ow k≠5→¬ blk lo k:=fun k h h2=>by rcases h with h|h;have:=hlb k h2;omega;exact h (hl k h2)
 have hgi6:=hf6.obj (hf5.obj hgi4 id) (hnlo g (.inr (by omega)));have hg6:=hf6.obj (hf5.obj hg4 id) (hnlo a (.inl (by omega)));obtain⟨ad,rfl⟩:∃ ad,o6=some ad:=by cases o6 with|none=>exact absurd (hn6 rfl).2 (by simp)|some ad=>exact⟨ad,rfl⟩
 refine Wu (by exact⟨aB hgi6 rfl,hg6⟩) ?_;refine Gz 2 ?_;refine Wo rfl rfl (Wl oZ rfl rfl rfl hgi6 rfl ?_);intro w7 hgi7 hs7 hf7;have hgi7:w7.heap[g]?=some (.cells (miC bo im.length bc F (.slice po P.length pc) (.slice io ids.length ic) (.slice (some ad) (qs++[(((x,1),⟨la,x.list.length,lc2⟩,hx):QT)]).length c6) ((s.2+1:Nat):Int)).toArray 134 (0,0)):=hgi7;have hg7:=hf7.obj hg6 (by intro e;have e:a=g:=e;omega);refine WW rfl ?_;obtain⟨ow2,eow⟩:∃ ow2:Nat→Nat,ow2=fun k=>if k<W.heap.size then ow k else if k=ad.block then 5 else if k<w7.heap.size then 4 else 0:=⟨_,rfl⟩
 have c1:∀ k,k<W.heap.size→ow2 k=ow k:=fun k hk=>by rw[eow];exact ZP hk
 have c2:∀ k,w7.heap.size≤k→ow2 k=0:=fun k hk=>by
  rw[eow];have hal:ad.block<w6.heap.size:=ho6.lt ad rfl;show (if k<W.heap.size then ow k else if k=ad.block then 5 else if k<w7.heap.size then 4 else 0)=0;rw[ZO (by omega),ZO (by omega),ZO (by omega)]
 have hadl:ow2 ad.block=5:=by
  rcases hr6 ad rfl with h|h
  · have h5:=hl ad.block ⟨ad,h,rfl⟩
    rw[c1 _ (hle 5 (by decide) _ h5)];exact h5
  · rw[eow];show (if ad.block<W.heap.size then ow ad.block else if ad.block=ad.block then 5 else if ad.block<w7.heap.size then 4 else 0)=5
    rw[ZO (by omega),ZP rfl]
 have c4:∀ k,w1.heap.size≤k→k<w5.heap.size→ow2 k=4:=fun k h1 h2=>by
  have hna:¬ k=ad.block:=fun e=>by
   rcases hr6 ad rfl with h|h
   ·have:=hlb ad.block ⟨ad,h,rfl⟩;omega
   ·omega
  rw[eow];show (if k<W.heap.size then ow k else if k=ad.block then 5 else if k<w7.heap.size then 4 else 0)=4;rw[ZO (by omega),ZO hna,ZP (by omega)]
 have hkv:∀ {α:Type} {en:α→Value} {ao:Option Addr} {c:Nat} {y:List α},Vw en w1.heap ao c y→(∀ k,blk ao k→ow k=4)→Vw en w7.heap ao c y∧∀ k,blk ao k→ow2 k=4:=fun hv hl4=>⟨(((hv.ZM hf14).ZM hf5).ZN hf6 (fun a ha=>hnlo _ (.inr (by have:=hl4 _ ⟨a,ha,rfl⟩;omega)))).ZN hf7 (fun a ha=>h4g _ (hl4 _ ⟨a,ha,rfl⟩)),fun k hk=>by rw[c1 k (hle 4 (by decide) _ (hl4 _ hk))];exact hl4 k hk⟩
 have hkq:∀ (E:Nat→Prop) (q:QT),QV E w4.heap q→(∀ k,E k→w1.heap.size≤k∧k<w4.heap.size∨ow k=4)→QV (fun k=>ow2 k=4) w7.heap q:=fun E q hq0 hE=>(((hq0.ZN hf5 (fun _ _=>id)).ZN hf6 (fun k hk=>(hE k hk).elim (fun h=>hnlo k (.inl h.1)) (fun h=>hnlo k (.inr (by omega))))).ZN hf7 (fun k hk e=>by have e:k=g:=e;rcases hE k hk with h|h;omega;exact h4g k h e)).mono (fun k hk=>(hE k hk).elim (fun h=>c4 k h.1 (by omega)) (fun h=>by rw[c1 k (hle 4 (by decide) k h)];exact h));have hqx:QV (fun k=>ow2 k=4) w7.heap ((x,1),⟨la,x.list.length,lc2⟩,hx):=hkq _ _ hqv4 (fun k hk=>.inl ⟨hk.1,by have:=hk.2;omega⟩);have hM7:MrV ow2 w7.heap g im F P ids (s.1++[(x,1)],s.2+1):=by
  refine⟨bo,bc,po,pc,io,ic,some ad,c6,qs++[((x,1),⟨la,x.list.length,lc2⟩,hx)],hgi7,hkv v11 l1,hkv v21 l2,hkv v31 l3,ho6.ZN hf7 (fun y hy e=>?_),fun k ⟨y,hy,e⟩=>?_,by rw[dr,hq];rfl,fun q hm=>?_,by rw[c1 g hgl];exact o1⟩
  ·cases hy;have e:ad.block=g:=e;rw[e,c1 g hgl] at hadl;omega
  ·cases hy;rw[←e];exact hadl
  · rcases an.1 hm with hm|hm
    ·exact hkq _ _ ((hqs1 q hm).ZN hf14 (fun _ _=>id)) (fun k hk=>.inr hk)
    ·rw[ai] at hm;subst hm;exact hqx
 have hpm:PlM (s.1++[(x,1)],s.2+1):=hp.snoc (by rw[hxr.1];exact href) (fun r h=>by rw[hxr.1];exact Fq hi r h) (by omega);have hG7:aA (LbR ow) W w7:=((hF1.trans hf14.any).trans hf5.any).ZJ (hf6.mono (fun k hk=>.inl (hl k hk)) |>.trans (hf7.mono (fun k h=>by have h:k=g:=h;subst h;exact .inr o1)):aA (LbR ow) w5 w7) (fun k h=>.inl h);have hvl7:=hqx.1.2.1;have hvd7:=hqx.1.2.2;have hll:=hvl7.ZL;have ha4:ow2 a=4:=c4 a (by omega) (by omega);refine Gz 9 ?_;refine Wp (β:=(Nat×MSt)×(Nat→Nat)) (fun⟨⟨j,s8⟩,ow8⟩=>[(0,pT g),(3,iV (17-((n+1:Nat):Int))),(10,pT a),(12,iV j)]) (fun⟨⟨j,s8⟩,ow8⟩ w=>j≤x.list.length∧goL (goM im F ids n) (x.list.drop j) s8=goL (goM im F ids n) x.list (s.1++[(x,1)],s.2+1)∧MrV ow8 w.heap g im F P ids s8∧(∀ k,k<w7.heap.size→ow8 k=ow2 k)∧(∀ k,w.heap.size≤k→ow8 k=0)∧PlM s8∧w.heap[a]?=some (.cells (eO ((x,1),⟨la,x.list.length,lc2⟩,hx)).toArray 137 (0,0))∧VwM 3 bH w.heap la lc2 x.list∧aA (LbR ow) W w∧aA (fun k=>True) w7 w) (fun⟨⟨j,s8⟩,ow8⟩=>x.list.length-j) ⟨⟨0,(s.1++[(x,1)],s.2+1)⟩,ow2⟩ ⟨rfl,rfl,rfl,rfl,trivial⟩ ⟨ZZ _,rfl,hM7,fun _ _=>rfl,c2,hpm,hg7,hvl7,hG7,Zn _ _⟩ ?_;rintro⟨⟨j,s8⟩,ow8⟩ w8 ⟨hj,hgo,hM8,d1,d2,hp8,ha8,hvl8,hG8,hF8⟩;refine fK 7 ?_ ?_<;>intro h84
 ·have h84b:(j:Int)<((x.list.length:Nat):Int):=h84;have hll2:((x.list.length:Nat):Int)≤9223372036854775807:=hll;have hjl:j<x.list.length:=by omega
  obtain⟨y,hy⟩:∃ y,x.list[j]?=some y:=⟨_,ZQ hjl⟩
  have hfy:=hxr.2 y (ZW hy);have hdr:x.list.drop j=y::x.list.drop (j+1):=by obtain⟨h,rfl⟩:=ZS.1 hy;exact bz h
  rw[hdr] at hgo;have hz8:=hF8.size;refine Gz 1 ?_;refine aW [(0,_),(3,_),(10,_),(12,_),(84,_)] ?_;refine Gz 7 ?_;refine Wv 17 (fun H=>H[a]?=some (.cells (eO ((x,1),⟨la,x.list.length,lc2⟩,hx)).toArray 137 (0,0))∧VwM 3 bH H la lc2 x.list) [15] [0,1,2,3,4,5,6,7,8,9,10,11,12,13,14,15,16] aK (by kernel_rfl) (⟨ha8,hvl8⟩) ?_;refine Gz 4 ?_;refine xC rfl (Wj lW rfl rfl hvl8.non (by omega)) ?_;refine Gz 1 ?_;refine xC rfl (Wt aF rfl (fun H hH=>hH.2.rowZ j rfl hy 2 _ rfl)) ?_;refine Gz 3 ?_;refine xC rfl (Wj lW rfl rfl hvl8.non (by omega)) ?_;refine Gz 1 ?_;refine xC rfl (Wt aF rfl (fun H hH=>hH.2.rowZ j rfl hy 1 _ rfl)) ?_;refine Gz 1 ?_;refine xC rfl (Wm (u:=iV (17-(n:Nat))) (W5 rfl rfl (by omega)) (by congr 1;omega)) ?_;refine Wo rfl rfl (Wh RW rfl (ih ow8 s8 y.2.2 y.2.1 (w8.drewN 1) hM8 d2 hp8 ⟨hfy.2.2.2.1,hfy.2.2.2.2⟩) rfl ?_);rintro _ w9 ⟨hF9,b9,rfl,hW9⟩;have hF9:=hF9.ZK;have hn8:∀ k,ow2 k=4→¬ LbR ow8 k:=fun k hk h=>by
   have hlt:k<w7.heap.size:=ZY fun hc=>by have:=c2 k (by omega);omega
   have h:ow8 k=5∨ow8 k=6:=h;rw[d1 k hlt] at h;omega
  refine Wu (by exact⟨hF9.obj ha8 (hn8 a ha4),hvl8.keep' hF9 (fun hne z hz=>hn8 _ (hvd7 hne _ ⟨z,hz,rfl⟩))⟩) ?_;have ha9:=hF9.obj ha8 (hn8 a ha4);have hvl9:=hvl8.keep' hF9 (fun hne z hz=>hn8 _ (hvd7 hne _ ⟨z,hz,rfl⟩));have hG9:aA (LbR ow) W w9:=hG8.ZJ hF9 (fun k h=>by
   by_cases hk:k<W.heap.size
   · have h:ow8 k=5∨ow8 k=6:=h
     rw[d1 k (by omega),c1 k hk] at h;exact .inl h
   ·exact .inr (by omega))
  refine Gz 6 ?_;refine WF (WX rfl) rfl (fun h104=>?_) (fun h104=>?_)
  ·have hrn:goM im F ids n y.2.2 y.2.1 s8=none:=(hW9.resolve_right (fun⟨s9,ow9,h,_⟩=>by rw[h104] at h;cases h)).2;have hres2:goM im F ids (n+1) ref kind s=none:=by
    rw[hres,←hgo];show (match goM im F ids n y.2.2 y.2.1 s8 with|none=>none|some s9=>goL (goM im F ids n) (x.list.drop (j+1)) s9)=none;rw[hrn]
   refine Gz 15 ?_;exact⟨_,rfl,hG9,false,rfl,.inl ⟨rfl,hres2⟩⟩
  obtain⟨s9,ow9,hbt9,hr9,hM9,e1,e2,hp9⟩:=hW9.resolve_left (fun h=>h104 h.1);have hgo9:goL (goM im F ids n) (x.list.drop (j+1)) s9=goL (goM im F ids n) x.list (s.1++[(x,1)],s.2+1):=by
   rw[←hgo];show _=(match goM im F ids n y.2.2 y.2.1 s8 with|none=>none|some s9=>goL (goM im F ids n) (x.list.drop (j+1)) s9)
   rw[hr9]
  refine Gz 11 ?_;exact aG ⟨⟨j+1,s9⟩,ow9⟩ ⟨by omega,hgo9,hM9,fun k hk=>by rw[e1 k (by show k<w8.heap.size;omega)];exact d1 k hk,e2,hp9,ha9,hvl9,hG9,hF8.trans (hF9.mono (fun _ _=>trivial))⟩ (by show x.list.length-(j+1)<x.list.length-j;omega)
 have h84b:¬ (j:Int)<((x.list.length:Nat):Int):=h84;refine Gz 1 ?_;refine aW [(0,_),(3,_),(10,_),(12,_),(84,_)] ?_;refine Gz 14 ?_;have hdn:x.list.drop j=[]:=de (by omega);rw[hdn] at hgo;exact⟨_,rfl,hG8,true,rfl,.inr ⟨s8,ow8,rfl,by rw[hres,←hgo];rfl,hM8,fun k hk=>by rw[d1 k (by omega),c1 k (by omega)],d2,hp8⟩⟩
theorem Cg(g:Nat)(im:By)(F:Nat→Int)(P ids:List Int)(hb:im.length≤1073741824):∀ (n:Nat),n≤17→MkS g im F P ids n
|0,_=>GT g im F P ids
|n+1,hn=>GS g im F P ids hb n hn (Cg g im F P ids hb n (by omega))
end Go.Proofs.YthdecfkdgdagcaaGreat
