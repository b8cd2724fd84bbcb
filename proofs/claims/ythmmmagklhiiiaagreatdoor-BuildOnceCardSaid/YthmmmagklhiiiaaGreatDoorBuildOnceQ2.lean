/- lamella: what the law needs. No condition beyond the bounds that each states. -/
import Derived.Lib.AppendZeros
import Derived.RangeFuncWrites
import Derived.RangeFuncCalls
import Derived.RangeFuncLeaves
import Derived.RangeFuncBound
import Derived.OrdersIn
import Derived.Lib.Join
import Derived.Laws.StructEq
import Derived.Shelf.Strings.OnBuilder
import Derived.Test.YthmmmagklhiiiaaGreatDoorChecked
import Derived.Test.YthmmmagklhiiiaaGreatDoorBuildOnceQ1
namespace Go.Proofs.YthmmmagklhiiiaaGreatDoor
open Go Go.RowKit
set_option linter.unusedVariables false
set_option linter.unusedSectionVars false
set_option maxHeartbeats 64000000
open List (find?_eq_none)
open Option (or_none)
open List renaming length_append → R6, getElem?_eq_getElem → R7, getElem?_eq_some_iff → R9, mem_of_getElem? → Sd, length_eq_zero_iff → Sg, length_take → Sh, getD → Sj, length_pos_iff → Sk, length_drop → Sm, take_of_length_le → So, length_cons → Sq, getElem?_of_mem → Sr, mem_cons → St, take_succ_eq_append_getElem → Sv, length_singleton → Sw, eq_nil_of_length_eq_zero → SB, length_map → SC, mem_singleton → SE, take_append_drop → SG, append_assoc → SI, length → SJ, length_nil → SL, mem_map → SN, mem_append → SO, pairwise_iff_getElem → SR, map_cons → SV, getElem?_eq_none → SY, getElem?_take → SZ, take_length → S1, nil_append → S2, length_set → S7, getElem_of_mem → S8, foldl_append → Tb, flatMap_cons → Tc, mem_cons_of_mem → Tg, cons_append → Th, findIdx?_eq_some_iff_getElem → Ti, foldl_cons → Tm, drop_eq_getElem_cons → Tn, findIdx?_eq_none_iff → Ty, drop_of_length_le → TJ, dropLast_concat_getLast → TL, length_dropLast → TN, mem_of_find?_eq_some → TR, cons → T1, flatten_append → Uf, find?_isSome → Us, find?_append → Ut
open _root_.Nat renaming le_refl → Sa, zero_le → Sf, blt → SH, le_trans → SM, mul_le_mul_right → SS, zero_add → S3, add_mul → S4, lt_trichotomy → Ta, min_eq_left → Td, succ_eq_add_one → Tk, one_mul → Tl, blt_eq → Tp, beq → Tt, mul_comm → TB, lt_or_ge → TI, mul_assoc → TT, ble_eq → Uk, add_sub_cancel → Ul
open _root_.Array renaming getElem?_eq_some_iff → Sb, setIfInBounds_comm → TU, replicate → TW, getElem?_eq_none → T7
open Classical renaming byContradiction → Se, not_not → S5
open Go.Op renaming bytesLess → Su
open _root_.Bool renaming and_eq_true → SA, or_eq_true → Tr, not_eq_true' → T6
open _root_.Int renaming toNat_natCast → SX
open UInt8 renaming lt_iff_toNat_lt → To
open Prod renaming ext → Uh
open _root_.Option renaming isSome_iff_exists → Uv
def rO(s:Int×By)(t:By):Int×By:=(lG s.1 t,lS s.1 s.2 t)
def xF(s:Int×By)(x:Xa):Int×By:=rO (rO s x.1) x.2
def xSt(X:List Xa)(k:Nat):Int×By:=(X.take k).foldl xF (dL 1 (0,[]) X.length)
theorem rM(X:List Xa)(k:Nat)(h:k<X.length):xSt X (k+1)=xF (xSt X k) (X.getD k x0):=by
 unfold xSt;rw[Sv h,Tb];simp[Sj,h]
theorem gE{s:Int×By}{t:By}(h:s.1=0)(ht:t.length≤255):(rO s t).1=0∧(rO s t).2.length=s.2.length+1+t.length:=by
 refine⟨by show lG s.1 t=0;rw[DL (.inr (by omega)),h],?_⟩;show (lS s.1 s.2 t).length=_;unfold lS;rw[R3 (by omega)];simp only[R6,Sq];omega
theorem zL{X:List Xa}(h:eC X):∀ k,k≤X.length→(xSt X k).1=0∧(xSt X k).2.length≤1+300*k
|0,_=>by
   have hb:=kQ (n:=X.length) (by have:=h.2;omega);have h1:dW 0 X.length 1=0:=bB hb;refine⟨h1,?_⟩;show (lI 0 [] X.length 1).length≤_;rw[gG h1,R6,bE];simp
|k+1,hk=>by
   obtain⟨h1,h2⟩:=zL h k (by omega);obtain⟨_,g2,_,g4⟩:=h.1 k (by omega);rw[rM X k (by omega)];obtain⟨a1,a2⟩:=gE (s:=xSt X k) (t:=(X.getD k x0).1) h1 (by omega);obtain⟨b1,b2⟩:=gE (s:=rO (xSt X k) (X.getD k x0).1) (t:=(X.getD k x0).2) a1 (by omega);exact⟨b1,by show (rO (rO (xSt X k) (X.getD k x0).1) (X.getD k x0).2).2.length≤_;omega⟩
def iS(X:List Xa):By×Int:=if X.length=0∨¬ eC X then ([],1) else ((xSt X X.length).2,0)
theorem Ie(xo:Option Addr)(xc:Nat)(X:List Xa)(W:World)(hv:XaV W.heap xo xc X) :
 CA 124 [.slice xo X.length xc] W (Cy W (iS X)):=by
 have hl:=hv.RX;refine cS 35 [(0,_)] Tryz.func124 ?_;refine fK 11 ?_ ?_<;>intro h9
 ·refine Gz 17 ?_;have e:iS X=([],1):=by unfold iS;rw[R4 (.inl (by omega))]
  rw[e];exact⟨_,rfl,none,0,rfl,Rr,Rp,Rk _ _⟩
 refine Gz 2 ?_;refine OC rfl rfl LS rfl (IA xo xc X W hv) rfl ?_;rintro _ w0 ⟨rfl,hF0⟩;refine OW rfl rfl (Pz rfl) rfl (fun h13=>?_) (fun h13=>?_)
 ·have hm:¬ eC X:=of_decide_eq_false h13;refine Gz 13 ?_;have e:iS X=([],1):=by unfold iS;rw[R4 (.inr hm)]
  rw[e];exact⟨_,rfl,none,0,rfl,Rr,Rp,hF0⟩
 have hm:eC X:=Se fun h=>h13 (R5 h);have hlen:=zL hm;have hm8:=hm.2;refine Gz 8 ?_;refine Ov uV rfl ?_;intro w1 hg1 hs1 hf1;refine Gz 6 ?_;refine Ot tH rfl (lY (fun k=>w0.heap.size≤k) w0.heap.size 0 [] _ 1 w1 (Rx hg1 (Sa _)) (kF hf1 (fun k hk=>hk)) (by simp)) rfl ?_;rintro _ w1b ⟨hP1,hF1⟩;refine Gz 11 ?_;refine Oy (β:=Nat) (fun k=>[(4,pT w0.heap.size),(18,.slice xo X.length xc),(19,iV X.length),(20,iV k)]) (fun k w=>k≤X.length∧WrL (fun k=>w0.heap.size≤k) w.heap w0.heap.size (xSt X k).1 (xSt X k).2∧aA nob w0 w) (fun k=>X.length-k) 0 ⟨rfl,rfl,rfl,rfl,trivial⟩ ⟨Sf _,hP1,(hf1.any.trans hF1).fresh (fun k hk=>hk)⟩ ?_;rintro k w2 ⟨hk,hP2,hF2⟩;refine fK 2 ?_ ?_<;>intro h21
 ·refine Gz 10 ?_;obtain⟨xa,xc2,hrow0,hxv,hnl⟩:=hv.at (i:=k) rfl (by omega);obtain⟨_,q2,_,q4⟩:=hm.1 k (by omega);have hFW:=hF0.trans hF2;have hrow:=fun j v h=>uA (hrow0 j v h) hFW id;obtain⟨z1,z2⟩:=hlen k hk;refine cL (OA oJ rfl rfl hv.non (by omega)) ?_;refine cL (OG (cs:=[.string (bs (X.getD k x0).1),.slice xa (X.getD k x0).2.length xc2]) dM rfl hrow) ?_;refine Ov rL rfl ?_;intro w3 hg3 hs3 hf3;refine sA rfl dM (by simp[Value.oneCell']) hg3 ?_;intro w4 hg4 hs4 hf4;have hF4:aA nob w2 w4:=hf3.RV hf4 (fun k hk=>.inr (by omega));have hP4:=hP2.shrink hF4;refine Gz 6 ?_;refine Ot Dw rfl (mO _ w0.heap.size _ _ _ w4 hP4 (fun k hk=>⟨SM (hF2.trans hF4).size hk,.inr hk⟩) (by omega)) rfl ?_;rintro _ w5 ⟨hP5,hF5⟩;have hg5:=hF5.obj hg4 (fun h=>by rcases h.2 with h|h<;>omega);have hF05:aA nob w0 w5:=((hF2.trans hF4).any.trans hF5).fresh (fun k hk=>hk.1);obtain⟨a1,a2⟩:=gE (s:=xSt X k) (t:=(X.getD k x0).1) z1 (by omega);have a3:(lS (xSt X k).1 (xSt X k).2 (X.getD k x0).1).length=_:=a2;refine Gz 5 ?_;refine cL (Pw aP ty5 ty9 rfl (hxv.RY (hF0.trans hF05))) ?_;refine Ot Dw rfl (mO _ w0.heap.size _ _ _ w5 hP5 (fun k hk=>⟨SM hF05.size hk,.inr (SM hF5.size hk)⟩) (by omega)) rfl ?_;rintro _ w6 ⟨hP6,hF6⟩;refine Gz 7 ?_;refine aG (k+1) ?_ (by show X.length-(k+1)<X.length-k;omega);exact⟨by omega,by rw[rM X k (by omega)];exact hP6.mono (fun q hq=>hq.1),(hF05.any.trans hF6).fresh (fun k hk=>hk.1)⟩
 refine Gz 11 ?_;refine Ot yQ rfl (eF _ w0.heap.size _ _ w2 hP2 (by have:=(hlen k hk).2;have:=hm.2;omega)) rfl ?_;rintro _ w3 ⟨ao3,c3,rfl,ho3,hfr3,hf3⟩;refine Gz 1 ?_;refine Ot AS rfl (mH _ w0.heap.size _ _ w3 (hP2.RY hf3)) rfl ?_;rintro _ w4 ⟨rfl,hw4⟩;subst w4;refine Gz 6 ?_;have hk2:k=X.length:=by omega
 subst hk2;have z:=(hlen _ (Sa _)).1;have e:iS X=(iJ (xSt X X.length).1 (xSt X X.length).2,(xSt X X.length).1):=by unfold iS iJ;rw[R3 (by intro h;rcases h with h|h;omega;exact h hm),R3 (by omega),z]
 rw[e];exact⟨_,rfl,ao3,c3,rfl,ho3,hfr3.mono (SM hF0.size hF2.size),(hF0.trans hF2).trans hf3⟩
def Le(F:Nat→Int)(s:Int×By)(x:Fd):Int×By:=dL x.b s (F x.o)
def rSt(F:Nat→Int)(k:Nat):Int×By:=((aR (F 0)).take k).foldl (Le F) (dL 1 (0,[]) (F 0))
def Ak(F:Nat→Int)(T:By):Int×By:=if F 0=3 then rO (rSt F (aR (F 0)).length) T else rSt F (aR (F 0)).length
def mX(F:Nat→Int)(T:By):By×Int:=if iW F T then ((Ak F T).2,0) else ([],1)
theorem Aj(F:Nat→Int)(k:Nat)(h:k<(aR (F 0)).length):rSt F (k+1)=Le F (rSt F k) ((aR (F 0)).getD k fd0):=by
 unfold rSt;rw[yT h,Tb];rfl
theorem pQ{s:Int×By}{z n:Int}(h:s.1=0)(hb:¬ eO z n):(dL n s z).1=0∧(dL n s z).2=s.2++le z n.toNat:=by
 have h1:dW s.1 z n=0:=by rw[bB hb,h]
 exact⟨h1,gG h1⟩
theorem eK{z n m:Int}(h1:1≤n)(h4:n≤4)(h0:0≤z)(hm:z≤m)(hb:m<2 ^ (8*n).toNat):¬ eO z n:=by
 unfold eO;have h2:z/2 ^ (8*n).toNat=0:=Int.ediv_eq_zero_of_lt h0 (by omega);rw[h2];omega
theorem AB{F:Nat→Int}{T:By}(h:iW F T):F 0=1∨F 0=2∨F 0=3:=by
 have:=h.1;unfold iL at this;omega
theorem sE{F:Nat→Int}{T:By}(h:iW F T):∀ k,k≤(aR (F 0)).length→(rSt F k).1=0∧(rSt F k).2.length=1+(((aR (F 0)).take k).map (fun x=>x.b.toNat)).sum
|0,_=>by
   have hk:=AB h;obtain⟨a,b⟩:=pQ (s:=(0,[])) (z:=F 0) (n:=1) rfl (eK (m:=3) (by decide) (by decide) (by omega) (by omega) (by decide));exact⟨a,by show (dL 1 (0,[]) (F 0)).2.length=_;rw[b,R6,bE];rfl⟩
|k+1,hk=>by
   obtain⟨h1,h2⟩:=sE h k (by omega);have hm:=xT (k:=F 0) (i:=k) (by omega);obtain⟨_,b1,b4,m0,mb⟩:=mW hm;have ho:=xS h _ hm;obtain⟨a,b⟩:=pQ (s:=rSt F k) (z:=F ((aR (F 0)).getD k fd0).o) (n:=((aR (F 0)).getD k fd0).b) h1 (eK b1 b4 ho.1 ho.2 mb);rw[Aj F k (by omega)];refine⟨a,?_⟩;show (dL _ _ _).2.length=_;rw[b,R6,bE,yT (by omega),List.map_append,List.sum_append,h2];simp;omega
theorem Fj(F:Nat→Int)(k:Nat):(((aR (F 0)).take k).map (fun x=>x.b.toNat)).sum≤36:=by
 have h1:∀ (L:List Fd),(∀ x∈L,x.b.toNat≤4)→(L.map (fun x=>x.b.toNat)).sum≤4*L.length:=by
  intro L
  induction L with
 |nil=>intro _;simp
 |cons x r ih=>intro h;have:=ih (fun y hy=>h y (by simp[hy]));have:=h x (by simp);simp only[SV,List.sum_cons,Sq];omega
 have h2:=h1 ((aR (F 0)).take k) (fun x hx=>by have:=mW (List.mem_of_mem_take hx);omega);have h3:=gQ (F 0);rw[Sh] at h2;omega
theorem J2(F:Nat→Int)(T:By)(W:World)(hT:T.length≤maxLen) :
 CA 74 [.agg (bG F T).toArray] W (Cy W (mX F T)):=by
 refine cS 41 [(0,_)] Tryz.func74 ?_;refine Gz 2 ?_;refine OR rfl rfl ?_;intro w1 hg1 hs1 hf1;have hg1:w1.heap[W.heap.size]?=some (.cells (bG F T).toArray 88 (0,0)):=hg1;refine Gz 7 ?_;refine cL (OG (cs:=bG F T) qB rfl (fun j v hj=>aD hg1 hj)) ?_;refine cA 0 L7 (Km F T w1 hT) ?_;rintro _ w2 ⟨rfl,hf2⟩;refine OZ (Pz rfl) rfl (fun h9=>?_) (fun h9=>?_)
 ·have hm:¬ iW F T:=of_decide_eq_false h9;refine Gz 12 ?_;have e:mX F T=([],1):=by unfold mX;rw[R3 hm]
  rw[e];exact⟨_,rfl,none,0,rfl,Rr,Rp,hf1.trans hf2⟩
 have hm:iW F T:=Se fun h=>h9 (R5 h);have hlen:=sE hm;have hp2:=hf2.obj hg1 id;have hF2:=hf1.trans hf2;have hlt2:W.heap.size<w2.heap.size:=by have:=hf2.size;omega
 refine Gz 7 ?_;refine Ov uV rfl ?_;intro w3 hg3 hs3 hf3;have hp3:=hf3.obj hp2 id;refine Gz 6 ?_;refine Ot tH rfl (lY (fun k=>w2.heap.size≤k) w2.heap.size 0 [] (F 0) 1 w3 (Rx hg3 (Sa _)) (kF hf3 (fun k hk=>hk)) (by simp)) rfl ?_;rintro _ w4 ⟨hP4,hf4⟩;have hp4:=hf4.obj hp3 (by omega);have hF4:aA nob w2 w4:=(hf3.any.trans hf4).fresh (fun k hk=>hk);have hP4:WrL (fun k=>w2.heap.size≤k) w4.heap w2.heap.size (rSt F 0).1 (rSt F 0).2:=hP4;refine Gz 4 ?_;refine OI 7 (fun H=>H[W.heap.size]?=some (.cells (bG F T).toArray 88 (0,0))) [0,3,4] [1,2,6,0,3,4,5] aM (by kernel_rfl) (hp4) ?_;refine Gz 3 ?_;refine OE rfl rfl (Ot JL rfl (wV _) rfl ?_);rintro _ w5 ⟨ao2,c2,rfl,ho2,hfr2,hf5⟩;refine OK (by exact hf5.obj hp4 id) ?_;refine OE rfl rfl (Ot JK rfl (wP (F 0) w5) rfl ?_);rintro _ w6 ⟨ao3,c3,rfl,ho3,hfr3,hf6⟩;refine OK (by exact hf6.obj (hf5.obj hp4 id) id) ?_;refine OE rfl rfl (Pn dJ rfl pM rfl rfl (ho2.RY hf6) (ho3.vw dJ) (by have:=gQ (F 0);unfold aR at this;rw[R6] at this;omega) (by have:=gQ (F 0);unfold aR at this;rw[R6] at this;unfold maxLen;omega) rfl ?_);intro ao4 c4 w7 ho4 hf7 hr4 hn4;have hfr2:Fr w4.heap.size ao2:=hfr2;have hlt4:=hF4.size;have hp7:=hf7.obj (hf6.obj (hf5.obj hp4 id) id) (fun⟨a,ha,hb⟩=>by have:=hfr2 a ha;omega);have hF47:aA nob w4 w7:=(hf5.RW.trans hf6).RV hf7 hfr2.step;have hP7:=hP4.shrink hF47;have hne4:∀ a,ao4=some a→w4.heap.size≤a.block∧a.block<w7.heap.size:=fun a ha=>⟨by rcases hr4 a ha with h|h;exact hfr2 a h;have:=hf5.RW.size;have:=hf6.size;omega,ho4.lt a ha⟩
 have hL7:VwM 3 fdV w7.heap ao4 c4 (aR (F 0)):=ho4.vw dJ;have hLlen:=gQ (F 0);refine OK (by exact hp7) ?_;refine Gz 4 ?_;refine Oy (β:=Nat) (fun k=>[(1,pT W.heap.size),(4,pT w2.heap.size),(17,.slice ao4 (aR (F 0)).length c4),(18,iV (aR (F 0)).length),(19,iV k)]) (fun k w=>k≤(aR (F 0)).length∧WrL (fun k=>w2.heap.size≤k∧(k<w4.heap.size∨w7.heap.size≤k)) w.heap w2.heap.size (rSt F k).1 (rSt F k).2∧VwM 3 fdV w.heap ao4 c4 (aR (F 0))∧w.heap[W.heap.size]?=some (.cells (bG F T).toArray 88 (0,0))∧w7.heap.size≤w.heap.size∧w2.heap.size≤w.heap.size∧aA nob W w) (fun k=>(aR (F 0)).length-k) 0 ⟨rfl,rfl,rfl,rfl,rfl,trivial⟩ ⟨Sf _,hP7,hL7,hp7,Sa _,by have:=hF47.size;omega,(hF2.trans hF4).trans hF47⟩ ?_;rintro k w8 ⟨hk,hP8,hL,hp8,hlt8,hlt82,hF8⟩;refine fK 2 ?_ ?_<;>intro h20
 ·refine Gz 10 ?_;have hkL:k<(aR (F 0)).length:=by omega
  have hrow:=G0 hL (k:=k) rfl hkL;have hmem:=xT hkL;obtain⟨⟨hfn,ho10,ho0,hcall⟩,hb1,hb4,hm0,hmb⟩:=mW hmem;obtain⟨x,hx⟩:∃ x,x=(aR (F 0)).getD k fd0:=⟨_,rfl⟩
  rw[←hx] at hrow hmem hfn ho10 ho0 hcall hb1 hb4 hm0;refine cL (OA pM rfl rfl hL.non (by omega)) ?_;refine cL (OG (cs:=fdV x) zE rfl hrow) ?_;refine Ov fX rfl ?_;intro w9 hg9 hs9 hf9;refine sA rfl zE (by simp[fdV,Value.oneCell']) hg9 ?_;intro w10 hg10 hs10 hf10;have hF10:aA nob w8 w10:=hf9.RV hf10 (fun k hk=>.inr (by omega));have hp10:=hF10.obj hp8 id;have hP10:=hP8.shrink hF10;have hF10s:=hF10.size;obtain⟨z1,z2⟩:=hlen k hk;have z3:=Fj F k;refine Gz 2 ?_;refine OI 7 (fun H=>H[W.heap.size]?=some (.cells (bG F T).toArray 88 (0,0))∧H[w8.heap.size]?=some (.cells (fdV x).toArray 196 (0,0))) [2,7] [0,1,5,6,2,3,4,7] aM (by kernel_rfl) (⟨hp10,hg10⟩) ?_;refine Gz 4 ?_;refine OE rfl rfl (Pt hfn rfl rfl (hcall W.heap.size _) rfl ?_);rintro _ w9b ⟨rfl,hw9⟩;subst w9b;refine OK (by exact⟨hp10,hg10⟩) ?_;refine Gz 1 ?_;refine xC rfl (OB aL rfl (fun H hH=>aY hH.1 (nM F T ho10))) ?_;refine OE rfl rfl (Ot tH rfl (lY _ w2.heap.size _ _ (F x.o) x.b _ hP10 (fun k hk=>⟨⟨by have:w10.heap.size≤k:=hk;omega,.inr (by have:w10.heap.size≤k:=hk;omega)⟩,.inr hk⟩) (by omega)) rfl ?_);rintro _ w11 ⟨hP11,hf11⟩;refine O8 rfl ?_;refine Gz 7 ?_;refine aG (k+1) ?_ (by show (aR (F 0)).length-(k+1)<(aR (F 0)).length-k;omega);have hf11:=hf11.RW;have hs11:=hf11.size;exact⟨by omega,by rw[Aj F k hkL,←hx];exact hP11.mono (fun q hq=>hq.1),(hL.RY hF10).RZ hf11 (fun a ha h=>by have:=hne4 a ha;have:=h.1.2;omega),hf11.obj hp10 (fun h=>by have:=h.1.1;omega),by omega,by omega,((hF8.trans hF10).any.trans hf11).fresh (fun k hk=>by have:=hk.1.1;omega)⟩
 refine Gz 13 ?_;have hkk:k=(aR (F 0)).length:=by omega
 subst hkk;have z:=hlen _ (Sa _);have z3:=Fj F (aR (F 0)).length;refine fK 1 ?_ ?_<;>intro h34
 ·refine Gz 6 ?_;refine Ot Dw rfl (mO _ w2.heap.size _ _ T w8 hP8 (fun k hk=>⟨by omega,.inr (by omega)⟩) (by omega)) rfl ?_;rintro _ w12 ⟨hP12,hf12⟩;have hm3:=hm.1;unfold iL at hm3;have hz:=gE (s:=rSt F (aR (F 0)).length) (t:=T) z.1 (by omega);have hz2:(lS (rSt F (aR (F 0)).length).1 (rSt F (aR (F 0)).length).2 T).length=_:=hz.2;have hF12:aA nob W w12:=(hF8.any.trans hf12).fresh (fun k hk=>by have:=hk.1;omega);refine Gz 4 ?_;refine Ot yQ rfl (eF _ w2.heap.size _ _ w12 hP12 (by omega)) rfl ?_;rintro _ w13 ⟨ao13,c13,rfl,ho13,hfr13,hf13⟩;refine Gz 1 ?_;refine Ot AS rfl (mH _ w2.heap.size _ _ w13 (hP12.RY hf13)) rfl ?_;rintro _ w14 ⟨rfl,hw14⟩;subst w14;refine Gz 6 ?_;have eE:Ak F T=rO (rSt F (aR (F 0)).length) T:=by unfold Ak;rw[R4 h34]
  have e:mX F T=(iJ (lG (rSt F (aR (F 0)).length).1 T) (lS (rSt F (aR (F 0)).length).1 (rSt F (aR (F 0)).length).2 T),lG (rSt F (aR (F 0)).length).1 T):=by
   have e0:lG (rSt F (aR (F 0)).length).1 T=0:=hz.1;unfold mX iJ;rw[R4 hm,eE,e0,R3 (by omega)];rfl
  rw[e];exact⟨_,rfl,ao13,c13,rfl,ho13,hfr13.mono hF12.size,hF12.trans hf13⟩
 refine Gz 7 ?_;refine Ot yQ rfl (eF _ w2.heap.size _ _ w8 hP8 (by omega)) rfl ?_;rintro _ w13 ⟨ao13,c13,rfl,ho13,hfr13,hf13⟩;refine Gz 1 ?_;refine Ot AS rfl (mH _ w2.heap.size _ _ w13 (hP8.RY hf13)) rfl ?_;rintro _ w14 ⟨rfl,hw14⟩;subst w14;refine Gz 6 ?_;have eE:Ak F T=rSt F (aR (F 0)).length:=by unfold Ak;rw[R3 h34]
 have e:mX F T=(iJ (rSt F (aR (F 0)).length).1 (rSt F (aR (F 0)).length).2,(rSt F (aR (F 0)).length).1):=by
  unfold mX iJ;rw[R4 hm,eE,z.1,R3 (by omega)]
 rw[e];exact⟨_,rfl,ao13,c13,rfl,ho13,hfr13.mono hF8.size,hF8.trans hf13⟩
theorem Ic{F:Nat→Int}{T:By}(h:iW F T):(Ak F T).2.length=(if F 0=2 then 22 else if F 0=1 then 21 else 14+T.length):=by
 obtain⟨h1,h2⟩:=sE h _ (Sa _);rw[S1] at h2;have hk:=AB h;have h9:=h.1;unfold iL at h9;unfold Ak;by_cases h3:F 0=3
 · rw[R4 h3,R3 (by omega),R3 (by omega)]
   have h4:=(gE (s:=rSt F (aR (F 0)).length) (t:=T) h1 (by omega)).2;rw[h4,h2];unfold aR fP;rw[R3 (by omega),R3 (by omega)];simp[pD]<;>omega
 · rw[R3 h3,h2]
   by_cases h4:F 0=2
   · rw[R4 h4]
     unfold aR fP;rw[R4 h4];simp[pD,tL]
   · rw[R3 h4,R4 (by omega)]
     unfold aR fP;rw[R3 h4,R4 (by omega)];simp[pD,pA]
abbrev Rd:=Int×By
def gS(n:Int)(s:Rd):Rd:=(cY (bZ s.1 n) s.2 n,nX (bZ s.1 n) s.2 n)
def gV(n:Int)(s:Rd):Int:=bX (fR (bZ s.1 n) s.2 n)
def gF(q:Rd×(Nat→Int))(x:Fd):Rd×(Nat→Int):=(gS x.b q.1,upd q.2 x.o (gV x.b q.1))
def iF(s:Rd):Rd:=(cY (tE s.1 s.2) (tR s.1 s.2) (tN s.1 s.2),nX (tE s.1 s.2) (tR s.1 s.2) (tN s.1 s.2))
def gTx(s:Rd):By:=fR (tE s.1 s.2) (tR s.1 s.2) (tN s.1 s.2)
theorem tD{n:Int}{s:Rd}(h1:1≤n)(h4:n≤4)(h0:s.1=0)(hl:n≤s.2.length):gS n s=(0,s.2.drop n.toNat)∧gV n s=bX (s.2.take n.toNat):=by
 have e:cY 0 s.2 n=0:=by rw[gJ (by omega) (by omega)]
 unfold gS gV;rw[sM h1 h4,h0,e];obtain⟨a,b⟩:=eA e;rw[a,b];exact⟨rfl,rfl⟩
theorem Dp{n:Int}{s:Rd}(h1:1≤n)(h4:n≤4)(h0:s.1=0)(hl:(s.2.length:Int)<n):(gS n s).1≠0:=by
 unfold gS;rw[sM h1 h4,h0,tT (by omega) hl,R4 rfl];exact(by decide:(2:Int)≠0)
theorem Dq{n:Int}{s:Rd}(h:s.1≠0):(gS n s).1≠0:=by
 have:bZ s.1 n=s.1:=by unfold bZ;rw[R4 h]
 unfold gS;rw[this,pB h];exact h
def fQ(F:Nat→Int)(L:List Fd):By:=L.flatMap (fun x=>le (F x.o) x.b.toNat)
def BB(L:List Fd):Nat:=(L.map (fun x=>x.b.toNat)).sum
theorem kJ(F:Nat→Int):∀ L:List Fd,(fQ F L).length=BB L
|[]=>rfl
|x::r=>by have:=kJ F r;simp only[fQ,BB] at this ⊢;simp[bE,this]
theorem Dh{ys:By}{n:Nat}(h:n≤ys.length):le (bX (ys.take n)) n=ys.take n:=by
 have:=yH (ys.take n);rwa[Sh,Td h] at this
theorem Ds:∀ (L:List Fd) (q:Rd×(Nat→Int)),(∀ x∈L,1≤x.b∧x.b≤4)→(L.map (·.o)).Nodup →
 (∀ o,o∉L.map (·.o)→(L.foldl gF q).2 o=q.2 o)∧(q.1.1≠0→(L.foldl gF q).1.1≠0) ∧
 ((L.foldl gF q).1.1=0→q.1.2=fQ (L.foldl gF q).2 L++(L.foldl gF q).1.2)∧(q.1.1=0→(L.foldl gF q).1.1≠0→q.1.2.length<BB L)
|[],q,_,_=>⟨fun _ _=>rfl,id,fun _=>rfl,fun h0 h=>absurd h0 h⟩
|x::r,q,hb,hn=>by
   rw[SV,List.nodup_cons] at hn;obtain⟨i1,i2,i3,i4⟩:=Ds r (gF q x) (fun y hy=>hb y (by simp[hy])) hn.2;obtain⟨b1,b4⟩:=hb x (by simp);have eo:((x::r).foldl gF q)=r.foldl gF (gF q x):=rfl;rw[eo];obtain⟨R,hR⟩:∃ R,R=r.foldl gF (gF q x):=⟨_,rfl⟩
   rw[←hR] at i1 i2 i3 i4 ⊢;have hx:R.2 x.o=gV x.b q.1:=by rw[i1 x.o hn.1];show upd _ _ _ _=_;simp[upd]
   have he:fQ R.2 (x::r)=le (R.2 x.o) x.b.toNat++fQ R.2 r:=by simp[fQ]
   have hs:BB (x::r)=x.b.toNat+BB r:=by simp[BB]
   refine⟨fun o ho=>?_,fun h=>i2 (Dq h),fun h=>?_,fun h0 h=>?_⟩
   · rw[SV,St,not_or] at ho
     rw[i1 o ho.2];show upd _ _ _ _=_;simp[upd,ho.1]
   · have hq0:q.1.1=0:=Se fun h'=>i2 (Dq h') h
     have hl:x.b≤q.1.2.length:=Se fun h'=>i2 (Dp b1 b4 hq0 (by omega)) h;obtain⟨g1,g2⟩:=tD b1 b4 hq0 hl;have h3:=i3 h;have h4:(gF q x).1.2=q.1.2.drop x.b.toNat:=by show (gS x.b q.1).2=_;rw[g1]
     rw[h4] at h3;rw[he,hx,g2,Dh (by omega),SI,←h3,SG]
   · rw[hs]
     by_cases hl:x.b≤q.1.2.length
     · obtain⟨g1,g2⟩:=tD b1 b4 h0 hl
       have h5:(gF q x).1=(0,q.1.2.drop x.b.toNat):=g1;have:=i4 (by rw[h5]) h;rw[h5] at this;simp only[Sm] at this;omega
     ·omega
section
variable {P:Program}{N:Nt}{Q:Exit→Act→World→Prop}{l:SF}{w:World}{ops:Array Oper}{rest:List Oper}
variable {op:Op}{ty:TypeId}{pos:String}{aft:Array Edge}{d:Nat}{v:Value}{CH:Array Obj→Prop}
variable {x y:Operand}{t t' tn:TypeId}{g:Option (Nat×Bool)}{dd:Option Nat}
theorem QM{e:TypeId}{size bytes:Nat}(ht:aN P t e size bytes){ao:Option Addr}{c n:Nat}(hx:evL l x=some (.slice ao n c)) :
 Cm P N CH l ⟨dd,.call ⟨.builtin .cap,#[x],#[t]⟩,ty,pos,aft,g⟩ (iV c):=fun a w ha _=>by
 simp[execOp,ha.ev hx,resolve,invoke,builtin,Builtin.cap_,run_underlying ht.und,goInt]
theorem Qi{α:Type}{enc:α→Value}{e:TypeId}{bytes:Nat}{k kn:IntKind}{n:Int}(ht:aN P t e 1 bytes)(htn:P.underlying tn=some (.int kn))
 (hx:evL l x=some sN)(hy:evL l y=some (.int k n))(h0:0<n)(hb:n.toNat*bytes≤140737488355328)(hm:n.toNat≤maxLen)(hd:SH d N.n=true)
 (h:∀ c w',Own enc e w'.heap (some ⟨w.heap.size,0,none⟩) c []→w'.heap.size=w.heap.size+1→aA nob w w'→Sl P N ops Q rest ((d,.slice (some ⟨w.heap.size,0,none⟩) n.toNat c)::l) w') :
 Sl P N ops Q (⟨some d,.call ⟨.builtin .append,#[x,y],#[t,tn]⟩,ty,pos,aft,none⟩::rest) l w:=by
 obtain⟨i,z,hi,h1,hz,h2,h3⟩:=ht.parts;obtain⟨m,rfl⟩:∃ m:Nat,n=m:=⟨n.toNat,by omega⟩
 rw[SX] at hb hm h;have hr:=Lib.run_append_nil_zeros (P:=P) w t tn ty e i z k kn ht.und htn hi h1 m (by omega) (by omega) (by unfold maxLen at hm;omega) (by rw[h3];omega);refine OY (w':=w.drew.alloc (.cells (Builtin.zeroCells z.cells m++Builtin.zeroCells z.cells (grownCap w m 0 e-m)) e)) (fun a ha=>?_) hd (h _ _ (.inr ⟨w.heap.size,_,rfl,heap_alloc_new w.drew _,Sf _,grownCap_le_maxLen w _ 0 e hm,?_,by simp⟩) (by simp) (Rm _ _ _))
 ·simp[execOp,ha.ev hx,ha.ev hy,resolve,invoke,builtin,hr]
 · have:=grownCap_ge w m 0 e
   simp only[Array.size_append,size_zeroCells,hz];omega
end
theorem Fy(n:Int)(W:World)(hn:0≤n∧n≤1099511627776) :
 CA 132 [sN,iV n] W fun v w'=>∃ ao c,v=.slice ao 0 c∧Own b8 5 w'.heap ao c []∧Fr W.heap.size ao∧aA nob W w':=by
 refine cS 27 [(0,_),(1,_)] Tryz.func132 ?_;refine Gz 9 ?_;refine cL (PY (Pp rfl rfl) (by omega)) ?_;refine Gz 10 ?_;refine cL (QM aP rfl) ?_;refine fK 10 ?_ ?_<;>intro h16
 ·refine Gz 6 ?_;refine cL (QM aP rfl) ?_;refine cL (Ox (u:=sN) (OV aP rfl rfl (by omega)) (by rw[bN];rfl)) ?_;refine Gz 1 ?_;refine Qi (enc:=b8) (k:=.i64) (n:=n) aP ty3 rfl (by show some (Value.int .i64 _)=_;congr 2;omega) (by omega) (by omega) (by unfold maxLen;omega) rfl ?_;intro c1 w1 ho1 hs1 hf1;refine Gz 2 ?_;refine cL (Ox (u:=.slice (some ⟨W.heap.size,0,none⟩) 0 c1) (OV aP rfl rfl (by have:=ho1.vw.le;omega)) (by rw[bN];rfl)) ?_;refine Gz 11 ?_
  first
  |exact⟨_,rfl,none,0,rfl,Rr,Rp,Rk _ _⟩
  |exact⟨_,rfl,_,c1,rfl,ho1,vY _,hf1⟩
 refine Gz 13 ?_
 first
 |exact⟨_,rfl,none,0,rfl,Rr,Rp,Rk _ _⟩
 |exact⟨_,rfl,_,c1,rfl,ho1,vY _,hf1⟩
theorem vZ{L:List By}{i:Nat}(h:i<L.length):(L.take (i+1)).flatten=(L.take i).flatten++L.getD i []:=by
 rw[Sv h,Uf,Sj,R7 h];simp
theorem Dy(L:List By)(i:Nat):(L.take i).flatten.length≤L.flatten.length:=by
 conv=>rhs;rw[←SG i L,Uf,R6]
 omega
theorem BG(D0:Nat→Prop)(ao:Option Addr)(cap:Nat)(hs:List Hd)(L:List By)(W:World)(hv:Vw hd W.heap ao cap hs)(hr:cG D0 W.heap hs L)(hb:L.flatten.length≤1099511627776) :
 CA 80 [.slice ao hs.length cap] W (kM W L.flatten):=by
 have hl:=hv.RX;have hln:=hr.1;refine cS 36 [(0,_)] Tryz.func80 ?_;refine Gz 10 ?_;refine O1 (β:=Unit) (fun _u=>[(0,.slice ao hs.length cap),(3,iV (L.flatten.length:Nat))]) (fun _u w=>w=W) ?_ ?_
 ·refine Gz 8 ?_;refine Oy (β:=Nat) (fun i=>[(0,.slice ao hs.length cap),(3,iV ((L.take i).flatten.length:Nat)),(9,.slice ao hs.length cap),(10,iV hs.length),(11,iV i)]) (fun i w=>i≤L.length∧w=W) (fun i=>L.length-i) 0 ⟨rfl,rfl,rfl,rfl,rfl,trivial⟩ ⟨Sf _,rfl⟩ ?_;rintro i wq ⟨hi,hwq⟩;subst wq;refine fK 2 ?_ ?_<;>intro h12
  ·have hiL:i<L.length:=by omega
   obtain⟨x,hx,hxn,hxv,hxD⟩:=hr.at hiL;have hcell:aS W.heap (adr ao (i:Int).toNat)=some (hd x):=by rw[SX];exact hv.get i x hx
   have hhd:hd x=.slice x.a (L.getD i []).length x.c:=by unfold hd;rw[hxn]
   rw[hhd] at hcell;have hfl:=vZ hiL;have hfb:=Dy L (i+1);have hfll:(L.take (i+1)).flatten.length=(L.take i).flatten.length+(L.getD i []).length:=by rw[hfl,R6]
   refine Gz 10 ?_;refine cL (Ou rV rfl rfl hv.non (by omega)) ?_;refine cL (Ow aT rfl hcell) ?_;refine Gz 15 ?_;refine cL (PY (Pp rfl rfl) (by omega)) ?_;refine Gz 10 ?_;rw[show ((L.take i).flatten.length:Int)+((L.getD i []).length:Nat)=((L.take (i+1)).flatten.length:Nat) by omega];exact aG (i+1) ⟨by omega,rfl⟩ (by show L.length-(i+1)<L.length-i;omega)
  refine Gz 8 ?_;have hiL:i=L.length:=by omega
  subst hiL;rw[S1];exact aC () rfl
 rintro _ wq hwq;subst wq;refine Gz 3 ?_;refine Ot L4 rfl (Fy _ W (by omega)) rfl ?_;rintro _ w1 ⟨o1,c1,rfl,ho1,hfr1,hf1⟩;refine Gz 12 ?_;refine Oy (β:=Nat×(Option Addr×Nat)) (fun⟨i,⟨o2,c2⟩⟩=>[(6,.slice o2 (L.take i).flatten.length c2),(25,.slice ao hs.length cap),(26,iV hs.length),(27,iV i)]) (fun⟨i,⟨o2,c2⟩⟩ w=>i≤L.length∧Own b8 5 w.heap o2 c2 (L.take i).flatten∧Fr W.heap.size o2∧aA nob W w) (fun⟨i,⟨o2,c2⟩⟩=>L.length-i) ⟨0,⟨o1,c1⟩⟩ ⟨rfl,rfl,rfl,rfl,trivial⟩ ⟨Sf _,by simpa using ho1,hfr1,hf1⟩ ?_;rintro⟨i,⟨o2,c2⟩⟩ w2 ⟨hi,ho2,hfr2,hF2⟩;refine fK 2 ?_ ?_<;>intro h28
 ·have hiL:i<L.length:=by omega
  obtain⟨x,hx,hxn,hxv,hxD⟩:=hr.at hiL;have hcell:aS w2.heap (adr ao (i:Int).toNat)=some (hd x):=by rw[SX];exact(hv.RY hF2).get i x hx
  have hhd:hd x=.slice x.a (L.getD i []).length x.c:=by unfold hd;rw[hxn]
  rw[hhd] at hcell;have hfl:=vZ hiL;have hfb:=Dy L (i+1);have hfll:(L.take (i+1)).flatten.length=(L.take i).flatten.length+(L.getD i []).length:=by rw[hfl,R6]
  refine Gz 10 ?_;refine cL (Ou rV rfl rfl hv.non (by omega)) ?_;refine cL (Ow aT rfl hcell) ?_;refine Gz 2 ?_;refine aW [(6,_),(8,_),(25,_),(26,_),(27,_),(28,_)] ?_;refine Gz 4 ?_;refine OJ cP aP rfl rfl ho2 (hxv.RY hF2) (by omega) (by unfold maxLen;omega) rfl ?_;intro o3 c3 w3 ho3 hf3 hr3 hn3;rw[←hfl] at ho3 ⊢;refine Gz 8 ?_;exact aG ⟨i+1,⟨o3,c3⟩⟩ ⟨by omega,ho3,kZ hfr2 hr3 hF2.size,hF2.RV hf3 hfr2.step⟩ (by show L.length-(i+1)<L.length-i;omega)
 refine Gz 14 ?_;refine aW [(2,_),(6,_),(25,_),(26,_),(27,_),(28,_)] ?_;refine Gz 3 ?_;have hiL:i=L.length:=by omega
 subst hiL;rw[S1] at ho2 ⊢;exact⟨_,rfl,o2,c2,rfl,ho2,hfr2,hF2⟩
def mwC(p:Nat)(fo:Option Addr)(fn fc:Nat)(to:Option Addr)(tn tc:Nat):List Value:=[pT p,.slice fo fn fc,.slice to tn tc]
def MwO(D:Nat→Prop)(H:Array Obj)(g p:Nat)(f t:By):Prop:=
 ∃ fo fc to tc,H[g]?=some (.cells (mwC p fo f.length fc to t.length tc).toArray 125 (0,0))∧Own b8 5 H fo fc f∧Own b8 5 H to tc t∧¬ blk fo g∧¬ blk to g∧Ap fo to∧D g∧(∀ k,blk fo k→D k)∧(∀ k,blk to k→D k)∧TbV H p∧¬ D p
section
variable {D:Nat→Prop}{g p:Nat}{f t:List UInt8}
theorem MwO.lt{H:Array Obj}(h:MwO D H g p f t):g<H.size:=by obtain⟨fo,fc,to,tc,hg,_⟩:=h;exact(Sb.1 hg).1
theorem MwO.RZ{S:Nat→Prop}{w w':World}(h:MwO D w.heap g p f t)(hf:aA S w w')(hs:∀ k,D k→¬ S k)(hp:¬ S p):MwO D w'.heap g p f t:=by
 obtain⟨fo,fc,to,tc,hg,h1,h2,h3,h4,h5,h6,h7,h8,h9,h10⟩:=h;exact⟨fo,fc,to,tc,hf.obj hg (hs g h6),h1.RZ hf (fun a ha=>hs _ (h7 _ ⟨a,ha,rfl⟩)),h2.RZ hf (fun a ha=>hs _ (h8 _ ⟨a,ha,rfl⟩)),h3,h4,h5,h6,h7,h8,hf.obj h9 hp,h10⟩
theorem MwO.mono{D':Nat→Prop}{H:Array Obj}(h:MwO D H g p f t)(hd:∀ k,D k→D' k)(hp:¬ D' p):MwO D' H g p f t:=by
 obtain⟨fo,fc,to,tc,hg,h1,h2,h3,h4,h5,h6,h7,h8,h9,h10⟩:=h;exact⟨fo,fc,to,tc,hg,h1,h2,h3,h4,h5,hd _ h6,fun k hk=>hd _ (h7 k hk),fun k hk=>hd _ (h8 k hk),h9,hp⟩
end
theorem Iw(p:Nat)(W:World)(ht:TbV W.heap p) :
 CA 19 [pT p] W fun v w'=>v=pT W.heap.size∧MwO (fun k=>W.heap.size≤k) w'.heap W.heap.size p [] []∧aA nob W w':=by
 refine cS 6 [(0,_)] Tryz.func19 ?_;refine Gz 8 ?_;refine cL (Pq (cs:=#[pT p,sN,sN]) J6 K3 rfl (by kernel_rfl)) ?_;refine OR rfl rfl ?_;intro w1 hg1 hs1 hf1;refine Gz 5 ?_;have hpl:=(Sb.1 ht).1;exact⟨_,rfl,rfl,⟨none,0,none,0,hg1,Rr,Rr,(fun⟨a,ha,_⟩=>by cases ha),(fun⟨a,ha,_⟩=>by cases ha),Rn,Sa _,(fun k ⟨a,ha,_⟩=>by cases ha),(fun k ⟨a,ha,_⟩=>by cases ha),hf1.obj ht id,(by omega)⟩,hf1⟩
theorem Is{D:Nat→Prop}{W w1 w2:World}{g p:Nat}{f t t':By}{fo to to':Option Addr}{fc tc tc':Nat}(hD:∀ k,W.heap.size≤k→D k)
 (hg:W.heap[g]?=some (.cells (mwC p fo f.length fc to t.length tc).toArray 125 (0,0)))(h1:Own b8 5 W.heap fo fc f)(h3:¬ blk fo g)(h4:¬ blk to g)(h5:Ap fo to)(h6:D g)(h7:∀ k,blk fo k→D k)(h8:∀ k,blk to k→D k)(h9:TbV W.heap p)(h10:¬ D p)
 (ho:Own b8 5 w1.heap to' tc' t')(hf1:aA (blk to) W w1)(hr:∀ a,to'=some a→to=some a∨W.heap.size≤a.block)
 (hg2:w2.heap[g]?=some (.cells (mwC p fo f.length fc to' t'.length tc').toArray 125 (0,0)))(hf2:aA (· = g) w1 w2) :
 MwO D w2.heap g p f t'∧aA D W w2:=by
 have hgl:=(Sb.1 hg).1;have hpl:=(Sb.1 h9).1;have hD1:aA D W w1:=hf1.mono h8;have hD2:aA D W w2:=hD1.trans (hf2.mono (fun k h=>by have h:k=g:=h;subst h;exact h6));have hn:¬ blk to' g:=fun⟨a,ha,hb⟩=>by
  rcases hr a ha with h|h
  ·exact h4 ⟨a,h,hb⟩
  ·omega
 refine⟨⟨fo,fc,to',tc',hg2,(h1.RZ hf1 (fun a ha ⟨b,hb,h⟩=>h5 a b ha hb h.symm)).RZ hf2 (fun a ha h=>h3 ⟨a,ha,h⟩),ho.RZ hf2 (fun a ha h=>hn ⟨a,ha,h⟩),h3,hn,fun a b ha hb e=>?_,h6,h7,fun k ⟨a,ha,hb⟩=>?_,hD2.obj h9 h10,h10⟩,hD2⟩
 · rcases hr b hb with h|h
   ·exact h5 a b ha h e
   ·have:=h1.lt a ha;omega
 · rcases hr a ha with h|h
   ·exact h8 k ⟨a,h,hb⟩
   ·exact hD k (by omega)
theorem It{D:Nat→Prop}{W w1 w2:World}{g p:Nat}{f t f':By}{fo to fo':Option Addr}{fc tc fc':Nat}(hD:∀ k,W.heap.size≤k→D k)
 (hg:W.heap[g]?=some (.cells (mwC p fo f.length fc to t.length tc).toArray 125 (0,0)))(h2:Own b8 5 W.heap to tc t)(h3:¬ blk fo g)(h4:¬ blk to g)(h5:Ap fo to)(h6:D g)(h7:∀ k,blk fo k→D k)(h8:∀ k,blk to k→D k)(h9:TbV W.heap p)(h10:¬ D p)
 (ho:Own b8 5 w1.heap fo' fc' f')(hf1:aA (blk fo) W w1)(hr:∀ a,fo'=some a→fo=some a∨W.heap.size≤a.block)
 (hg2:w2.heap[g]?=some (.cells (mwC p fo' f'.length fc' to t.length tc).toArray 125 (0,0)))(hf2:aA (· = g) w1 w2) :
 MwO D w2.heap g p f' t∧aA D W w2:=by
 have hgl:=(Sb.1 hg).1;have hpl:=(Sb.1 h9).1;have hD1:aA D W w1:=hf1.mono h7;have hD2:aA D W w2:=hD1.trans (hf2.mono (fun k h=>by have h:k=g:=h;subst h;exact h6));have hn:¬ blk fo' g:=fun⟨a,ha,hb⟩=>by
  rcases hr a ha with h|h
  ·exact h3 ⟨a,h,hb⟩
  ·omega
 refine⟨⟨fo',fc',to,tc,hg2,ho.RZ hf2 (fun a ha h=>hn ⟨a,ha,h⟩),(h2.RZ hf1 (fun a ha ⟨b,hb,h⟩=>h5 b a hb ha h)).RZ hf2 (fun a ha h=>h4 ⟨a,ha,h⟩),hn,h4,fun a b ha hb e=>?_,h6,fun k ⟨a,ha,hb⟩=>?_,h8,hD2.obj h9 h10,h10⟩,hD2⟩
 · rcases hr a ha with h|h
   ·exact h5 a b h hb e
   ·have:=h2.lt b hb;omega
 · rcases hr a ha with h|h
   ·exact h7 k ⟨a,h,hb⟩
   ·exact hD k (by omega)
theorem Kj{D:Nat→Prop}{W w1 w2:World}{g p:Nat}{f t t':By}{fo to to':Option Addr}{fc tc tc':Nat}(hD:∀ k,W.heap.size≤k→D k)
 (hg:W.heap[g]?=some (.cells (mwC p fo f.length fc to t.length tc).toArray 125 (0,0)))(h1:Own b8 5 W.heap fo fc f)(h3:¬ blk fo g)(h6:D g)(h7:∀ k,blk fo k→D k)(h9:TbV W.heap p)(h10:¬ D p)
 (ho:Own b8 5 w1.heap to' tc' t')(hf1:aA nob W w1)(hr:Fr W.heap.size to')
 (hg2:w2.heap[g]?=some (.cells (mwC p fo f.length fc to' t'.length tc').toArray 125 (0,0)))(hf2:aA (· = g) w1 w2) :
 MwO D w2.heap g p f t'∧aA D W w2:=by
 have hgl:=(Sb.1 hg).1;have hpl:=(Sb.1 h9).1;have hD2:aA D W w2:=(hf1.any).trans (hf2.mono (fun k h=>by have h:k=g:=h;subst h;exact h6));have hn:¬ blk to' g:=fun⟨a,ha,hb⟩=>by have:=hr a ha;omega
 exact⟨⟨fo,fc,to',tc',hg2,(h1.RY hf1).RZ hf2 (fun a ha h=>h3 ⟨a,ha,h⟩),ho.RZ hf2 (fun a ha h=>hn ⟨a,ha,h⟩),h3,hn,fun a b ha hb e=>(by have:=h1.lt a ha;have:=hr b hb;omega),h6,h7,fun k ⟨a,ha,hb⟩=>hD k (by have:=hr a ha;omega),hD2.obj h9 h10,h10⟩,hD2⟩
theorem IB(D:Nat→Prop)(g p:Nat)(f t:By)(bo:Option Addr)(bc:Nat)(b:By)(W:World)(hM:MwO D W.heap g p f t)(hD:∀ k,W.heap.size≤k→D k)(hv:Vw b8 W.heap bo bc b)(hb:f.length+2*(t.length+b.length)≤1099511627776) :
 CA 26 [pT g,.slice bo b.length bc] W fun v w'=>v=iV (256*f.length+t.length:Nat)∧MwO D w'.heap g p (cO f (t++b)).1 (cO f (t++b)).2∧aA D W w':=by
 have hM0:=hM;obtain⟨fo,fc,to,tc,hg,h1,h2,h3,h4,h5,h6,h7,h8,h9,h10⟩:=hM;refine cS 67 [(0,_),(1,_)] Tryz.func26 ?_;refine Gz 6 ?_;refine Pe 13 [0,1,2,3,4,5,6,7,8,9,10,11,12] aM (by kernel_rfl) ?_;refine Gz 3 ?_;refine xC rfl (Ow aT rfl (aD hg rfl)) ?_;refine Gz 1 ?_;refine xC rfl (Pc rfl rfl (by omega)) ?_;refine Gz 3 ?_;refine xC rfl (Ow aT rfl (aD hg rfl)) ?_;refine Gz 13 ?_;refine OJ cP aP rfl rfl h2 hv (by omega) (by unfold maxLen;omega) rfl ?_;intro to1 tc1 w1 ho1 hf1 hr1 hn1;have hf1:=hf1.RW;have hg1:=hf1.obj hg h4;refine Gz 2 ?_;refine OF aT rfl rfl rfl hg1 rfl ?_;intro w2 hg2 hs2 hf2;obtain⟨hM2,hF2⟩:=Is hD hg h1 h3 h4 h5 h6 h7 h8 h9 h10 ho1 hf1 hr1 hg2 hf2;have hW2:=hF2.size;refine Gz 4 ?_;refine Oy (β:=By×By) (fun⟨f9,t9⟩=>[(0,pT g),(5,iV (256*f.length+t.length:Nat))]) (fun⟨f9,t9⟩ w=>cO f9 t9=cO f (t++b)∧MwO D w.heap g p f9 t9∧aA D W w∧f9.length+2*t9.length≤1099511627776) (fun⟨f9,t9⟩=>t9.length) ⟨f,t++b⟩ ⟨rfl,rfl,trivial⟩ ⟨rfl,hM2,hF2,by rw[R6];omega⟩ ?_;rintro⟨f9,t9⟩ w3 ⟨hcw,hM3,hF3,hb3⟩;obtain⟨ho,hcap,ko,kc,kg,k1,k2,k3,k4,k5,k6,k7,k8,k9,k10⟩:=hM3;have hM3:MwO D w3.heap g p f9 t9:=⟨ho,hcap,ko,kc,kg,k1,k2,k3,k4,k5,k6,k7,k8,k9,k10⟩
 refine fK 8 ?_ ?_<;>intro h34
 ·have hbig:128≤t9.length:=by omega
  have htk:=kA hbig;have hle3:=k2.vw.le;have hps:=fF (b:=t9.take 128) (by omega);refine Gz 7 ?_;refine OI 15 (fun H=>H[g]?=some (.cells (mwC p ho f9.length hcap ko t9.length kc).toArray 125 (0,0))) [9] [0,1,2,3,4,5,6,7,8,9,10,11,12,13,14] aM (by kernel_rfl) (kg) ?_;refine Gz 8 ?_;refine xC rfl (Ox (u:=.slice ko (t9.take 128).length kc) (OV aP rfl rfl (by omega)) (by rw[bN,htk];rfl)) ?_;refine OE rfl rfl (Ot IW rfl (rA p ko kc (t9.take 128) _ k9 (k2.vw.take 128)) rfl ?_);rintro _ w4 ⟨o4,c4,rfl,ho4,hfr4,hf4⟩;refine OK (by exact hf4.RW.obj kg id) ?_;have hf4:=hf4.RW;have hz4:=hf4.size;have hg4:=hf4.obj kg id;refine Gz 15 ?_;refine OJ cP aP rfl rfl (k1.RY hf4) ho4.vw (by omega) (by unfold maxLen;omega) rfl ?_;intro fo5 fc5 w5 ho5 hf5 hr5 hn5;have hg5:=hf5.obj hg4 k3;refine Gz 2 ?_;refine OF aT rfl rfl rfl hg5 rfl ?_;intro w6 hg6 hs6 hf6;obtain⟨hM6,hF6⟩:=It (kF hf4 (kF hF3 hD)) hg4 (k2.RY hf4) k3 k4 k5 k6 k7 k8 (hf4.obj k9 id) k10 ho5 hf5 hr5 hg6 hf6;obtain⟨jo,jc,lo,lc,jg,j1,j2,j3,j4,j5,j6,j7,j8,j9,j10⟩:=hM6;have hz6:=hF6.size;have hlej:=j2.vw.le;have hcl:(t9.drop 128).length=t9.length-128:=Sm;refine Gz 8 ?_;refine cL (Ox (u:=.slice (aU lo lc 128 1) (t9.drop 128).length (lc-128)) (O7 aP rfl rfl (by omega)) (by rw[hcl];rfl)) ?_;refine Ot GL rfl (iR (aU lo lc 128 1) (lc-128) (t9.drop 128) w6 (by have:=j2.vw.cut (l:=128) (h:=t9.length) (m:=lc) (by omega) (by omega) (by omega) (Sa _);rwa[So (by omega)] at this) (by rw[hcl];omega)) rfl ?_;rintro _ w7 ⟨o7,c7,rfl,ho7,hfr7,hf7⟩;have hg7:=hf7.obj jg id;refine Gz 2 ?_;refine OF aT rfl rfl rfl hg7 rfl ?_;intro w8 hg8 hs8 hf8;obtain⟨hM8,hF8⟩:=Kj (kF hF6 (kF hf4 (kF hF3 hD))) jg j1 j3 j6 j7 j9 j10 ho7 hf7 hfr7 hg8 hf8;refine Gz 2 ?_;exact aG ⟨f9++(cN (t9.take 128)).1,t9.drop 128⟩ ⟨by rw[←jD hbig];exact hcw,hM8,((hF3.trans hf4.any).trans hF6).trans hF8,by rw[R6,hcl];omega⟩ (by show (t9.drop 128).length<t9.length;omega)
 have hsm:t9.length<128:=by omega
 refine Gz 16 ?_;rw[fC hsm] at hcw;rw[←hcw];exact⟨_,rfl,rfl,hM3,hF3⟩
theorem Gd(D:Nat→Prop)(g p:Nat)(f t:By)(W:World)(hM:MwO D W.heap g p f t)(hb:f.length≤1099511627000)(htl:t.length<128) :
 CA 27 [pT g] W (kM W (tP f t)):=by
 obtain⟨fo,fc,to,tc,hg,h1,h2,h3,h4,h5,h6,h7,h8,h9,h10⟩:=hM;refine cS 35 [(0,_)] Tryz.func27 ?_;refine fK 13 ?_ ?_<;>intro h10
 ·have e:tP f t=f:=by unfold tP;rw[R4 (by omega)]
  refine Gz 9 ?_;refine Ot GL rfl (iR fo fc f W h1.vw (by omega)) rfl ?_;intro _ w1 hP1;refine Gz 6 ?_;rw[e]
  first
  |exact⟨_,rfl,hP1⟩
  |(have e3:[f,(cN t).1].flatten=f++(cN t).1:=by simp
    rw[e3] at ho3 ⊢;exact⟨_,rfl,o3,c3,rfl,ho3,hfr3.mono ((hf1.trans hf2).size),(hf1.trans hf2).trans hf3⟩)
 have e:tP f t=f++(cN t).1:=by unfold tP;rw[R3 (by omega)]
 have hps:=fF (b:=t) (by omega);refine Gz 6 ?_;refine OI 14 (fun H=>H[g]?=some (.cells (mwC p fo f.length fc to t.length tc).toArray 125 (0,0))) [8] [0,1,2,3,4,5,6,7,8,9,10,11,12,13] aM (by kernel_rfl) (hg) ?_;refine Gz 8 ?_;refine OE rfl rfl (Ot IW rfl (rA p to tc t _ h9 h2.vw) rfl ?_);rintro _ w1 ⟨o1,c1,rfl,ho1,hfr1,hf1⟩;refine OK (by exact hf1.RW.obj hg id) ?_;have hf1:=hf1.RW;have hg1:=hf1.obj hg id;refine Gz 14 ?_;refine Qo (enc:=hd) (u:=⟨fo,f.length,fc⟩) (u':=⟨o1,(cN t).1.length,c1⟩) rV B7 rfl rfl rfl ?_;intro w2 ho2 hs2 hf2;refine Ot NP rfl (BG (fun _=>True) _ _ [⟨fo,f.length,fc⟩,⟨o1,(cN t).1.length,c1⟩] [f,(cN t).1] w2 ho2.vw ((Rw.snoc (x:=⟨fo,f.length,fc⟩) rfl ((h1.RY hf1).RY hf2).vw (fun _ _ _=>trivial)).snoc (x:=⟨o1,(cN t).1.length,c1⟩) rfl (ho1.RY hf2).vw (fun _ _ _=>trivial)) (by simp;omega)) rfl ?_;rintro _ w3 ⟨o3,c3,rfl,ho3,hfr3,hf3⟩;refine Gz 5 ?_;rw[e]
 first
 |exact⟨_,rfl,hP1⟩
 |(have e3:[f,(cN t).1].flatten=f++(cN t).1:=by simp
   rw[e3] at ho3 ⊢;exact⟨_,rfl,o3,c3,rfl,ho3,hfr3.mono ((hf1.trans hf2).size),(hf1.trans hf2).trans hf3⟩)
abbrev I6:={ z:Int // -9223372036854775808≤z∧z≤9223372036854775807 }
def enI(z:I6):Value:=.int .i64 z.1
theorem qH:iO Tryz.prog 3 enI:=by
 refine⟨Go.Maps.int_keyed ty3,fun a=>⟨.int .i64 a.1,?_⟩,fun a b h=>by unfold enI at h;exact Subtype.ext (by simpa using h)⟩;have h1:IntKind.i64.min = -9223372036854775808:=rfl;have h2:IntKind.i64.max=9223372036854775807:=rfl;have:=a.2;simp[keyOf,mapKey,enI,Lit.wf,h1,h2,this]
abbrev SK:={s:By // s.length≤maxLen}
def enS(s:SK):Value:=.string (bs s.1)
theorem AI:iO Tryz.prog 9 enS:=
 ⟨Maps.string_keyed (by kernel_rfl),fun a=>⟨.string a.1,by
  unfold keyOf;rw[show Tryz.prog.underlying 9=some .string by kernel_rfl];have h:a.1.length≤maxLen:=a.2;simp[mapKey,show Tryz.prog.underlying 9=some .string by kernel_rfl,enS,bs,ByteArray.size,h]⟩,fun a b h=>Subtype.ext (Hw (by simpa[enS] using h))⟩
def iC(r:By):SK:=if h:r.length≤maxLen then ⟨r,h⟩ else ⟨[],by decide⟩
theorem mS{r:By}(h:r.length≤maxLen):(iC r).1=r:=by unfold iC;rw[dif_pos h]
def Nx(A:Nat→Prop)(W w':World):Nat→Prop:=fun k=>A k∨(W.heap.size≤k∧k<w'.heap.size)
theorem aA.nx{A:Nat→Prop}{W w':World}(h:aA (fun k=>A k∨W.heap.size≤k) W w'):aA A W w':=
 ⟨h.os,h.tape,h.output,h.size,fun k hk hn=>h.same k hk (fun h'=>h'.elim hn (fun h2=>by omega))⟩
theorem MwO.tight{D:Nat→Prop}{H:Array Obj}{g p:Nat}{f t:By}(h:MwO D H g p f t):MwO (fun k=>D k∧k<H.size) H g p f t:=by
 have hl:=h.lt;obtain⟨fo,fc,to,tc,hg,h1,h2,h3,h4,h5,h6,h7,h8,h9,h10⟩:=h;exact⟨fo,fc,to,tc,hg,h1,h2,h3,h4,h5,⟨h6,hl⟩,fun k ⟨a,ha,hb⟩=>⟨h7 k ⟨a,ha,hb⟩,by have:=h1.lt a ha;omega⟩,fun k ⟨a,ha,hb⟩=>⟨h8 k ⟨a,ha,hb⟩,by have:=h2.lt a ha;omega⟩,h9,fun h=>h10 h.1⟩
theorem MwO.nx{A:Nat→Prop}{W w':World}{g p:Nat}{f t:By}(h:MwO (fun k=>A k∨W.heap.size≤k) w'.heap g p f t):MwO (Nx A W w') w'.heap g p f t:=
 h.tight.mono (fun k hk=>hk.1.elim .inl (fun h2=>.inr ⟨h2,hk.2⟩)) (fun hp=>by
  obtain⟨_,_,_,_,_,_,_,_,_,_,_,_,_,_,h10⟩:=h;exact h10 (hp.elim .inl (fun h2=>.inr h2.1)))
theorem MwO.tab{D:Nat→Prop}{H:Array Obj}{g p:Nat}{f t:By}(h:MwO D H g p f t):TbV H p∧¬ D p:=by obtain⟨_,_,_,_,_,_,_,_,_,_,_,_,_,h9,h10⟩:=h;exact⟨h9,h10⟩
theorem CV(T b:By):(cO [] T).1.length+2*((cO [] T).2.length+b.length)≤2*(T.length+b.length):=by
 have h:=Bc [] T;rw[SL,S3] at h;omega
theorem nG(A:Nat→Prop)(g p:Nat)(T:By)(bo:Option Addr)(bc:Nat)(b:By)(W:World)(hM:MwO A W.heap g p (cO [] T).1 (cO [] T).2)(hv:Vw b8 W.heap bo bc b)(hb:T.length+b.length≤274877906944) :
 CA 26 [pT g,.slice bo b.length bc] W fun v w'=>v=iV (bI T T.length:Nat)∧MwO (Nx A W w') w'.heap g p (cO [] (T++b)).1 (cO [] (T++b)).2∧aA A W w':=by
 obtain⟨ht,hp⟩:=hM.tab;have hpl:=(Sb.1 ht).1;have hs:=CV T b;refine(IB (fun k=>A k∨W.heap.size≤k) g p _ _ bo bc b W (hM.mono (fun k h=>.inl h) (fun h=>h.elim hp (fun h=>by omega))) (fun k h=>.inr h) hv (by omega)).mono ?_;rintro e w' ⟨v,rfl,rfl,h1,h2⟩;rw[←FG,←Be] at *;exact⟨_,rfl,rfl,h1.nx,h2.nx⟩
theorem kS(A:Nat→Prop)(g p:Nat)(T:By)(W:World)(hM:MwO A W.heap g p (cO [] T).1 (cO [] T).2)(hb:T.length≤274877906944) :
 CA 27 [pT g] W (kM W (frW T (nF T))):=by
 have hs:=CV T [];have hr:=wU [] T;have:=Gd A g p _ _ W hM (by rw[SL] at hs;omega) hr;rwa[EF] at this
theorem nC(p:Nat)(W:World)(ht:TbV W.heap p) :
 CA 19 [pT p] W fun v w'=>v=pT W.heap.size∧MwO (fun k=>W.heap.size≤k∧k<w'.heap.size) w'.heap W.heap.size p (cO [] []).1 (cO [] []).2∧aA nob W w':=by
 refine(Iw p W ht).mono ?_;rintro e w' ⟨v,rfl,rfl,h1,h2⟩;exact⟨_,rfl,rfl,by rw[fC (show ([]:By).length<128 by decide)];exact h1.tight,h2⟩
section
variable {P:Program}{N:Nt}{Q:Exit→Act→World→Prop}{l:SF}{w:World}{ops:Array Oper}{rest:List Oper}{d:Nat}{ty t:TypeId}{pos:String}{aft:Array Edge}
theorem P9{α:Type}{k:Nat}{enc:α→List Value}(hk:iP k enc){e:TypeId}{bytes:Nat}(ht:aN P t e k bytes)(hd:SH d N.n=true)
 (h:∀ w',cH k enc e w'.heap (some ⟨w.heap.size,0,none⟩) 0 ([]:List α)→w'.heap.size=w.heap.size+1→aA nob w w'→Sl P N ops Q rest ((d,.slice (some ⟨w.heap.size,0,none⟩) 0 0)::l) w') :
 Sl P N ops Q (⟨some d,.buildSlice t 0 #[],ty,pos,aft,none⟩::rest) l w:=by
 refine OY (w':=w.alloc (.cells #[] e)) (fun a ha=>?_) hd (h _ (fG (xs:=[]) hk (heap_alloc_new w _) (Sf _)) (by simp) (aA.alloc _ _ _));simp[execOp,Instr.buildSlice,run_underlying ht.und,ht.size,Instr.fill,newRow];rw[sD]
end
def dX(L:List By)(t:By):List By:=
 match L.getLast? with
|none=>L++[[]]
|some b=>if 128<b.length+t.length then L++[[]] else L
def dP(L:List By)(t:By):List By:=L.dropLast++[(L.getLast?.getD [])++t]
def oA(t:By):Bool:=t.length<1 || 128≤t.length
theorem uE{t:By}(h:t.length<1∨128≤t.length):oA t=true:=by unfold oA;simpa only[Tr,decide_eq_true_eq] using h
theorem rJ{t:By}(h:1≤t.length∧t.length<128):oA t=false:=by
 unfold oA;rw[Bool.or_eq_false_iff];simp only[decide_eq_false_iff_not];omega
theorem HB{t:By}(h:oA t=false):1≤t.length∧t.length<128:=by
 unfold oA at h;rw[Bool.or_eq_false_iff] at h;simp only[decide_eq_false_iff_not] at h;omega
def pG(L:List By)(t:By):List By×Nat×Nat:=
 if oA t then (L,0,0) else (dP (dX L t) t,(dX L t).length,((dX L t).getLast?.getD []).length)
def dQ:Nat→List By→List Nat
|_,[]=>[]
|k,b::r=>k::dQ (k+b.length) r
theorem fI:∀ (k:Nat) (L:List By),(dQ k L).length=L.length
|_,[]=>rfl
|k,b::r=>by simp[dQ,fI _ r]
theorem iI:∀ (k:Nat) (A B:List By),dQ k (A++B)=dQ k A++dQ (k+A.flatten.length) B
|k,[],B=>by simp[dQ]
|k,a::A,B=>by simp[dQ,iI _ A B,Nat.add_assoc]
theorem jB(L:List By)(h:L≠[]):L.dropLast.flatten++L.getLast h=L.flatten:=by
 conv=>rhs;rw[←TL h]
 simp
theorem AO(L:List By)(h:L≠[]):L.getLast?.getD []=L.getLast h:=by rw[List.getLast?_eq_some_getLast h];rfl
theorem Ef(L:List By)(h:L≠[]):(dQ 0 L).getD (L.length-1) 0=L.dropLast.flatten.length:=by
 have e:L=L.dropLast++[L.getLast h]:=(TL h).symm;have hl:L.length-1=(dQ 0 L.dropLast).length:=by rw[fI];simp
 rw[hl]
 conv=>lhs;rw[e,iI]
 simp[dQ,Sj]
theorem lL(L:List By)(h:L≠[]):(dQ 0 L).getD (L.length-1) 0+(L.getLast?.getD []).length=L.flatten.length:=by
 rw[Ef L h,AO L h,←jB L h,R6]
theorem vO(L:List By)(t:By)(h:L≠[]):dQ 0 (dP L t)=dQ 0 L:=by
 conv=>rhs;rw[←TL h]
 simp[dP,iI,dQ]
theorem nS(L:List By)(t:By)(h:L≠[]):(dP L t).flatten=L.flatten++t:=by
 rw[dP,AO L h,←jB L h];simp
theorem Ar(L:List By):dQ 0 (L++[[]])=dQ 0 L++[L.flatten.length]:=by simp[iI,dQ]
theorem Iq(L:List By)(t:By):dX L t≠[]:=by
 unfold dX;split
 ·simp
 · rename_i b hb;split
   ·simp
   ·intro h;simp[h] at hb
theorem nB(L:List By)(t:By)(h:L=[]∨128<(L.getLast?.getD []).length+t.length):dX L t=L++[[]]:=by
 unfold dX
 split
 ·rfl
 · rename_i b hb
   rcases h with h|h
   ·simp[h] at hb
   ·rw[hb] at h;exact R4 h
theorem nA(L:List By)(t:By)(h1:L≠[])(h2:¬ 128<(L.getLast?.getD []).length+t.length):dX L t=L:=by
 unfold dX
 split
 ·rename_i hb;simp at hb;exact absurd hb h1
 ·rename_i b hb;rw[hb] at h2;exact R3 h2
theorem yB(L:List By)(t:By):(dX L t).flatten=L.flatten:=by
 unfold dX;split
 ·simp
 ·split<;>simp
theorem F9(L:List By)(t:By):L.length≤(dX L t).length∧(dX L t).length≤L.length+1:=by
 unfold dX;split
 ·simp
 ·split<;>simp
def fZ(D:Nat→Prop)(H:Array Obj)(p:Nat)(L:List By):Prop:=
 ∃ ao c bo c',H[p]?=some (.cells [.slice ao L.flatten.length c,.slice bo (dQ 0 L).length c'].toArray 184 (0,0))∧Own b8 5 H ao c L.flatten∧Own inN 3 H bo c' (dQ 0 L) ∧
  Ap ao bo∧(¬ blk ao p)∧(¬ blk bo p)∧D p∧(∀ k,blk ao k→D k)∧(∀ k,blk bo k→D k)
theorem fZ.RZ{D S:Nat→Prop}{w w':World}{p:Nat}{L:List By}(h:fZ D w.heap p L)(f:aA S w w')(hs:∀ k,D k→¬ S k):fZ D w'.heap p L:=by
 obtain⟨ao,c,bo,c',h1,h2,h3,h4,h5,h6,h7,h8,h9⟩:=h;exact⟨ao,c,bo,c',f.obj h1 (hs p h7),h2.RZ f (fun a ha=>hs _ (h8 _ ⟨a,ha,rfl⟩)),h3.RZ f (fun a ha=>hs _ (h9 _ ⟨a,ha,rfl⟩)),h4,h5,h6,h7,h8,h9⟩
def cZ(D:Nat→Prop)(W:World)(p:Nat)(L:List By)(w':World):Prop:=
 ∃ D',fZ D' w'.heap p L∧(∀ k,D' k→D k∨W.heap.size≤k)∧(∀ k,D' k→k<w'.heap.size)∧aA D W w'
theorem cZ.draws{D:Nat→Prop}{W w:World}{p:Nat}{L:List By}(h:cZ D W p L w)(n:Nat):cZ D W p L (w.drewN n):=by
 obtain⟨D',h1,h2,h3,h4⟩:=h;exact⟨D',h1,h2,h3,h4.draws n⟩
theorem cZ.same{D:Nat→Prop}{W:World}{p:Nat}{L:List By}(h:fZ D W.heap p L)(hD:∀ k,D k→k<W.heap.size):cZ D W p L W:=
 ⟨D,h,fun _ hk=>.inl hk,hD,Rk _ _⟩
theorem zH{D:Nat→Prop}{W w1 w2 w3:World}{p:Nat}{L:List By}{ao bo bo2:Option Addr}{c c2:Nat}(hD:∀ k,D k→k<W.heap.size)
 (hrow:Own b8 5 W.heap ao c L.flatten)(hap:Ap ao bo)(hap1:¬ blk ao p)(hbp:¬ blk bo p)(hDp:D p)(hDa:∀ k,blk ao k→D k)(hDb:∀ k,blk bo k→D k)
 (hf1:aA nob W w1)(ho2:Own inN 3 w2.heap bo2 c2 (dQ 0 L++[L.flatten.length]))(hf2:aA (blk bo) w1 w2)(hr2:∀ a,bo2=some a→bo=some a∨w1.heap.size≤a.block)
 (hg3:w3.heap[p]?=some (.cells [.slice ao L.flatten.length c,.slice bo2 (dQ 0 L++[L.flatten.length]).length c2].toArray 184 (0,0)))(hf3:aA (· = p) w2 w3):cZ D W p (L++[[]]) w3:=by
 have hWp:=hD p hDp;have s1:=hf1.size;have s2:=hf2.size;have hbo2p:¬ blk bo2 p:=fun⟨a,ha,hb⟩=>by
  rcases hr2 a ha with h|h
  ·exact hbp ⟨a,h,hb⟩
  ·omega
 have hab:Ap ao bo2:=fun a b ha hb e=>by
  rcases hr2 b hb with h|h
  ·exact hap a b ha h e
  ·have:=hD _ (hDa _ ⟨a,ha,rfl⟩);omega
 have e1:(L++[[]]).flatten=L.flatten:=by simp
 have F2:aA (blk bo) W w2:=(hf1.mono (fun _ h=>h.elim)).trans hf2;refine⟨fun k=>D k∨(W.heap.size≤k∧k<w3.heap.size),⟨ao,c,bo2,c2,?_,?_,?_,hab,hap1,hbo2p,.inl hDp,fun k hk=>.inl (hDa k hk),?_⟩,?_,?_,?_⟩
 ·rw[e1,Ar];exact hg3
 · rw[e1]
   exact(hrow.RZ F2 (fun a ha h=>by obtain⟨b,hb,e⟩:=h;exact hap a b ha hb e.symm)).RZ hf3 (fun a ha h=>hap1 ⟨a,ha,h⟩)
 ·rw[Ar];exact ho2.RZ hf3 (fun a ha h=>hbo2p ⟨a,ha,h⟩)
 · rintro k ⟨a,ha,rfl⟩
   rcases hr2 a ha with h|h
   ·exact .inl (hDb _ ⟨a,h,rfl⟩)
   · have h5:=ho2.lt a ha
     have:=hf3.size;exact .inr ⟨by omega,by omega⟩
 · intro k hk;rcases hk with hk|hk
   ·exact .inl hk
   ·exact .inr hk.1
 · intro k hk;rcases hk with hk|hk
   ·have:=hD k hk;have:=hf3.size;omega
   ·exact hk.2
 ·exact(F2.mono (fun k h=>hDb k h)).trans (hf3.mono (fun k h=>by subst h;exact hDp))
theorem Jr{D D1:Nat→Prop}{W w1 w3 w4:World}{p:Nat}{L:List By}{t:By}{ao bo ao3:Option Addr}{c3 c':Nat}(hne:L≠[])(hD1:∀ k,D1 k→D k∨W.heap.size≤k)(hD2:∀ k,D1 k→k<w1.heap.size)(hF:aA D W w1)
 (hbeg:Own inN 3 w1.heap bo c' (dQ 0 L))(hap:Ap ao bo)(hap1:¬ blk ao p)(hbp:¬ blk bo p)(hDp:D1 p)(hDa:∀ k,blk ao k→D1 k)(hDb:∀ k,blk bo k→D1 k)
 (ho3:Own b8 5 w3.heap ao3 c3 (L.flatten++t))(hf3:aA (blk ao) w1 w3)(hr3:∀ a,ao3=some a→ao=some a∨w1.heap.size≤a.block)
 (hg4:w4.heap[p]?=some (.cells [.slice ao3 (L.flatten++t).length c3,.slice bo (dQ 0 L).length c'].toArray 184 (0,0)))(hf4:aA (· = p) w3 w4):cZ D W p (dP L t) w4:=by
 have hWp:=hD2 p hDp;have s0:=hF.size;have s3:=hf3.size;have s4:=hf4.size;have ha3p:¬ blk ao3 p:=fun⟨a,ha,hb⟩=>by
  rcases hr3 a ha with h|h
  ·exact hap1 ⟨a,h,hb⟩
  ·omega
 have hab:Ap ao3 bo:=fun a b ha hb e=>by
  rcases hr3 a ha with h|h
  ·exact hap a b h hb e
  ·have:=hD2 _ (hDb _ ⟨b,hb,rfl⟩);omega
 refine⟨fun k=>D1 k∨(w1.heap.size≤k∧k<w4.heap.size),⟨ao3,c3,bo,c',?_,?_,?_,hab,ha3p,hbp,.inl hDp,?_,fun k hk=>.inl (hDb k hk)⟩,?_,?_,?_⟩
 ·rw[nS L t hne,vO L t hne];exact hg4
 ·rw[nS L t hne];exact ho3.RZ hf4 (fun a ha h=>ha3p ⟨a,ha,h⟩)
 · rw[vO L t hne]
   exact(hbeg.RZ hf3 (fun a ha h=>by obtain⟨b,hb,e⟩:=h;exact hap b a hb ha e)).RZ hf4 (fun a ha h=>hbp ⟨a,ha,h⟩)
 · rintro k ⟨a,ha,rfl⟩
   rcases hr3 a ha with h|h
   ·exact .inl (hDa _ ⟨a,h,rfl⟩)
   · have h5:=ho3.lt a ha
     exact .inr ⟨h,by omega⟩
 · intro k hk;rcases hk with hk|hk
   ·exact hD1 k hk
   ·exact .inr (by omega)
 · intro k hk;rcases hk with hk|hk
   ·have:=hD2 k hk;omega
   ·exact hk.2
 ·refine hF.RV ((hf3.mono (fun k h=>hDa k h)).trans (hf4.mono (fun k h=>by subst h;exact hDp))) hD1
theorem KT(D:Nat→Prop)(p:Nat)(L:List By)(to:Option Addr)(tc:Nat)(t:By)(W:World)(hP:fZ D W.heap p L)(hD:∀ k,D k→k<W.heap.size)
 (hv:Vw b8 W.heap to tc t)(hvD:t≠[]→∀ a,to=some a→¬ D a.block)(hb1:L.flatten.length≤1099511627776)(hb2:L.length≤1099511627776) :
 CA 67 [pT p,.slice to t.length tc] W fun v w'=>v=.tuple #[inN (pG L t).2.1,inN (pG L t).2.2]∧cZ D W p (pG L t).1 w':=by
 have hl:=hv.RX;have hPP:=hP;obtain⟨ao,c,bo,c',hobj,hrow,hbeg,hap,hap1,hbp,hDp,hDa,hDb⟩:=hP;have hol:=fI 0 L;refine cS 83 [(0,_),(1,_)] Tryz.func67 ?_;refine fK 11 ?_ ?_<;>intro h9
 ·refine Gz 17 ?_;have hbad:oA t=true:=uE (by omega);exact⟨_,rfl,by simp[pG,hbad,inN],by rw[show pG L t=(L,0,0) from by simp[pG,hbad]];exact cZ.same hPP hD⟩
 refine fW 3 ?_ ?_<;>intro h13
 ·refine Gz 13 ?_;have hbad:oA t=true:=uE (by omega);exact⟨_,rfl,by simp[pG,hbad,inN],by rw[show pG L t=(L,0,0) from by simp[pG,hbad]];exact cZ.same hPP hD⟩
 refine Gz 16 ?_;refine O1 (β:=Unit) (fun _u=>[(0,pT p),(1,.slice to t.length tc),(6,iV (dX L t).length)]) (fun _u w=>oA t=false∧cZ D W p (dX L t) w) ?_ ?_
 ·refine Gz 1 ?_;refine Pe 22 [0,1,2,3,4,5,6,7,8,9,10,11,12,13,14,15,16,17,18,19,20,21] aM (by kernel_rfl) ?_;refine xK 1 ?_ ?_<;>intro h21
  ·refine Gz 24 ?_;refine OI 14 (fun H=>H[p]?=some (.cells [.slice ao L.flatten.length c,.slice bo (dQ 0 L).length c'].toArray 184 (0,0))) [10,11,14] [0,1,2,3,4,5,6,7,8,9,10,11,12,13,14] aM (by kernel_rfl) (hobj) ?_;refine Gz 10 ?_;refine OE rfl rfl (Pd (enc:=inN) (u:=L.flatten.length) bP rfl rfl rfl ?_);intro w1 ho1 hs1 hf1;refine OK (by exact hf1.obj hobj (fun h=>h)) ?_;refine OE rfl rfl (OJ Dn bP rfl rfl (hbeg.RY hf1.RW.RW) ho1.vw (by simp only[Sw];omega) (by simp only[Sw];unfold maxLen;omega) rfl ?_);intro bo2 c2 w2 ho2 hf2 hr2 hn2;refine OK (by exact hf2.obj (hf1.obj hobj (fun h=>h)) hbp) ?_;refine Gz 2 ?_;refine OE rfl rfl (OF pO rfl rfl rfl (hf2.obj (hf1.obj hobj (fun h=>h)) hbp) rfl ?_);intro w3 hg3 hs3 hf3;refine O8 rfl ?_;refine Gz 7 ?_;have hg:oA t=false:=rJ (by omega)
   first
   |(have hnew:dX L t=L++[[]]:=nB L t (by first|(left;exact SB (by omega))|(right;omega))
     refine O4 () ⟨rfl,rfl,congrArg (fun z:Int=>some (Value.int .i64 z)) (by rw[hnew,R6];simp[hol]),trivial⟩ ?_;exact⟨hg,by rw[hnew];exact zH hD hrow hap hap1 hbp hDp hDa hDb hf1.RW.RW ho2 hf2 hr2 hg3 hf3⟩)
   |(have hold:dX L t=L:=nA L t hne (by omega)
     refine O4 () ⟨rfl,rfl,congrArg (fun z:Int=>some (Value.int .i64 z)) (by rw[hold,hol]),trivial⟩ ?_;exact⟨hg,by rw[hold];exact(cZ.same hPP hD).draws 1⟩)
  refine Gz 4 ?_;refine xV rfl (Ow aT rfl (aD hobj rfl)) ?_;refine Gz 4 ?_;refine xV rfl (Ow pO rfl (aD hobj rfl)) ?_;refine Gz 2 ?_;refine xV rfl (Ou bP rfl rfl hbeg.vw.non (by omega)) ?_;have hne:L≠[]:=by intro e;subst e;simp[dQ] at h21
  have hlast:=lL L hne;refine xV rfl (Ow aL rfl (hbeg.vw.gz 0 (L.length-1) (by omega) (by omega))) ?_;refine xW 4 ?_ ?_<;>intro h40
  ·refine Gz 5 ?_;refine OI 14 (fun H=>H[p]?=some (.cells [.slice ao L.flatten.length c,.slice bo (dQ 0 L).length c'].toArray 184 (0,0))) [10,11,14] [0,1,2,3,4,5,6,7,8,9,10,11,12,13,14] aM (by kernel_rfl) (hobj) ?_;refine Gz 10 ?_;refine OE rfl rfl (Pd (enc:=inN) (u:=L.flatten.length) bP rfl rfl rfl ?_);intro w1 ho1 hs1 hf1;refine OK (by exact hf1.obj hobj (fun h=>h)) ?_;refine OE rfl rfl (OJ Dn bP rfl rfl (hbeg.RY hf1.RW.RW) ho1.vw (by simp only[Sw];omega) (by simp only[Sw];unfold maxLen;omega) rfl ?_);intro bo2 c2 w2 ho2 hf2 hr2 hn2;refine OK (by exact hf2.obj (hf1.obj hobj (fun h=>h)) hbp) ?_;refine Gz 2 ?_;refine OE rfl rfl (OF pO rfl rfl rfl (hf2.obj (hf1.obj hobj (fun h=>h)) hbp) rfl ?_);intro w3 hg3 hs3 hf3;refine O8 rfl ?_;refine Gz 7 ?_;have hg:oA t=false:=rJ (by omega)
   first
   |(have hnew:dX L t=L++[[]]:=nB L t (by first|(left;exact SB (by omega))|(right;omega))
     refine O4 () ⟨rfl,rfl,congrArg (fun z:Int=>some (Value.int .i64 z)) (by rw[hnew,R6];simp[hol]),trivial⟩ ?_;exact⟨hg,by rw[hnew];exact zH hD hrow hap hap1 hbp hDp hDa hDb hf1.RW.RW ho2 hf2 hr2 hg3 hf3⟩)
   |(have hold:dX L t=L:=nA L t hne (by omega)
     refine O4 () ⟨rfl,rfl,congrArg (fun z:Int=>some (Value.int .i64 z)) (by rw[hold,hol]),trivial⟩ ?_;exact⟨hg,by rw[hold];exact(cZ.same hPP hD).draws 1⟩)
  refine Gz 5 ?_;have hg:oA t=false:=rJ (by omega)
  first
  |(have hnew:dX L t=L++[[]]:=nB L t (by first|(left;exact SB (by omega))|(right;omega))
    refine O4 () ⟨rfl,rfl,congrArg (fun z:Int=>some (Value.int .i64 z)) (by rw[hnew,R6];simp[hol]),trivial⟩ ?_;exact⟨hg,by rw[hnew];exact zH hD hrow hap hap1 hbp hDp hDa hDb hf1.RW.RW ho2 hf2 hr2 hg3 hf3⟩)
  |(have hold:dX L t=L:=nA L t hne (by omega)
    refine O4 () ⟨rfl,rfl,congrArg (fun z:Int=>some (Value.int .i64 z)) (by rw[hold,hol]),trivial⟩ ?_;exact⟨hg,by rw[hold];exact(cZ.same hPP hD).draws 1⟩)
 rintro _ w1 ⟨hgood,D1,hP1,hD1,hD2,hF⟩;obtain⟨ao,c,bo,c',hobj,hrow,hbeg,hap,hap1,hbp,hDp,hDa,hDb⟩:=hP1;have hol:=fI 0 (dX L t);have hne:=Iq L t;have hpos:0<(dX L t).length:=Sk.2 hne;have hlast:=lL (dX L t) hne;have hnl:=F9 L t;have hnf:=yB L t;have hnfl:(dX L t).flatten.length=L.flatten.length:=by rw[hnf]
 have hgood':1≤t.length∧t.length<128:=HB hgood;refine Gz 1 ?_;refine Pe 15 [0,1,2,3,4,5,6,7,8,9,10,11,12,13,14] aM (by kernel_rfl) ?_;refine Gz 3 ?_;refine xC rfl (Ow aT rfl (aD hobj rfl)) ?_;refine Gz 4 ?_;refine xC rfl (Ow pO rfl (aD hobj rfl)) ?_;refine Gz 2 ?_;refine xC rfl (Ou bP rfl rfl hbeg.vw.non (by omega)) ?_;refine xC rfl (Ow aL rfl (hbeg.vw.gz 0 ((dX L t).length-1) (by omega) (by omega))) ?_;refine Gz 12 ?_;refine OJ cP aP rfl rfl hrow (hv.RZ (hF.draws 1) (hvD (by intro e;rw[e] at hgood';simp at hgood'))) (by omega) (by unfold maxLen;omega) rfl ?_;intro ao3 c3 w3 ho3 hf3 hr3 hn3;refine Gz 2 ?_;refine OF aT rfl rfl rfl (hf3.obj hobj hap1) rfl ?_;intro w4 hg4 hs4 hf4;refine Gz 12 ?_;have e:pG L t=(dP (dX L t) t,(dX L t).length,((dX L t).getLast?.getD []).length):=by simp[pG,hgood]
 refine⟨_,rfl,?_,?_⟩
 ·rw[e];exact Nv rfl (by show _=((((dX L t).getLast?.getD []).length:Nat):Int);omega)
 ·rw[e];exact Jr hne hD1 hD2 hF hbeg hap hap1 hbp hDp hDa hDb ho3 hf3.RW hr3 hg4 hf4
theorem Kh(W:World):CA 65 [] W fun v w'=>v=pT W.heap.size∧fZ (fun k=>k=W.heap.size) w'.heap W.heap.size []∧aA nob W w'∧w'.heap.size=W.heap.size+1:=by
 refine cS 3 [] Tryz.func65 ?_;refine Gz 7 ?_;refine cL (Pq J3 K1 rfl rfl) ?_;refine OR rfl rfl ?_;intro w1 hg1 hs1 hf1;refine Gz 5 ?_;exact⟨_,rfl,rfl,⟨none,0,none,0,hg1,Rr,Rr,Rn,(fun⟨a,h,_⟩=>by cases h),(fun⟨a,h,_⟩=>by cases h),rfl,(fun k ⟨a,h,_⟩=>by cases h),(fun k ⟨a,h,_⟩=>by cases h)⟩,hf1,hs1⟩
def zI(W:World)(xs:By):Value→World→Prop:=fun v w'=>∃ ao' cap',v=.slice ao' xs.length cap'∧Own b8 5 w'.heap ao' cap' xs∧Fr W.heap.size ao'∧aA nob W w'
theorem Ci(cap:Nat)(xs:By)(W:World)(hv:Vw b8 W.heap none cap xs):CA 61 [.slice none xs.length cap] W (zI W xs):=by
 have hx:xs=[]:=SB (by
  rcases Nat.eq_zero_or_pos xs.length with h|h
  ·exact h
  ·exact absurd rfl (hv.non (by omega)))
 subst hx;refine cS 8 [(0,_)] Tryz.func61 ?_;refine Gz 9 ?_;refine cL (OU aP rfl rfl) ?_;refine Gz 11 ?_;exact⟨_,rfl,none,0,rfl,Rr,Rp,Rk _ _⟩
theorem AY(a:Addr)(cap:Nat)(xs:By)(W:World)(hv:Vw b8 W.heap (some a) cap xs)(hb:xs.length≤140737488355328):CA 61 [.slice (some a) xs.length cap] W (zI W xs):=by
 have hl:=hv.RX;refine cS 8 [(0,_)] Tryz.func61 ?_;refine Gz 9 ?_;refine cL (OU aP rfl rfl) ?_;refine Gz 7 ?_;refine Py b8 aP rfl ?_;intro w1 ho1 hs1 hf1;refine Gz 1 ?_;refine OJ cP aP rfl rfl ho1 (hv.RY hf1) (by simp only[SL];omega) (by simp only[SL];unfold maxLen;omega) rfl ?_;intro ao2 c2 w2 ho2 hf2 hr2 hn2;refine Gz 5 ?_;have hfr:Fr W.heap.size (some (⟨W.heap.size,0,none⟩:Addr)):=fun a ha=>by cases ha;exact Sa _
 refine⟨_,rfl,ao2,c2,rfl,ho2,fun a ha=>?_,hf1.RV hf2 hfr.step⟩;rcases hr2 a ha with h|h
 ·exact hfr a h
 ·have:=hf1.size;omega
theorem EC(ao:Option Addr)(cap:Nat)(xs:By)(W:World)(hv:Vw b8 W.heap ao cap xs)(hb:xs.length≤140737488355328):CA 61 [.slice ao xs.length cap] W (zI W xs):=by
 cases ao with
|none=>exact Ci cap xs W hv
|some a=>exact AY a cap xs W hv hb
theorem C9(L:List By):∀ (b k:Nat),k<L.length→(dQ b L).getD k 0=b+(L.take k).flatten.length:=by
 induction L with
|nil=>intro b k h;simp at h
|cons x r ih=>
   intro b k h;cases k with
  |zero=>simp[dQ]
  |succ k=>
     have:=ih (b+x.length) k (by simpa using h);simp only[dQ,List.getD_cons_succ,this,List.take_succ_cons,List.flatten_cons,R6];omega
theorem nR(L:List By)(k:Nat)(h:k<L.length):(L.take (k+1)).flatten.length=(L.take k).flatten.length+(L.getD k []).length:=by
 rw[Sv h,Uf,R6];simp[Sj,h]
theorem pW(L:List By)(k:Nat)(h:k<L.length):(L.flatten.drop (L.take k).flatten.length).take (L.getD k []).length=L.getD k []:=by
 have e:L=L.take k++(L.getD k []::L.drop (k+1)):=by
  conv=>lhs;rw[←SG k L]
  rw[Tn h];simp[Sj,h]
 have e2:L.flatten=(L.take k).flatten++(L.getD k []++(L.drop (k+1)).flatten):=by
  conv=>lhs;rw[e]
  simp
 rw[e2,List.drop_left,List.take_left]
theorem jS(L:List By)(k:Nat):(L.take k).flatten.length≤L.flatten.length:=by
 conv=>rhs;rw[←SG k L]
 rw[Uf,R6];omega
theorem ES(D:Nat→Prop)(p:Nat)(L:List By)(W:World)(hP:fZ D W.heap p L)(hb1:L.flatten.length≤1099511627776)(hb2:L.length≤1099511627776) :
 CA 68 [pT p] W fun v w'=>∃ ao' cap' hs',v=.slice ao' hs'.length cap'∧Own hd 25 w'.heap ao' cap' hs'∧cG (fun k=>W.heap.size≤k) w'.heap hs' L∧Fr W.heap.size ao'∧aA nob W w':=by
 obtain⟨ao,c,bo,c',hobj,hrow,hbeg,hap,hap1,hbp,hDp,hDa,hDb⟩:=hP;have hol:=fI 0 L;refine cS 51 [(0,_)] Tryz.func68 ?_;refine Gz 16 ?_;refine Ot Ca rfl (EC ao c L.flatten W hrow.vw (by omega)) rfl ?_;rintro _ w1 ⟨ro,rc,rfl,hro,hfro,hf1⟩;refine Gz 9 ?_;refine cL (Ow pO rfl (aD (hf1.obj hobj (fun h=>h)) rfl)) ?_;refine Gz 5 ?_;refine Oy (β:=Nat×Option Addr×Nat×List Hd) (fun⟨k,go,gc,gs⟩=>[(0,pT p),(3,.slice go gs.length gc),(4,.slice ro L.flatten.length rc),(16,.slice bo (dQ 0 L).length c'),(17,iV (dQ 0 L).length),(18,iV k)]) (fun⟨k,go,gc,gs⟩ w=>k≤L.length∧Own hd 25 w.heap go gc gs∧cG (blk ro) w.heap gs (L.take k)∧Own b8 5 w.heap ro rc L.flatten∧Ap ro go∧Fr W.heap.size go∧aA nob W w) (fun⟨k,go,gc,gs⟩=>L.length-k) (0,none,0,[]) ⟨rfl,rfl,rfl,rfl,rfl,rfl,trivial⟩ ⟨by omega,Rr,Rw,hro,Ro,Rp,hf1⟩ ?_;rintro⟨k,go,gc,gs⟩ w2 ⟨hk1,hog,hrg,hro2,hapg,hfg,hF⟩;have hgl:=hrg.1;simp only[Sh] at hgl;refine fK 2 ?_ ?_<;>intro h19
 ·refine Gz 11 ?_;have hkl:k<L.length:=by omega
  have hat:aS w2.heap (adr bo (k:Int).toNat)=some (inN (L.take k).flatten.length):=by have:=(hbeg.RY hF).vw.gz 0 k (z:=k) rfl (by omega);rwa[C9 L 0 k hkl,S3] at this
  have hst:=nR L k hkl;have hle1:=jS L (k+1);refine cL (Ou bP rfl rfl hbeg.vw.non (by omega)) ?_;refine cL (Ow aL rfl hat) ?_;refine Gz 19 ?_;refine cL (Ow pO rfl (aD (hF.obj hobj (fun h=>h)) rfl)) ?_;refine fK 1 ?_ ?_<;>intro h32
  ·refine Gz 7 ?_;refine cL (Ow pO rfl (aD (hF.obj hobj (fun h=>h)) rfl)) ?_;refine Gz 2 ?_;have hend:aS w2.heap (adr bo ((k:Int)+1).toNat)=some (inN (L.take (k+1)).flatten.length):=by have:=(hbeg.RY hF).vw.gz 0 (k+1) (z:=(k:Int)+1) rfl (by omega);rwa[C9 L 0 (k+1) (by omega),S3] at this
   refine cL (Ou bP rfl rfl hbeg.vw.non (by omega)) ?_;refine cL (Ow aL rfl hend) ?_;refine Gz 9 ?_;obtain⟨E,hE,hE2⟩:∃ E,E=(L.take (k+1)).flatten.length∧E=(L.take (k+1)).flatten.length:=⟨_,rfl,rfl⟩
   have hrc:=hro2.vw.le;refine cL (Pr aP rfl rfl rfl rfl (by omega) (by omega) (by omega)) ?_;refine Pd (enc:=hd) (u:=⟨aU ro (L.take (k+1)).flatten.length (L.take k).flatten.length 1,(L.take (k+1)).flatten.length-(L.take k).flatten.length,(L.take (k+1)).flatten.length-(L.take k).flatten.length⟩) rV rfl rfl rfl ?_;intro w3 ho3 hs3 hf3;refine OJ B7 rV rfl rfl (hog.RY hf3) ho3.vw (by simp only[Sw];omega) (by simp only[Sw];unfold maxLen;omega) rfl ?_;intro ao4 c4 w4 ho4 hf4 hr4 hn4;refine Gz 8 ?_;refine aG (k+1,ao4,c4,gs++[⟨aU ro (L.take (k+1)).flatten.length (L.take k).flatten.length 1,(L.take (k+1)).flatten.length-(L.take k).flatten.length,(L.take (k+1)).flatten.length-(L.take k).flatten.length⟩]) ?_ (by show L.length-(k+1)<L.length-k;omega);have hF4:aA nob W w4:=(hF.trans hf3).RV hf4 hfg.step;have hnr:∀ a,ro=some a→¬ blk go a.block:=fun a ha h=>hapg.not a ha h;refine⟨by omega,ho4,?_,(hro2.RY hf3).RZ hf4 hnr,fun a b ha hb e=>?_,fun a ha=>?_,hF4⟩
   · have hrg4:cG (blk ro) w4.heap gs (L.take k):=(hrg.RZ hf3 (fun _ _ h=>h)).RZ hf4 (fun k' hk'=>by obtain⟨a,ha,rfl⟩:=hk';exact hnr a ha)
     have hcut:=((hro2.RY hf3).RZ hf4 hnr).vw.cut (l:=(L.take k).flatten.length) (h:=E) (m:=E) (by omega) (by omega) (by omega) (by omega);have hEd:E-(L.take k).flatten.length=(L.getD k []).length:=by omega
     have e:L.take (k+1)=L.take k++[L.getD k []]:=by rw[Sv hkl];simp[Sj,hkl]
     rw[hEd,pW L k hkl,hE] at hcut;have hsn:=hrg4.snoc (x:=⟨aU ro (L.take (k+1)).flatten.length (L.take k).flatten.length 1,(L.take (k+1)).flatten.length-(L.take k).flatten.length,(L.take (k+1)).flatten.length-(L.take k).flatten.length⟩) (xs:=L.getD k []) (by show (L.take (k+1)).flatten.length - _=_;omega) (by show Vw b8 _ (aU ro (L.take (k+1)).flatten.length _ 1) ((L.take (k+1)).flatten.length - _) _;rw[←hE,hEd,hE];exact hcut) (fun _ k' hk'=>jO hk');exact(congrArg (cG (blk ro) w4.heap _) e).mpr hsn
   · rcases hr4 b hb with h|h
     ·exact hapg a b ha h e
     ·have:=hro2.lt a ha;have:=hf3.size;omega
   · rcases hr4 a ha with h|h
     ·exact hfg a h
     ·have:=hF.size;have:=hf3.size;omega
  refine Gz 11 ?_;obtain⟨E,hE,hE2⟩:∃ E,E=L.flatten.length∧E=(L.take (k+1)).flatten.length:=⟨_,rfl,by rw[So (by omega)]⟩
  have hrc:=hro2.vw.le;refine cL (Pr aP rfl rfl rfl rfl (by omega) (by omega) (by omega)) ?_;refine Pd (enc:=hd) (u:=⟨aU ro L.flatten.length (L.take k).flatten.length 1,L.flatten.length-(L.take k).flatten.length,L.flatten.length-(L.take k).flatten.length⟩) rV rfl rfl rfl ?_;intro w3 ho3 hs3 hf3;refine OJ B7 rV rfl rfl (hog.RY hf3) ho3.vw (by simp only[Sw];omega) (by simp only[Sw];unfold maxLen;omega) rfl ?_;intro ao4 c4 w4 ho4 hf4 hr4 hn4;refine Gz 8 ?_;refine aG (k+1,ao4,c4,gs++[⟨aU ro L.flatten.length (L.take k).flatten.length 1,L.flatten.length-(L.take k).flatten.length,L.flatten.length-(L.take k).flatten.length⟩]) ?_ (by show L.length-(k+1)<L.length-k;omega);have hF4:aA nob W w4:=(hF.trans hf3).RV hf4 hfg.step;have hnr:∀ a,ro=some a→¬ blk go a.block:=fun a ha h=>hapg.not a ha h;refine⟨by omega,ho4,?_,(hro2.RY hf3).RZ hf4 hnr,fun a b ha hb e=>?_,fun a ha=>?_,hF4⟩
  · have hrg4:cG (blk ro) w4.heap gs (L.take k):=(hrg.RZ hf3 (fun _ _ h=>h)).RZ hf4 (fun k' hk'=>by obtain⟨a,ha,rfl⟩:=hk';exact hnr a ha)
    have hcut:=((hro2.RY hf3).RZ hf4 hnr).vw.cut (l:=(L.take k).flatten.length) (h:=E) (m:=E) (by omega) (by omega) (by omega) (by omega);have hEd:E-(L.take k).flatten.length=(L.getD k []).length:=by omega
    have e:L.take (k+1)=L.take k++[L.getD k []]:=by rw[Sv hkl];simp[Sj,hkl]
    rw[hEd,pW L k hkl,hE] at hcut;have hsn:=hrg4.snoc (x:=⟨aU ro L.flatten.length (L.take k).flatten.length 1,L.flatten.length-(L.take k).flatten.length,L.flatten.length-(L.take k).flatten.length⟩) (xs:=L.getD k []) (by show L.flatten.length - _=_;omega) (by show Vw b8 _ (aU ro L.flatten.length _ 1) (L.flatten.length - _) _;rw[←hE,hEd,hE];exact hcut) (fun _ k' hk'=>jO hk');exact(congrArg (cG (blk ro) w4.heap _) e).mpr hsn
  · rcases hr4 b hb with h|h
    ·exact hapg a b ha h e
    ·have:=hro2.lt a ha;have:=hf3.size;omega
  · rcases hr4 a ha with h|h
    ·exact hfg a h
    ·have:=hF.size;have:=hf3.size;omega
 refine Gz 17 ?_;have hkk:L.take k=L:=So (by omega);rw[hkk] at hrg;exact⟨_,rfl,go,gc,gs,rfl,hog,hrg.mono (fun k h=>by obtain⟨a,ha,rfl⟩:=h;exact hfro a ha),hfg,hF⟩
def eW(L:List By)(t:By):List By×Nat×Nat:=
 if oA t then (L,0,0) else
 if L=[]∨128<(L.getD (L.length-1) []).length+t.length then (L++[t],L.length+1,0) else (L.set (L.length-1) (L.getD (L.length-1) []++t),L.length,(L.getD (L.length-1) []).length)
theorem Ew(L:List By):L.getD (L.length-1) []=L.getLast?.getD []:=by
 rw[List.getLast?_eq_getElem?];simp[Sj]
theorem Jt(L:List By)(t:By):eW L t=pG L t:=by
 unfold eW pG
 split
 ·rfl
 · rw[Ew]
   split
   · rename_i h
     rw[nB L t h];simp[dP]
   · rename_i h
     have hne:L≠[]:=fun e=>h (.inl e);rw[nA L t hne (fun e=>h (.inr e))];refine Uh ?_ rfl;show L.set (L.length-1) _=dP L t;unfold dP
     conv=>lhs;rw[←TL hne]
     have hl:(L.dropLast++[L.getLast hne]).length-1=L.dropLast.length:=by simp
     rw[hl,List.set_append_right _ _ (Sa _),List.getLast?_eq_some_getLast hne];simp
def xZ(o:Oper):Bool:=match o.op with|.defer _=>false|_=>true
def dK(Q:Exit→Act→World→Prop):Prop:=¬ LetsOut Q
theorem Ry{Q:Exit→Act→World→Prop}{K:Act→World→Prop}(h:dK Q):dK (Exit.then K Q):=fun⟨a,w,e⟩=>h ⟨a,w,e⟩
theorem dK.block{Q:Exit→Act→World→Prop}{i:Nat}(h:dK Q):dK (Exit.inBlock i Q):=fun⟨a,w,e⟩=>h ⟨a,w,e⟩
theorem dK.post{α:Type}{B:Nat}{Kp:World→World→Prop}{I:List α→World→Prop}{Ix:Code→List α→World→Prop}{xs:List α}{W:World}:dK (ownPostG B Kp I Ix xs W):=fun⟨_,_,e⟩=>e
section
variable {P:Program}{lp n:Nat}
abbrev FR(lp:Nat):Fence:=Fence.wide.inRound lp
theorem Hu{f:FuncId}{args:Array Value}{w:World}{R:Ending→World→Prop}(h:Calls P f args w R):CallsIn (FR lp) n P f args w R:=CallsIn.inRound lp (callsIn_wide.2 h)
theorem H8{row:String}{args:Array Value}{w:World}{R:Value→World→Prop}(h:Rows P row args w R):RowsIn (FR lp) n P row args w R:=fun c cs _=>by
 obtain⟨v,w',r,s⟩:=h c cs;exact⟨v,w',r,stepsIn_wide.2 s⟩
theorem HO{o:Oper}{a:Act}{next next':Act→World→Prop}{Q:Exit→Act→World→Prop}(hn:∀ a w,next a w→next' a w){r:Result Next}(h:o.upon P a next Q r):o.uponIn (FR lp) n P a next' Q r:=by
 rcases r with⟨x,w'⟩|⟨c,w'⟩
 · cases x with
  |value v=>exact hn _ _ h
  |skip=>exact hn _ _ h
  |defer d=>exact hn _ _ h
  |enter f args=>
     refine⟨fun hd=>absurd hd (by simp[FR,Fence.wide]),Hu (Calls.mono h ?_)⟩;rintro e w'' he;cases e with
    |returned v=>exact hn _ _ he
    |panicked ch=>exact he
    |outgrown=>exact he
  |row row args=>exact⟨fun hd=>absurd hd (by simp[FR,Fence.wide]),H8 (Rows.mono h (fun v w'' he=>hn _ _ he))⟩
  |_=>exact h.elim
 ·cases c<;>first|exact h|exact h.elim
theorem yG{ops:Array Oper}{Q:Exit→Act→World→Prop}(hQ:dK Q):∀ (rest:List Oper),rest.all xZ=true→∀ (a:Act) (w:World),wpList P ops Q rest a w→wpListIn (FR lp) n P ops Q rest a w
|[],_,_,_,h=>h
|o::rest,hd,a,w,h=>by
   rw[List.all_cons,SA] at hd;unfold wpList at h;unfold wpListIn;by_cases hw:Region.wanted o (yielded ops a.tmps)
   · rw[R4 hw] at h ⊢
     rcases h with h|⟨_,h⟩
     · refine⟨fun _ _=>trivial,?_⟩
       rw[Oper.semAt_eq _ _ _ (fun c hc=>by have:=hd.1;simp[xZ,hc] at this)];exact HO (yG hQ rest hd.2) h
     ·exact absurd h hQ
   · rw[R3 hw] at h ⊢
     exact⟨fun _ _=>trivial,yG hQ rest hd.2 _ _ h⟩
end
def Rc(lp n:Nat)(P:Program)(N:Nt)(c:Code)(Q:Exit→Act→World→Prop)(l:SF)(w:World):Prop:=∀ a,bS N l a→c.wpIn (FR lp) n P Q a w
section
variable {P:Program}{N:Nt}{Q:Exit→Act→World→Prop}{l:SF}{w:World}{lp n:Nat}
theorem Rc.seq{x y:Code}(h:Rc lp n P N x (Exit.then (y.wpIn (FR lp) n P Q) Q) l w):Rc lp n P N (.seq x y) Q l w:=fun a ha=>wpIn_seq (h a ha)
theorem Rc.block{id:Nat}{c:Code}(h:Rc lp n P N c (Exit.inBlock id Q) l w):Rc lp n P N (.block id c) Q l w:=fun a ha=>wpIn_block (h a ha)
theorem Rc.region{id:Nat}{ops:List Oper}(hQ:dK Q)(hd:ops.all xZ=true)(h:Sl P N ops.toArray Q ops l w):Rc lp n P N (.region id ops.toArray false) Q l w:=fun a ha=>wpIn_region_lit (yG hQ ops hd a w (h a ha))
theorem Rz{c:Operand}{x y:Code}(hc:evL l c=some (.bool true))(h:Rc lp n P N x Q l w):Rc lp n P N (.cond c x y) Q l w:=fun a ha=>wpIn_cond (ha.ev hc) (h a ha)
theorem RA{c:Operand}{x y:Code}(hc:evL l c=some (.bool false))(h:Rc lp n P N y Q l w):Rc lp n P N (.cond c x y) Q l w:=fun a ha=>wpIn_cond (ha.ev hc) (h a ha)
theorem Rc.skip(h:At N .normal Q l w):Rc lp n P N .skip Q l w:=fun a ha=>wpIn_skip (h a ha)
theorem Qj{y:Code}(h:Rc lp n P N y Q l w):At N .normal (Exit.then (y.wpIn (FR lp) n P Q) Q) l w:=fun a ha=>h a ha
theorem Rc.cut{x y:Code}{β:Type}(L:β→SF)(J:β→World→Prop)(h1:Rc lp n P N x (Exit.then (fun a w=>∃ b,bS N (L b) a∧J b w) Q) l w)
 (h2:∀ b w,J b w→Rc lp n P N y Q (L b) w):Rc lp n P N (.seq x y) Q l w:=fun a ha=>
 wpIn_seq (wpIn_mono (h1 a ha) fun e a' w' hq=>by
  cases e with
 |normal=>obtain⟨b,hb,hJ⟩:=hq;exact h2 b w' hJ a' hb
 |_=>exact hq)
theorem Qa{α:Type}{B:Nat}{Kp:World→World→Prop}{I:List α→World→Prop}{Ix:Code→List α→World→Prop}{xs:List α}{W:World}(h:KeepsFrom B W w∧Kp W w∧I xs w):At N .normal (ownPostG B Kp I Ix xs W) l w:=fun _ _=>h
end
def Si(n:Nat)(P:Program)(N:Nt)(ops:Array Oper)(Q:Exit→Act→World→Prop)(rest:List Oper)(l:SF)(w:World):Prop:=∀ a,bS N l a→wpListIn Fence.wide n P ops Q rest a w
section
variable {P:Program}{N:Nt}{Q:Exit→Act→World→Prop}{l:SF}{w:World}{n:Nat}{ops:Array Oper}{rest:List Oper}
variable {op:Op}{ty:TypeId}{pos:String}{aft:Array Edge}{d:Nat}{v:Value}{x:Operand}
theorem Qk(n:Nat){id:Nat}{ops:List Oper}(h:Si n P N ops.toArray Q ops l w):Sc P N (.region id ops.toArray false) Q l w:=fun a ha=>wpIn_wide.1 (wpIn_region_lit (h a ha))
theorem Si.calm(hv:Cm P N (· = w.heap) l ⟨some d,op,ty,pos,aft,none⟩ v)(hd:SH d N.n=true)(h:Si n P N ops Q rest ((d,v)::l) w) :
 Si n P N ops Q (⟨some d,op,ty,pos,aft,none⟩::rest) l w:=fun a ha=>by
 unfold wpListIn;rw[R4 (by simp[Region.wanted])];refine⟨fun _ _=>trivial,?_⟩;show Oper.uponIn _ _ _ _ _ _ _ ((execOp a.eval _).run P w);rw[hv a w ha rfl];exact h _ (ha.put hd v)
theorem RB(h:At N .normal Q l w):Si n P N ops Q [] l w:=fun a ha=>wpListIn_nil (h a ha)
theorem Si.yield{r:Nat}{xs:List Operand}{vs:List Value}{ts:Array TypeId}{A B:World→Prop}(hc:evL l x=some (.func (.yield r) #[] #[]))(hx:oX l xs=some vs)
 (hy:YieldAt Fence.wide (n-1) P r vs.toArray w (fun e W'=>(e=.returned (.bool true)∧A W')∨(e=.returned (.bool false)∧B W')))(hd:SH d N.n=true)
 (h1:∀ W',A W'→Si n P N ops Q rest ((d,.bool true)::l) W')(h2:∀ W',B W'→Si n P N ops Q rest ((d,.bool false)::l) W') :
 Si n P N ops Q (⟨some d,.call ⟨.value x,xs.toArray,ts⟩,ty,pos,aft,none⟩::rest) l w:=fun a ha=>by
 unfold wpListIn;rw[R4 (by simp[Region.wanted])];refine⟨fun _ _=>trivial,?_⟩;obtain⟨fn,tmps,assign,body,hrun,hR⟩:=hy;have e:(execOp a.eval ⟨some d,.call ⟨.value x,xs.toArray,ts⟩,ty,pos,aft,none⟩).run P w=.ok (.round r fn tmps assign body) w:=by
  have h1:=ha.ev hc;simp[execOp,resolve,h1,Deferred.ofValue,invoke,callFunc];rw[←ha.evs hx] at hrun;exact hrun
 have e2:(Oper.semAt Fence.wide.round a.eval ⟨some d,.call ⟨.value x,xs.toArray,ts⟩,ty,pos,aft,none⟩).run P w=.ok (.round r fn tmps assign body) w:=e;rw[e2];refine⟨fun hd=>absurd hd (by simp[Fence.wide]),hR.mono ?_⟩;rintro e W' (⟨rfl,hA⟩|⟨rfl,hB⟩)
 ·exact h1 W' hA _ (ha.put hd _)
 ·exact h2 W' hB _ (ha.put hd _)
end
def Nt.col(N:Nt)(D:Nat):Nt:=⟨N.n,{ target:=.collected D,args:=#[] } :: N.ds⟩
theorem yZ{P:Program}{f:FuncId}{fn:Func}{c:Code}{args:List Value}{w:World}{R:Ending→World→Prop}(N:Nat)(l:SF)
 (hf:P.funcs[f]?=some fn)(hb:fn.body=some c)(hN:fn.ntmps=N)(hle:Nat.ble args.length N=true)
 (hl:∀ t v,lk l t=some v→args[t]?=some v)
 (h:Sc P ⟨N,[]⟩ c (bodyPostM Fence.wide 4 P fn R) l w):Calls P f args.toArray w R:=by
 refine callsIn_wide.1 (callsIn_of_wp_marks (F:=Fence.wide) (n:=4) hf hb trivial (wpIn_wide.2 (h _ ⟨rfl,?_,?_⟩)))
 · have:args.length≤N:=by simpa[Uk] using hle
   simp[hN];omega
 · intro t v ht
   have:=hl t v ht;have hlt:t<args.length:=(R9.1 this).1;rw[R7 hlt] at this;simpa[Array.getElem?_append,hlt] using this
section
variable {P:Program}{N D:Nat}{fn:Func}{R:Ending→World→Prop}{l:SF}{w:World}
theorem BW{tmps:Array Value}{v:Value}(hr:(results fn tmps).run P w=.ok v w)(h:R (.returned v) w):LeavesInM Fence.wide 4 P fn tmps R [] .returning w:=by
 unfold LeavesInM LeavesIn;exact⟨v,hr,h⟩
theorem AE{tmps:Array Value}{v:Value}(hD:w.heap[D]?=some (.deferred (some [])))(hr:(results fn tmps).run P (w.putObj D (.deferred none))=.ok v (w.putObj D (.deferred none)))(h:R (.returned v) (w.putObj D (.deferred none))) :
 LeavesInM Fence.wide 4 P fn tmps R [{ target:=.collected D,args:=#[] }] .returning w:=
 ⟨by simp,.inl ⟨_,_,rfl,run_takeDeferred hD,BW hr h⟩⟩
theorem Ez(hD:w.heap[D]?=some (.deferred (some []))):aA (· = D) w (w.putObj D (.deferred none)):=
 ⟨rfl,rfl,rfl,by simp,fun k _ hk=>World.putObj_heap_other hk⟩
theorem PK{t u:Nat}{v x:Value}(hr:fn.results=#[.tmp t,.tmp u])(hv:lk l t=some v)(hx:lk l u=some x)(hD:w.heap[D]?=some (.deferred (some [])))
 (h:∀ w',w'=w.putObj D (.deferred none)→aA (· = D) w w'→R (.returned (.tuple #[v,x])) w'):At (Nt.col ⟨N,[]⟩ D) .ret (bodyPostM Fence.wide 4 P fn R) l w:=fun a ha=>by
 show LeavesInM _ _ _ _ _ _ a.defers _ _;rw[ha.dfr];exact AE hD (by rw[results_tmp2 hr]) (by simpa[ha.has t v hv,ha.has u x hx] using h _ rfl (Ez hD))
end
theorem Eb{α:Type}{B:Nat}(c:Code):OwnFrom B ((fun(_:Code) (_:List α) (_:World)=>False) c):=fun _ _ _ _ h _ _=>h.elim
theorem QN{α:Type}{P:Program}{N:Nt}{l:SF}{w w0:World}{Q:Exit→Act→World→Prop}{f p q:Nat}{rid:Nat}{ty:TypeId}{pos:String}{aft:Array Edge}{body:Code}{gf:Nat}{lb:Array Value}{enc:α→Value}
 {Kp:World→World→Prop}{S Sp:List α→Prop}{M:Nat}
 (hf:lk l f=some (.func (.func gf) #[] lb))(hg:fnB P gf=true)(hseq:SeqStopsK Fence.wide 3 P gf lb (fun x=>#[enc x]) Kp S Sp M w0)
 (hKt:∀ {A B C:World},Kp A B→Kp B C→Kp A C)(hKb:∀ (W:World) (l:Nat) (o o':Obj),w.heap.size≤l→W.heap[l]?=some o→o.isCells=false→o.isWalk=false→Kp W (W.putObj l o'))(hb0:Below w0.heap.size w0 w)
 (hp:SH p N.n=true)(hq:SH q N.n=true)
 (I:List α→World→Prop)(hI:OwnFrom w.heap.size I)(h0:I [] w)
 (hbody:∀ (lp:Nat) (pre:List α) (x:α) (W:World),I pre W→pre.length<M→Rc lp 2 P ⟨N.n,[]⟩ body (ownPostG w.heap.size Kp I (fun _ _ _=>False) (pre++[x]) W) ((q,enc x)::(p,enc x)::l) W)
 (hdone:∀ (D:Nat) (xs:List α) (W:World),w.heap.size≤D→S xs→I xs W→W.heap[D]?=some (.deferred (some []))→At (N.col D) .normal Q l W) :
 Sc P N (.rangeFunc (.tmp f) #[p] (.region rid #[⟨some q,.assign (.tmp p),ty,pos,aft,none⟩] false) body) Q l w:=fun a ha=>by
 refine wpIn_wide.1 (wpIn_rangeFunc_ownG (F:=Fence.wide) (n:=4) rfl (by decide) (gf:=gf) (lb:=lb) (ha.ev (x:=.tmp f) hf) trivial (dH hg) hseq hKt hKb hb0 (fun _=>rfl) I (fun _ _ _=>False) hI Eb h0
  (fun x=>{ tmps:=(a.tmps.setIfInBounds p (enc x)).setIfInBounds q (enc x),defers:=[] }) ?_ ?_ ?_ ?_)
 · intro lp x W K hK
   refine wpIn_region_lit (l:=[_]) ?_;unfold wpListIn;rw[R4 (by simp[Region.wanted])];refine⟨fun _ _=>trivial,?_⟩;have hps:p<a.tmps.size:=by rw[ha.siz];simpa[Tp] using hp
   have e:(execOp (Act.eval { tmps:=a.tmps.setIfInBounds p (enc x),defers:=[] }) ⟨some q,.assign (.tmp p),ty,pos,aft,none⟩).run P W=.ok (.value (enc x)) W:=by
    simp[execOp,Act.eval,hps]
   have ez:(#[p].zip #[enc x]).foldl (fun t (x:Nat×Value)=>match x with|(p,v)=>t.setIfInBounds p v) a.tmps=a.tmps.setIfInBounds p (enc x):=by simp
   rw[ez,Oper.semAt_eq _ _ _ (fun c hc=>by cases hc),e];exact hK
 · intro lp pre x W hi hlt
   refine hbody lp pre x W hi hlt _ ⟨rfl,by simp[ha.siz],?_⟩;have h1:bS N ((q,enc x)::(p,enc x)::l) ((a.put (some p) (enc x)).put (some q) (enc x)):=(ha.put hp _).put hq _;exact h1.has
 · intro D xs W hD hS hi hK
   exact hdone D xs W hD hS hi hK _ ⟨by show _::a.defers=_;rw[ha.dfr];rfl,ha.siz,ha.has⟩
 · intro D c pre W _ _ h _
   exact h.elim
theorem B8{W W':World}{row:Option Nat}(h:W.grownBy W' row):aA (fun k=>some k=row) W W':=⟨h.os,h.tape,h.output,h.size,fun k hk hn=>h.block k hk hn⟩
theorem Gs{B:Nat}{S:Nat→Prop}{W w:World}(h:aA S W w)(hs:∀ k,S k→k<W.heap.size→∃ cur T fr,W.heap[k]?=some (.cells cur T fr)):KeepsFrom B W w:=
 ⟨h.size,fun k o _ hk ho=>(h.same k (Sb.1 hk).1 (fun hS=>by
  obtain⟨cur,T,fr,e⟩:=hs k hS (Sb.1 hk).1;rw[hk] at e;cases e;cases ho)).trans hk⟩
theorem Own.cells{α:Type}{enc:α→Value}{e:TypeId}{H:Array Obj}{ao:Option Addr}{cap:Nat}{xs:List α}(h:Own enc e H ao cap xs){a:Addr}(ha:ao=some a):∃ cur,H[a.block]?=some (.cells cur e (0,0)):=by
 rcases h with⟨rfl,_⟩|⟨g,cur,rfl,hg,_⟩
 ·cases ha
 ·cases ha;exact⟨_,hg⟩
def BbI{α:Type}(e T:TypeId)(bx:Nat)(w0:World)(f:List α→By)(pre:List α)(w:World):Prop:=
 ∃ oo oc,w.heap[bx]?=some (.cells [Value.slice oo (f pre).length oc].toArray T (0,0))∧Own b8 e w.heap oo oc (f pre)∧Fr w0.heap.size oo∧aA (· = bx) w0 w
theorem BbI.own{α:Type}{e T:TypeId}{bx:Nat}{w0:World}{f:List α→By}:OwnFrom w0.heap.size (BbI (α:=α) e T bx w0 f):=fun pre W W' row ⟨oo,oc,h1,h2,h3,h4⟩ hg hr=>by
 have g:=B8 hg;refine⟨oo,oc,g.obj h1 (fun e=>?_),h2.RZ g (fun a ha e=>?_),h3,h4.RV g (fun k e=>.inr (hr k e.symm).1)⟩
 · obtain⟨_,o,ho,hc⟩:=hr bx e.symm
   rw[h1] at ho;cases ho;cases hc
 · obtain⟨_,o,ho,hc⟩:=hr a.block e.symm
   obtain⟨cur,hcur⟩:=h2.cells ha;rw[hcur] at ho;cases ho;cases hc
section
variable {P:Program}{N:Nt}{Q:Exit→Act→World→Prop}{l:SF}{w:World}{ops:Array Oper}{rest:List Oper}
variable {ty:TypeId}{pos:String}{aft:Array Edge}{d g:Nat}{x:Operand}{s:ByteArray}{p:Nat}
theorem Qb{t:TypeId}(ht:P.underlying t=some .string)(hx:evL l x=some (.string s))(hd:SH d N.n=true)
 (h:∀ w',w'.heap[w.heap.size]?=some (.stringIter s 0)→w'.heap.size=w.heap.size+1→aA nob w w'→Sl P N ops Q rest ((d,pT w.heap.size)::l) w') :
 Sl P N ops Q (⟨some d,.range t x,ty,pos,aft,none⟩::rest) l w:=by
 refine OY (w':=w.alloc (.stringIter s 0)) (fun a ha=>?_) hd (h _ (heap_alloc_new w _) (by simp) (aA.alloc _ _ _));simp[execOp,ha.ev hx,Instr.range,run_underlying ht,newObj];rfl
theorem QO(hx:evL l x=some (pT g))(hg:w.heap[g]?=some (.stringIter s p))(hp:p<s.size)(hd:SH d N.n=true)
 (h:∀ w',w'.heap[g]?=some (.stringIter s (p+(Utf8.decode s p).2))→w'.heap.size=w.heap.size→aA (· = g) w w'→Sl P N ops Q rest ((d,.tuple #[.bool true,iV p,.int .i32 (Utf8.decode s p).1])::l) w') :
 Sl P N ops Q (⟨some d,.next x true,ty,pos,aft,none⟩::rest) l w:=by
 obtain⟨s1,s2,s3⟩:=kR (o':=.stringIter s (p+(Utf8.decode s p).2)) hg;refine OY (w':=ChangeMaps.setBlock w g (.stringIter s (p+(Utf8.decode s p).2))) (fun b hb=>?_) hd (h _ s1 s2 s3);simp[execOp,hb.ev hx,Instr.next,getObj,setObj,Sem.run,hg,hp,Result.andThen,ChangeMaps.setBlock,goInt]
theorem QP(hx:evL l x=some (pT g))(hg:w.heap[g]?=some (.stringIter s p))(hp:¬ p<s.size)(hd:SH d N.n=true)
 (h:Sl P N ops Q rest ((d,.tuple #[.bool false])::l) w) :
 Sl P N ops Q (⟨some d,.next x true,ty,pos,aft,none⟩::rest) l w:=by
 refine OY (w':=w) (fun b hb=>?_) hd h;simp[execOp,hb.ev hx,Instr.next,getObj,Sem.run,hg,hp,Result.andThen]
end
theorem Hx(s:By){i:Nat}(h:i<s.length):(bs s).get! i=s[i]:=by
 show (s.toArray)[i]! = _;rw[getElem!_pos s.toArray i (by simpa using h)];simp
theorem xP{s:By}{p:Nat}(hp:p<s.length) :
 1≤(Utf8.decode (bs s) p).2∧p+(Utf8.decode (bs s) p).2≤s.length∧(Utf8.decode (bs s) p).1<1114112 ∧
 ((s.getD p 0).toNat<128→(Utf8.decode (bs s) p).1=(s.getD p 0).toNat)∧(128≤(s.getD p 0).toNat→128≤(Utf8.decode (bs s) p).1) ∧
 ∀ k,p<k→k<p+(Utf8.decode (bs s) p).2→128≤(s.getD k 0).toNat:=by
 have hz:=gD s;have e0:(bs s).get! (p+0)=s.getD p 0:=by rw[Nat.add_zero,Hx s hp];simp[Sj,hp]
 have ek:∀ k,p+k<s.length→(bs s).get! (p+k)=s.getD (p+k) 0:=fun k h=>by rw[Hx s h];simp[Sj,h]
 have b0:=(s.getD p 0).toNat_lt;unfold Utf8.decode;simp only[e0,hz];by_cases h1:(s.getD p 0).toNat<0x80
 · rw[R4 h1]
   exact⟨by simp,by simp;omega,by show (s.getD p 0).toNat<1114112;omega,fun _=>rfl,fun h=>by omega,fun k h2 h3=>by simp at h3;omega⟩
 · rw[R3 h1]
   have bad:∀ r:Nat×Nat,r=(Utf8.runeError,1)→1≤r.2∧p+r.2≤s.length∧r.1<1114112∧((s.getD p 0).toNat<128→r.1=(s.getD p 0).toNat)∧(128≤(s.getD p 0).toNat→128≤r.1)∧∀ k,p<k→k<p+r.2→128≤(s.getD k 0).toNat:=by
    rintro r rfl;exact⟨by simp,by simp;omega,by simp[Utf8.runeError],fun h=>by omega,fun h=>by simp[Utf8.runeError],fun k h2 h3=>by simp at h3;omega⟩
   have cont:∀ k,(decide (p+k<s.length) && ((bs s).get! (p+k)).toNat/64 == 2)=true→p+k<s.length∧128≤(s.getD (p+k) 0).toNat:=fun k h=>by
    simp only[SA,decide_eq_true_eq,beq_iff_eq] at h;have:=h.2;rw[ek k h.1] at this;exact⟨h.1,by omega⟩
   split
   · rename_i h2
     rw[SA] at h2;obtain⟨c1,d1⟩:=cont 1 h2.2
     split
     · rename_i h3
       refine⟨by simp,by simp;omega,?_,fun h=>by omega,fun _=>h3,fun k h4 h5=>?_⟩
       ·show _<1114112;omega
       · have h5:k<p+2:=h5
         have:k=p+1:=by omega
         subst this;exact d1
     ·exact bad _ rfl
   · split
     · rename_i h2
       simp only[SA] at h2;obtain⟨c1,d1⟩:=cont 1 (by simpa using h2.1.2);obtain⟨c2,d2⟩:=cont 2 (by simpa using h2.2)
       split
       · rename_i h3
         simp only[SA,decide_eq_true_eq] at h3;refine⟨by simp,by simp;omega,?_,fun h=>by omega,fun _=>SM (by decide) h3.1,fun k h4 h5=>?_⟩
         ·show _<1114112;omega
         · have h5:k<p+3:=h5
           rcases(by omega:k=p+1∨k=p+2) with rfl|rfl
           ·exact d1
           ·exact d2
       ·exact bad _ rfl
     · split
       · rename_i h2
         simp only[SA] at h2;obtain⟨c1,d1⟩:=cont 1 (by simpa using h2.1.1.2);obtain⟨c2,d2⟩:=cont 2 (by simpa using h2.1.2);obtain⟨c3,d3⟩:=cont 3 (by simpa using h2.2)
         split
         · rename_i h3
           simp only[SA,decide_eq_true_eq,ge_iff_le] at h3;refine⟨by simp,by simp;omega,?_,fun h=>by omega,fun _=>SM (by decide) h3.1,fun k h4 h5=>?_⟩
           · have h6:=h3.2
             simp only[Utf8.valid,Tr,SA,decide_eq_true_eq] at h6;show _<1114112;omega
           · have h5:k<p+4:=h5
             rcases(by omega:k=p+1∨k=p+2∨k=p+3) with rfl|rfl|rfl
             ·exact d1
             ·exact d2
             ·exact d3
         ·exact bad _ rfl
       ·exact bad _ rfl
def rI(s:By)(p:Nat):Prop:=∀ k,k<p→s.getD k 0≠0∧s.getD k 0≠47
theorem Cp{s:By}{p:Nat}(hp:p<s.length)(h:rI s p)(h0:(Utf8.decode (bs s) p).1≠0)(h47:(Utf8.decode (bs s) p).1≠47):rI s (p+(Utf8.decode (bs s) p).2):=by
 obtain⟨r1,r2,r3,r4,r5,r6⟩:=xP hp;intro k hk;by_cases hkp:k<p
 ·exact h k hkp
 by_cases hkp2:k=p
 · subst hkp2
   by_cases hlt:(s.getD k 0).toNat<128
   · have e:=r4 hlt
     exact⟨fun h=>h0 (by rw[e,h];rfl),fun h=>h47 (by rw[e,h];rfl)⟩
   ·exact⟨fun h=>by rw[h] at hlt;exact hlt (by decide),fun h=>by rw[h] at hlt;exact hlt (by decide)⟩
 · have:=r6 k (by omega) hk
   exact⟨fun h=>by rw[h] at this;revert this;decide,fun h=>by rw[h] at this;revert this;decide⟩
theorem wY{s:By}{p:Nat}(hp:p<s.length){c:UInt8}(hc:c.toNat<128)(h:(Utf8.decode (bs s) p).1=c.toNat):c∈s:=by
 obtain⟨r1,r2,r3,r4,r5,r6⟩:=xP hp;by_cases hlt:(s.getD p 0).toNat<128
 · have e:=r4 hlt
   have:s.getD p 0=c:=UInt8.toNat_inj.1 (by omega);rw[←this];simp[Sj,hp]
 ·have:=r5 (by omega);omega
theorem EN{s:By}(h:rI s s.length):(0:UInt8)∉s∧(47:UInt8)∉s:=by
 constructor
 · intro hm
   obtain⟨i,hi,e⟩:=S8 hm;exact(h i hi).1 (by simp[Sj,hi,e])
 · intro hm
   obtain⟨i,hi,e⟩:=S8 hm;exact(h i hi).2 (by simp[Sj,hi,e])
def cM(s:By):Int:=if 255<s.length then 23 else if s=[]∨s=[46]∨s=[46,46]∨(0:UInt8)∈s∨(47:UInt8)∈s then 22 else 0
theorem jG{s:By}(h:cM s=0):s.length≤255∧s≠[]∧(0:UInt8)∉s∧(47:UInt8)∉s:=by
 unfold cM at h
 split at h
 ·simp at h
 · split at h
   ·simp at h
   · rename_i h1 h2
     simp only[not_or] at h2;exact⟨by omega,h2.1,h2.2.2.2.1,h2.2.2.2.2⟩
def fL:List By→Int
|[]=>0
|s::r=>if cM s=0 then fL r else cM s
theorem lZ:∀ {A B:List By},(∀ s∈A,cM s=0)→fL (A++B)=fL B
|[],B,_=>rfl
|a::A,B,h=>by
   show (if cM a=0 then fL (A++B) else cM a)=_;rw[R4 (h a (by simp)),lZ (fun s hs=>h s (by simp[hs]))]
theorem Ej{A B:List By}{s:By}(h:∀ s∈A,cM s=0)(hs:cM s≠0):fL (A++s::B)=cM s:=by
 rw[lZ h];show (if cM s=0 then _ else _)=_;rw[R3 hs]
theorem sO{A:List By}(h:∀ s∈A,cM s=0):fL A=0:=by
 have:=lZ (B:=[]) h;rw[List.append_nil] at this;exact this
theorem Ay{A:List By}(h:fL A=0):∀ s∈A,cM s=0:=by
 induction A with
|nil=>simp
|cons a A ih=>
   have h:(if cM a=0 then fL A else cM a)=0:=h;by_cases ha:cM a=0
   · rw[R4 ha] at h
     intro s hs;rcases St.1 hs with rfl|hs
     ·exact ha
     ·exact ih h s hs
   ·rw[R3 ha] at h;exact absurd h ha
def dU(l:List Nd):List By:=l.flatMap (·.names)
theorem F8{l:List Nd}{n:Nd}{i k:Nat}{s:By}(hn:l[i]?=some n)(hs:n.names[k]?=some s)(h1:∀ s∈dU (l.take i),cM s=0)(h2:∀ s∈n.names.take k,cM s=0)(h3:cM s≠0):fL (dU l)=cM s:=by
 have hi:=(R9.1 hn).1;have hk:=(R9.1 hs).1;have e1:l=l.take i++n::l.drop (i+1):=by rw[←(R9.1 hn).2,List.getElem_cons_drop,SG]
 have e2:n.names=n.names.take k++s::n.names.drop (k+1):=by rw[←(R9.1 hs).2,List.getElem_cons_drop,SG]
 have e3:dU l=(dU (l.take i)++n.names.take k)++s::(n.names.drop (k+1)++dU (l.drop (i+1))):=by
  conv=>lhs;rw[e1]
  simp only[dU,List.flatMap_append,Tc]
  conv=>lhs;rw[e2]
  simp
 rw[e3];exact Ej (fun s hs=>(SO.1 hs).elim (h1 s) (h2 s)) h3
theorem tkL{α:Type}{l:List α}{i:Nat}{x:α}(h:l[i]?=some x):l.take (i+1)=l.take i++[x]:=by
 rw[Sv (R9.1 h).1,(R9.1 h).2]
theorem Cs(l:List Nd)(n:Nd):dU (l++[n])=dU l++n.names:=by simp[dU]
def dD(l:List By):By:=47::Lib.join l [47]
def gX(l:List By):Prop:=∀ s∈l,s≠[]∧(47:UInt8)∉s
theorem dF(x:By)(r:List By):Lib.joinTail [47] (x::r)=47::(x++Lib.joinTail [47] r):=by simp[Lib.joinTail]
theorem jJ(x:By)(r:List By):dD (x::r)=Lib.joinTail [47] (x::r):=by rw[dD,Lib.join_cons,dF]
theorem JO:∀ {x y A B:By},(47:UInt8)∉x→(47:UInt8)∉y→(A=[]∨∃ A',A=47::A')→(B=[]∨∃ B',B=47::B')→x++A=y++B→x=y∧A=B
|[],[],A,B,_,_,_,_,h=>⟨rfl,h⟩
|[],b::y,A,B,_,h2,h3,_,h=>by
   rcases h3 with rfl|⟨A',rfl⟩
   ·cases h
   · simp only[S2,Th,T1.injEq] at h
     exact absurd (by rw[h.1];exact List.mem_cons_self) h2
|a::x,[],A,B,h1,_,_,h4,h=>by
   rcases h4 with rfl|⟨B',rfl⟩
   ·cases h
   · simp only[S2,Th,T1.injEq] at h
     exact absurd (by rw[←h.1];exact List.mem_cons_self) h1
|a::x,b::y,A,B,h1,h2,h3,h4,h=>by
   simp only[Th,T1.injEq] at h;obtain⟨e1,e2⟩:=JO (fun m=>h1 (Tg _ m)) (fun m=>h2 (Tg _ m)) h3 h4 h.2;exact⟨by rw[h.1,e1],e2⟩
theorem uY(r:List By):Lib.joinTail [47] r=[]∨∃ A',Lib.joinTail [47] r=47::A':=by
 cases r with
|nil=>exact .inl rfl
|cons x r=>exact .inr ⟨_,dF x r⟩
theorem zT:∀ {a b:List By},gX a→gX b→Lib.joinTail [47] a=Lib.joinTail [47] b→a=b
|[],[],_,_,_=>rfl
|[],y::b,_,_,h=>by rw[dF] at h;cases h
|x::a,[],_,_,h=>by rw[dF] at h;cases h
|x::a,y::b,ha,hb,h=>by
   rw[dF,dF,T1.injEq] at h;obtain⟨e1,e2⟩:=JO (ha x (by simp)).2 (hb y (by simp)).2 (uY a) (uY b) h.2;rw[e1,zT (fun s hs=>ha s (by simp[hs])) (fun s hs=>hb s (by simp[hs])) e2]
theorem D9{a b:List By}(ha:gX a)(hb:gX b)(h:dD a=dD b):a=b:=by
 match a,b with
|[],[]=>rfl
|[],y::b=>
   rw[jJ,dF,dD,Lib.join_nil,T1.injEq] at h;exact absurd (List.append_eq_nil_iff.1 h.2.symm).1 (hb y (by simp)).1
|x::a,[]=>
   rw[jJ,dF,dD,Lib.join_nil,T1.injEq] at h;exact absurd (List.append_eq_nil_iff.1 h.2).1 (ha x (by simp)).1
|x::a,y::b=>
   rw[jJ,jJ] at h;exact zT ha hb h
theorem zS:∀ {r:List By},(∀ s∈r,s.length≤255)→(Lib.joinTail [47] r).length≤256*r.length
|[],_=>by simp[Lib.joinTail]
|x::r,h=>by
   have ih:=zS (fun s hs=>h s (Tg _ hs));have hx:=h x (by simp);rw[dF];simp only[Sq,R6];omega
theorem sZ{l:List By}(h:∀ s∈l,s.length≤255):(Lib.join l [47]).length≤256*l.length:=by
 cases l with
|nil=>simp[Lib.join_nil]
|cons x r=>
   have ih:=zS (fun s hs=>h s (Tg _ hs));have hx:=h x (by simp);rw[Lib.join_cons];simp only[Sq,R6];omega
def okT(n:Nd):Prop:=if n.kind=3 then n.tgt≠[]∧n.tgt.length≤200∧(0:UInt8)∉n.tgt else n.tgt=[]
instance (n:Nd):Decidable (okT n):=by unfold okT;exact inferInstance
def dR(n:Nd):Prop:=(1≤n.kind∧n.kind≤3)∧n.opq=false∧(0≤n.md∧n.md≤511)∧(0≤n.ud∧n.ud≤65535)∧(0≤n.gd∧n.gd≤65535)∧(n.kind=2∨n.data=[])∧n.data.length≤4096∧okT n∧eC n.xs
instance (n:Nd):Decidable (dR n):=by unfold dR;exact inferInstance
def Alk(a b:Nd):Prop:=a.kind=b.kind∧(a.md=b.md∧a.ud=b.ud∧a.gd=b.gd)∧a.tgt=b.tgt∧a.opq=b.opq∧a.data=b.data∧a.xs=b.xs
instance (a b:Nd):Decidable (Alk a b):=by unfold Alk;exact inferInstance
theorem RC(a:Nd):Alk a a:=⟨rfl,⟨rfl,rfl,rfl⟩,rfl,rfl,rfl,rfl⟩
theorem Alk.symm{a b:Nd}(h:Alk a b):Alk b a:=⟨h.1.symm,⟨h.2.1.1.symm,h.2.1.2.1.symm,h.2.1.2.2.symm⟩,h.2.2.1.symm,h.2.2.2.1.symm,h.2.2.2.2.1.symm,h.2.2.2.2.2.symm⟩
theorem Alk.trans{a b c:Nd}(h:Alk a b)(g:Alk b c):Alk a c:=
 ⟨h.1.trans g.1,⟨h.2.1.1.trans g.2.1.1,h.2.1.2.1.trans g.2.1.2.1,h.2.1.2.2.trans g.2.1.2.2⟩,h.2.2.1.trans g.2.2.1,h.2.2.2.1.trans g.2.2.2.1,h.2.2.2.2.1.trans g.2.2.2.2.1,h.2.2.2.2.2.trans g.2.2.2.2.2⟩
def cJ(l:List Nd):Prop:=¬ l.Pairwise fun a b=>a.names≠b.names
def eM(l:List Nd)(s:List By):Prop:=∃ n∈l,n.names=s∧n.kind=1
def fM(b a:Nd):Prop:=a.ino=b.ino→a.kind≠1∧Alk a b
instance (b a:Nd):Decidable (fM b a):=by unfold fM;exact inferInstance
instance (l:List Nd):Decidable (cJ l):=by unfold cJ;exact inferInstance
instance (l:List Nd)(s:List By):Decidable (eM l s):=by unfold eM;exact inferInstance
def chk(l:List Nd):Int:=
 if 1024<l.length then 3 else if fL (dU l)≠0 then fL (dU l) else if ∃ n∈l,16<n.names.length then 9 else if cJ l then 6
 else if ¬ eM l [] then 4 else if ∃ n∈l,n.names≠[]∧¬ eM l n.names.dropLast then 5 else if ∃ n∈l,¬ dR n then 7 else if l.Pairwise fM then 0 else 8
theorem DJ{s:By}(h:(255:Int)<s.length):cM s=23:=by unfold cM;rw[R4 (by omega)]
theorem jX{s:By}(h:¬ (255:Int)<s.length)(h2:s=[]∨s=[46]∨s=[46,46]∨(0:UInt8)∈s∨(47:UInt8)∈s):cM s=22:=by unfold cM;rw[R3 (by omega),R4 h2]
theorem DK{s:By}(h:¬ (255:Int)<s.length)(h1:¬ s=[])(h2:¬ s=[46])(h3:¬ s=[46,46])(h4:(0:UInt8)∉s∧(47:UInt8)∉s):cM s=0:=by
 unfold cM;rw[R3 (by omega),R3 (fun e=>e.elim h1 fun e=>e.elim h2 fun e=>e.elim h3 fun e=>e.elim h4.1 h4.2)]
theorem zP(s:By)(W:World)(hs:s.length≤maxLen):CA 147 [.string (bs s)] W fun v w'=>v=iV (cM s)∧aA nob W w':=by
 have hl:(s.length:Int)≤9223372036854775807:=by unfold maxLen at hs;omega
 refine cS 31 [(0,_)] Tryz.func147 ?_;refine Gz 10 ?_;refine cL (Pg ty9 rfl) ?_;refine fK 0 ?_ ?_<;>intro h8
 ·refine Gz 13 ?_;exact⟨_,rfl,by rw[DJ h8],Rk _ _⟩
 refine fK 7 ?_ ?_<;>intro h11
 ·refine Gz 21 ?_;exact⟨_,rfl,by rw[jX h8 (.inl h11)],Rk _ _⟩
 refine fW 2 ?_ ?_<;>intro h14
 ·refine Gz 18 ?_;exact⟨_,rfl,by rw[jX h8 (.inr (.inl h14))],Rk _ _⟩
 refine fW 3 ?_ ?_<;>intro h18
 ·refine Gz 14 ?_;exact⟨_,rfl,by rw[jX h8 (.inr (.inr (.inl h18)))],Rk _ _⟩
 refine Gz 12 ?_;refine Qb ty9 rfl rfl ?_;intro w1 hg1 hs1 hf1;obtain⟨g,hg⟩:∃ g,g=W.heap.size:=⟨_,rfl⟩
 rw[←hg] at hg1 ⊢;refine Gz 3 ?_;refine Oy (β:=Nat) (fun p=>[(0,.string (bs s)),(21,pT g)]) (fun p w=>w.heap[g]?=some (.stringIter (bs s) p)∧p≤s.length∧rI s p∧aA nob W w) (fun p=>s.length-p) 0 ⟨rfl,rfl,trivial⟩ ⟨hg1,Sf _,fun k hk=>by omega,hf1⟩ ?_;rintro p w2 ⟨hg2,hp,hcl,hF2⟩;refine Gz 2 ?_;by_cases h22:p<(bs s).size
 ·refine QO rfl hg2 h22 rfl ?_;intro w3 hg3 hs3 hf3;have hpl:p<s.length:=by rw[gD] at h22;exact h22
  obtain⟨r1,r2,r3,r4,r5,r6⟩:=xP hpl;refine fK 17 ?_ ?_<;>intro h26
  ·have hb:cM s=22:=jX h8 (.inr (.inr (.inr (.inl (wY hpl (c:=0) (by decide) (by show _=0;omega))))));refine Gz 18 ?_;exact⟨_,rfl,by rw[hb],hF2.RV hf3 (fun k e=>.inr (by have e:k=g:=e;omega))⟩
  refine fW 2 ?_ ?_<;>intro h29
  ·have hb:cM s=22:=jX h8 (.inr (.inr (.inr (.inr (wY hpl (c:=47) (by decide) (by show _=47;omega))))));refine Gz 15 ?_;exact⟨_,rfl,by rw[hb],hF2.RV hf3 (fun k e=>.inr (by have e:k=g:=e;omega))⟩
  refine Gz 6 ?_;have hF3:aA nob W w3:=hF2.RV hf3 (fun k e=>.inr (by have e:k=g:=e;omega));exact aG (p+(Utf8.decode (bs s) p).2) ⟨hg3,r2,Cp hpl hcl (by omega) (by omega),hF3⟩ (by show s.length-(p+(Utf8.decode (bs s) p).2)<s.length-p;omega)
 refine QP rfl hg2 h22 rfl ?_;have hpe:p=s.length:=by rw[gD] at h22;omega
 subst hpe;refine Gz 17 ?_;exact⟨_,rfl,by rw[DK h8 h11 h14 h18 (EN hcl)],hF2⟩
section
theorem Ol(a:Addr)(i j:Nat):(a.add i).add j=a.add (i+j):=Addr.add_add a i j
theorem Gh{α:Type}{a b:List α}(hl:a.length=b.length){k:Nat}(hk:a.length≤k)(d:α)(h:∀ i,i<k→i<a.length→a.getD i d=b.getD i d):a=b:=by
 apply List.ext_getElem hl;intro i h1 h2;have:=h i (by omega) h1;simpa[Sj,h1,h2] using this
def lP(ps:List (NdH×Nd))(s:List By):Int:=match ps.findIdx? (fun p=>decide (p.2.names=s)) with|some i=>i|none=>-1
theorem Cd{ps:List (NdH×Nd)}{s:List By}(h:∀ p∈ps,p.2.names≠s):lP ps s = -1:=by
 have:ps.findIdx? (fun p=>decide (p.2.names=s))=none:=by
  rw[Ty];intro p hp;exact R5 (h p hp)
 unfold lP;rw[this]
theorem tJ(ps:List (NdH×Nd))(s:List By):(lP ps s = -1∧∀ p∈ps,p.2.names≠s)∨∃ (i:Nat) (p:NdH×Nd),lP ps s=i∧ps[i]?=some p∧p.2.names=s∧∀ j q,j<i→ps[j]?=some q→q.2.names≠s:=by
 by_cases h:∃ p∈ps,p.2.names=s
 · right
   obtain⟨i,hi⟩:∃ i,ps.findIdx? (fun p=>decide (p.2.names=s))=some i:=by
    cases hf:ps.findIdx? (fun p=>decide (p.2.names=s)) with
   |some i=>exact⟨i,rfl⟩
   |none=>
      rw[Ty] at hf;obtain⟨p,hp,e⟩:=h;have:=hf p hp;simp[e] at this
   obtain⟨h1,h2,h3⟩:=Ti.1 hi;refine⟨i,ps[i],by unfold lP;rw[hi],R7 h1,by simpa using h2,fun j q hj hq=>?_⟩;have:=h3 j hj;rw[(R9.1 hq).2] at this;simpa using this
 · left
   have h':∀ p∈ps,p.2.names≠s:=fun p hp e=>h ⟨p,hp,e⟩;exact⟨Cd h',h'⟩
variable {D:Nat→Prop}
end
section
def nmd(l:List Nd):Int:=if fL (dU l)≠0 then fL (dU l) else if ∃ n∈l,16<n.names.length then 9 else if cJ l then 6 else 0
def plc(l:List Nd):Int:=if 1024<l.length then 3 else if nmd l≠0 then nmd l else if ¬ eM l [] then 4 else if ∃ n∈l,n.names≠[]∧¬ eM l n.names.dropLast then 5 else 0
theorem aI(l:List Nd):chk l=if plc l≠0 then plc l else if ∃ n∈l,¬ dR n then 7 else if l.Pairwise fM then 0 else 8:=by
 unfold chk plc nmd;by_cases h1:1024<l.length
 ·simp[h1]
 · by_cases h2:fL (dU l)=0
   · by_cases h3:∃ n∈l,16<n.names.length
     ·simp[h1,h2,h3]
     · by_cases h4:cJ l
       ·simp[h1,h2,h3,h4]
       · by_cases h5:eM l []
         · by_cases h6:∃ n∈l,n.names≠[]∧¬ eM l n.names.dropLast
           ·simp[h1,h2,h3,h4,h5,h6]
           ·simp only[h1,h2,h3,h4,h5,h6,if_false,ne_eq,not_true_eq_false]
         ·simp[h1,h2,h3,h4,h5]
   ·simp[h1,h2]
abbrev nds(ps:List (NdH×Nd)):List Nd:=ps.map (·.2)
theorem dI{ps:List (NdH×Nd)}{i:Nat}{p:NdH×Nd}(h:ps[i]?=some p):(nds ps)[i]?=some p.2:=by simp[nds,h]
theorem Az(ps:List (NdH×Nd))(i:Nat):nds (ps.take i)=(nds ps).take i:=by simp[nds,List.map_take]
theorem eY(ps:List (NdH×Nd)):cJ (nds ps)↔∃ (i j:Nat) (p q:NdH×Nd),i<j∧ps[i]?=some p∧ps[j]?=some q∧p.2.names=q.2.names:=by
 unfold cJ;rw[SR];constructor
 · intro h
   simp only[Classical.not_forall] at h;obtain⟨i,j,h1,h2,h3,h4⟩:=h;rw[SC] at h1 h2;exact⟨i,j,ps[i],ps[j],h3,R7 h1,R7 h2,by simpa using h4⟩
 · rintro⟨i,j,p,q,h1,h2,h3,h4⟩ h
   have e2:=(R9.1 h2)
   have e3:=(R9.1 h3)
   refine h i j (by simpa using e2.1) (by simpa using e3.1) h1 ?_;simp only[List.getElem_map,e2.2,e3.2];exact h4
theorem I3{ps:List (NdH×Nd)}{i:Nat}{p:NdH×Nd}(h:ps[i]?=some p):0≤lP ps p.2.names∧lP ps p.2.names≤i:=by
 rcases tJ ps p.2.names with⟨h1,h2⟩|⟨j,q,h1,h2,h3,h4⟩
 ·exact absurd rfl (h2 p (Sd h))
 · refine⟨by omega,?_⟩
   by_cases hj:j≤i
   ·omega
   ·exact absurd rfl (h4 i p (by omega) h)
theorem DM{ps:List (NdH×Nd)}(h:∀ (i:Nat) (p:NdH×Nd),ps[i]?=some p→¬ lP ps p.2.names<i):¬ cJ (nds ps):=by
 intro ht;obtain⟨i,j,p,q,h1,h2,h3,h4⟩:=(eY ps).1 ht;have:=(I3 h2).2;have g:=h j q h3;rw[←h4] at g;omega
theorem tkN{ps:List (NdH×Nd)}{i:Nat}{p:NdH×Nd}(h:ps[i]?=some p):(nds ps).take (i+1)=(nds ps).take i++[p.2]:=tkL (dI h)
theorem Ok{ps:List (NdH×Nd)}{i:Nat}{p:NdH×Nd}{R:Nd→Prop}(hp:ps[i]?=some p)(h:∀ n∈(nds ps).take i,R n)(hn:R p.2):∀ n∈(nds ps).take (i+1),R n:=by
 intro n hm;rw[tkN hp,SO,SE] at hm;rcases hm with hm|rfl
 ·exact h n hm
 ·exact hn
variable {D:Nat→Prop}
theorem gY{l:List Nd}(h:nmd l=0):(∀ s∈dU l,cM s=0)∧(∀ n∈l,n.names.length≤16)∧¬ cJ l:=by
 unfold nmd at h;by_cases h1:fL (dU l)=0
 · rw[R3 (fun g=>g h1)] at h
   by_cases h2:∃ n∈l,16<n.names.length
   ·rw[R4 h2] at h;simp at h
   · rw[R3 h2] at h
     by_cases h3:cJ l
     ·rw[R4 h3] at h;simp at h
     ·exact⟨Ay h1,fun n hn=>by have:¬ 16<n.names.length:=fun g=>h2 ⟨n,hn,g⟩;omega,h3⟩
 ·rw[R4 h1] at h;exact absurd h h1
theorem drop_take{α:Type}(l:List α):l.dropLast=l.take (l.length-1):=by rw[List.dropLast_eq_take]
end
section
def H2 (P:Program) (t e:TypeId):Bool:=match P.underlying t with
 | some (.struct fs)=>(match fs.toList with
   | [f0, f1, f2] => decide (f0.type = e ∧ f0.offset = 0 ∧ f0.name ≠ "_") && decide (f1.type = e ∧ f1.offset = 1 ∧ f1.name ≠ "_") && decide (f2.type = e ∧ f2.offset = 2 ∧ f2.name ≠ "_")
   | _=>false)
 | _=>false
theorem H6{P:Program}{t e:TypeId}(h:H2 P t e=true)(he:P.underlying e=some (.int .i64))(hs:P.stoodInHeld t=false)(w:World)(a b c a' b' c':Int) :
 (Op.equalIn 10000 t (.agg [iV a,iV b,iV c].toArray) (.agg [iV a',iV b',iV c'].toArray)).run P w=.ok (decide (a=a'∧b=b'∧c=c')) w:=by
 unfold H2 at h
 split at h
 · rename_i fs hu
   split at h
   · rename_i f0 f1 f2 hl
     simp only[SA,decide_eq_true_eq] at h;obtain⟨⟨⟨t0,o0,n0⟩,⟨t1,o1,n1⟩⟩,⟨t2,o2,n2⟩⟩:=h;have hf:P.fieldsOf t=fs:=by unfold Program.fieldsOf;rw[hu]
     rw[run_equalIn_struct w 9999 t _ _ (by rw[hf];exact hu) hs,hf,hl];have hp:∀ (cs:Array Value) (o:Nat) (v:Value),cs[o]?=some v→(part e cs o).run P w=.ok v w:=fun cs o v hv=>by
      simp[part,isAgg,run_underlying he,hv]
     have hq:∀ (x y:Int),(Op.equalIn 9999 e (iV x) (iV y)).run P w=.ok (x == y) w:=fun x y=>run_equalIn_int w 9998 e .i64 .i64 x y he;simp only[Op.eqFields,n0,n1,n2,ne_eq,not_false_eq_true,if_true,t0,o0,t1,o1,t2,o2,Sem.run_bind];rw[hp _ 0 (iV a) rfl,Result.andThen_ok,hp _ 0 (iV a') rfl,Result.andThen_ok,hq,Result.andThen_ok];by_cases h1:a=a'
     · subst h1
       simp only[beq_self_eq_true,Bool.not_true,Bool.false_eq_true,if_false,Sem.run_bind,true_and];rw[hp _ 1 (iV b) rfl,Result.andThen_ok,hp _ 1 (iV b') rfl,Result.andThen_ok,hq,Result.andThen_ok];by_cases h2:b=b'
       · subst h2
         simp only[beq_self_eq_true,Bool.not_true,Bool.false_eq_true,if_false,Sem.run_bind,true_and];rw[hp _ 2 (iV c) rfl,Result.andThen_ok,hp _ 2 (iV c') rfl,Result.andThen_ok,hq,Result.andThen_ok];by_cases h3:c=c'
         ·subst h3;simp
         ·simp[h3]
       ·simp[h2]
     ·simp[h1]
   ·cases h
 ·cases h
section
variable {P:Program}{N:Nt}{l:SF}{ty t':TypeId}{pos:String}{aft:Array Edge}{dd:Option Nat}{g:Option (Nat×Bool)}{CH:Array Obj→Prop}{x y:Operand}{t e:TypeId}
theorem QQ(h:H2 P t e=true)(he:P.underlying e=some (.int .i64))(hs:P.stoodInHeld t=false)(hg:P.eqGuardType P.depth t=false){a b c a' b' c':Int}(hx:evL l x=some (.agg [iV a,iV b,iV c].toArray))(hy:evL l y=some (.agg [iV a',iV b',iV c'].toArray)) :
 Cm P N CH l ⟨dd,.binOp .eql t x y t',ty,pos,aft,g⟩ (.bool (decide (a=a'∧b=b'∧c=c'))):=fun k w ha _=>by
 simp only[execOp,ha.ev hx,ha.ev hy,Sem.run_bind,run_eqGuard_agg w .eql t x y _ _ hg,Result.andThen_ok,run_eql_struct,H6 h he hs];simp
end
theorem stA:H2 Tryz.prog 34 3=true:=by kernel_rfl
theorem Ny:Tryz.prog.underlying 3=some (.int .i64):=by kernel_rfl
theorem Nz:Tryz.prog.stoodInHeld 34=false:=by kernel_rfl
theorem NA:Tryz.prog.eqGuardType Tryz.prog.depth 34=false:=by kernel_rfl
theorem bO{H:Array Obj}{q:Nat}{cs ds:List Value}{T:TypeId}{fr:Nat×Nat}(h:H[q]?=some (.cells cs.toArray T fr))(o:Nat)(hd:(cs.drop o).take ds.length=ds):∀ (j:Nat) (v:Value),ds[j]?=some v→aS H (((⟨q,0,none⟩:Addr).add o).add j)=some v:=by
 intro j v hj;rw[Ol];refine aD h ?_;rw[←hd,SZ] at hj
 split at hj
 ·rw[List.getElem?_drop] at hj;exact hj
 ·cases hj
def I8(n:Nd):List Value:=[iV n.md,iV n.ud,iV n.gd]
variable {D:Nat→Prop}
end
section
theorem xY{α:Type}{a b:List α}{k:Nat}(hl:a.length=b.length)(hk:a.length≤k)(h:∀ j:Nat,j<k→a[j]?=b[j]?):a=b:=by
 apply List.ext_getElem?;intro j;by_cases hj:j<k
 ·exact h j hj
 ·rw[SY (by omega),SY (by omega)]
theorem XsV.at{D:Nat→Prop}{H:Array Obj}{h:Hd}{X:List Xa}{ys:List (By×Hd)}(hl:ys.length=X.length)(hx:∀ (i:Nat) (x:By×Hd) (y:Xa),ys[i]?=some x→X[i]?=some y→x.1=y.1∧ByV D H x.2 y.2){k:Nat}(hk:k<X.length) :
 ∃ (a:Xa) (b:Hd),X[k]?=some a∧ys[k]?=some (a.1,b)∧ByV D H b a.2:=by
 have h1:=R7 hk;have h2:ys[k]?=some ys[k]:=R7 (by omega);obtain⟨e,hb⟩:=hx k _ _ h2 h1;refine⟨X[k],(ys[k]).2,h1,?_,hb⟩;rw[h2,←e]
variable {D:Nat→Prop}
end
section
theorem Kn{ps:List (NdH×Nd)}{i k:Nat}{p q:NdH×Nd}(h:(nds ps).Pairwise fM)(hk:k<i)(hq:ps[k]?=some q)(hp:ps[i]?=some p):fM q.2 p.2:=by
 have e1:=R9.1 (dI hq);have e2:=R9.1 (dI hp);have:=SR.1 h k i e1.1 e2.1 hk;rw[e1.2,e2.2] at this;exact this
variable {D:Nat→Prop}
end
section
theorem cV(x a b:Int)(W:World):CA 151 [iV x,iV a,iV b] W fun v w'=>v=.bool (decide (a≤x∧x≤b))∧w'=W:=by
 refine cS 15 [(0,_),(1,_),(2,_)] Tryz.func151 ?_;refine fK 9 ?_ ?_<;>intro h9
 ·refine fW 3 ?_ ?_<;>intro h13
  ·refine Gz 6 ?_
   first
   |exact⟨_,rfl,by rw[R8 (show a≤x∧x≤b from ⟨h9,h13⟩)],rfl⟩
   |exact⟨_,rfl,by rw[R5 (show ¬ (a≤x∧x≤b) from fun h=>h13 h.2)],rfl⟩
   |exact⟨_,rfl,by rw[R5 (show ¬ (a≤x∧x≤b) from fun h=>h9 h.1)],rfl⟩
  refine Gz 6 ?_
  first
  |exact⟨_,rfl,by rw[R8 (show a≤x∧x≤b from ⟨h9,h13⟩)],rfl⟩
  |exact⟨_,rfl,by rw[R5 (show ¬ (a≤x∧x≤b) from fun h=>h13 h.2)],rfl⟩
  |exact⟨_,rfl,by rw[R5 (show ¬ (a≤x∧x≤b) from fun h=>h9 h.1)],rfl⟩
 refine Gz 10 ?_
 first
 |exact⟨_,rfl,by rw[R8 (show a≤x∧x≤b from ⟨h9,h13⟩)],rfl⟩
 |exact⟨_,rfl,by rw[R5 (show ¬ (a≤x∧x≤b) from fun h=>h13 h.2)],rfl⟩
 |exact⟨_,rfl,by rw[R5 (show ¬ (a≤x∧x≤b) from fun h=>h9 h.1)],rfl⟩
def eG(s:By)(m:Int):Prop:=(1≤(s.length:Int)∧(s.length:Int)≤m)∧(0:UInt8)∉s
instance (s:By)(m:Int):Decidable (eG s m):=by unfold eG;exact inferInstance
theorem Ao(s:By)(m:Int)(W:World):CA 150 [.string (bs s),iV m] W fun v w'=>v=.bool (decide (eG s m))∧w'=W:=by
 refine cS 14 [(0,_),(1,_)] Tryz.func150 ?_;refine Gz 8 ?_;refine cL (Pg ty9 rfl) ?_;refine Gz 1 ?_;refine Ot lO rfl (cV _ 1 m W) rfl ?_;rintro _ w1 ⟨rfl,hw1⟩;subst w1;by_cases h8:1≤(s.length:Int)∧(s.length:Int)≤m
 ·rw[R8 h8];refine Gz 2 ?_;refine OC rfl rfl GN rfl (B0 s 0 W) rfl ?_;rintro _ w1 ⟨rfl,hw1⟩;subst w1;refine fW 0 ?_ ?_<;>intro h12
  ·refine Gz 6 ?_
   first
   |exact⟨_,rfl,by rw[R8 (show eG s m from ⟨h8,mZ h12⟩)],rfl⟩
   |exact⟨_,rfl,by rw[R5 (show ¬ eG s m from fun h=>h.2 (mY (Int.not_lt.1 h12)))],rfl⟩
   |exact⟨_,rfl,by rw[R5 (show ¬ eG s m from fun h=>h8 h.1)],rfl⟩
  refine Gz 6 ?_
  first
  |exact⟨_,rfl,by rw[R8 (show eG s m from ⟨h8,mZ h12⟩)],rfl⟩
  |exact⟨_,rfl,by rw[R5 (show ¬ eG s m from fun h=>h.2 (mY (Int.not_lt.1 h12)))],rfl⟩
  |exact⟨_,rfl,by rw[R5 (show ¬ eG s m from fun h=>h8 h.1)],rfl⟩
 rw[R5 h8];refine Gz 10 ?_
 first
 |exact⟨_,rfl,by rw[R8 (show eG s m from ⟨h8,mZ h12⟩)],rfl⟩
 |exact⟨_,rfl,by rw[R5 (show ¬ eG s m from fun h=>h.2 (mY (Int.not_lt.1 h12)))],rfl⟩
 |exact⟨_,rfl,by rw[R5 (show ¬ eG s m from fun h=>h8 h.1)],rfl⟩
theorem rP(xo:Option Addr)(xc:Nat)(X:List Xa)(W:World)(hv:XaV W.heap xo xc X) :
 CA 152 [.slice xo X.length xc] W fun v w'=>v=.bool (decide (eC X))∧aA nob W w':=by
 have hl:=hv.RX;refine cS 34 [(0,_)] Tryz.func152 ?_;refine Gz 19 ?_;refine Oy (β:=Nat) (fun k=>[(0,.slice xo X.length xc),(3,.string (bs (pR X k))),(6,.slice xo X.length xc),(7,iV X.length),(8,iV k)]) (fun k w=>k≤X.length∧(∀ i,i<k→AN X i)∧aA nob W w) (fun k=>X.length-k) 0 ⟨rfl,rfl,rfl,rfl,rfl,trivial⟩ ⟨Sf _,by intro i hi;omega,Rk _ _⟩ ?_;rintro k w2 ⟨hk,hgood,hF2⟩;refine fK 2 ?_ ?_<;>intro h9
 ·refine Gz 10 ?_;obtain⟨xa,xc2,hrow,hxv,hnl⟩:=(hv.RY hF2).at (i:=k) rfl (by omega);refine cL (OA oJ rfl rfl hv.non (by omega)) ?_;refine cL (OG (cs:=[.string (bs (X.getD k x0).1),.slice xa (X.getD k x0).2.length xc2]) dM rfl hrow) ?_;refine Ov rL rfl ?_;intro w3 hg3 hs3 hf3;refine sA rfl dM (by simp[Value.oneCell']) hg3 ?_;intro w4 hg4 hs4 hf4;have hF4:aA nob W w4:=hF2.trans (hf3.RV hf4 (fun k hk=>.inr (by omega)));refine Gz 7 ?_;refine Ot JI rfl (Ao _ 40 w4) rfl ?_;rintro _ w5 ⟨rfl,hw5⟩;subst w5;by_cases h14:eG (X.getD k x0).1 40
  ·rw[R8 h14];refine cL (OL rfl) ?_;refine Gz 4 ?_;refine OW rfl rfl (OP (P0 (a:=(X.getD k x0).1) (b:=pR X k) rfl rfl)) rfl (fun h20=>?_) (fun h20=>?_)
   ·rw[fO] at h20;have hbad:¬ eC X:=fun h=>by rw[(h.1 k (by omega)).1] at h20;cases h20
    refine Gz 23 ?_;exact⟨_,rfl,by rw[R5 hbad],hF4⟩
   rw[fO] at h20;have g1:Su (pR X k) (X.getD k x0).1=true:=by revert h20;cases Su (pR X k) (X.getD k x0).1<;>simp
   refine fW 5 ?_ ?_<;>intro h26
   ·have hbad:¬ eC X:=fun h=>by have:=(h.1 k (by omega)).2.2.2;omega
    refine Gz 17 ?_;exact⟨_,rfl,by rw[R5 hbad],hF4⟩
   refine Gz 17 ?_;refine aG (k+1) ⟨by omega,fun i hi=>?_,hF4⟩ (by show X.length-(k+1)<X.length-k;omega);by_cases hik:i=k
   ·subst hik;exact⟨g1,by have:=h14.1.2;omega,h14.2,by omega⟩
   ·exact hgood i (by omega)
  rw[R5 h14];have hbad:¬ eC X:=fun h=>h14 (by have g:=h.1 k (by omega);have:=Sk.2 (II g.1);exact⟨⟨by omega,by have:=g.2.1;omega⟩,g.2.2.1⟩);refine cL (OL rfl) ?_;refine Gz 28 ?_;exact⟨_,rfl,by rw[R5 hbad],hF4⟩
 refine Gz 13 ?_;refine cL (Pv rfl rfl) ?_;refine Gz 5 ?_;refine⟨_,rfl,?_,hF2⟩;have hk2:k=X.length:=by omega
 subst hk2;congr 1;exact decide_eq_decide.2 ⟨fun h=>⟨hgood,by omega⟩,fun h=>by have:=h.2;omega⟩
variable {D:Nat→Prop}
theorem HS(p:NdH×Nd)(W:World)(hn:NdV D W.heap p)(hsm:smN p.2) :
 CA 110 [.agg (aH p).toArray] W fun v w'=>v=.bool (decide (dR p.2))∧aA nob W w':=by
 have no:∀ w',¬ dR p.2→aA nob W w'→Ret (fun v w'=>v=.bool (decide (dR p.2))∧aA nob W w') (.returned (.bool false)) w':=fun w' h f=>⟨_,rfl,by rw[R5 h],f⟩
 have yes:∀ w',(dR p.2↔eC p.2.xs)→aA nob W w'→Ret (fun v w'=>v=.bool (decide (dR p.2))∧aA nob W w') (.returned (.bool (decide (eC p.2.xs)))) w':=fun w' h f=>⟨_,rfl,congrArg _ (decide_eq_decide.2 h.symm),f⟩
 refine cS 59 [(0,_)] Tryz.func110 ?_;refine Gz 2 ?_;refine OR rfl rfl ?_;intro w1 hg1 hs1 hf1;obtain⟨g,hg⟩:∃ g,g=W.heap.size:=⟨_,rfl⟩
 rw[←hg] at hg1 hs1 ⊢
 replace hg1:w1.heap[g]?=some (.cells (aH p).toArray 37 (0,0)):=hg1
 refine Gz 6 ?_;refine cL (OG (cs:=I8 p.2) DF rfl (bO hg1 3 rfl)) ?_;refine Ov Nu rfl ?_;intro w2 hg2 hs2 hf2;obtain⟨q,hq⟩:∃ q,q=w1.heap.size:=⟨_,rfl⟩
 rw[←hq] at hg2 ⊢;refine sA rfl DF (by simp[I8,Value.oneCell']) hg2 ?_;intro w3 hg3 hs3 hf3;have hf13:aA nob w1 w3:=hf2.RV hf3 (fun k e=>.inr (by have e:k=q:=e;omega));have hg4:=hf13.obj hg1 id;have hF3:=(hf1.trans hf13).draws 1;have hn3:=hn.RY hF3;refine Gz 3 ?_;refine Pe 9 [0,1,2,3,4,5,6,7,8] aM (by kernel_rfl) ?_;refine Gz 1 ?_;refine xC rfl (Ow aT rfl (by first|exact aD hg4 rfl|exact aD hg3 rfl)) ?_;refine Gz 1 ?_;rw[hn3.2.1.1];refine xC rfl (OX rfl rfl) ?_;refine Gz 1 ?_;refine xC rfl (Ow lV rfl (by first|exact aD hg4 rfl|exact aD hg3 rfl)) ?_;refine xC rfl (Pf rfl rfl) ?_;refine Gz 8 ?_;refine cL (Ow aL rfl (by first|exact aD hg4 rfl|exact aD hg3 rfl)) ?_;refine fK 5 ?_ ?_<;>intro h18
 ·refine Gz 10 ?_;by_cases h30:(p.2.data.length:Int)=0
  ·rw[R8 h30];refine Gz 2 ?_;by_cases h32:p.2.tgt=[]
   ·rw[R8 h32];refine Gz 3 ?_;refine OW rfl rfl (OP (Ow DT rfl (by first|exact aD hg4 rfl|exact aD hg3 rfl))) rfl (fun h36=>?_) (fun h36=>?_)
    ·refine cW (OL rfl) ?_;refine Gz 26 ?_
     first
     |exact no _ (fun hm=>by have:=hm.1;omega) hF3
     |exact no _ (fun hm=>by have:=hm.2.2.2.2.2.2.1;omega) hF3
     |exact no _ (fun hm=>hm.2.2.2.2.2.1.elim (fun e=>by omega) (fun e=>h30 (by rw[e];rfl))) hF3
     |exact no _ (fun hm=>by have m:=hm.2.2.2.2.2.2.2.1;unfold okT at m;rw[R3 (by omega)] at m;exact h32 m) hF3
     |exact no _ (fun hm=>by have m:=hm.2.2.2.2.2.2.2.1;unfold okT at m;rw[R4 h26] at m;exact h32 ⟨⟨by have:=Sk.2 m.1;omega,by have:=m.2.1;omega⟩,m.2.2⟩) hF3
     |exact no _ (fun hm=>by rw[hm.2.1] at h36;cases h36) hF3
     |exact no _ (fun hm=>h42 hm.2.2.1) hF3
     |exact no _ (fun hm=>h47 hm.2.2.2.1) hF3
     |exact no _ (fun hm=>h52 hm.2.2.2.2.1) hF3
     |refine yes _ ?_ (hF3.trans hf6)
      have k2:okT p.2:=by
       unfold okT
       first
       |(rw[R3 (by omega)];exact h32)
       |(rw[R4 h26];exact⟨fun e=>by have:=h32.1.1;have e0:=congrArg SJ e;have e1:([]:By).length=0:=rfl;omega,by have:=h32.1.2;omega,h32.2⟩)
      have k1:p.2.kind=2∨p.2.data=[]:=by
       first
       |exact .inl h20
       |exact .inr (Sg.1 (by omega))
      exact⟨fun hm=>hm.2.2.2.2.2.2.2.2,fun hx=>⟨by omega,by simpa using h36,h42,h47,h52,k1,by omega,k2,hx⟩⟩
    refine cW (OL rfl) ?_;refine Gz 3 ?_;refine cW (Ow aL rfl (by first|exact aD hg4 rfl|exact aD hg3 rfl)) ?_;refine OC rfl rfl lO rfl (cV _ _ _ _) rfl ?_;rintro _ w4 ⟨rfl,hw4⟩;subst w4;by_cases h42:0≤p.2.md∧p.2.md≤511
    ·rw[R8 h42];refine Gz 3 ?_;refine cW (Ow aL rfl (by first|exact aD hg4 rfl|exact aD hg3 rfl)) ?_;refine OC rfl rfl lO rfl (cV _ _ _ _) rfl ?_;rintro _ w4 ⟨rfl,hw4⟩;subst w4;by_cases h47:0≤p.2.ud∧p.2.ud≤65535
     ·rw[R8 h47];refine Gz 3 ?_;refine cW (Ow aL rfl (by first|exact aD hg4 rfl|exact aD hg3 rfl)) ?_;refine OC rfl rfl lO rfl (cV _ _ _ _) rfl ?_;rintro _ w4 ⟨rfl,hw4⟩;subst w4;by_cases h52:0≤p.2.gd∧p.2.gd≤65535
      ·rw[R8 h52];refine Gz 3 ?_;refine cW (Ow gO rfl (by first|exact aD hg4 rfl|exact aD hg3 rfl)) ?_;refine OC rfl rfl GO rfl ((by show Calls _ _ [Value.slice p.1.xs.a p.1.xs.n p.1.xs.c].toArray _ _;rw[hn3.2.2.1];exact rP _ _ _ _ (hn3.2.2.xav hsm.2.2))) rfl ?_;rintro _ w6 ⟨rfl,hf6⟩;refine Gz 6 ?_
       first
       |exact no _ (fun hm=>by have:=hm.1;omega) hF3
       |exact no _ (fun hm=>by have:=hm.2.2.2.2.2.2.1;omega) hF3
       |exact no _ (fun hm=>hm.2.2.2.2.2.1.elim (fun e=>by omega) (fun e=>h30 (by rw[e];rfl))) hF3
       |exact no _ (fun hm=>by have m:=hm.2.2.2.2.2.2.2.1;unfold okT at m;rw[R3 (by omega)] at m;exact h32 m) hF3
       |exact no _ (fun hm=>by have m:=hm.2.2.2.2.2.2.2.1;unfold okT at m;rw[R4 h26] at m;exact h32 ⟨⟨by have:=Sk.2 m.1;omega,by have:=m.2.1;omega⟩,m.2.2⟩) hF3
       |exact no _ (fun hm=>by rw[hm.2.1] at h36;cases h36) hF3
       |exact no _ (fun hm=>h42 hm.2.2.1) hF3
       |exact no _ (fun hm=>h47 hm.2.2.2.1) hF3
       |exact no _ (fun hm=>h52 hm.2.2.2.2.1) hF3
       |refine yes _ ?_ (hF3.trans hf6)
        have k2:okT p.2:=by
         unfold okT
         first
         |(rw[R3 (by omega)];exact h32)
         |(rw[R4 h26];exact⟨fun e=>by have:=h32.1.1;have e0:=congrArg SJ e;have e1:([]:By).length=0:=rfl;omega,by have:=h32.1.2;omega,h32.2⟩)
        have k1:p.2.kind=2∨p.2.data=[]:=by
         first
         |exact .inl h20
         |exact .inr (Sg.1 (by omega))
        exact⟨fun hm=>hm.2.2.2.2.2.2.2.2,fun hx=>⟨by omega,by simpa using h36,h42,h47,h52,k1,by omega,k2,hx⟩⟩
      rw[R5 h52];refine Gz 11 ?_
      first
      |exact no _ (fun hm=>by have:=hm.1;omega) hF3
      |exact no _ (fun hm=>by have:=hm.2.2.2.2.2.2.1;omega) hF3
      |exact no _ (fun hm=>hm.2.2.2.2.2.1.elim (fun e=>by omega) (fun e=>h30 (by rw[e];rfl))) hF3
      |exact no _ (fun hm=>by have m:=hm.2.2.2.2.2.2.2.1;unfold okT at m;rw[R3 (by omega)] at m;exact h32 m) hF3
      |exact no _ (fun hm=>by have m:=hm.2.2.2.2.2.2.2.1;unfold okT at m;rw[R4 h26] at m;exact h32 ⟨⟨by have:=Sk.2 m.1;omega,by have:=m.2.1;omega⟩,m.2.2⟩) hF3
      |exact no _ (fun hm=>by rw[hm.2.1] at h36;cases h36) hF3
      |exact no _ (fun hm=>h42 hm.2.2.1) hF3
      |exact no _ (fun hm=>h47 hm.2.2.2.1) hF3
      |exact no _ (fun hm=>h52 hm.2.2.2.2.1) hF3
      |refine yes _ ?_ (hF3.trans hf6)
       have k2:okT p.2:=by
        unfold okT
        first
        |(rw[R3 (by omega)];exact h32)
        |(rw[R4 h26];exact⟨fun e=>by have:=h32.1.1;have e0:=congrArg SJ e;have e1:([]:By).length=0:=rfl;omega,by have:=h32.1.2;omega,h32.2⟩)
       have k1:p.2.kind=2∨p.2.data=[]:=by
        first
        |exact .inl h20
        |exact .inr (Sg.1 (by omega))
       exact⟨fun hm=>hm.2.2.2.2.2.2.2.2,fun hx=>⟨by omega,by simpa using h36,h42,h47,h52,k1,by omega,k2,hx⟩⟩
     rw[R5 h47];refine Gz 16 ?_
     first
     |exact no _ (fun hm=>by have:=hm.1;omega) hF3
     |exact no _ (fun hm=>by have:=hm.2.2.2.2.2.2.1;omega) hF3
     |exact no _ (fun hm=>hm.2.2.2.2.2.1.elim (fun e=>by omega) (fun e=>h30 (by rw[e];rfl))) hF3
     |exact no _ (fun hm=>by have m:=hm.2.2.2.2.2.2.2.1;unfold okT at m;rw[R3 (by omega)] at m;exact h32 m) hF3
     |exact no _ (fun hm=>by have m:=hm.2.2.2.2.2.2.2.1;unfold okT at m;rw[R4 h26] at m;exact h32 ⟨⟨by have:=Sk.2 m.1;omega,by have:=m.2.1;omega⟩,m.2.2⟩) hF3
     |exact no _ (fun hm=>by rw[hm.2.1] at h36;cases h36) hF3
     |exact no _ (fun hm=>h42 hm.2.2.1) hF3
     |exact no _ (fun hm=>h47 hm.2.2.2.1) hF3
     |exact no _ (fun hm=>h52 hm.2.2.2.2.1) hF3
     |refine yes _ ?_ (hF3.trans hf6)
      have k2:okT p.2:=by
       unfold okT
       first
       |(rw[R3 (by omega)];exact h32)
       |(rw[R4 h26];exact⟨fun e=>by have:=h32.1.1;have e0:=congrArg SJ e;have e1:([]:By).length=0:=rfl;omega,by have:=h32.1.2;omega,h32.2⟩)
      have k1:p.2.kind=2∨p.2.data=[]:=by
       first
       |exact .inl h20
       |exact .inr (Sg.1 (by omega))
      exact⟨fun hm=>hm.2.2.2.2.2.2.2.2,fun hx=>⟨by omega,by simpa using h36,h42,h47,h52,k1,by omega,k2,hx⟩⟩
    rw[R5 h42];refine Gz 21 ?_
    first
    |exact no _ (fun hm=>by have:=hm.1;omega) hF3
    |exact no _ (fun hm=>by have:=hm.2.2.2.2.2.2.1;omega) hF3
    |exact no _ (fun hm=>hm.2.2.2.2.2.1.elim (fun e=>by omega) (fun e=>h30 (by rw[e];rfl))) hF3
    |exact no _ (fun hm=>by have m:=hm.2.2.2.2.2.2.2.1;unfold okT at m;rw[R3 (by omega)] at m;exact h32 m) hF3
    |exact no _ (fun hm=>by have m:=hm.2.2.2.2.2.2.2.1;unfold okT at m;rw[R4 h26] at m;exact h32 ⟨⟨by have:=Sk.2 m.1;omega,by have:=m.2.1;omega⟩,m.2.2⟩) hF3
    |exact no _ (fun hm=>by rw[hm.2.1] at h36;cases h36) hF3
    |exact no _ (fun hm=>h42 hm.2.2.1) hF3
    |exact no _ (fun hm=>h47 hm.2.2.2.1) hF3
    |exact no _ (fun hm=>h52 hm.2.2.2.2.1) hF3
    |refine yes _ ?_ (hF3.trans hf6)
     have k2:okT p.2:=by
      unfold okT
      first
      |(rw[R3 (by omega)];exact h32)
      |(rw[R4 h26];exact⟨fun e=>by have:=h32.1.1;have e0:=congrArg SJ e;have e1:([]:By).length=0:=rfl;omega,by have:=h32.1.2;omega,h32.2⟩)
     have k1:p.2.kind=2∨p.2.data=[]:=by
      first
      |exact .inl h20
      |exact .inr (Sg.1 (by omega))
     exact⟨fun hm=>hm.2.2.2.2.2.2.2.2,fun hx=>⟨by omega,by simpa using h36,h42,h47,h52,k1,by omega,k2,hx⟩⟩
   rw[R5 h32];refine Gz 31 ?_
   first
   |exact no _ (fun hm=>by have:=hm.1;omega) hF3
   |exact no _ (fun hm=>by have:=hm.2.2.2.2.2.2.1;omega) hF3
   |exact no _ (fun hm=>hm.2.2.2.2.2.1.elim (fun e=>by omega) (fun e=>h30 (by rw[e];rfl))) hF3
   |exact no _ (fun hm=>by have m:=hm.2.2.2.2.2.2.2.1;unfold okT at m;rw[R3 (by omega)] at m;exact h32 m) hF3
   |exact no _ (fun hm=>by have m:=hm.2.2.2.2.2.2.2.1;unfold okT at m;rw[R4 h26] at m;exact h32 ⟨⟨by have:=Sk.2 m.1;omega,by have:=m.2.1;omega⟩,m.2.2⟩) hF3
   |exact no _ (fun hm=>by rw[hm.2.1] at h36;cases h36) hF3
   |exact no _ (fun hm=>h42 hm.2.2.1) hF3
   |exact no _ (fun hm=>h47 hm.2.2.2.1) hF3
   |exact no _ (fun hm=>h52 hm.2.2.2.2.1) hF3
   |refine yes _ ?_ (hF3.trans hf6)
    have k2:okT p.2:=by
     unfold okT
     first
     |(rw[R3 (by omega)];exact h32)
     |(rw[R4 h26];exact⟨fun e=>by have:=h32.1.1;have e0:=congrArg SJ e;have e1:([]:By).length=0:=rfl;omega,by have:=h32.1.2;omega,h32.2⟩)
    have k1:p.2.kind=2∨p.2.data=[]:=by
     first
     |exact .inl h20
     |exact .inr (Sg.1 (by omega))
    exact⟨fun hm=>hm.2.2.2.2.2.2.2.2,fun hx=>⟨by omega,by simpa using h36,h42,h47,h52,k1,by omega,k2,hx⟩⟩
  rw[R5 h30];refine Gz 33 ?_
  first
  |exact no _ (fun hm=>by have:=hm.1;omega) hF3
  |exact no _ (fun hm=>by have:=hm.2.2.2.2.2.2.1;omega) hF3
  |exact no _ (fun hm=>hm.2.2.2.2.2.1.elim (fun e=>by omega) (fun e=>h30 (by rw[e];rfl))) hF3
  |exact no _ (fun hm=>by have m:=hm.2.2.2.2.2.2.2.1;unfold okT at m;rw[R3 (by omega)] at m;exact h32 m) hF3
  |exact no _ (fun hm=>by have m:=hm.2.2.2.2.2.2.2.1;unfold okT at m;rw[R4 h26] at m;exact h32 ⟨⟨by have:=Sk.2 m.1;omega,by have:=m.2.1;omega⟩,m.2.2⟩) hF3
  |exact no _ (fun hm=>by rw[hm.2.1] at h36;cases h36) hF3
  |exact no _ (fun hm=>h42 hm.2.2.1) hF3
  |exact no _ (fun hm=>h47 hm.2.2.2.1) hF3
  |exact no _ (fun hm=>h52 hm.2.2.2.2.1) hF3
  |refine yes _ ?_ (hF3.trans hf6)
   have k2:okT p.2:=by
    unfold okT
    first
    |(rw[R3 (by omega)];exact h32)
    |(rw[R4 h26];exact⟨fun e=>by have:=h32.1.1;have e0:=congrArg SJ e;have e1:([]:By).length=0:=rfl;omega,by have:=h32.1.2;omega,h32.2⟩)
   have k1:p.2.kind=2∨p.2.data=[]:=by
    first
    |exact .inl h20
    |exact .inr (Sg.1 (by omega))
   exact⟨fun hm=>hm.2.2.2.2.2.2.2.2,fun hx=>⟨by omega,by simpa using h36,h42,h47,h52,k1,by omega,k2,hx⟩⟩
 refine fK 6 ?_ ?_<;>intro h20
 ·refine Gz 6 ?_;refine cL (Ow aT rfl (by first|exact aD hg4 rfl|exact aD hg3 rfl)) ?_;refine Gz 1 ?_;rw[hn3.2.1.1];refine cL (Pv rfl rfl) ?_;refine Gz 7 ?_;by_cases h30:(p.2.data.length:Int)≤4096
  ·rw[R8 h30];refine Gz 2 ?_;by_cases h32:p.2.tgt=[]
   ·rw[R8 h32];refine Gz 3 ?_;refine OW rfl rfl (OP (Ow DT rfl (by first|exact aD hg4 rfl|exact aD hg3 rfl))) rfl (fun h36=>?_) (fun h36=>?_)
    ·refine cW (OL rfl) ?_;refine Gz 26 ?_
     first
     |exact no _ (fun hm=>by have:=hm.1;omega) hF3
     |exact no _ (fun hm=>by have:=hm.2.2.2.2.2.2.1;omega) hF3
     |exact no _ (fun hm=>hm.2.2.2.2.2.1.elim (fun e=>by omega) (fun e=>h30 (by rw[e];rfl))) hF3
     |exact no _ (fun hm=>by have m:=hm.2.2.2.2.2.2.2.1;unfold okT at m;rw[R3 (by omega)] at m;exact h32 m) hF3
     |exact no _ (fun hm=>by have m:=hm.2.2.2.2.2.2.2.1;unfold okT at m;rw[R4 h26] at m;exact h32 ⟨⟨by have:=Sk.2 m.1;omega,by have:=m.2.1;omega⟩,m.2.2⟩) hF3
     |exact no _ (fun hm=>by rw[hm.2.1] at h36;cases h36) hF3
     |exact no _ (fun hm=>h42 hm.2.2.1) hF3
     |exact no _ (fun hm=>h47 hm.2.2.2.1) hF3
     |exact no _ (fun hm=>h52 hm.2.2.2.2.1) hF3
     |refine yes _ ?_ (hF3.trans hf6)
      have k2:okT p.2:=by
       unfold okT
       first
       |(rw[R3 (by omega)];exact h32)
       |(rw[R4 h26];exact⟨fun e=>by have:=h32.1.1;have e0:=congrArg SJ e;have e1:([]:By).length=0:=rfl;omega,by have:=h32.1.2;omega,h32.2⟩)
      have k1:p.2.kind=2∨p.2.data=[]:=by
       first
       |exact .inl h20
       |exact .inr (Sg.1 (by omega))
      exact⟨fun hm=>hm.2.2.2.2.2.2.2.2,fun hx=>⟨by omega,by simpa using h36,h42,h47,h52,k1,by omega,k2,hx⟩⟩
    refine cW (OL rfl) ?_;refine Gz 3 ?_;refine cW (Ow aL rfl (by first|exact aD hg4 rfl|exact aD hg3 rfl)) ?_;refine OC rfl rfl lO rfl (cV _ _ _ _) rfl ?_;rintro _ w4 ⟨rfl,hw4⟩;subst w4;by_cases h42:0≤p.2.md∧p.2.md≤511
    ·rw[R8 h42];refine Gz 3 ?_;refine cW (Ow aL rfl (by first|exact aD hg4 rfl|exact aD hg3 rfl)) ?_;refine OC rfl rfl lO rfl (cV _ _ _ _) rfl ?_;rintro _ w4 ⟨rfl,hw4⟩;subst w4;by_cases h47:0≤p.2.ud∧p.2.ud≤65535
     ·rw[R8 h47];refine Gz 3 ?_;refine cW (Ow aL rfl (by first|exact aD hg4 rfl|exact aD hg3 rfl)) ?_;refine OC rfl rfl lO rfl (cV _ _ _ _) rfl ?_;rintro _ w4 ⟨rfl,hw4⟩;subst w4;by_cases h52:0≤p.2.gd∧p.2.gd≤65535
      ·rw[R8 h52];refine Gz 3 ?_;refine cW (Ow gO rfl (by first|exact aD hg4 rfl|exact aD hg3 rfl)) ?_;refine OC rfl rfl GO rfl ((by show Calls _ _ [Value.slice p.1.xs.a p.1.xs.n p.1.xs.c].toArray _ _;rw[hn3.2.2.1];exact rP _ _ _ _ (hn3.2.2.xav hsm.2.2))) rfl ?_;rintro _ w6 ⟨rfl,hf6⟩;refine Gz 6 ?_
       first
       |exact no _ (fun hm=>by have:=hm.1;omega) hF3
       |exact no _ (fun hm=>by have:=hm.2.2.2.2.2.2.1;omega) hF3
       |exact no _ (fun hm=>hm.2.2.2.2.2.1.elim (fun e=>by omega) (fun e=>h30 (by rw[e];rfl))) hF3
       |exact no _ (fun hm=>by have m:=hm.2.2.2.2.2.2.2.1;unfold okT at m;rw[R3 (by omega)] at m;exact h32 m) hF3
       |exact no _ (fun hm=>by have m:=hm.2.2.2.2.2.2.2.1;unfold okT at m;rw[R4 h26] at m;exact h32 ⟨⟨by have:=Sk.2 m.1;omega,by have:=m.2.1;omega⟩,m.2.2⟩) hF3
       |exact no _ (fun hm=>by rw[hm.2.1] at h36;cases h36) hF3
       |exact no _ (fun hm=>h42 hm.2.2.1) hF3
       |exact no _ (fun hm=>h47 hm.2.2.2.1) hF3
       |exact no _ (fun hm=>h52 hm.2.2.2.2.1) hF3
       |refine yes _ ?_ (hF3.trans hf6)
        have k2:okT p.2:=by
         unfold okT
         first
         |(rw[R3 (by omega)];exact h32)
         |(rw[R4 h26];exact⟨fun e=>by have:=h32.1.1;have e0:=congrArg SJ e;have e1:([]:By).length=0:=rfl;omega,by have:=h32.1.2;omega,h32.2⟩)
        have k1:p.2.kind=2∨p.2.data=[]:=by
         first
         |exact .inl h20
         |exact .inr (Sg.1 (by omega))
        exact⟨fun hm=>hm.2.2.2.2.2.2.2.2,fun hx=>⟨by omega,by simpa using h36,h42,h47,h52,k1,by omega,k2,hx⟩⟩
      rw[R5 h52];refine Gz 11 ?_
      first
      |exact no _ (fun hm=>by have:=hm.1;omega) hF3
      |exact no _ (fun hm=>by have:=hm.2.2.2.2.2.2.1;omega) hF3
      |exact no _ (fun hm=>hm.2.2.2.2.2.1.elim (fun e=>by omega) (fun e=>h30 (by rw[e];rfl))) hF3
      |exact no _ (fun hm=>by have m:=hm.2.2.2.2.2.2.2.1;unfold okT at m;rw[R3 (by omega)] at m;exact h32 m) hF3
      |exact no _ (fun hm=>by have m:=hm.2.2.2.2.2.2.2.1;unfold okT at m;rw[R4 h26] at m;exact h32 ⟨⟨by have:=Sk.2 m.1;omega,by have:=m.2.1;omega⟩,m.2.2⟩) hF3
      |exact no _ (fun hm=>by rw[hm.2.1] at h36;cases h36) hF3
      |exact no _ (fun hm=>h42 hm.2.2.1) hF3
      |exact no _ (fun hm=>h47 hm.2.2.2.1) hF3
      |exact no _ (fun hm=>h52 hm.2.2.2.2.1) hF3
      |refine yes _ ?_ (hF3.trans hf6)
       have k2:okT p.2:=by
        unfold okT
        first
        |(rw[R3 (by omega)];exact h32)
        |(rw[R4 h26];exact⟨fun e=>by have:=h32.1.1;have e0:=congrArg SJ e;have e1:([]:By).length=0:=rfl;omega,by have:=h32.1.2;omega,h32.2⟩)
       have k1:p.2.kind=2∨p.2.data=[]:=by
        first
        |exact .inl h20
        |exact .inr (Sg.1 (by omega))
       exact⟨fun hm=>hm.2.2.2.2.2.2.2.2,fun hx=>⟨by omega,by simpa using h36,h42,h47,h52,k1,by omega,k2,hx⟩⟩
     rw[R5 h47];refine Gz 16 ?_
     first
     |exact no _ (fun hm=>by have:=hm.1;omega) hF3
     |exact no _ (fun hm=>by have:=hm.2.2.2.2.2.2.1;omega) hF3
     |exact no _ (fun hm=>hm.2.2.2.2.2.1.elim (fun e=>by omega) (fun e=>h30 (by rw[e];rfl))) hF3
     |exact no _ (fun hm=>by have m:=hm.2.2.2.2.2.2.2.1;unfold okT at m;rw[R3 (by omega)] at m;exact h32 m) hF3
     |exact no _ (fun hm=>by have m:=hm.2.2.2.2.2.2.2.1;unfold okT at m;rw[R4 h26] at m;exact h32 ⟨⟨by have:=Sk.2 m.1;omega,by have:=m.2.1;omega⟩,m.2.2⟩) hF3
     |exact no _ (fun hm=>by rw[hm.2.1] at h36;cases h36) hF3
     |exact no _ (fun hm=>h42 hm.2.2.1) hF3
     |exact no _ (fun hm=>h47 hm.2.2.2.1) hF3
     |exact no _ (fun hm=>h52 hm.2.2.2.2.1) hF3
     |refine yes _ ?_ (hF3.trans hf6)
      have k2:okT p.2:=by
       unfold okT
       first
       |(rw[R3 (by omega)];exact h32)
       |(rw[R4 h26];exact⟨fun e=>by have:=h32.1.1;have e0:=congrArg SJ e;have e1:([]:By).length=0:=rfl;omega,by have:=h32.1.2;omega,h32.2⟩)
      have k1:p.2.kind=2∨p.2.data=[]:=by
       first
       |exact .inl h20
       |exact .inr (Sg.1 (by omega))
      exact⟨fun hm=>hm.2.2.2.2.2.2.2.2,fun hx=>⟨by omega,by simpa using h36,h42,h47,h52,k1,by omega,k2,hx⟩⟩
    rw[R5 h42];refine Gz 21 ?_
    first
    |exact no _ (fun hm=>by have:=hm.1;omega) hF3
    |exact no _ (fun hm=>by have:=hm.2.2.2.2.2.2.1;omega) hF3
    |exact no _ (fun hm=>hm.2.2.2.2.2.1.elim (fun e=>by omega) (fun e=>h30 (by rw[e];rfl))) hF3
    |exact no _ (fun hm=>by have m:=hm.2.2.2.2.2.2.2.1;unfold okT at m;rw[R3 (by omega)] at m;exact h32 m) hF3
    |exact no _ (fun hm=>by have m:=hm.2.2.2.2.2.2.2.1;unfold okT at m;rw[R4 h26] at m;exact h32 ⟨⟨by have:=Sk.2 m.1;omega,by have:=m.2.1;omega⟩,m.2.2⟩) hF3
    |exact no _ (fun hm=>by rw[hm.2.1] at h36;cases h36) hF3
    |exact no _ (fun hm=>h42 hm.2.2.1) hF3
    |exact no _ (fun hm=>h47 hm.2.2.2.1) hF3
    |exact no _ (fun hm=>h52 hm.2.2.2.2.1) hF3
    |refine yes _ ?_ (hF3.trans hf6)
     have k2:okT p.2:=by
      unfold okT
      first
      |(rw[R3 (by omega)];exact h32)
      |(rw[R4 h26];exact⟨fun e=>by have:=h32.1.1;have e0:=congrArg SJ e;have e1:([]:By).length=0:=rfl;omega,by have:=h32.1.2;omega,h32.2⟩)
     have k1:p.2.kind=2∨p.2.data=[]:=by
      first
      |exact .inl h20
      |exact .inr (Sg.1 (by omega))
     exact⟨fun hm=>hm.2.2.2.2.2.2.2.2,fun hx=>⟨by omega,by simpa using h36,h42,h47,h52,k1,by omega,k2,hx⟩⟩
   rw[R5 h32];refine Gz 31 ?_
   first
   |exact no _ (fun hm=>by have:=hm.1;omega) hF3
   |exact no _ (fun hm=>by have:=hm.2.2.2.2.2.2.1;omega) hF3
   |exact no _ (fun hm=>hm.2.2.2.2.2.1.elim (fun e=>by omega) (fun e=>h30 (by rw[e];rfl))) hF3
   |exact no _ (fun hm=>by have m:=hm.2.2.2.2.2.2.2.1;unfold okT at m;rw[R3 (by omega)] at m;exact h32 m) hF3
   |exact no _ (fun hm=>by have m:=hm.2.2.2.2.2.2.2.1;unfold okT at m;rw[R4 h26] at m;exact h32 ⟨⟨by have:=Sk.2 m.1;omega,by have:=m.2.1;omega⟩,m.2.2⟩) hF3
   |exact no _ (fun hm=>by rw[hm.2.1] at h36;cases h36) hF3
   |exact no _ (fun hm=>h42 hm.2.2.1) hF3
   |exact no _ (fun hm=>h47 hm.2.2.2.1) hF3
   |exact no _ (fun hm=>h52 hm.2.2.2.2.1) hF3
   |refine yes _ ?_ (hF3.trans hf6)
    have k2:okT p.2:=by
     unfold okT
     first
     |(rw[R3 (by omega)];exact h32)
     |(rw[R4 h26];exact⟨fun e=>by have:=h32.1.1;have e0:=congrArg SJ e;have e1:([]:By).length=0:=rfl;omega,by have:=h32.1.2;omega,h32.2⟩)
    have k1:p.2.kind=2∨p.2.data=[]:=by
     first
     |exact .inl h20
     |exact .inr (Sg.1 (by omega))
    exact⟨fun hm=>hm.2.2.2.2.2.2.2.2,fun hx=>⟨by omega,by simpa using h36,h42,h47,h52,k1,by omega,k2,hx⟩⟩
  rw[R5 h30];refine Gz 33 ?_
  first
  |exact no _ (fun hm=>by have:=hm.1;omega) hF3
  |exact no _ (fun hm=>by have:=hm.2.2.2.2.2.2.1;omega) hF3
  |exact no _ (fun hm=>hm.2.2.2.2.2.1.elim (fun e=>by omega) (fun e=>h30 (by rw[e];rfl))) hF3
  |exact no _ (fun hm=>by have m:=hm.2.2.2.2.2.2.2.1;unfold okT at m;rw[R3 (by omega)] at m;exact h32 m) hF3
  |exact no _ (fun hm=>by have m:=hm.2.2.2.2.2.2.2.1;unfold okT at m;rw[R4 h26] at m;exact h32 ⟨⟨by have:=Sk.2 m.1;omega,by have:=m.2.1;omega⟩,m.2.2⟩) hF3
  |exact no _ (fun hm=>by rw[hm.2.1] at h36;cases h36) hF3
  |exact no _ (fun hm=>h42 hm.2.2.1) hF3
  |exact no _ (fun hm=>h47 hm.2.2.2.1) hF3
  |exact no _ (fun hm=>h52 hm.2.2.2.2.1) hF3
  |refine yes _ ?_ (hF3.trans hf6)
   have k2:okT p.2:=by
    unfold okT
    first
    |(rw[R3 (by omega)];exact h32)
    |(rw[R4 h26];exact⟨fun e=>by have:=h32.1.1;have e0:=congrArg SJ e;have e1:([]:By).length=0:=rfl;omega,by have:=h32.1.2;omega,h32.2⟩)
   have k1:p.2.kind=2∨p.2.data=[]:=by
    first
    |exact .inl h20
    |exact .inr (Sg.1 (by omega))
   exact⟨fun hm=>hm.2.2.2.2.2.2.2.2,fun hx=>⟨by omega,by simpa using h36,h42,h47,h52,k1,by omega,k2,hx⟩⟩
 refine fK 6 ?_ ?_<;>intro h26
 ·refine Gz 6 ?_;refine cL (Ow lV rfl (by first|exact aD hg4 rfl|exact aD hg3 rfl)) ?_;refine Ot JI rfl (Ao p.2.tgt 200 _) rfl ?_;rintro _ w4 ⟨rfl,hw4⟩;subst w4;refine Gz 7 ?_;by_cases h30:(p.2.data.length:Int)=0
  ·rw[R8 h30];refine Gz 2 ?_;by_cases h32:eG p.2.tgt 200
   ·rw[R8 h32];refine Gz 3 ?_;refine OW rfl rfl (OP (Ow DT rfl (by first|exact aD hg4 rfl|exact aD hg3 rfl))) rfl (fun h36=>?_) (fun h36=>?_)
    ·refine cW (OL rfl) ?_;refine Gz 26 ?_
     first
     |exact no _ (fun hm=>by have:=hm.1;omega) hF3
     |exact no _ (fun hm=>by have:=hm.2.2.2.2.2.2.1;omega) hF3
     |exact no _ (fun hm=>hm.2.2.2.2.2.1.elim (fun e=>by omega) (fun e=>h30 (by rw[e];rfl))) hF3
     |exact no _ (fun hm=>by have m:=hm.2.2.2.2.2.2.2.1;unfold okT at m;rw[R3 (by omega)] at m;exact h32 m) hF3
     |exact no _ (fun hm=>by have m:=hm.2.2.2.2.2.2.2.1;unfold okT at m;rw[R4 h26] at m;exact h32 ⟨⟨by have:=Sk.2 m.1;omega,by have:=m.2.1;omega⟩,m.2.2⟩) hF3
     |exact no _ (fun hm=>by rw[hm.2.1] at h36;cases h36) hF3
     |exact no _ (fun hm=>h42 hm.2.2.1) hF3
     |exact no _ (fun hm=>h47 hm.2.2.2.1) hF3
     |exact no _ (fun hm=>h52 hm.2.2.2.2.1) hF3
     |refine yes _ ?_ (hF3.trans hf6)
      have k2:okT p.2:=by
       unfold okT
       first
       |(rw[R3 (by omega)];exact h32)
       |(rw[R4 h26];exact⟨fun e=>by have:=h32.1.1;have e0:=congrArg SJ e;have e1:([]:By).length=0:=rfl;omega,by have:=h32.1.2;omega,h32.2⟩)
      have k1:p.2.kind=2∨p.2.data=[]:=by
       first
       |exact .inl h20
       |exact .inr (Sg.1 (by omega))
      exact⟨fun hm=>hm.2.2.2.2.2.2.2.2,fun hx=>⟨by omega,by simpa using h36,h42,h47,h52,k1,by omega,k2,hx⟩⟩
    refine cW (OL rfl) ?_;refine Gz 3 ?_;refine cW (Ow aL rfl (by first|exact aD hg4 rfl|exact aD hg3 rfl)) ?_;refine OC rfl rfl lO rfl (cV _ _ _ _) rfl ?_;rintro _ w4 ⟨rfl,hw4⟩;subst w4;by_cases h42:0≤p.2.md∧p.2.md≤511
    ·rw[R8 h42];refine Gz 3 ?_;refine cW (Ow aL rfl (by first|exact aD hg4 rfl|exact aD hg3 rfl)) ?_;refine OC rfl rfl lO rfl (cV _ _ _ _) rfl ?_;rintro _ w4 ⟨rfl,hw4⟩;subst w4;by_cases h47:0≤p.2.ud∧p.2.ud≤65535
     ·rw[R8 h47];refine Gz 3 ?_;refine cW (Ow aL rfl (by first|exact aD hg4 rfl|exact aD hg3 rfl)) ?_;refine OC rfl rfl lO rfl (cV _ _ _ _) rfl ?_;rintro _ w4 ⟨rfl,hw4⟩;subst w4;by_cases h52:0≤p.2.gd∧p.2.gd≤65535
      ·rw[R8 h52];refine Gz 3 ?_;refine cW (Ow gO rfl (by first|exact aD hg4 rfl|exact aD hg3 rfl)) ?_;refine OC rfl rfl GO rfl ((by show Calls _ _ [Value.slice p.1.xs.a p.1.xs.n p.1.xs.c].toArray _ _;rw[hn3.2.2.1];exact rP _ _ _ _ (hn3.2.2.xav hsm.2.2))) rfl ?_;rintro _ w6 ⟨rfl,hf6⟩;refine Gz 6 ?_
       first
       |exact no _ (fun hm=>by have:=hm.1;omega) hF3
       |exact no _ (fun hm=>by have:=hm.2.2.2.2.2.2.1;omega) hF3
       |exact no _ (fun hm=>hm.2.2.2.2.2.1.elim (fun e=>by omega) (fun e=>h30 (by rw[e];rfl))) hF3
       |exact no _ (fun hm=>by have m:=hm.2.2.2.2.2.2.2.1;unfold okT at m;rw[R3 (by omega)] at m;exact h32 m) hF3
       |exact no _ (fun hm=>by have m:=hm.2.2.2.2.2.2.2.1;unfold okT at m;rw[R4 h26] at m;exact h32 ⟨⟨by have:=Sk.2 m.1;omega,by have:=m.2.1;omega⟩,m.2.2⟩) hF3
       |exact no _ (fun hm=>by rw[hm.2.1] at h36;cases h36) hF3
       |exact no _ (fun hm=>h42 hm.2.2.1) hF3
       |exact no _ (fun hm=>h47 hm.2.2.2.1) hF3
       |exact no _ (fun hm=>h52 hm.2.2.2.2.1) hF3
       |refine yes _ ?_ (hF3.trans hf6)
        have k2:okT p.2:=by
         unfold okT
         first
         |(rw[R3 (by omega)];exact h32)
         |(rw[R4 h26];exact⟨fun e=>by have:=h32.1.1;have e0:=congrArg SJ e;have e1:([]:By).length=0:=rfl;omega,by have:=h32.1.2;omega,h32.2⟩)
        have k1:p.2.kind=2∨p.2.data=[]:=by
         first
         |exact .inl h20
         |exact .inr (Sg.1 (by omega))
        exact⟨fun hm=>hm.2.2.2.2.2.2.2.2,fun hx=>⟨by omega,by simpa using h36,h42,h47,h52,k1,by omega,k2,hx⟩⟩
      rw[R5 h52];refine Gz 11 ?_
      first
      |exact no _ (fun hm=>by have:=hm.1;omega) hF3
      |exact no _ (fun hm=>by have:=hm.2.2.2.2.2.2.1;omega) hF3
      |exact no _ (fun hm=>hm.2.2.2.2.2.1.elim (fun e=>by omega) (fun e=>h30 (by rw[e];rfl))) hF3
      |exact no _ (fun hm=>by have m:=hm.2.2.2.2.2.2.2.1;unfold okT at m;rw[R3 (by omega)] at m;exact h32 m) hF3
      |exact no _ (fun hm=>by have m:=hm.2.2.2.2.2.2.2.1;unfold okT at m;rw[R4 h26] at m;exact h32 ⟨⟨by have:=Sk.2 m.1;omega,by have:=m.2.1;omega⟩,m.2.2⟩) hF3
      |exact no _ (fun hm=>by rw[hm.2.1] at h36;cases h36) hF3
      |exact no _ (fun hm=>h42 hm.2.2.1) hF3
      |exact no _ (fun hm=>h47 hm.2.2.2.1) hF3
      |exact no _ (fun hm=>h52 hm.2.2.2.2.1) hF3
      |refine yes _ ?_ (hF3.trans hf6)
       have k2:okT p.2:=by
        unfold okT
        first
        |(rw[R3 (by omega)];exact h32)
        |(rw[R4 h26];exact⟨fun e=>by have:=h32.1.1;have e0:=congrArg SJ e;have e1:([]:By).length=0:=rfl;omega,by have:=h32.1.2;omega,h32.2⟩)
       have k1:p.2.kind=2∨p.2.data=[]:=by
        first
        |exact .inl h20
        |exact .inr (Sg.1 (by omega))
       exact⟨fun hm=>hm.2.2.2.2.2.2.2.2,fun hx=>⟨by omega,by simpa using h36,h42,h47,h52,k1,by omega,k2,hx⟩⟩
     rw[R5 h47];refine Gz 16 ?_
     first
     |exact no _ (fun hm=>by have:=hm.1;omega) hF3
     |exact no _ (fun hm=>by have:=hm.2.2.2.2.2.2.1;omega) hF3
     |exact no _ (fun hm=>hm.2.2.2.2.2.1.elim (fun e=>by omega) (fun e=>h30 (by rw[e];rfl))) hF3
     |exact no _ (fun hm=>by have m:=hm.2.2.2.2.2.2.2.1;unfold okT at m;rw[R3 (by omega)] at m;exact h32 m) hF3
     |exact no _ (fun hm=>by have m:=hm.2.2.2.2.2.2.2.1;unfold okT at m;rw[R4 h26] at m;exact h32 ⟨⟨by have:=Sk.2 m.1;omega,by have:=m.2.1;omega⟩,m.2.2⟩) hF3
     |exact no _ (fun hm=>by rw[hm.2.1] at h36;cases h36) hF3
     |exact no _ (fun hm=>h42 hm.2.2.1) hF3
     |exact no _ (fun hm=>h47 hm.2.2.2.1) hF3
     |exact no _ (fun hm=>h52 hm.2.2.2.2.1) hF3
     |refine yes _ ?_ (hF3.trans hf6)
      have k2:okT p.2:=by
       unfold okT
       first
       |(rw[R3 (by omega)];exact h32)
       |(rw[R4 h26];exact⟨fun e=>by have:=h32.1.1;have e0:=congrArg SJ e;have e1:([]:By).length=0:=rfl;omega,by have:=h32.1.2;omega,h32.2⟩)
      have k1:p.2.kind=2∨p.2.data=[]:=by
       first
       |exact .inl h20
       |exact .inr (Sg.1 (by omega))
      exact⟨fun hm=>hm.2.2.2.2.2.2.2.2,fun hx=>⟨by omega,by simpa using h36,h42,h47,h52,k1,by omega,k2,hx⟩⟩
    rw[R5 h42];refine Gz 21 ?_
    first
    |exact no _ (fun hm=>by have:=hm.1;omega) hF3
    |exact no _ (fun hm=>by have:=hm.2.2.2.2.2.2.1;omega) hF3
    |exact no _ (fun hm=>hm.2.2.2.2.2.1.elim (fun e=>by omega) (fun e=>h30 (by rw[e];rfl))) hF3
    |exact no _ (fun hm=>by have m:=hm.2.2.2.2.2.2.2.1;unfold okT at m;rw[R3 (by omega)] at m;exact h32 m) hF3
    |exact no _ (fun hm=>by have m:=hm.2.2.2.2.2.2.2.1;unfold okT at m;rw[R4 h26] at m;exact h32 ⟨⟨by have:=Sk.2 m.1;omega,by have:=m.2.1;omega⟩,m.2.2⟩) hF3
    |exact no _ (fun hm=>by rw[hm.2.1] at h36;cases h36) hF3
    |exact no _ (fun hm=>h42 hm.2.2.1) hF3
    |exact no _ (fun hm=>h47 hm.2.2.2.1) hF3
    |exact no _ (fun hm=>h52 hm.2.2.2.2.1) hF3
    |refine yes _ ?_ (hF3.trans hf6)
     have k2:okT p.2:=by
      unfold okT
      first
      |(rw[R3 (by omega)];exact h32)
      |(rw[R4 h26];exact⟨fun e=>by have:=h32.1.1;have e0:=congrArg SJ e;have e1:([]:By).length=0:=rfl;omega,by have:=h32.1.2;omega,h32.2⟩)
     have k1:p.2.kind=2∨p.2.data=[]:=by
      first
      |exact .inl h20
      |exact .inr (Sg.1 (by omega))
     exact⟨fun hm=>hm.2.2.2.2.2.2.2.2,fun hx=>⟨by omega,by simpa using h36,h42,h47,h52,k1,by omega,k2,hx⟩⟩
   rw[R5 h32];refine Gz 31 ?_
   first
   |exact no _ (fun hm=>by have:=hm.1;omega) hF3
   |exact no _ (fun hm=>by have:=hm.2.2.2.2.2.2.1;omega) hF3
   |exact no _ (fun hm=>hm.2.2.2.2.2.1.elim (fun e=>by omega) (fun e=>h30 (by rw[e];rfl))) hF3
   |exact no _ (fun hm=>by have m:=hm.2.2.2.2.2.2.2.1;unfold okT at m;rw[R3 (by omega)] at m;exact h32 m) hF3
   |exact no _ (fun hm=>by have m:=hm.2.2.2.2.2.2.2.1;unfold okT at m;rw[R4 h26] at m;exact h32 ⟨⟨by have:=Sk.2 m.1;omega,by have:=m.2.1;omega⟩,m.2.2⟩) hF3
   |exact no _ (fun hm=>by rw[hm.2.1] at h36;cases h36) hF3
   |exact no _ (fun hm=>h42 hm.2.2.1) hF3
   |exact no _ (fun hm=>h47 hm.2.2.2.1) hF3
   |exact no _ (fun hm=>h52 hm.2.2.2.2.1) hF3
   |refine yes _ ?_ (hF3.trans hf6)
    have k2:okT p.2:=by
     unfold okT
     first
     |(rw[R3 (by omega)];exact h32)
     |(rw[R4 h26];exact⟨fun e=>by have:=h32.1.1;have e0:=congrArg SJ e;have e1:([]:By).length=0:=rfl;omega,by have:=h32.1.2;omega,h32.2⟩)
    have k1:p.2.kind=2∨p.2.data=[]:=by
     first
     |exact .inl h20
     |exact .inr (Sg.1 (by omega))
    exact⟨fun hm=>hm.2.2.2.2.2.2.2.2,fun hx=>⟨by omega,by simpa using h36,h42,h47,h52,k1,by omega,k2,hx⟩⟩
  rw[R5 h30];refine Gz 33 ?_
  first
  |exact no _ (fun hm=>by have:=hm.1;omega) hF3
  |exact no _ (fun hm=>by have:=hm.2.2.2.2.2.2.1;omega) hF3
  |exact no _ (fun hm=>hm.2.2.2.2.2.1.elim (fun e=>by omega) (fun e=>h30 (by rw[e];rfl))) hF3
  |exact no _ (fun hm=>by have m:=hm.2.2.2.2.2.2.2.1;unfold okT at m;rw[R3 (by omega)] at m;exact h32 m) hF3
  |exact no _ (fun hm=>by have m:=hm.2.2.2.2.2.2.2.1;unfold okT at m;rw[R4 h26] at m;exact h32 ⟨⟨by have:=Sk.2 m.1;omega,by have:=m.2.1;omega⟩,m.2.2⟩) hF3
  |exact no _ (fun hm=>by rw[hm.2.1] at h36;cases h36) hF3
  |exact no _ (fun hm=>h42 hm.2.2.1) hF3
  |exact no _ (fun hm=>h47 hm.2.2.2.1) hF3
  |exact no _ (fun hm=>h52 hm.2.2.2.2.1) hF3
  |refine yes _ ?_ (hF3.trans hf6)
   have k2:okT p.2:=by
    unfold okT
    first
    |(rw[R3 (by omega)];exact h32)
    |(rw[R4 h26];exact⟨fun e=>by have:=h32.1.1;have e0:=congrArg SJ e;have e1:([]:By).length=0:=rfl;omega,by have:=h32.1.2;omega,h32.2⟩)
   have k1:p.2.kind=2∨p.2.data=[]:=by
    first
    |exact .inl h20
    |exact .inr (Sg.1 (by omega))
   exact⟨fun hm=>hm.2.2.2.2.2.2.2.2,fun hx=>⟨by omega,by simpa using h36,h42,h47,h52,k1,by omega,k2,hx⟩⟩
 refine Gz 13 ?_
 first
 |exact no _ (fun hm=>by have:=hm.1;omega) hF3
 |exact no _ (fun hm=>by have:=hm.2.2.2.2.2.2.1;omega) hF3
 |exact no _ (fun hm=>hm.2.2.2.2.2.1.elim (fun e=>by omega) (fun e=>h30 (by rw[e];rfl))) hF3
 |exact no _ (fun hm=>by have m:=hm.2.2.2.2.2.2.2.1;unfold okT at m;rw[R3 (by omega)] at m;exact h32 m) hF3
 |exact no _ (fun hm=>by have m:=hm.2.2.2.2.2.2.2.1;unfold okT at m;rw[R4 h26] at m;exact h32 ⟨⟨by have:=Sk.2 m.1;omega,by have:=m.2.1;omega⟩,m.2.2⟩) hF3
 |exact no _ (fun hm=>by rw[hm.2.1] at h36;cases h36) hF3
 |exact no _ (fun hm=>h42 hm.2.2.1) hF3
 |exact no _ (fun hm=>h47 hm.2.2.2.1) hF3
 |exact no _ (fun hm=>h52 hm.2.2.2.2.1) hF3
 |refine yes _ ?_ (hF3.trans hf6)
  have k2:okT p.2:=by
   unfold okT
   first
   |(rw[R3 (by omega)];exact h32)
   |(rw[R4 h26];exact⟨fun e=>by have:=h32.1.1;have e0:=congrArg SJ e;have e1:([]:By).length=0:=rfl;omega,by have:=h32.1.2;omega,h32.2⟩)
  have k1:p.2.kind=2∨p.2.data=[]:=by
   first
   |exact .inl h20
   |exact .inr (Sg.1 (by omega))
  exact⟨fun hm=>hm.2.2.2.2.2.2.2.2,fun hx=>⟨by omega,by simpa using h36,h42,h47,h52,k1,by omega,k2,hx⟩⟩
def Ch(ps:List (NdH×Nd))(R:NdH×Nd→Prop)[DecidablePred R]:Int:=match ps.findIdx? (fun p=>decide (R p)) with|some i=>i|none=>-1
section
variable {R:NdH×Nd→Prop}[DecidablePred R]
theorem GY{ps:List (NdH×Nd)}{i:Nat}{p:NdH×Nd}(hp:ps[i]?=some p)(h1:R p)(h2:∀ (j:Nat) (q:NdH×Nd),j<i→ps[j]?=some q→¬ R q):Ch ps R=i:=by
 have hi:=(R9.1 hp).1;have:ps.findIdx? (fun p=>decide (R p))=some i:=by
  rw[Ti];refine⟨hi,by rw[(R9.1 hp).2];exact R8 h1,fun j hj=>?_⟩;have:=h2 j _ hj (R7 (by omega));simpa using this
 unfold Ch;rw[this]
theorem wQ{ps:List (NdH×Nd)}(h:∀ p∈ps,¬ R p):Ch ps R = -1:=by
 have:ps.findIdx? (fun p=>decide (R p))=none:=by
  rw[Ty];intro p hp;exact R5 (h p hp)
 unfold Ch;rw[this]
theorem GX{ps:List (NdH×Nd)}:0≤Ch ps R↔∃ p∈ps,R p:=by
 constructor
 · intro h
   apply Se;intro hn;rw[wQ (fun p hp hr=>hn ⟨p,hp,hr⟩)] at h;omega
 · rintro⟨p,hp,hr⟩
   unfold Ch;cases hf:ps.findIdx? (fun p=>decide (R p)) with
  |some i=>exact Int.natCast_nonneg i
  |none=>
     rw[Ty] at hf;have:=hf p hp;simp[hr] at this
theorem yK(f:FuncId)(cs:List Value)(hf:fnB Tryz.prog f=true)(lo:Option Addr)(lc:Nat)(ps:List (NdH×Nd))(W:World)(hv:bD D W.heap lo lc ps)
 (hc:∀ w p,p∈ps→aA nob W w→Calls Tryz.prog f ([Value.agg (aH p).toArray]++cs).toArray w (Ret fun v w'=>v=.bool (decide (R p))∧aA nob w w')) :
 CA 149 [.slice lo ps.length lc,.func (.func f) #[] cs.toArray] W fun v w'=>v=iV (Ch ps R)∧aA nob W w':=by
 have h63:=hv.1.RX;refine cS 19 [(0,_),(1,_)] Tryz.func149 ?_;refine Gz 14 ?_;refine Oy (β:=Nat) (fun i=>[(0,.slice lo ps.length lc),(1,.func (.func f) #[] cs.toArray),(7,iV ps.length),(8,iV i)]) (fun i w=>i≤ps.length∧(∀ (j:Nat) (q:NdH×Nd),j<i→ps[j]?=some q→¬ R q)∧aA nob W w) (fun i=>ps.length-i) 0 ⟨rfl,rfl,rfl,rfl,trivial⟩ ⟨Sf _,fun j q hj=>by omega,Rk _ _⟩ ?_;rintro i w2 ⟨hi,hno,hF2⟩;refine fK 2 ?_ ?_<;>intro h9
 ·have hil:i<ps.length:=by omega
  obtain⟨p,hp⟩:∃ p,ps[i]?=some p:=⟨_,R7 hil⟩
  have hpm:=Sd hp;have hv2:=hv.RY hF2;refine Gz 19 ?_;refine cL (OA gL rfl rfl hv2.1.non (by omega)) ?_;refine cL (OG (cs:=aH p) aX rfl (fun j v hj=>hv2.1.rowZ i rfl hp j v hj)) ?_;refine O9 hf rfl rfl (hc w2 p hpm hF2) rfl ?_;intro v3 w3 hr3;obtain⟨rfl,hf3⟩:=hr3;by_cases h16:R p
  ·rw[R8 h16];refine Gz 16 ?_;exact⟨_,rfl,by rw[GY hp h16 hno],hF2.trans hf3⟩
  rw[R5 h16];refine Gz 10 ?_;refine aG (i+1) ⟨by omega,fun j q hj hq=>?_,hF2.trans hf3⟩ (by show ps.length-(i+1)<ps.length-i;omega);by_cases e:j=i
  ·subst e;rw[hp] at hq;cases hq;exact h16
  ·exact hno j q (by omega) hq
 have hie:i=ps.length:=by omega
 subst hie;refine Gz 16 ?_;refine⟨_,rfl,?_,hF2⟩;rw[wQ (fun q hq=>by obtain⟨j,hj⟩:=Sr hq;exact hno j q (R9.1 hj).1 hj)]
theorem qJ(f:FuncId)(cs:List Value)(hf:fnB Tryz.prog f=true)(lo:Option Addr)(lc:Nat)(ps:List (NdH×Nd))(W:World)(hv:bD D W.heap lo lc ps)
 (hc:∀ w p,p∈ps→aA nob W w→Calls Tryz.prog f ([Value.agg (aH p).toArray]++cs).toArray w (Ret fun v w'=>v=.bool (decide (R p))∧aA nob w w')) :
 CA 108 [.slice lo ps.length lc,.func (.func f) #[] cs.toArray] W fun v w'=>v=.bool (decide (∃ p∈ps,R p))∧aA nob W w':=by
 refine cS 9 [(0,_),(1,_)] Tryz.func108 ?_;refine cA 9 L2 (yK (R:=R) f cs hf lo lc ps W hv hc) ?_;rintro _ w2 ⟨rfl,hf2⟩;refine cL (PB rfl rfl) ?_;refine Gz 5 ?_;exact⟨_,rfl,congrArg _ (decide_eq_decide.2 GX),hf2⟩
end
theorem EO(p:NdH×Nd)(W:World)(hn:NdV D W.heap p)(hsm:smN p.2) :
 CA 109 [.agg (aH p).toArray] W fun v w'=>v=.bool (decide (¬ dR p.2))∧aA nob W w':=by
 refine cS 6 [(0,_)] Tryz.func109 ?_;refine Gz 2 ?_;refine OR rfl rfl ?_;intro w1 hg1 hs1 hf1;obtain⟨g,hg⟩:∃ g,g=W.heap.size:=⟨_,rfl⟩
 rw[←hg] at hg1 hs1 ⊢
 replace hg1:w1.heap[g]?=some (.cells (aH p).toArray 37 (0,0)):=hg1
 refine Gz 5 ?_;refine cL (OG (cs:=aH p) aX rfl (bO hg1 0 rfl)) ?_;refine cA 0 Mg (HS p w1 (hn.RY hf1) hsm) ?_;rintro _ w2 ⟨rfl,hf2⟩;by_cases h4:dR p.2
 ·rw[R8 h4];refine cL (OL rfl) ?_;refine Gz 5 ?_
  first
  |exact⟨_,rfl,(congrArg Value.bool (R5 (p:=¬ dR p.2) (fun h=>h h4))).symm,hf1.trans hf2⟩
  |exact⟨_,rfl,(congrArg Value.bool (R8 (p:=¬ dR p.2) h4)).symm,hf1.trans hf2⟩
 rw[R5 h4];refine cL (OL rfl) ?_;refine Gz 5 ?_
 first
 |exact⟨_,rfl,(congrArg Value.bool (R5 (p:=¬ dR p.2) (fun h=>h h4))).symm,hf1.trans hf2⟩
 |exact⟨_,rfl,(congrArg Value.bool (R8 (p:=¬ dR p.2) h4)).symm,hf1.trans hf2⟩
end
section
theorem uB(ao bo:Option Addr)(ac bc:Nat)(xs ys:By)(W:World)(ha:Vw b8 W.heap ao ac xs)(hb:Vw b8 W.heap bo bc ys) :
 CA 195 [.slice ao xs.length ac,.slice bo ys.length bc] W fun v w'=>v=.bool (decide (xs=ys))∧w'=W:=by
 refine cS 10 [(0,_),(1,_)] Tryz.func195 ?_;refine Gz 8 ?_;refine cL (Pw aP ty5 ty9 rfl ha) ?_;refine Gz 1 ?_;refine cL (Pw aP ty5 ty9 rfl hb) ?_;refine cL (Pf rfl rfl) ?_;refine Gz 5 ?_;exact⟨_,rfl,rfl,rfl⟩
variable {D:Nat→Prop}
theorem ET(a b:Xa)(ah bh:Hd)(W:World)(ha:ByV D W.heap ah a.2)(hb:ByV D W.heap bh b.2) :
 CA 194 [.agg (eP (a.1,ah)).toArray,.agg (eP (b.1,bh)).toArray] W fun v w'=>v=.bool (decide (a=b))∧aA nob W w':=by
 refine cS 17 [(0,_),(1,_)] Tryz.func194 ?_;refine Gz 2 ?_;refine OR rfl rfl ?_;intro w1 hg1 hs1 hf1;obtain⟨g,hg⟩:∃ g,g=W.heap.size:=⟨_,rfl⟩
 rw[←hg] at hg1 hs1 ⊢
 replace hg1:w1.heap[g]?=some (.cells (eP (a.1,ah)).toArray 123 (0,0)):=hg1
 refine OR rfl rfl ?_;intro w2 hg2 hs2 hf2;obtain⟨r,hr⟩:∃ r,r=w1.heap.size:=⟨_,rfl⟩
 rw[←hr] at hg2 hs2 ⊢;have hgq:w2.heap[r]?=some (.cells (eP (b.1,bh)).toArray 123 (0,0)):=hg2;have hgp:=hf2.obj hg1 id;have hF2:=hf1.trans hf2;have ha2:=ha.RZ hF2 (fun _ _=>id);have hb2:=hb.RZ hF2 (fun _ _=>id);refine Gz 6 ?_;refine cL (Ow lV rfl (by first|exact aD hgp rfl|exact aD hgq rfl)) ?_;refine Gz 1 ?_;refine cL (Ow lV rfl (by first|exact aD hgp rfl|exact aD hgq rfl)) ?_;refine fK 0 ?_ ?_<;>intro h9
 ·refine Gz 2 ?_;refine cW (Ox (u:=.slice ah.a a.2.length ah.c) (Ow aT rfl (aD hgp rfl)) (by rw[←ha2.1];rfl)) ?_;refine Gz 1 ?_;refine cW (Ox (u:=.slice bh.a b.2.length bh.c) (Ow aT rfl (aD hgq rfl)) (by rw[←hb2.1];rfl)) ?_;refine OC rfl rfl JE rfl (uB _ _ _ _ _ _ w2 ha2.2.1 hb2.2.1) rfl ?_;rintro _ w3 ⟨rfl,hw3⟩;subst w3;refine Gz 6 ?_
  first
  |exact⟨_,rfl,congrArg _ (decide_eq_decide.2 ⟨fun e=>Uh h9 e,fun e=>by rw[e]⟩),hF2⟩
  |exact⟨_,rfl,by rw[R5 (show ¬ a=b from fun e=>h9 (by rw[e]))],hF2⟩
 refine Gz 12 ?_
 first
 |exact⟨_,rfl,congrArg _ (decide_eq_decide.2 ⟨fun e=>Uh h9 e,fun e=>by rw[e]⟩),hF2⟩
 |exact⟨_,rfl,by rw[R5 (show ¬ a=b from fun e=>h9 (by rw[e]))],hF2⟩
theorem yU(xh yh:Hd)(X Y:List Xa)(W:World)(hx:XsV D W.heap xh X)(hy:XsV D W.heap yh Y) :
 CA 196 [hd xh,hd yh,.func (.func 194) #[] #[]] W fun v w'=>v=.bool (decide (X=Y))∧aA nob W w':=by
 obtain⟨hxl,ys,hyv,hyl,hyd,hyx⟩:=hx;obtain⟨hwl,zs,hzv,hzl,hzd,hzx⟩:=hy;have hx63:=hyv.RX;refine cS 32 [(0,_),(1,_),(2,_)] Tryz.func196 ?_;refine Gz 10 ?_;rw[hxl];refine Gz 2 ?_;rw[hwl];refine fK 0 ?_ ?_<;>intro h14
 ·refine Gz 11 ?_
  first
  |exact⟨_,rfl,by rw[R5 (show ¬ X=Y from fun e=>h14 (by rw[e]))],Rk _ _⟩
  |exact⟨_,rfl,by rw[R5 (show ¬ X=Y from fun e=>h29 (by rw[e,hbk] at hak;cases hak;rfl))],hF6.trans hf7⟩
  |exact⟨_,rfl,by rw[R8 (show X=Y from xY hxe (by omega) hsame)],hF2⟩
 refine Gz 10 ?_;rw[hxl];refine Gz 4 ?_;have hxe:X.length=Y.length:=by omega
 refine Oy (β:=Nat) (fun k=>[(0,hd xh),(1,hd yh),(2,.func (.func 194) #[] #[]),(15,hd xh),(16,iV X.length),(17,iV k)]) (fun k w=>k≤X.length∧(∀ j:Nat,j<k→X[j]?=Y[j]?)∧aA nob W w) (fun k=>X.length-k) 0 ⟨rfl,rfl,rfl,rfl,rfl,rfl,trivial⟩ ⟨Sf _,fun j hj=>by omega,Rk _ _⟩ ?_;rintro k w2 ⟨hk,hsame,hF2⟩;refine fK 2 ?_ ?_<;>intro h18
 ·have hkx:k<X.length:=by omega
  obtain⟨a,ah,hak,hyk,hva⟩:=XsV.at (D:=D) (H:=w2.heap) (h:=xh) hyl (fun i x y h1 h2=>⟨(hyx i x y h1 h2).1,(hyx i x y h1 h2).2.RZ hF2 (fun _ _=>id)⟩) hkx;obtain⟨b,bh,hbk,hzk,hvb⟩:=XsV.at (D:=D) (H:=w2.heap) (h:=yh) hzl (fun i x y h1 h2=>⟨(hzx i x y h1 h2).1,(hzx i x y h1 h2).2.RZ hF2 (fun _ _=>id)⟩) (by omega:k<Y.length);have hyv3:=hyv.keep' hF2 (fun _ _ _=>id);have hzv3:=hzv.keep' hF2 (fun _ _ _=>id);refine Gz 11 ?_;refine cL (OA oJ rfl rfl (by rw[hxl,←hyl];exact hyv3.non) (by omega)) ?_;refine cL (OG (cs:=eP (a.1,ah)) dM rfl (fun j v hj=>hyv3.rowZ k rfl hyk j v hj)) ?_;refine Ov rL rfl ?_;intro w3 hg3 hs3 hf3;obtain⟨q,hq⟩:∃ q,q=w2.heap.size:=⟨_,rfl⟩
  rw[←hq] at hg3 ⊢;refine Gz 1 ?_;refine OD (vs:=eP (a.1,ah)) dM rfl rfl (bM (a.1,ah)).2 hg3 rfl ?_;intro w4 hg4 hs4 hf4;have hf24:aA nob w2 w4:=hf3.RV hf4 (fun k e=>.inr (by have e:k=q:=e;omega));have hzv4:=hzv3.keep' hf24 (fun _ _ _=>id);refine Gz 6 ?_;refine cL (OA oJ rfl rfl (by rw[hwl,←hzl];exact hzv4.non) (by omega)) ?_;refine cL (OG (cs:=eP (b.1,bh)) dM rfl (fun j v hj=>hzv4.rowZ k rfl hzk j v hj)) ?_;refine Ov rL rfl ?_;intro w5 hg5 hs5 hf5;obtain⟨r,hr⟩:∃ r,r=w4.heap.size:=⟨_,rfl⟩
  rw[←hr] at hg5 ⊢;refine OD (vs:=eP (b.1,bh)) dM rfl rfl (bM (b.1,bh)).2 hg5 rfl ?_;intro w6 hg6 hs6 hf6;have hf46:aA nob w4 w6:=hf5.RV hf6 (fun k e=>.inr (by have e:k=r:=e;omega));have hg64:=hf46.obj hg4 id;have hf26:=hf24.trans hf46;have hF6:=hF2.trans hf26;refine Gz 5 ?_;refine cL (OG (cs:=eP (a.1,ah)) dM rfl (bO hg64 0 rfl)) ?_;refine cL (OG (cs:=eP (b.1,bh)) dM rfl (bO hg6 0 rfl)) ?_;refine Pt LH rfl rfl (ET a b ah bh w6 (hva.RZ hf26 (fun _ _=>id)) (hvb.RZ hf26 (fun _ _=>id))) rfl ?_;rintro _ w7 ⟨rfl,hf7⟩;by_cases h29:a=b
  ·rw[R8 h29];refine cL (OL rfl) ?_;refine Gz 10 ?_;refine aG (k+1) ⟨by omega,fun j hj=>?_,hF6.trans hf7⟩ (by show X.length-(k+1)<X.length-k;omega);by_cases e:j=k
   ·subst e;rw[hak,hbk,h29]
   ·exact hsame j (by omega)
  rw[R5 h29];refine cL (OL rfl) ?_;refine Gz 15 ?_
  first
  |exact⟨_,rfl,by rw[R5 (show ¬ X=Y from fun e=>h14 (by rw[e]))],Rk _ _⟩
  |exact⟨_,rfl,by rw[R5 (show ¬ X=Y from fun e=>h29 (by rw[e,hbk] at hak;cases hak;rfl))],hF6.trans hf7⟩
  |exact⟨_,rfl,by rw[R8 (show X=Y from xY hxe (by omega) hsame)],hF2⟩
 refine Gz 16 ?_
 first
 |exact⟨_,rfl,by rw[R5 (show ¬ X=Y from fun e=>h14 (by rw[e]))],Rk _ _⟩
 |exact⟨_,rfl,by rw[R5 (show ¬ X=Y from fun e=>h29 (by rw[e,hbk] at hak;cases hak;rfl))],hF6.trans hf7⟩
 |exact⟨_,rfl,by rw[R8 (show X=Y from xY hxe (by omega) hsame)],hF2⟩
theorem HE(p q:NdH×Nd)(W:World)(hp:NdV D W.heap p)(hq:NdV D W.heap q) :
 CA 153 [.agg (aH p).toArray,.agg (aH q).toArray] W fun v w'=>v=.bool (decide (Alk p.2 q.2))∧aA nob W w':=by
 have no:∀ w',¬ Alk p.2 q.2→aA nob W w'→Ret (fun v w'=>v=.bool (decide (Alk p.2 q.2))∧aA nob W w') (.returned (.bool false)) w':=fun w' h f=>⟨_,rfl,by rw[R5 h],f⟩
 refine cS 47 [(0,_),(1,_)] Tryz.func153 ?_;refine Gz 2 ?_;refine OR rfl rfl ?_;intro w1 hg1 hs1 hf1;obtain⟨g,hg⟩:∃ g,g=W.heap.size:=⟨_,rfl⟩
 rw[←hg] at hg1 hs1 ⊢
 replace hg1:w1.heap[g]?=some (.cells (aH p).toArray 37 (0,0)):=hg1
 refine OR rfl rfl ?_;intro w2 hg2 hs2 hf2;obtain⟨r,hr⟩:∃ r,r=w1.heap.size:=⟨_,rfl⟩
 rw[←hr] at hg2 hs2 ⊢;have hgq:w2.heap[r]?=some (.cells (aH q).toArray 37 (0,0)):=hg2;have hgp:=hf2.obj hg1 id;have hF2:=hf1.trans hf2;have hp2:=hp.RY hF2;have hq2:=hq.RY hF2;refine Gz 11 ?_;refine cL (Ow aL rfl (by first|exact aD hgp rfl|exact aD hgq rfl)) ?_;refine Gz 1 ?_;refine cL (Ow aL rfl (by first|exact aD hgp rfl|exact aD hgq rfl)) ?_;refine fK 0 ?_ ?_<;>intro h10
 ·refine Gz 2 ?_;refine cW (OG (cs:=I8 p.2) DF rfl (bO hgp 3 rfl)) ?_;refine Gz 1 ?_;refine cW (OG (cs:=I8 q.2) DF rfl (bO hgq 3 rfl)) ?_;refine OW rfl rfl (QQ stA Ny Nz NA (a:=p.2.md) (b:=p.2.ud) (c:=p.2.gd) (a':=q.2.md) (b':=q.2.ud) (c':=q.2.gd) rfl rfl) rfl (fun h16=>?_) (fun h16=>?_)
  ·refine Gz 3 ?_;refine cW (Ow lV rfl (by first|exact aD hgp rfl|exact aD hgq rfl)) ?_;refine Gz 1 ?_;refine cW (Ow lV rfl (by first|exact aD hgp rfl|exact aD hgq rfl)) ?_;refine fW 0 ?_ ?_<;>intro h23
   ·refine Gz 3 ?_;refine cW (Ow DT rfl (by first|exact aD hgp rfl|exact aD hgq rfl)) ?_;refine Gz 1 ?_;refine cW (Ow DT rfl (by first|exact aD hgp rfl|exact aD hgq rfl)) ?_;refine OW rfl rfl (OP (Pm ty4 rfl rfl)) rfl (fun h30=>?_) (fun h30=>?_)
    ·refine Gz 3 ?_;refine cW (Ox (u:=.slice p.1.data.a p.2.data.length p.1.data.c) (Ow aT rfl (aD hgp rfl)) (by rw[←hp2.2.1.1];rfl)) ?_;refine Gz 1 ?_;refine cW (Ox (u:=.slice q.1.data.a q.2.data.length q.1.data.c) (Ow aT rfl (aD hgq rfl)) (by rw[←hq2.2.1.1];rfl)) ?_;refine OC rfl rfl JE rfl (uB _ _ _ _ _ _ w2 hp2.2.1.2.1 hq2.2.1.2.1) rfl ?_;rintro _ w3 ⟨rfl,hw3⟩;subst w3;by_cases h37:p.2.data=q.2.data
     ·rw[R8 h37];refine Gz 3 ?_;refine cW (Ow gO rfl (by first|exact aD hgp rfl|exact aD hgq rfl)) ?_;refine Gz 1 ?_;refine cW (Ow gO rfl (by first|exact aD hgp rfl|exact aD hgq rfl)) ?_;refine Gz 1 ?_;refine OC rfl rfl LG rfl (yU p.1.xs q.1.xs p.2.xs q.2.xs _ hp2.2.2 hq2.2.2) rfl ?_;rintro _ w3 ⟨rfl,hf3⟩;refine Gz 6 ?_
      first
      |exact⟨_,rfl,congrArg _ (decide_eq_decide.2 ⟨fun e=>⟨h10,h16,h23,by simpa using h30,h37,e⟩,fun A=>A.2.2.2.2.2⟩),hF2.trans hf3⟩
      |exact no _ (fun A=>h10 A.1) hF2
      |exact no _ (fun A=>h16 A.2.1) hF2
      |exact no _ (fun A=>h23 A.2.2.1) hF2
      |exact no _ (fun A=>h30 (by rw[A.2.2.2.1];exact beq_self_eq_true _)) hF2
      |exact no _ (fun A=>h37 A.2.2.2.2.1) hF2
     rw[R5 h37];refine Gz 14 ?_
     first
     |exact⟨_,rfl,congrArg _ (decide_eq_decide.2 ⟨fun e=>⟨h10,h16,h23,by simpa using h30,h37,e⟩,fun A=>A.2.2.2.2.2⟩),hF2.trans hf3⟩
     |exact no _ (fun A=>h10 A.1) hF2
     |exact no _ (fun A=>h16 A.2.1) hF2
     |exact no _ (fun A=>h23 A.2.2.1) hF2
     |exact no _ (fun A=>h30 (by rw[A.2.2.2.1];exact beq_self_eq_true _)) hF2
     |exact no _ (fun A=>h37 A.2.2.2.2.1) hF2
    refine Gz 21 ?_
    first
    |exact⟨_,rfl,congrArg _ (decide_eq_decide.2 ⟨fun e=>⟨h10,h16,h23,by simpa using h30,h37,e⟩,fun A=>A.2.2.2.2.2⟩),hF2.trans hf3⟩
    |exact no _ (fun A=>h10 A.1) hF2
    |exact no _ (fun A=>h16 A.2.1) hF2
    |exact no _ (fun A=>h23 A.2.2.1) hF2
    |exact no _ (fun A=>h30 (by rw[A.2.2.2.1];exact beq_self_eq_true _)) hF2
    |exact no _ (fun A=>h37 A.2.2.2.2.1) hF2
   refine Gz 28 ?_
   first
   |exact⟨_,rfl,congrArg _ (decide_eq_decide.2 ⟨fun e=>⟨h10,h16,h23,by simpa using h30,h37,e⟩,fun A=>A.2.2.2.2.2⟩),hF2.trans hf3⟩
   |exact no _ (fun A=>h10 A.1) hF2
   |exact no _ (fun A=>h16 A.2.1) hF2
   |exact no _ (fun A=>h23 A.2.2.1) hF2
   |exact no _ (fun A=>h30 (by rw[A.2.2.2.1];exact beq_self_eq_true _)) hF2
   |exact no _ (fun A=>h37 A.2.2.2.2.1) hF2
  refine Gz 35 ?_
  first
  |exact⟨_,rfl,congrArg _ (decide_eq_decide.2 ⟨fun e=>⟨h10,h16,h23,by simpa using h30,h37,e⟩,fun A=>A.2.2.2.2.2⟩),hF2.trans hf3⟩
  |exact no _ (fun A=>h10 A.1) hF2
  |exact no _ (fun A=>h16 A.2.1) hF2
  |exact no _ (fun A=>h23 A.2.2.1) hF2
  |exact no _ (fun A=>h30 (by rw[A.2.2.2.1];exact beq_self_eq_true _)) hF2
  |exact no _ (fun A=>h37 A.2.2.2.2.1) hF2
 refine Gz 41 ?_
 first
 |exact⟨_,rfl,congrArg _ (decide_eq_decide.2 ⟨fun e=>⟨h10,h16,h23,by simpa using h30,h37,e⟩,fun A=>A.2.2.2.2.2⟩),hF2.trans hf3⟩
 |exact no _ (fun A=>h10 A.1) hF2
 |exact no _ (fun A=>h16 A.2.1) hF2
 |exact no _ (fun A=>h23 A.2.2.1) hF2
 |exact no _ (fun A=>h30 (by rw[A.2.2.2.1];exact beq_self_eq_true _)) hF2
 |exact no _ (fun A=>h37 A.2.2.2.2.1) hF2
end
section
open Go Go.Proofs Go.Shelf
def RD:Go.Shelf.Ren:=⟨fun|156=>148|165=>191|166=>192|169=>193|240=>219|241=>220|276=>232|277=>233|n=>n,fun|31=>32|9=>9|3=>3|4=>4|0=>0|20=>20|72=>243|76=>246|70=>241|37=>25|75=>245|127=>272|164=>282|5=>5|80=>248|n=>n,fun|n=>n⟩
theorem RE:Go.Proofs.Lays.n156 Tryz.prog RD where
 mixed:=by kernel_rfl
 f156:=Tryz.func148.trans (congrArg some (by kernel_rfl))
 f165:=Tryz.func191.trans (congrArg some (by kernel_rfl))
 f166:=Tryz.func192.trans (congrArg some (by kernel_rfl))
 f169:=Tryz.func193.trans (congrArg some (by kernel_rfl))
 f240:=Tryz.func219.trans (congrArg some (by kernel_rfl))
 f241:=Tryz.func220.trans (congrArg some (by kernel_rfl))
 f276:=Tryz.func232.trans (congrArg some (by kernel_rfl))
 f277:=Tryz.func233.trans (congrArg some (by kernel_rfl))
 t0:=Tryz.underlying0
 a0:=Tryz.isAgg0
 z0:=Tryz.sizeOf0
 v0:=Tryz.zeroValue0
 t3:=Tryz.underlying3
 a3:=Tryz.isAgg3
 z3:=Tryz.sizeOf3
 v3:=Tryz.zeroValue3
 t4:=Tryz.underlying4
 a4:=Tryz.isAgg4
 z4:=Tryz.sizeOf4
 v4:=Tryz.zeroValue4
 t9:=Tryz.underlying9
 a9:=Tryz.isAgg9
 z9:=Tryz.sizeOf9
 v9:=Tryz.zeroValue9
 t20:=Tryz.underlying20
 a20:=Tryz.isAgg20
 z20:=Tryz.sizeOf20
 v20:=Tryz.zeroValue20
 t31:=Tryz.underlying32
 a31:=Tryz.isAgg32
 z31:=Tryz.sizeOf32
 v31:=Tryz.zeroValue32
 t37:=Tryz.underlying25
 a37:=Tryz.isAgg25
 z37:=Tryz.sizeOf25
 v37:=Tryz.zeroValue25
 t70:=Tryz.underlying241
 a70:=Tryz.isAgg241
 z70:=Tryz.sizeOf241
 v70:=Tryz.zeroValue241
 t72:=Tryz.underlying243
 a72:=Tryz.isAgg243
 z72:=Tryz.sizeOf243
 v72:=Tryz.zeroValue243
 t75:=Tryz.underlying245
 a75:=Tryz.isAgg245
 z75:=Tryz.sizeOf245
 v75:=Tryz.zeroValue245
 t76:=Tryz.underlying246
 a76:=Tryz.isAgg246
 z76:=Tryz.sizeOf246
 v76:=Tryz.zeroValue246
 t127:=Tryz.underlying272
 a127:=Tryz.isAgg272
 z127:=Tryz.sizeOf272
 v127:=Tryz.zeroValue272
 t164:=Tryz.underlying282
 a164:=Tryz.isAgg282
 z164:=Tryz.sizeOf282
 v164:=Tryz.zeroValue282
end
theorem tA:Builder.Extra Tryz.prog RD where
 sizeBuilder:=by kernel_rfl
 liesBuilder:=by kernel_rfl
 t5:=Tryz.underlying5
 a5:=Tryz.isAgg5
 z5:=Tryz.sizeOf5
 v5:=Tryz.zeroValue5
 infoByte:=by kernel_rfl
 cellsByte:=by kernel_rfl
 sizeByte:=by kernel_rfl
 neB5:=by decide
theorem BD(a:Option Addr)(c:Nat)(L:List By)(W:World)(hv:Vw iK W.heap a c L)(hl:L.length≤1000)(hs:∀ s∈L,s.length≤255) :
 CA 148 [.slice a L.length c,.string (bs [47])] W fun v w'=>v=.string (bs (Lib.join L [47]))∧aA nob W w':=by
 match L,hv,hl,hs with
|[],hv,_,_=>
   refine(Any.strings_Join_none RE tA a c (bs [47]) W).mono ?_;rintro e w' ⟨rfl,rfl⟩;exact⟨_,rfl,rfl,Rk _ _⟩
|x::L,hv,hl,hs=>
   cases a with
  |none=>exact absurd rfl (hv.non (by simp))
  |some ad=>
     obtain⟨bk,o,sp⟩:=ad;have h0:=hv.get 0 x rfl;have hsp:sp=none:=by
      unfold aS at h0
      split at h0
      · split at h0
        ·cases h0
        ·rename_i h;simpa[adr,Addr.add] using h
      ·cases h0
     subst hsp;have hlt:bk<W.heap.size:=by
      unfold aS at h0
      split at h0
      ·rename_i h;exact(Sb.1 h).1
      ·cases h0
     have hj:(Lib.join (((x::L).map bs).map (·.data.toList)) (bs [47]).data.toList)=Lib.join (x::L) [47]:=by
      congr 1;rw[List.map_map];conv=>rhs;rw[←List.map_id (x::L)]
      rfl
     have hc:=Any.strings_Join RE tA bk o c ((x::L).map bs) (bs [47]) W (fun j y hy=>by
      rw[List.getElem?_map,Option.map_eq_some_iff] at hy;obtain⟨s,hs1,rfl⟩:=hy;have hg:=hv.get j s hs1;by_cases hj0:j=0<;>simpa[adr,Addr.add,cell?_eq,iK,hj0] using hg) hlt (by rw[SC];omega) (by rw[SC];exact hv.le) (by
       rw[hj];have:=sZ hs;omega)
     rw[hj,SC] at hc;refine hc.mono ?_;rintro e w' ⟨rfl,hb⟩;exact⟨_,rfl,rfl,hb.os,hb.tape,hb.output,hb.size,fun k hk _=>hb.block k hk⟩
theorem sP(a:Option Addr)(c:Nat)(L:List By)(W:World)(hv:Vw iK W.heap a c L)(hl:L.length≤1000)(hs:∀ s∈L,s.length≤255) :
 CA 107 [.slice a L.length c] W fun v w'=>v=.string (bs (dD L))∧aA nob W w':=by
 have hjl:=sZ hs;refine cS 6 [(0,_)] Tryz.func107 ?_;refine cA 8 L3 (BD a c L W hv hl hs) ?_;rintro _ w1 ⟨rfl,hf1⟩;refine cL (QJ (a:=[47]) rfl rfl (by simp;omega)) ?_;refine Gz 5 ?_;exact⟨_,rfl,rfl,hf1⟩
section
open Go Go.RowKit Go.Maps
def zNd:Value:=.agg (aH (yC,nd0)).toArray
theorem mpN:pH Tryz.prog 174 9 37 zNd:=⟨by kernel_rfl,by kernel_rfl⟩
def atN(qs:List (NdH×Nd))(s:List By):NdH×Nd:=(qs.find? (fun q=>decide (q.2.names=s))).getD (yC,nd0)
def yL(qs:List (NdH×Nd))(s:List By):Prop:=∃ q∈qs,q.2.names=s
instance (qs:List (NdH×Nd))(s:List By):Decidable (yL qs s):=by unfold yL;exact inferInstance
def pI(qs:List (NdH×Nd))(m:List (SK×Value)):Prop:=∀ (s:List By) (h:(dD s).length≤maxLen),gX s→bL m (⟨dD s,h⟩:SK)=(qs.find? (fun q=>decide (q.2.names=s))).map (fun q=>Value.agg (aH q).toArray)
section
variable {qs:List (NdH×Nd)}{m:List (SK×Value)}{s:List (List UInt8)}
theorem RF:pI [] []:=fun s h hs=>rfl
theorem pI.z(h:pI qs m)(hs:gX s)(hl:(dD s).length≤maxLen):(bL m (⟨dD s,hl⟩:SK)).getD zNd=Value.agg (aH (atN qs s)).toArray:=by
 rw[h s hl hs];unfold atN;cases qs.find? (fun q=>decide (q.2.names=s))<;>rfl
theorem pI.is(h:pI qs m)(hs:gX s)(hl:(dD s).length≤maxLen):decide ((bL m (⟨dD s,hl⟩:SK)).isSome=true)=decide (yL qs s):=by
 apply decide_eq_decide.2;rw[h s hl hs,Option.isSome_map,Us];simp[yL]
theorem pI.snoc(h:pI qs m){p:NdH×Nd}(hp:gX p.2.names)(hn:¬ yL qs p.2.names)(hl:(dD p.2.names).length≤maxLen):pI (qs++[p]) (bV m (⟨dD p.2.names,hl⟩:SK) (.agg (aH p).toArray)):=fun s hs ho=>by
 rw[gM,Ut];by_cases e:p.2.names=s
 · subst e
   have:qs.find? (fun q=>decide (q.2.names=p.2.names))=none:=find?_eq_none.2 (fun q hq=>by simpa using fun e=>hn ⟨q,hq,e⟩);rw[R4 rfl,this];simp
 · have:[p].find? (fun q=>decide (q.2.names=s))=none:=by simp[e]
   rw[R3 (fun g=>e (D9 ho hp (congrArg Subtype.val g)).symm),h s hs ho,this,or_none]
end
theorem AA{l:List Nd}{n:Nd}(h:∀ s∈dU l,cM s=0)(hn:n∈l):gX n.names∧∀ s∈n.names,s.length≤255:=by
 have k:∀ s∈n.names,cM s=0:=fun s hs=>h s (List.mem_flatMap.2 ⟨n,hn,hs⟩);exact⟨fun s hs=>⟨(jG (k s hs)).2.1,(jG (k s hs)).2.2.2⟩,fun s hs=>(jG (k s hs)).1⟩
theorem sK{s:List By}(hl:s.length≤16)(h:∀ x∈s,x.length≤255):(dD s).length≤maxLen:=by
 have:=sZ h;unfold dD maxLen;rw[Sq];omega
theorem Fa{ps:List (NdH×Nd)}{i:Nat}{p:NdH×Nd}(hp:ps[i]?=some p)(h:yL (ps.take i) p.2.names):cJ (nds ps):=by
 obtain⟨q,hq,e⟩:=h;obtain⟨j,hj⟩:=Sr hq;rw[SZ] at hj
 split at hj
 ·exact(eY ps).2 ⟨j,i,q,p,by assumption,hj,hp,e⟩
 ·cases hj
theorem BS{ps:List (NdH×Nd)}{i:Nat}{p:NdH×Nd}(hp:ps[i]?=some p)(h:¬ yL (ps.take i) p.2.names):¬ lP ps p.2.names<i:=by
 intro hlt;rcases tJ ps p.2.names with⟨h1,h2⟩|⟨j,q,h1,h2,h3,h4⟩
 ·exact absurd rfl (h2 p (Sd hp))
 ·exact h ⟨q,Sd (i:=j) (by rw[SZ,R4 (by omega)];exact h2),h3⟩
theorem oC{ps:List (NdH×Nd)}(ht:¬ cJ (nds ps))(s:List By):(atN ps s).2.kind=1↔eM (nds ps) s:=by
 unfold atN;cases hf:ps.find? (fun q=>decide (q.2.names=s)) with
|none=>
   rw[find?_eq_none] at hf;constructor
   ·intro h;cases h
   · rintro⟨n,hn,h1,h2⟩
     obtain⟨q,hq,rfl⟩:=SN.1 hn;exact absurd (R8 h1) (hf q hq)
|some q=>
   have hq:=TR hf;have he:q.2.names=s:=by simpa using List.find?_some (p:=fun q:NdH×Nd=>decide (q.2.names=s)) hf
   constructor
   ·intro h;exact⟨q.2,SN.2 ⟨q,hq,rfl⟩,he,h⟩
   · rintro⟨n,hn,h1,h2⟩
     obtain⟨r,hr,rfl⟩:=SN.1 hn;obtain⟨i,hi⟩:=Sr hq;obtain⟨j,hj⟩:=Sr hr;have:i=j:=by
      apply Se;intro hne;rcases Nat.lt_or_gt_of_ne hne with hlt|hgt
      ·exact ht ((eY ps).2 ⟨i,j,q,r,hlt,hi,hj,he.trans h1.symm⟩)
      ·exact ht ((eY ps).2 ⟨j,i,r,q,hgt,hj,hi,h1.trans he.symm⟩)
     subst this;rw[hi] at hj;cases hj;exact h2
variable {D:Nat→Prop}
theorem Gb(lo:Option Addr)(lc:Nat)(ps:List (NdH×Nd))(W:World)(hv:bD D W.heap lo lc ps)(hsm:∀ p∈ps,smN p.2) :
 CA 106 [.slice lo ps.length lc] W fun v w'=>∃ z,z=nmd (nds ps)∧aA nob W w'∧((z≠0∧v=.tuple [.map none,iV z].toArray)∨(z=0∧∃ g m,v=.tuple [.map (some g),iV 0].toArray∧cC enS w'.heap g m∧pI ps m)):=by
 have h63:=hv.1.RX;refine cS 70 [(0,_)] Tryz.func106 ?_;refine Gz 15 ?_;refine Oy (β:=Nat) (fun i=>[(0,.slice lo ps.length lc),(17,.slice lo ps.length lc),(18,iV ps.length),(19,iV i)]) (fun i w=>i≤ps.length∧(∀ s∈dU ((nds ps).take i),cM s=0)∧aA nob W w) (fun i=>ps.length-i) 0 ⟨rfl,rfl,rfl,rfl,trivial⟩ ⟨Sf _,by simp[dU],Rk _ _⟩ ?_;rintro i w2 ⟨hi,hok,hF2⟩;refine fK 2 ?_ ?_<;>intro h20
 ·have hil:i<ps.length:=by omega
  obtain⟨p,hp⟩:∃ p,ps[i]?=some p:=⟨_,R7 hil⟩
  have hpm:=Sd hp;have hv2:=hv.RY hF2;refine Gz 10 ?_;refine cL (OA gL rfl rfl hv2.1.non (by omega)) ?_;refine cL (OG (cs:=aH p) aX rfl (fun j v hj=>hv2.1.rowZ i rfl hp j v hj)) ?_;refine Ov fS rfl ?_;intro w4 hg4 hs4 hf4;obtain⟨q,hq⟩:∃ q,q=w2.heap.size:=⟨_,rfl⟩
  rw[←hq] at hg4 ⊢;refine OD (vs:=aH p) aX rfl rfl (aB p).2 hg4 rfl ?_;intro w5 hg5 hs5 hf5;have hF5:aA nob W w5:=hF2.trans (hf4.RV hf5 (fun k e=>.inr (by have e:k=q:=e;omega)));have hn5:=((hv.RY hF5).2 p hpm).1;refine Gz 7 ?_;rw[hn5.1];refine Gz 4 ?_;refine Oy (β:=Nat) (fun k=>[(0,.slice lo ps.length lc),(17,.slice lo ps.length lc),(18,iV ps.length),(19,iV i),(24,hd p.1.names),(25,iV p.2.names.length),(26,iV k)]) (fun k w=>k≤p.2.names.length∧(∀ s∈p.2.names.take k,cM s=0)∧aA nob W w) (fun k=>p.2.names.length-k) 0 ⟨rfl,rfl,rfl,rfl,rfl,rfl,rfl,trivial⟩ ⟨Sf _,by simp,hF5⟩ ?_;rintro k w3 ⟨hk,hok2,hF3⟩;refine fK 2 ?_ ?_<;>intro h27
  ·have hkl:k<p.2.names.length:=by omega
   obtain⟨s,hs⟩:∃ s,p.2.names[k]?=some s:=⟨_,R7 hkl⟩
   have hn3:=((hv.RY hF3).2 p hpm).1;have hl63:=hn3.2.1.RX;refine Gz 10 ?_;refine cL (Ou lU rfl rfl (by rw[hn3.1];exact hn3.2.1.non) (by have:=hn3.1;omega)) ?_;refine cL (Ow lV rfl (hn3.2.1.get k s hs)) ?_;refine cA 6 JJ (zP s w3 ((hsm p hpm).2.1 s (Sd hs))) ?_;rintro _ w6 ⟨rfl,hf6⟩;refine fK 6 ?_ ?_<;>intro h33
   ·refine Gz 21 ?_;have e:=F8 (dI hp) hs hok hok2 h33;exact⟨_,rfl,_,(show cM s=nmd (nds ps) by unfold nmd;rw[e,R4 h33]),hF3.trans hf6,.inl ⟨h33,rfl⟩⟩
   refine Gz 10 ?_;refine aG (k+1) ⟨by omega,fun t ht=>?_,hF3.trans hf6⟩ (by show p.2.names.length-(k+1)<p.2.names.length-k;omega);rw[tkL hs,SO,SE] at ht;rcases ht with ht|rfl
   ·exact hok2 t ht
   ·exact S5.1 h33
  have hke:k=p.2.names.length:=by omega
  subst hke;rw[S1] at hok2;refine Gz 14 ?_;refine aG (i+1) ⟨by omega,fun s hs=>?_,hF3⟩ (by show ps.length-(i+1)<ps.length-i;omega);rw[tkN hp,Cs,SO] at hs;exact hs.elim (hok s) (hok2 s)
 have hie:i=ps.length:=by omega
 subst hie;rw[So (by simp)] at hok;have hz:fL (dU (nds ps))=0:=sO hok;refine Gz 18 ?_;refine Oy (β:=Nat) (fun i=>[(0,.slice lo ps.length lc),(37,.slice lo ps.length lc),(38,iV ps.length),(39,iV i)]) (fun i w=>i≤ps.length∧(∀ n∈(nds ps).take i,¬ 16<n.names.length)∧aA nob W w) (fun i=>ps.length-i) 0 ⟨rfl,rfl,rfl,rfl,trivial⟩ ⟨Sf _,by simp,hF2⟩ ?_;rintro i w2 ⟨hi,hdp,hF2⟩;refine fK 2 ?_ ?_<;>intro h40
 ·have hil:i<ps.length:=by omega
  obtain⟨p,hp⟩:∃ p,ps[i]?=some p:=⟨_,R7 hil⟩
  have hpm:=Sd hp;have hv2:=hv.RY hF2;refine Gz 10 ?_;refine cL (OA gL rfl rfl hv2.1.non (by omega)) ?_;refine cL (OG (cs:=aH p) aX rfl (fun j v hj=>hv2.1.rowZ i rfl hp j v hj)) ?_;refine Ov fS rfl ?_;intro w4 hg4 hs4 hf4;obtain⟨q,hq⟩:∃ q,q=w2.heap.size:=⟨_,rfl⟩
  rw[←hq] at hg4 ⊢;refine OD (vs:=aH p) aX rfl rfl (aB p).2 hg4 rfl ?_;intro w5 hg5 hs5 hf5;have hF5:aA nob W w5:=hF2.trans (hf4.RV hf5 (fun k e=>.inr (by have e:k=q:=e;omega)));have hn5:=((hv.RY hF5).2 p hpm).1;refine Gz 7 ?_;rw[hn5.1];refine fK 0 ?_ ?_<;>intro h46
  ·refine Gz 16 ?_;exact⟨_,rfl,9,(by unfold nmd;rw[R3 (fun h=>h hz),R4 ⟨p.2,Sd (dI hp),by omega⟩]),hF5,.inl ⟨by decide,rfl⟩⟩
  refine Gz 10 ?_;exact aG (i+1) ⟨by omega,Ok hp hdp (by omega),hF5⟩ (by show ps.length-(i+1)<ps.length-i;omega)
 have hie:i=ps.length:=by omega
 subst hie;rw[So (by simp)] at hdp;have hd:¬ ∃ n∈nds ps,16<n.names.length:=fun⟨n,hn,h⟩=>hdp n hn h;refine Gz 11 ?_;refine O2 (enc:=enS) rfl ?_;intro w3 hm3 hs3 hf3;obtain⟨g,hg⟩:∃ g,g=w2.heap.size:=⟨_,rfl⟩
 rw[←hg] at hm3 ⊢;refine Gz 12 ?_;have hF3:=hF2.trans hf3;refine Oy (β:=Nat×List (SK×Value)) (fun⟨i,m⟩=>[(0,.slice lo ps.length lc),(11,.map (some g)),(49,.slice lo ps.length lc),(50,iV ps.length),(51,iV i)]) (fun⟨i,m⟩ w=>i≤ps.length∧cC enS w.heap g m∧pI (ps.take i) m∧(∀ (j:Nat) (q:NdH×Nd),j<i→ps[j]?=some q→¬ lP ps q.2.names<j)∧aA nob W w) (fun⟨i,m⟩=>ps.length-i) ⟨0,[]⟩ ⟨rfl,rfl,rfl,rfl,rfl,trivial⟩ ⟨Sf _,hm3,RF,fun j q hj=>by omega,hF3⟩ ?_;rintro⟨i,m⟩ w4 ⟨hi,hm4,hMN,hno,hF4⟩;refine fK 2 ?_ ?_<;>intro h52
 ·have hil:i<ps.length:=by omega
  obtain⟨p,hp⟩:∃ p,ps[i]?=some p:=⟨_,R7 hil⟩
  have hpm:=Sd hp;have hv4:=hv.RY hF4;have hnl:p.2.names.length≤16:=by have:¬ 16<p.2.names.length:=fun h=>hd ⟨p.2,Sd (dI hp),h⟩;omega
  obtain⟨hop,hsl⟩:=AA hok (Sd (dI hp));have hpl:=sK hnl hsl;refine Gz 10 ?_;refine cL (OA gL rfl rfl hv4.1.non (by omega)) ?_;refine cL (OG (cs:=aH p) aX rfl (fun j v hj=>hv4.1.rowZ i rfl hp j v hj)) ?_;refine Ov fS rfl ?_;intro w5 hg5 hs5 hf5;obtain⟨q,hq⟩:∃ q,q=w4.heap.size:=⟨_,rfl⟩
  rw[←hq] at hg5 ⊢;refine OD (vs:=aH p) aX rfl rfl (aB p).2 hg5 rfl ?_;intro w6 hg6 hs6 hf6;have hf46:aA nob w4 w6:=hf5.RV hf6 (fun k e=>.inr (by have e:k=q:=e;omega));have hF6:aA nob W w6:=hF4.trans hf46;have hn6:=((hv.RY hF6).2 p hpm).1;have hm6:=hm4.RZ hf46 id;have hgq:g<q:=by rw[hq];exact hm4.obj
  refine Gz 1 ?_;refine aW [(0,_),(11,_),(13,_),(49,_),(50,_),(51,_),(52,_)] ?_;refine Gz 5 ?_;refine Ot GQ rfl ((by show Calls _ _ [Value.slice p.1.names.a p.1.names.n p.1.names.c].toArray _ _;rw[hn6.1];exact sP _ _ _ w6 hn6.2.1 (by omega) hsl)) rfl ?_;rintro _ w7 ⟨rfl,hf7⟩;have hm7:=hm6.RZ hf7 id;have hg7:=hf7.obj hg6 id;refine Gz 8 ?_;refine cL (Ox (u:=.tuple [.agg (aH (atN (ps.take i) p.2.names)).toArray,.bool (decide (yL (ps.take i) p.2.names))].toArray) (O6 mpN AI (a:=(⟨dD p.2.names,hpl⟩:SK)) rfl rfl (fun _ e=>by rw[e];exact hm7)) (by rw[hMN.z hop hpl,hMN.is hop hpl])) ?_;refine Gz 3 ?_;by_cases h63:yL (ps.take i) p.2.names
  ·rw[R8 h63];refine Ov fS rfl ?_;intro w8 hg8 hs8 hf8;obtain⟨r,hr⟩:∃ r,r=w7.heap.size:=⟨_,rfl⟩
   rw[←hr] at hg8 ⊢;refine OD (vs:=aH (atN (ps.take i) p.2.names)) aX rfl rfl (aB _).2 hg8 rfl ?_;intro w9 hg9 hs9 hf9;have hf79:aA nob w7 w9:=hf8.RV hf9 (fun k e=>.inr (by have e:k=r:=e;omega));have hF9:aA nob W w9:=(hF6.trans hf7).trans hf79;have hm9:=hm7.RZ hf79 id;have hgn:=hf79.obj hg7 id;refine Gz 23 ?_;exact⟨_,rfl,6,(by unfold nmd;rw[R3 (fun h=>h hz),R3 hd,R4 (Fa hp h63)]),hF9,.inl ⟨by decide,rfl⟩⟩
  rw[R5 h63];refine Ov fS rfl ?_;intro w8 hg8 hs8 hf8;obtain⟨r,hr⟩:∃ r,r=w7.heap.size:=⟨_,rfl⟩
  rw[←hr] at hg8 ⊢;refine OD (vs:=aH (atN (ps.take i) p.2.names)) aX rfl rfl (aB _).2 hg8 rfl ?_;intro w9 hg9 hs9 hf9;have hf79:aA nob w7 w9:=hf8.RV hf9 (fun k e=>.inr (by have e:k=r:=e;omega));have hF9:aA nob W w9:=(hF6.trans hf7).trans hf79;have hm9:=hm7.RZ hf79 id;have hgn:=hf79.obj hg7 id;refine Gz 14 ?_;refine cL (OG (cs:=aH p) aX rfl (bO hgn 0 rfl)) ?_;refine OS mpN AI (a:=(⟨dD p.2.names,hpl⟩:SK)) rfl rfl rfl hm9 ?_;intro w10 hm10 hs10 hf10;have hF10:aA nob W w10:=hF9.RV hf10 (fun k e=>.inr (by have e:k=g:=e;have:=hF2.size;omega));refine Gz 7 ?_;refine aG ⟨i+1,_⟩ ⟨by omega,hm10,?_,fun j q hj hq=>?_,hF10⟩ (by show ps.length-(i+1)<ps.length-i;omega)
  ·rw[tkL hp];exact hMN.snoc hop h63 hpl
  · by_cases e:j=i
    ·subst e;rw[hp] at hq;cases hq;exact BS hp h63
    ·exact hno j q (by omega) hq
 have hie:i=ps.length:=by omega
 subst hie;rw[S1] at hMN;refine Gz 15 ?_;refine aW [(0,_),(2,_),(3,_),(11,_),(49,_),(50,_),(51,_),(52,_)] ?_;refine Gz 3 ?_;exact⟨_,rfl,0,(by unfold nmd;rw[R3 (fun h=>h hz),R3 hd,R3 (DM fun i p h=>hno i p (R9.1 h).1 h)]),hF4,.inr ⟨rfl,g,m,rfl,hm4,hMN⟩⟩
end
section
open Go Go.RowKit Go.Maps
def KJ(P:Program)(s f o:Nat):Bool:=match P.underlying s with
|some (.struct fs)=>(match fs[f]? with|some x=>decide (x.offset=o) && eB P x.type|none=>false)
|_=>false
section
variable {P:Program}{N:Nt}{l:SF}{ty:TypeId}{pos:String}{aft:Array Edge}{dd:Option Nat}{g:Option (Nat×Bool)}{CH:Array Obj→Prop}{x:Operand}{v:Value}
theorem PP{cs:List Value}{s f o:Nat}(hs:KJ P s f o=true)(hx:evL l x=some (.agg cs.toArray))(hv:cs[o]?=some v):Cm P N CH l ⟨dd,.field s x f,ty,pos,aft,g⟩ v:=fun a w ha _=>by
 unfold KJ at hs
 split at hs
 · rename_i fs hu
   split at hs
   · rename_i y hy
     simp only[SA,decide_eq_true_eq] at hs;obtain⟨h1,h2⟩:=hs;simp[execOp,ha.ev hx,Instr.field,run_underlying hu,hy,part,CY h2,h1,asAgg,hv]
   ·cases hs
 ·cases hs
end
theorem GG:KJ Tryz.prog 37 2 2=true:=by kernel_rfl
theorem mpI:pH Tryz.prog 217 3 37 zNd:=⟨by kernel_rfl,by kernel_rfl⟩
def atK(qs:List (NdH×Nd))(z:Int):NdH×Nd:=(qs.find? (fun q=>decide (q.2.ino=z))).getD (yC,nd0)
def oT(qs:List (NdH×Nd))(z:Int):Prop:=∃ q∈qs,q.2.ino=z
instance (qs:List (NdH×Nd))(z:Int):Decidable (oT qs z):=by unfold oT;exact inferInstance
def oE(qs:List (NdH×Nd))(m:List (I6×Value)):Prop:=∀ z:I6,bL m z=(qs.find? (fun q=>decide (q.2.ino=z.1))).map (fun q=>Value.agg (aH q).toArray)
section
variable {qs:List (NdH×Nd)}{m:List (I6×Value)}
theorem RG:oE [] []:=fun z=>rfl
theorem oE.z(h:oE qs m)(z:I6):(bL m z).getD zNd=Value.agg (aH (atK qs z.1)).toArray:=by
 rw[h z];unfold atK;cases qs.find? (fun q=>decide (q.2.ino=z.1))<;>rfl
theorem oE.is(h:oE qs m)(z:I6):decide ((bL m z).isSome=true)=decide (oT qs z.1):=by
 apply decide_eq_decide.2;rw[h z,Option.isSome_map,Us];simp[oT]
theorem oE.new(h:oE qs m){p:NdH×Nd}(z:I6)(hz:z.1=p.2.ino)(hn:¬ oT qs p.2.ino):oE (qs++[p]) (bV m z (.agg (aH p).toArray)):=fun y=>by
 rw[gM,Ut];by_cases e:y=z
 · subst e
   have:qs.find? (fun q=>decide (q.2.ino=y.1))=none:=find?_eq_none.2 (fun q hq=>by simpa using fun e=>hn ⟨q,hq,by rw[e,hz]⟩);rw[R4 rfl,this];simp[hz]
 · have:[p].find? (fun q=>decide (q.2.ino=y.1))=none:=by
    have:¬ p.2.ino=y.1:=fun g=>e (Subtype.ext (by rw[←g,hz]));simp[this]
   rw[R3 e,h y,this,or_none]
theorem oE.old(h:oE qs m){p:NdH×Nd}(hn:oT qs p.2.ino):oE (qs++[p]) m:=fun y=>by
 rw[Ut,h y];by_cases e:y.1=p.2.ino
 · obtain⟨q,hq,hi⟩:=hn
   have:(qs.find? (fun q=>decide (q.2.ino=y.1))).isSome=true:=by
    rw[Us];exact⟨q,hq,by simp[hi,e]⟩
   obtain⟨r,hr⟩:=Uv.1 this;rw[hr];rfl
 · have:[p].find? (fun q=>decide (q.2.ino=y.1))=none:=by
    have:¬ p.2.ino=y.1:=fun g=>e g.symm;simp[this]
   rw[this,or_none]
theorem rK{z:Int}(h:oT qs z):atK qs z∈qs∧(atK qs z).2.ino=z:=by
 obtain⟨q,hq,hi⟩:=h;have:(qs.find? (fun q=>decide (q.2.ino=z))).isSome=true:=by
  rw[Us];exact⟨q,hq,by simp[hi]⟩
 obtain⟨r,hr⟩:=Uv.1 this;unfold atK;rw[hr];exact⟨TR hr,by simpa using List.find?_some (p:=fun q:NdH×Nd=>decide (q.2.ino=z)) hr⟩
end
theorem IE{l:List Nd}(h:l.Pairwise fM){b q:Nd}(hb:b∈l)(hq:q∈l)(e:b.ino=q.ino):Alk b q:=by
 obtain⟨i,h1,rfl⟩:=S8 hb;obtain⟨j,h2,rfl⟩:=S8 hq;rcases Ta i j with hlt|heq|hgt
 ·exact(SR.1 h i j h1 h2 hlt e.symm).2.symm
 ·subst heq;exact RC _
 ·exact(SR.1 h j i h2 h1 hgt e).2
theorem Ff{ps:List (NdH×Nd)}{i:Nat}{q:NdH×Nd}(h:q∈ps.take i):q.2∈(nds ps).take i:=by
 rw[←Az];exact SN.2 ⟨q,h,rfl⟩
theorem AC{ps:List (NdH×Nd)}{i:Nat}{p:NdH×Nd}(hp:ps[i]?=some p)(h:((nds ps).take i).Pairwise fM)(hb:∀ b∈(nds ps).take i,fM b p.2):((nds ps).take (i+1)).Pairwise fM:=by
 rw[tkN hp];exact List.pairwise_append.2 ⟨h,by simp,fun b hb' a ha=>by rw[SE] at ha;subst ha;exact hb b hb'⟩
theorem Df{ps:List (NdH×Nd)}{i:Nat}{p:NdH×Nd}(hp:ps[i]?=some p)(h:((nds ps).take i).Pairwise fM)(ho:oT (ps.take i) p.2.ino)(hk:p.2.kind≠1)(ha:Alk p.2 (atK (ps.take i) p.2.ino).2):((nds ps).take (i+1)).Pairwise fM:=
 AC hp h fun b hb e=>⟨hk,ha.trans (IE h (Ff (rK ho).1) hb ((rK ho).2.trans e))⟩
theorem Dg{ps:List (NdH×Nd)}{i:Nat}{p:NdH×Nd}(hp:ps[i]?=some p)(h:((nds ps).take i).Pairwise fM)(ho:¬ oT (ps.take i) p.2.ino):((nds ps).take (i+1)).Pairwise fM:=
 AC hp h fun b hb e=>absurd (show oT (ps.take i) p.2.ino by
  rw[←Az] at hb;obtain⟨q,hq,rfl⟩:=SN.1 hb;exact⟨q,hq,e.symm⟩) ho
theorem kV{ps:List (NdH×Nd)}{i:Nat}{p:NdH×Nd}(hp:ps[i]?=some p)(ho:oT (ps.take i) p.2.ino)(hb:¬ (p.2.kind≠1∧Alk p.2 (atK (ps.take i) p.2.ino).2)):¬ (nds ps).Pairwise fM:=by
 intro h;obtain⟨h1,h2⟩:=rK ho;obtain⟨j,hj⟩:=Sr h1;rw[SZ] at hj
 split at hj
 ·exact hb (Kn h (by assumption) hj hp h2.symm)
 ·cases hj
variable {D:Nat→Prop}
theorem Eo(lo:Option Addr)(lc:Nat)(ps:List (NdH×Nd))(W:World)(hv:bD D W.heap lo lc ps)(hok:∀ p∈ps,okN p.2) :
 CA 111 [.slice lo ps.length lc] W fun v w'=>v=iV (if (nds ps).Pairwise fM then 0 else 8)∧aA nob W w':=by
 have h63:=hv.1.RX;refine cS 41 [(0,_)] Tryz.func111 ?_;refine Gz 7 ?_;refine O2 (enc:=enI) rfl ?_;intro w1 hm1 hs1 hf1;obtain⟨g,hg⟩:∃ g,g=W.heap.size:=⟨_,rfl⟩
 rw[←hg] at hm1 ⊢;refine Gz 12 ?_;refine Oy (β:=Nat×List (I6×Value)) (fun⟨i,m⟩=>[(0,.slice lo ps.length lc),(3,.map (some g)),(9,.slice lo ps.length lc),(10,iV ps.length),(11,iV i)]) (fun⟨i,m⟩ w=>i≤ps.length∧cC enI w.heap g m∧oE (ps.take i) m∧((nds ps).take i).Pairwise fM∧aA nob W w) (fun⟨i,m⟩=>ps.length-i) ⟨0,[]⟩ ⟨rfl,rfl,rfl,rfl,rfl,trivial⟩ ⟨Sf _,hm1,RG,by simp,hf1⟩ ?_;rintro⟨i,m⟩ w4 ⟨hi,hm4,hMK,hlk,hF4⟩;refine fK 2 ?_ ?_<;>intro h12
 ·have hil:i<ps.length:=by omega
  obtain⟨p,hp⟩:∃ p,ps[i]?=some p:=⟨_,R7 hil⟩
  have hpm:=Sd hp;have hv4:=hv.RY hF4;have hzi:=hok p hpm p.2.ino (by simp);refine Gz 10 ?_;refine cL (OA gL rfl rfl hv4.1.non (by omega)) ?_;refine cL (OG (cs:=aH p) aX rfl (fun j v hj=>hv4.1.rowZ i rfl hp j v hj)) ?_;refine Ov fS rfl ?_;intro w5 hg5 hs5 hf5;obtain⟨q,hq⟩:∃ q,q=w4.heap.size:=⟨_,rfl⟩
  rw[←hq] at hg5 ⊢;refine OD (vs:=aH p) aX rfl rfl (aB p).2 hg5 rfl ?_;intro w6 hg6 hs6 hf6;have hf46:aA nob w4 w6:=hf5.RV hf6 (fun k e=>.inr (by have e:k=q:=e;omega));have hF6:aA nob W w6:=hF4.trans hf46;have hm6:=hm4.RZ hf46 id;have hgq:g<q:=by rw[hq];exact hm4.obj
  refine Gz 1 ?_;refine aW [(0,_),(3,_),(5,_),(9,_),(10,_),(11,_),(12,_)] ?_;refine Gz 6 ?_;refine cL (Ox (u:=.tuple [.agg (aH (atK (ps.take i) p.2.ino)).toArray,.bool (decide (oT (ps.take i) p.2.ino))].toArray) (O6 mpI qH (a:=(⟨p.2.ino,hzi⟩:I6)) rfl rfl (fun _ e=>by rw[e];exact hm6)) (by rw[hMK.z,hMK.is])) ?_;refine Gz 3 ?_;by_cases h21:oT (ps.take i) p.2.ino
  ·rw[R8 h21];refine Ov fS rfl ?_;intro w8 hg8 hs8 hf8;obtain⟨r,hr⟩:∃ r,r=w6.heap.size:=⟨_,rfl⟩
   rw[←hr] at hg8 ⊢;refine OD (vs:=aH (atK (ps.take i) p.2.ino)) aX rfl rfl (aB _).2 hg8 rfl ?_;intro w9 hg9 hs9 hf9;have hf69:aA nob w6 w9:=hf8.RV hf9 (fun k e=>.inr (by have e:k=r:=e;omega));have hF9:aA nob W w9:=hF6.trans hf69;have hm9:=hm6.RZ hf69 id;have hgn:=hf69.obj hg6 id;have hv9:=hv.RY hF9;refine fW 10 ?_ ?_<;>intro h26
   ·refine Gz 23 ?_
    first
    |exact⟨_,rfl,by rw[R3 (kV hp h21 (fun h=>h.1 h26))],hF9⟩
    |exact⟨_,rfl,by rw[R3 (kV hp h21 (fun h=>h30 h.2))],hF9.trans hf10⟩
    |exact⟨_,rfl,by rw[R4 hlk],hF4⟩
   refine Gz 1 ?_;refine cW (OG (cs:=aH p) aX rfl (bO hgn 0 rfl)) ?_;refine cW (OG (cs:=aH (atK (ps.take i) p.2.ino)) aX rfl (bO hg9 0 rfl)) ?_;refine OC rfl rfl L1 rfl (HE p (atK (ps.take i) p.2.ino) w9 (hv9.2 p hpm) (hv9.2 _ (List.mem_of_mem_take (rK h21).1))) rfl ?_;rintro _ w10 ⟨rfl,hf10⟩;by_cases h30:Alk p.2 (atK (ps.take i) p.2.ino).2
   ·rw[R8 h30];refine cW (OL rfl) ?_;refine Gz 10 ?_;refine cL (OL rfl) ?_;refine Gz 10 ?_
    first
    |exact aG ⟨i+1,m⟩ ⟨by omega,hm9.RZ hf10 id,by rw[tkL hp];exact hMK.old h21,Df hp hlk h21 h26 h30,hF9.trans hf10⟩ (by show ps.length-(i+1)<ps.length-i;omega)
    |exact aG ⟨i+1,_⟩ ⟨by omega,hm11,by rw[tkL hp];exact hMK.new _ rfl h21,Dg hp hlk h21,hF11⟩ (by show ps.length-(i+1)<ps.length-i;omega)
   rw[R5 h30];refine cW (OL rfl) ?_;refine Gz 18 ?_
   first
   |exact⟨_,rfl,by rw[R3 (kV hp h21 (fun h=>h.1 h26))],hF9⟩
   |exact⟨_,rfl,by rw[R3 (kV hp h21 (fun h=>h30 h.2))],hF9.trans hf10⟩
   |exact⟨_,rfl,by rw[R4 hlk],hF4⟩
  rw[R5 h21];refine Ov fS rfl ?_;intro w8 hg8 hs8 hf8;obtain⟨r,hr⟩:∃ r,r=w6.heap.size:=⟨_,rfl⟩
  rw[←hr] at hg8 ⊢;refine OD (vs:=aH (atK (ps.take i) p.2.ino)) aX rfl rfl (aB _).2 hg8 rfl ?_;intro w9 hg9 hs9 hf9;have hf69:aA nob w6 w9:=hf8.RV hf9 (fun k e=>.inr (by have e:k=r:=e;omega));have hF9:aA nob W w9:=hF6.trans hf69;have hm9:=hm6.RZ hf69 id;have hgn:=hf69.obj hg6 id;have hv9:=hv.RY hF9;refine Gz 26 ?_;refine cL (OL rfl) ?_;refine Gz 7 ?_;refine cL (OG (cs:=aH p) aX rfl (bO hgn 0 rfl)) ?_;refine OS mpI qH (a:=(⟨p.2.ino,hzi⟩:I6)) rfl rfl rfl hm9 ?_;intro w11 hm11 hs11 hf11;have hF11:aA nob W w11:=hF9.RV hf11 (fun k e=>.inr (by have e:k=g:=e;omega));refine Gz 7 ?_
  first
  |exact aG ⟨i+1,m⟩ ⟨by omega,hm9.RZ hf10 id,by rw[tkL hp];exact hMK.old h21,Df hp hlk h21 h26 h30,hF9.trans hf10⟩ (by show ps.length-(i+1)<ps.length-i;omega)
  |exact aG ⟨i+1,_⟩ ⟨by omega,hm11,by rw[tkL hp];exact hMK.new _ rfl h21,Dg hp hlk h21,hF11⟩ (by show ps.length-(i+1)<ps.length-i;omega)
 have hie:i=ps.length:=by omega
 subst hie;rw[So (by simp)] at hlk;refine Gz 16 ?_
 first
 |exact⟨_,rfl,by rw[R3 (kV hp h21 (fun h=>h.1 h26))],hF9⟩
 |exact⟨_,rfl,by rw[R3 (kV hp h21 (fun h=>h30 h.2))],hF9.trans hf10⟩
 |exact⟨_,rfl,by rw[R4 hlk],hF4⟩
theorem FT{ps:List (NdH×Nd)}(hl:¬ (1024:Int)<ps.length)(hz:nmd (nds ps)=0)(hr:¬ (atN ps []).2.kind=1):plc (nds ps)=4:=by
 have hll:(nds ps).length=ps.length:=by simp
 unfold plc;rw[R3 (by omega),R3 (fun h=>h hz),R4 (fun h=>hr ((oC (gY hz).2.2 _).2 h))]
theorem If{ps:List (NdH×Nd)}(hl:¬ (1024:Int)<ps.length)(hz:nmd (nds ps)=0)(hr:(atN ps []).2.kind=1){p:NdH×Nd}(hp:p∈ps)(hne:p.2.names≠[])(hb:¬ (atN ps p.2.names.dropLast).2.kind=1):plc (nds ps)=5:=by
 have hll:(nds ps).length=ps.length:=by simp
 have ht:=(gY hz).2.2;unfold plc;rw[R3 (by omega),R3 (fun h=>h hz),R3 (fun h=>h ((oC ht _).1 hr)),R4 ⟨p.2,SN.2 ⟨p,hp,rfl⟩,hne,fun h=>hb ((oC ht _).2 h)⟩]
theorem FQ{ps:List (NdH×Nd)}(hl:¬ (1024:Int)<ps.length)(hz:nmd (nds ps)=0)(hr:(atN ps []).2.kind=1)(hb:∀ p∈ps,p.2.names≠[]→(atN ps p.2.names.dropLast).2.kind=1):plc (nds ps)=0:=by
 have hll:(nds ps).length=ps.length:=by simp
 have ht:=(gY hz).2.2;unfold plc;rw[R3 (by omega),R3 (fun h=>h hz),R3 (fun h=>h ((oC ht _).1 hr)),R3];rintro⟨n,hn,h1,h2⟩;obtain⟨p,hp,rfl⟩:=SN.1 hn;exact h2 ((oC ht _).1 (hb p hp h1))
theorem fT{ps:List (NdH×Nd)}{R:Nd→Prop}:(∃ n∈nds ps,R n)↔∃ p∈ps,R p.2:=
 ⟨fun⟨n,hn,h⟩=>by obtain⟨p,hp,rfl⟩:=SN.1 hn;exact⟨p,hp,h⟩,fun⟨p,hp,h⟩=>⟨p.2,SN.2 ⟨p,hp,rfl⟩,h⟩⟩
theorem El(lo:Option Addr)(lc:Nat)(ps:List (NdH×Nd))(W:World)(hv:bD D W.heap lo lc ps)(hsm:∀ p∈ps,smN p.2) :
 CA 106 [.slice lo ps.length lc] W fun v w'=>∃ og,v=.tuple [.map og,iV (nmd (nds ps))].toArray∧aA nob W w'∧(nmd (nds ps)=0→∃ g m,og=some g∧cC enS w'.heap g m∧pI ps m):=by
 refine(Gb lo lc ps W hv hsm).mono ?_;rintro e w' ⟨v,rfl,z,rfl,hf,⟨h1,rfl⟩|⟨h1,g,m,rfl,h2,h3⟩⟩
 ·exact⟨_,rfl,none,rfl,hf,fun h=>absurd h h1⟩
 ·exact⟨_,rfl,some g,by rw[h1],hf,fun _=>⟨g,m,rfl,h2,h3⟩⟩
theorem Hm(lo:Option Addr)(lc:Nat)(ps:List (NdH×Nd))(W:World)(hv:bD D W.heap lo lc ps)(hsm:∀ p∈ps,smN p.2)(hok:∀ p∈ps,okN p.2) :
 CA 55 [.slice lo ps.length lc] W fun v w'=>v=iV (chk (nds ps))∧aA nob W w':=by
 have h63:=hv.1.RX;have hll:(nds ps).length=ps.length:=by simp
 have hp0:(dD []).length≤maxLen:=sK (by simp) (by simp);have ho0:gX []:=fun s hs=>by cases hs
 refine cS 55 [(0,_)] Tryz.func55 ?_;refine fK 10 ?_ ?_<;>intro h10
 ·have hc:plc (nds ps)=3:=by unfold plc;rw[R4 (by omega)]
  refine Gz 11 ?_
  first
  |exact⟨_,rfl,by rw[aI,hc,R4 (by decide)],Rk _ _⟩
  |exact⟨_,rfl,by rw[aI,hc,R4 h18],hf2⟩
  |exact⟨_,rfl,by rw[aI,hc,R4 (by decide)],hF6.trans hf7⟩
  |exact⟨_,rfl,by rw[aI,hc,R4 (by decide)],hf2.trans hf3⟩
  |exact⟨_,rfl,by rw[aI,R3 (fun h=>h hpz),R4 (fT.2 h51)],hF4.trans hf5⟩
  |exact⟨_,rfl,by rw[aI,hpz,R3 (show ¬ ((0:Int)≠0) from fun h=>h rfl),R3 (fun h:∃ n∈nds ps,¬ dR n=>h51 (fT.1 h))],(hF4.trans hf5).trans hf6⟩
 refine cA 8 Mj (El lo lc ps W hv hsm) ?_;rintro _ w2 ⟨og,rfl,hf2,hmn⟩;refine fK 12 ?_ ?_<;>intro h18
 ·have hc:plc (nds ps)=nmd (nds ps):=by unfold plc;rw[R3 (by omega),R4 h18]
  refine Gz 14 ?_
  first
  |exact⟨_,rfl,by rw[aI,hc,R4 (by decide)],Rk _ _⟩
  |exact⟨_,rfl,by rw[aI,hc,R4 h18],hf2⟩
  |exact⟨_,rfl,by rw[aI,hc,R4 (by decide)],hF6.trans hf7⟩
  |exact⟨_,rfl,by rw[aI,hc,R4 (by decide)],hf2.trans hf3⟩
  |exact⟨_,rfl,by rw[aI,R3 (fun h=>h hpz),R4 (fT.2 h51)],hF4.trans hf5⟩
  |exact⟨_,rfl,by rw[aI,hpz,R3 (show ¬ ((0:Int)≠0) from fun h=>h rfl),R3 (fun h:∃ n∈nds ps,¬ dR n=>h51 (fT.1 h))],(hF4.trans hf5).trans hf6⟩
 have hz:nmd (nds ps)=0:=S5.1 h18;obtain⟨g,m,rfl,hm2,hMN⟩:=hmn hz;obtain⟨hvn,hnl,ht⟩:=gY hz;refine Gz 7 ?_;refine Ot GQ rfl (sP none 0 [] w2 (Rq 0 (Sf _)) (by simp) (by simp)) rfl ?_;rintro _ w3 ⟨rfl,hf3⟩;have hm3:=hm2.RZ hf3 id;refine cL (Ox (u:=.agg (aH (atN ps [])).toArray) (Pu mpN AI (a:=(⟨dD [],hp0⟩:SK)) rfl rfl (fun _ e=>by rw[e];exact hm3)) (hMN.z ho0 hp0)) ?_;refine cL (PP GG (cs:=aH (atN ps [])) rfl rfl) ?_;refine fK 0 ?_ ?_<;>intro h25
 ·have hc:=FT h10 hz h25;refine Gz 13 ?_
  first
  |exact⟨_,rfl,by rw[aI,hc,R4 (by decide)],Rk _ _⟩
  |exact⟨_,rfl,by rw[aI,hc,R4 h18],hf2⟩
  |exact⟨_,rfl,by rw[aI,hc,R4 (by decide)],hF6.trans hf7⟩
  |exact⟨_,rfl,by rw[aI,hc,R4 (by decide)],hf2.trans hf3⟩
  |exact⟨_,rfl,by rw[aI,R3 (fun h=>h hpz),R4 (fT.2 h51)],hF4.trans hf5⟩
  |exact⟨_,rfl,by rw[aI,hpz,R3 (show ¬ ((0:Int)≠0) from fun h=>h rfl),R3 (fun h:∃ n∈nds ps,¬ dR n=>h51 (fT.1 h))],(hF4.trans hf5).trans hf6⟩
 have hr:(atN ps []).2.kind=1:=S5.1 h25;refine Gz 16 ?_;refine Oy (β:=Nat) (fun i=>[(0,.slice lo ps.length lc),(3,.map (some g)),(26,.slice lo ps.length lc),(27,iV ps.length),(28,iV i)]) (fun i w=>i≤ps.length∧cC enS w.heap g m∧(∀ (j:Nat) (p:NdH×Nd),j<i→ps[j]?=some p→p.2.names≠[]→(atN ps p.2.names.dropLast).2.kind=1)∧aA nob W w) (fun i=>ps.length-i) 0 ⟨rfl,rfl,rfl,rfl,rfl,trivial⟩ ⟨Sf _,hm3,fun j p hj=>by omega,hf2.trans hf3⟩ ?_;rintro i w4 ⟨hi,hm4,hpar,hF4⟩;refine fK 2 ?_ ?_<;>intro h29
 ·have hil:i<ps.length:=by omega
  obtain⟨p,hp⟩:∃ p,ps[i]?=some p:=⟨_,R7 hil⟩
  have hpm:=Sd hp;have hv4:=hv.RY hF4;have hnm:=Sd (dI hp);obtain⟨hop,hsl⟩:=AA hvn hnm;have hn16:=hnl _ hnm;refine Gz 10 ?_;refine cL (OA gL rfl rfl hv4.1.non (by omega)) ?_;refine cL (OG (cs:=aH p) aX rfl (fun j v hj=>hv4.1.rowZ i rfl hp j v hj)) ?_;refine Ov fS rfl ?_;intro w5 hg5 hs5 hf5;obtain⟨q,hq⟩:∃ q,q=w4.heap.size:=⟨_,rfl⟩
  rw[←hq] at hg5 ⊢;refine OD (vs:=aH p) aX rfl rfl (aB p).2 hg5 rfl ?_;intro w6 hg6 hs6 hf6;have hf46:aA nob w4 w6:=hf5.RV hf6 (fun k e=>.inr (by have e:k=q:=e;omega));have hF6:aA nob W w6:=hF4.trans hf46;have hn6:=((hv.RY hF6).2 p hpm).1;have hm6:=hm4.RZ hf46 id;refine Gz 7 ?_;rw[hn6.1];refine fK 7 ?_ ?_<;>intro h37
  ·refine Gz 5 ?_;refine cW (Ox (u:=.slice p.1.names.a p.2.names.dropLast.length p.1.names.c) (OV lU rfl rfl (by have:=hn6.2.1.le;omega)) (by rw[bN,TN];congr 1;omega)) ?_;refine OC rfl rfl GQ rfl (sP p.1.names.a p.1.names.c p.2.names.dropLast w6 (by rw[drop_take];exact hn6.2.1.take _) (by rw[TN];omega) (fun s hs=>hsl s (List.dropLast_subset _ hs))) rfl ?_;rintro _ w7 ⟨rfl,hf7⟩;have hm7:=hm6.RZ hf7 id;have hdo:gX p.2.names.dropLast:=fun s hs=>hop s (List.dropLast_subset _ hs);have hdl:(dD p.2.names.dropLast).length≤maxLen:=sK (by rw[TN];omega) (fun s hs=>hsl s (List.dropLast_subset _ hs));refine cW (Ox (u:=.agg (aH (atN ps p.2.names.dropLast)).toArray) (Pu mpN AI (a:=(⟨dD p.2.names.dropLast,hdl⟩:SK)) rfl rfl (fun _ e=>by rw[e];exact hm7)) (hMN.z hdo hdl)) ?_;refine cW (PP GG (cs:=aH (atN ps p.2.names.dropLast)) rfl rfl) ?_;refine fW 0 ?_ ?_<;>intro h47
   ·have hc:=If h10 hz hr hpm (fun e=>by rw[e] at h37;simp at h37) h47;refine Gz 16 ?_
    first
    |exact⟨_,rfl,by rw[aI,hc,R4 (by decide)],Rk _ _⟩
    |exact⟨_,rfl,by rw[aI,hc,R4 h18],hf2⟩
    |exact⟨_,rfl,by rw[aI,hc,R4 (by decide)],hF6.trans hf7⟩
    |exact⟨_,rfl,by rw[aI,hc,R4 (by decide)],hf2.trans hf3⟩
    |exact⟨_,rfl,by rw[aI,R3 (fun h=>h hpz),R4 (fT.2 h51)],hF4.trans hf5⟩
    |exact⟨_,rfl,by rw[aI,hpz,R3 (show ¬ ((0:Int)≠0) from fun h=>h rfl),R3 (fun h:∃ n∈nds ps,¬ dR n=>h51 (fT.1 h))],(hF4.trans hf5).trans hf6⟩
   refine Gz 11 ?_
   first
   |(refine aG (i+1) ⟨by omega,hm7,fun j q hj hq hne=>?_,hF6.trans hf7⟩ (by show ps.length-(i+1)<ps.length-i;omega)
     by_cases e:j=i
     ·subst e;rw[hp] at hq;cases hq;exact S5.1 h47
     ·exact hpar j q (by omega) hq hne)
   |(refine aG (i+1) ⟨by omega,hm6,fun j q hj hq hne=>?_,hF6⟩ (by show ps.length-(i+1)<ps.length-i;omega)
     by_cases e:j=i
     ·subst e;rw[hp] at hq;cases hq;exact absurd (Sg.1 (by omega)) hne
     ·exact hpar j q (by omega) hq hne)
  refine Gz 21 ?_
  first
  |(refine aG (i+1) ⟨by omega,hm7,fun j q hj hq hne=>?_,hF6.trans hf7⟩ (by show ps.length-(i+1)<ps.length-i;omega)
    by_cases e:j=i
    ·subst e;rw[hp] at hq;cases hq;exact S5.1 h47
    ·exact hpar j q (by omega) hq hne)
  |(refine aG (i+1) ⟨by omega,hm6,fun j q hj hq hne=>?_,hF6⟩ (by show ps.length-(i+1)<ps.length-i;omega)
    by_cases e:j=i
    ·subst e;rw[hp] at hq;cases hq;exact absurd (Sg.1 (by omega)) hne
    ·exact hpar j q (by omega) hq hne)
 have hie:i=ps.length:=by omega
 subst hie;have hpz:=FQ h10 hz hr (fun p hp hne=>by obtain⟨j,hj⟩:=Sr hp;exact hpar j p (R9.1 hj).1 hj hne);refine cA 13 Mi (qJ (R:=fun p:NdH×Nd=>¬ dR p.2) 109 [] Mh lo lc ps w4 (hv.RY hF4) (fun w p hp hf=>EO p w (((hv.RY hF4).2 p hp).RY hf) (hsm p hp))) ?_;rintro _ w5 ⟨rfl,hf5⟩;by_cases h51:∃ p∈ps,¬ dR p.2
 ·rw[R8 h51];refine cL (OL rfl) ?_;refine Gz 12 ?_
  first
  |exact⟨_,rfl,by rw[aI,hc,R4 (by decide)],Rk _ _⟩
  |exact⟨_,rfl,by rw[aI,hc,R4 h18],hf2⟩
  |exact⟨_,rfl,by rw[aI,hc,R4 (by decide)],hF6.trans hf7⟩
  |exact⟨_,rfl,by rw[aI,hc,R4 (by decide)],hf2.trans hf3⟩
  |exact⟨_,rfl,by rw[aI,R3 (fun h=>h hpz),R4 (fT.2 h51)],hF4.trans hf5⟩
  |exact⟨_,rfl,by rw[aI,hpz,R3 (show ¬ ((0:Int)≠0) from fun h=>h rfl),R3 (fun h:∃ n∈nds ps,¬ dR n=>h51 (fT.1 h))],(hF4.trans hf5).trans hf6⟩
 rw[R5 h51];refine cL (OL rfl) ?_;refine cA 6 Mf (Eo lo lc ps w5 ((hv.RY hF4).RY hf5) hok) ?_;rintro _ w6 ⟨rfl,hf6⟩;refine Gz 6 ?_
 first
 |exact⟨_,rfl,by rw[aI,hc,R4 (by decide)],Rk _ _⟩
 |exact⟨_,rfl,by rw[aI,hc,R4 h18],hf2⟩
 |exact⟨_,rfl,by rw[aI,hc,R4 (by decide)],hF6.trans hf7⟩
 |exact⟨_,rfl,by rw[aI,hc,R4 (by decide)],hf2.trans hf3⟩
 |exact⟨_,rfl,by rw[aI,R3 (fun h=>h hpz),R4 (fT.2 h51)],hF4.trans hf5⟩
 |exact⟨_,rfl,by rw[aI,hpz,R3 (show ¬ ((0:Int)≠0) from fun h=>h rfl),R3 (fun h:∃ n∈nds ps,¬ dR n=>h51 (fT.1 h))],(hF4.trans hf5).trans hf6⟩
end
section
open Go Go.RowKit Go.Maps
section
variable {P:Program}{N:Nt}{Q:Exit→Act→World→Prop}{l:SF}{w:World}{ops:Array Oper}{rest:List Oper}{op:Op}{ty:TypeId}{pos:String}{aft:Array Edge}{d:Nat}
theorem QC{j s:Nat}{b:Bool}(hj:(ops[j]?).bind (·.dst)=some s)(hs:lk l s=some (.bool b))(h:Sl P N ops Q (⟨some d,op,ty,pos,aft,none⟩::rest) l w) :
 Sl P N ops Q (⟨some d,op,ty,pos,aft,some (j,b)⟩::rest) l w:=fun a ha=>by
 have h1:=h a ha;unfold wpList at h1 ⊢;rw[R4 (by simp[Region.wanted])] at h1;rw[R4 (by simp[Region.wanted,eX ha hj hs])];exact h1
end
theorem tF{B n:Nat}{o o':Option Addr}(h:Fr B o)(hr:∀ a,o'=some a→o=some a∨n≤a.block)(hn:B≤n):Fr B o':=fun a ha=>by
 rcases hr a ha with h1|h1
 ·exact h a h1
 ·omega
variable {D:Nat→Prop}
def aE:NdH×Nd:=(yC,{ nd0 with ino:=1,kind:=1 })
theorem tX:chk (nds [aE])=0:=by decide +kernel
theorem xQ:smN aE.2:=⟨Sf _,by simp[aE,nd0],by simp[aE,nd0]⟩
theorem xR:okN aE.2:=by simp[okN,aE,nd0]
end
section
open Go Go.RowKit Go.Maps
theorem jF:∀ a:By,Su a a=false
|[]=>rfl
|x::a=>by
   have ih:=jF a;have h:¬ x<x:=by rw[To];omega
   simp[Su,h,ih]
theorem uD:∀ {a b c:By},Su a b=true→Su b c=true→Su a c=true
|_,[],_,h,_=>by simp[Su] at h
|_,_::_,[],_,h=>by simp[Su] at h
|[],_::_,_::_,_,_=>by simp[Su]
|x::a,y::b,z::c,h1,h2=>by
   simp only[Su,Tr,decide_eq_true_eq,SA,beq_iff_eq] at h1 h2 ⊢;rcases h1 with h1|⟨rfl,h1⟩
   · rcases h2 with h2|⟨rfl,h2⟩
     ·left;rw[To] at *;omega
     ·exact .inl h1
   · rcases h2 with h2|⟨rfl,h2⟩
     ·exact .inl h2
     ·exact .inr ⟨rfl,uD h1 h2⟩
theorem Hz{a b:By}(h:Su a b=true):Su b a=false:=by
 cases h2:Su b a with
|false=>rfl
|true=>have:=uD h h2;rw[jF] at this;cases this
theorem KS{a b:By}(hne:a≠b)(h:Su a b=false):Su b a=true:=by
 have:=fO a b;rw[h] at this;have hb:(a == b)=false:=by simpa using hne
 rw[hb] at this
 revert this;cases Su b a<;>simp
def bT:List By→List By→Int
|[],[]=>0
|[],_::_=>-1
|_::_,[]=>1
|x::a,y::b=>if x=y then bT a b else if Su x y=true then -1 else 1
theorem lC:∀ a,bT a a=0
|[]=>rfl
|x::a=>by unfold bT;rw[R4 rfl];exact lC a
theorem jE:∀ {a b:List By},bT a b=0→a=b
|[],[],_=>rfl
|[],_::_,h=>by simp[bT] at h
|_::_,[],h=>by simp[bT] at h
|x::a,y::b,h=>by
   unfold bT at h
   split at h
   ·rename_i e;rw[e,jE h]
   ·split at h<;>simp at h
theorem tV:∀ a b:List By,bT b a = - bT a b
|[],[]=>rfl
|[],_::_=>rfl
|_::_,[]=>rfl
|x::a,y::b=>by
   unfold bT;by_cases e:x=y
   ·rw[R4 e,R4 e.symm];exact tV a b
   · rw[R3 e,R3 (fun h=>e h.symm)]
     by_cases h:Su x y=true
     ·rw[R4 h,R3 (by rw[Hz h];decide)];rfl
     ·rw[R3 h,R4 (KS e (by simpa using h))]
theorem mI:∀ {a b c:List By},bT a b<0→bT b c<0→bT a c<0
|_,_::_,[],_,h=>by simp[bT] at h
|[],_::_,_::_,_,_=>by simp[bT]
|[],[],_,h,_=>by simp[bT] at h
|_::_,[],_,h,_=>by simp[bT] at h
|x::a,y::b,z::c,h1,h2=>by
   unfold bT at h1 h2 ⊢;by_cases e1:x=y
   · subst e1
     rw[R4 rfl] at h1;by_cases e2:x=z
     · subst e2
       rw[R4 rfl] at h2 ⊢;exact mI h1 h2
     ·rw[R3 e2] at h2 ⊢;exact h2
   · rw[R3 e1] at h1
     have l1:Su x y=true:=by
      by_cases h:Su x y=true
      ·exact h
      ·rw[R3 h] at h1;simp at h1
     by_cases e2:y=z
     ·subst e2;rw[R3 e1,R4 l1];decide
     · rw[R3 e2] at h2
       have l2:Su y z=true:=by
        by_cases h:Su y z=true
        ·exact h
        ·rw[R3 h] at h2;simp at h2
       have l3:=uD l1 l2;rw[R3 (fun e=>by subst e;rw[jF] at l3;cases l3),R4 l3];decide
theorem tW:∀ (p a b:List By),bT (p++a) (p++b)=bT a b
|[],a,b=>rfl
|x::p,a,b=>by
   show (if x=x then bT (p++a) (p++b) else if Su x x=true then -1 else 1)=_;rw[R4 rfl];exact tW p a b
theorem rG{α:Type}{l:List α}{k:Nat}{x:α}(h:l[k]?=some x):l.drop k=x::l.drop (k+1):=by
 rw[Tn (R9.1 h).1,(R9.1 h).2]
theorem mJ{a b:List By}{k:Nat}(h:a.take k=b.take k):bT a b=bT (a.drop k) (b.drop k):=by
 conv=>lhs;rw[←SG k a,←SG k b,h]
 exact tW _ _ _
theorem Jj{a b:List By}{k:Nat}{x y:By}(h:a.take k=b.take k)(hx:a[k]?=some x)(hy:b[k]?=some y)(hne:x≠y):bT a b=if Su x y=true then -1 else 1:=by
 rw[mJ h,rG hx,rG hy];unfold bT;rw[R3 hne]
theorem EJ{a b:List By}{k:Nat}{x:By}(h:a.take k=b.take k)(hx:a[k]?=some x)(hy:b.length≤k):bT a b=1:=by
 rw[mJ h,rG hx,TJ hy];rfl
theorem Bi{a b:List By}{k:Nat}(h:a.take k=b.take k)(hx:a.length≤k):bT a b=if a.length<b.length then -1 else 0:=by
 rw[mJ h,TJ hx];by_cases hl:a.length<b.length
 · rw[R4 hl]
   have h2:(b.take k).length=a.length:=by rw[←h,Sh];omega
   cases hd:b.drop k with
  |nil=>have:=congrArg SJ hd;rw[Sh] at h2;simp at this;omega
  |cons y r=>rfl
 ·rw[R3 hl,TJ (by have:=congrArg SJ h;simp only[Sh] at this;omega)];rfl
theorem Bw{a b:List By}{k:Nat}{x:By}(h:a.take k=b.take k)(hx:a[k]?=some x)(hy:b[k]?=some x):a.take (k+1)=b.take (k+1):=by rw[tkL hx,tkL hy,h]
theorem AJ(x:By)(W:World):CA 164 [.string (bs x)] W fun v w'=>v=.bool false∧w'=W:=by
 refine cS 6 [(0,_)] Tryz.func164 ?_;refine fK 9 ?_ ?_<;>intro h5
 ·exact absurd rfl h5
 refine Gz 5 ?_;exact⟨_,rfl,rfl,rfl⟩
def qK(x y:By):Int:=if Su x y=true then -1 else if x=y then 0 else 1
theorem EK{x y:By}(h:qK x y=0):x=y:=by
 unfold qK at h
 split at h
 ·cases h
 · split at h
   ·assumption
   ·cases h
theorem Ji(x y:By)(W:World):CA 114 [.string (bs x),.string (bs y)] W fun v w'=>v=iV (qK x y)∧w'=W:=by
 refine cS 20 [(0,_),(1,_)] Tryz.func114 ?_;refine cA 8 JH (AJ x W) ?_;rintro _ w1 ⟨rfl,hw1⟩;subst w1;refine cA 6 JH (AJ y W) ?_;rintro _ w1 ⟨rfl,hw1⟩;subst w1;refine Gz 26 ?_;refine OZ (OP (QI (a:=x) (b:=y) rfl rfl)) rfl (fun h16=>?_) (fun h16=>?_)
 ·refine Gz 11 ?_;exact⟨_,rfl,by unfold qK;rw[R4 h16],rfl⟩
 refine Gz 10 ?_;refine OZ (OP (P1 (a:=x) (b:=y) rfl rfl)) rfl (fun h19=>?_) (fun h19=>?_)
 ·refine Gz 11 ?_;exact⟨_,rfl,by unfold qK;rw[R3 h16,R3 (fun e=>by subst e;simp at h19)],rfl⟩
 refine Gz 12 ?_;exact⟨_,rfl,by unfold qK;rw[R3 h16,R4 (by simpa[h16] using h19)],rfl⟩
theorem tU(ao bo:Option Addr)(ac bc:Nat)(a b:List By)(W:World)(ha:Vw iK W.heap ao ac a)(hb:Vw iK W.heap bo bc b) :
 CA 59 [.slice ao a.length ac,.slice bo b.length bc] W fun v w'=>v=iV (bT a b)∧w'=W:=by
 have h63:=ha.RX;refine cS 36 [(0,_),(1,_)] Tryz.func59 ?_;refine Gz 14 ?_;refine Oy (β:=Nat) (fun k=>[(0,.slice ao a.length ac),(1,.slice bo b.length bc),(9,.slice ao a.length ac),(10,iV a.length),(11,iV k)]) (fun k w=>k≤a.length∧a.take k=b.take k∧w=W) (fun k=>a.length-k) 0 ⟨rfl,rfl,rfl,rfl,rfl,trivial⟩ ⟨Sf _,by simp,rfl⟩ ?_;rintro k w ⟨hk,hsm,rfl⟩;refine fK 2 ?_ ?_<;>intro h12
 ·have hka:k<a.length:=by omega
  obtain⟨x,hx⟩:∃ x,a[k]?=some x:=⟨_,R7 hka⟩
  refine Gz 11 ?_;refine cL (Ou lU rfl rfl ha.non (by omega)) ?_;refine cL (Ow lV rfl (ha.get k x hx)) ?_;refine fK 10 ?_ ?_<;>intro h19
  ·refine Gz 16 ?_;exact⟨_,rfl,by rw[EJ hsm hx (by omega)],rfl⟩
  obtain⟨y,hy⟩:∃ y,b[k]?=some y:=⟨_,R7 (by omega)⟩
  refine Gz 9 ?_;refine cL (Ou lU rfl rfl hb.non (by omega)) ?_;refine cL (Ow lV rfl (hb.get k y hy)) ?_;refine cA 7 Me (Ji x y w) ?_;rintro _ w1 ⟨rfl,hw1⟩;subst w1;refine fK 6 ?_ ?_<;>intro h28
  ·refine Gz 16 ?_;refine⟨_,rfl,?_,rfl⟩;have hne:x≠y:=fun e=>h28 (by unfold qK;rw[R3 (by rw[e,jF];decide),R4 e]);rw[Jj hsm hx hy hne];unfold qK;rw[R3 hne]
  have hxy:x=y:=EK (S5.1 h28);refine Gz 10 ?_;exact aG (k+1) ⟨by omega,Bw hsm hx (hxy ▸ hy),rfl⟩ (by show a.length-(k+1)<a.length-k;omega)
 refine fK 16 ?_ ?_<;>intro h35
 ·refine Gz 11 ?_;exact⟨_,rfl,by rw[Bi hsm (by omega),R4 (by omega)],rfl⟩
 refine Gz 12 ?_;exact⟨_,rfl,by rw[Bi hsm (by omega),R3 (by omega)],rfl⟩
def cK(a b:List By):Bool:=decide (bT a b<0)
end
inductive OT where
|fin:OT
|stop:OT
|alt (i:Nat) (pre:List Nat) (t u:OT):OT
def OT.heads:OT→List Nat
|.alt i _ _ u=>i::u.heads
|_=>[]
def OT.dep:OT→Nat
|.alt _ pre t u=>Nat.max (pre.length+t.dep+1) u.dep
|_=>0
section
open Go Go.RowKit Go.Maps
variable {D D':Nat→Prop}
theorem oS(a:List By):cK a a=false:=by unfold cK;rw[lC];rfl
theorem iX{a b:List By}:cK a b=false↔a=b∨cK b a=true:=by
 unfold cK;rw[tV a b];constructor
 · intro h
   by_cases e:bT a b=0
   ·exact .inl (jE e)
   ·right;simp at h ⊢;omega
 · rintro(rfl|h)
   ·rw[lC];rfl
   ·simp at h ⊢;omega
theorem mC{a b:List By}(h:cK a b=true):cK b a=false:=iX.2 (.inr h)
theorem pU{a b c:List By}(h1:cK a b=true)(h2:cK b c=true):cK a c=true:=by
 unfold cK at *;simp at *;exact mI h1 h2
theorem AD{a b c:List By}(h1:cK a b=false)(h2:cK b c=false):cK a c=false:=by
 rcases iX.1 h1 with rfl|h1
 ·exact h2
 · rcases iX.1 h2 with rfl|h2
   ·exact mC h1
   ·exact mC (pU h2 h1)
def Ee(p q:NdH×Nd):Prop:=cK q.2.names p.2.names=false
def eZ(ps:List (NdH×Nd)):List (NdH×Nd):=ps.mergeSort (fun p q=>!cK q.2.names p.2.names)
theorem kC(ps:List (NdH×Nd)):(eZ ps).Perm ps:=List.mergeSort_perm _ _
theorem CU(ps:List (NdH×Nd)):(eZ ps).Pairwise Ee:=by
 have h:=List.pairwise_mergeSort (le:=fun p q:NdH×Nd=>!cK q.2.names p.2.names) (fun a b c h1 h2=>by
  simp only[T6] at *;exact AD h2 h1) (fun a b=>by
  simp only[Tr,T6];cases h:cK b.2.names a.2.names with
 |false=>exact .inl rfl
 |true=>exact .inr (mC h)) ps
 exact h.imp (fun h=>by simpa[Ee] using h)
theorem Ek{ps:List (NdH×Nd)}(ht:¬ cJ (nds ps)){p q:NdH×Nd}(hp:p∈ps)(hq:q∈ps)(e:p.2.names=q.2.names):p=q:=by
 obtain⟨i,hi⟩:=Sr hp;obtain⟨j,hj⟩:=Sr hq;rcases Ta i j with h|h|h
 ·exact absurd ((eY ps).2 ⟨i,j,p,q,h,hi,hj,e⟩) ht
 ·subst h;rw[hi] at hj;exact Option.some.inj hj
 ·exact absurd ((eY ps).2 ⟨j,i,q,p,h,hj,hi,e.symm⟩) ht
theorem Fs{ps qs:List (NdH×Nd)}(ht:¬ cJ (nds ps))(hp:qs.Perm ps)(hs:qs.Pairwise Ee):qs=eZ ps:=
 List.Perm.eq_of_pairwise (le:=Ee) (fun a b ha hb h1 h2=>by
  have ha':=hp.mem_iff.1 ha;have hb':=(kC ps).mem_iff.1 hb;refine Ek ht ha' hb' ?_;rcases iX.1 h2 with e|h2
  ·exact e
  ·unfold Ee at h1;rw[h1] at h2;cases h2) hs (CU ps) (hp.trans (kC ps).symm)
end
section
open Go Go.RowKit Go.Maps
def mL(s:List Int)(z:Int):List Int:=if z∈s then s else s++[z]
def bR(zs:List Int):List Int:=zs.foldl mL []
def iT(zs:List Int)(z:Int):Int:=((bR zs).idxOf z:Nat)+1
theorem HF{s:List Int}{z x:Int}:x∈mL s z↔x∈s∨x=z:=by
 unfold mL
 split
 ·rename_i h;exact⟨.inl,fun g=>g.elim id (fun e=>e ▸ h)⟩
 ·simp
theorem AQ:∀ (zs s:List Int) (x:Int),x∈zs.foldl mL s↔x∈s∨x∈zs
|[],s,x=>by simp
|z::zs,s,x=>by
   rw[Tm,AQ zs,HF,St];exact or_assoc
theorem gN{zs:List Int}{x:Int}:x∈bR zs↔x∈zs:=by unfold bR;rw[AQ];simp
theorem AR:∀ (zs s:List Int),∃ r,zs.foldl mL s=s++r
|[],s=>⟨[],by simp⟩
|z::zs,s=>by
   obtain⟨r,h⟩:=AR zs (mL s z);rw[Tm,h];unfold mL
   split
   ·exact⟨r,rfl⟩
   ·exact⟨z::r,by simp⟩
theorem Ad(a b:List Int):∃ r,bR (a++b)=bR a++r:=by
 unfold bR;rw[Tb];exact AR _ _
theorem oM(a:List Int)(z:Int):bR (a++[z])=mL (bR a) z:=by unfold bR;rw[Tb];rfl
theorem As{a b:List Int}{z:Int}(h:z∉a):iT (a++z::b) z=((bR a).length:Nat)+1:=by
 obtain⟨r,hr⟩:=Ad (a++[z]) b;have e:a++z::b=(a++[z])++b:=by simp
 have hs:z∉bR a:=fun g=>h (gN.1 g);unfold iT;rw[e,hr,oM];unfold mL;rw[R3 hs,SI,List.idxOf_append,R3 hs];show ((List.idxOf z (z::r)+(bR a).length:Nat):Int)+1=_;rw[List.idxOf_cons_self,S3]
theorem mU{a:List Int}{z:Int}(h:z∉a):(bR (a++[z])).length=(bR a).length+1:=by
 rw[oM];unfold mL;rw[R3 (fun g=>h (gN.1 g))];simp
theorem mT{a:List Int}{z:Int}(h:z∈a):(bR (a++[z])).length=(bR a).length:=by
 rw[oM];unfold mL;rw[R4 (gN.2 h)]
theorem Js(s:List Int)(z:Int):(mL s z).length≤s.length+1:=by unfold mL;split<;>simp
theorem CX(zs:List Int):(bR zs).length≤zs.length:=by
 have:∀ (zs s:List Int),(zs.foldl mL s).length≤s.length+zs.length:=fun zs=>by
  induction zs with
 |nil=>intro s;simp
 |cons z zs ih=>intro s;rw[Tm,Sq];have:=ih (mL s z);have:=Js s z;omega
 have:=this zs [];simpa[bR] using this
def aQ(ps:List (NdH×Nd)):List Int:=ps.map (·.2.ino)
def dO(zs:List Int)(p:NdH×Nd):NdH×Nd:=(p.1,{ p.2 with ino:=iT zs p.2.ino })
def Eg(ps:List (NdH×Nd)):List (NdH×Nd):=ps.map (dO (aQ ps))
theorem mE{ps:List (NdH×Nd)}{i:Nat}{p:NdH×Nd}(hp:ps[i]?=some p):aQ ps=aQ (ps.take i)++p.2.ino::aQ (ps.drop (i+1)):=by
 conv=>lhs;rw[←SG i ps,rG hp]
 simp[aQ]
theorem nL{ps:List (NdH×Nd)}{i:Nat}{p:NdH×Nd}(hp:ps[i]?=some p):aQ (ps.take (i+1))=aQ (ps.take i)++[p.2.ino]:=by rw[tkL hp];simp[aQ]
theorem F3(zs:List Int)(z:Int):1≤iT zs z:=by unfold iT;omega
variable {D:Nat→Prop}
def fU(ps:List (NdH×Nd)):List (NdH×Nd):=Eg (eZ ps)
theorem DD{l:List Nd}(h:chk l=0):l.length≤1024:=by
 unfold chk at h;by_cases h1:1024<l.length
 ·rw[R4 h1] at h;cases h
 ·omega
theorem nY{l:List Nd}(h:chk l=0):plc l=0:=by
 rw[aI] at h;by_cases h1:plc l=0
 ·exact h1
 ·rw[R4 h1] at h;exact absurd h h1
theorem sH{l:List Nd}(h:plc l=0):nmd l=0:=by
 unfold plc at h;by_cases h0:1024<l.length
 ·rw[R4 h0] at h;cases h
 · rw[R3 h0] at h
   by_cases h1:nmd l=0
   ·exact h1
   ·rw[R4 h1] at h;exact absurd h h1
theorem wZ{l:List Nd}(h:chk l=0):¬ cJ l:=(gY (sH (nY h))).2.2
end
section
open Go Go.RowKit Go.Maps
theorem pX{α:Type}{K j:Nat}{enc:α→List Value}(hk:∀ x,(enc x).length=K)(hj:j<K){v:Value}{x':α}:∀ (xs:List α) (i:Nat) (y:α),xs[i]?=some y→enc x'=(enc y).set j v→(xs.set i x').flatMap enc=(xs.flatMap enc).set (i*K+j) v
|[],i,y,h,_=>by simp at h
|z::r,0,y,h,he=>by
   simp at h;subst h;rw[List.set_cons_zero,Tc,Tc,he,List.set_append,R4 (by rw[hk];omega),Nat.zero_mul,S3]
|z::r,i+1,y,h,he=>by
   have ih:=pX hk hj r i y (by simpa using h) he;have e1:(i+1)*K+j=K+(i*K+j):=by rw[S4];omega
   rw[List.set_cons_succ,Tc,Tc,ih,List.set_append,R3 (by rw[hk];omega),hk,e1,Nat.add_sub_cancel_left]
section
variable {P:Program}{N:Nt}{Q:Exit→Act→World→Prop}{l:SF}{w:World}{ops:Array Oper}{rest:List Oper}{ty:TypeId}{pos:String}{aft:Array Edge}{x y:Operand}{t:TypeId}{v:Value}
theorem O3{α:Type}{K:Nat}{enc:α→List Value}(henc:iP K enc){T:TypeId}{ao:Option Addr}{cap:Nat}{xs:List α}{i j:Nat}{x' x0:α}{ad:Addr}(hi:xs[i]?=some x0)(hj:j<K)(he:enc x'=(enc x0).set j v)
 (ht:eB P t=true)(hx:evL l x=some (.pointer (some ad)))(had:ad=(adr ao (i*K)).add j)(hy:evL l y=some v)(h1:v.oneCell'=true)(ho:cH K enc T w.heap ao cap xs)
 (h:∀ w',cH K enc T w'.heap ao cap (xs.set i x')→w'.heap.size=w.heap.size→aA (blk ao) w w'→Sl P N ops Q rest l w') :
 Sl P N ops Q (⟨none,.store t x y,ty,pos,aft,none⟩::rest) l w:=by
 have hil:=(R9.1 hi).1;rcases ho with⟨rfl,rfl,rfl⟩|⟨g,cur,rfl,hg,g1,g2,g3,g4⟩
 ·simp at hil
 · have hK:xs.length*K≤cap*K:=SS K g1
   have hiK:(i+1)*K≤xs.length*K:=SS K (by omega);have hlt:i*K+j<cur.toList.length:=by rw[Array.length_toList,g3];rw[S4,Tl] at hiK;omega
   have hadr:ad=⟨g,i*K+j,none⟩:=by
    rw[had];show ((⟨g,0,none⟩:Addr).add (i*K)).add j=_;rw[Addr.add_add,Addr.add_lit,S3]
   subst hadr;refine OF (cur:=cur.toList) ht hx hy h1 (by simpa using hg) (by simpa[Tp] using hlt) (fun w' q1 q2 q3=>h w' ?_ q2 ?_)
   · refine .inr ⟨g,_,rfl,q1,by simpa using g1,g2,by simpa using g3,?_⟩
     rw[S7,pX (fun x=>(henc x).1) hj xs i x0 hi he,←g4];simp only[List.take_set]
   ·exact q3.mono (fun k e=>⟨⟨g,0,none⟩,rfl,e.symm⟩)
end
theorem kG(n:Nat):Fr n (some ⟨n,0,none⟩):=fun a ha=>by cases ha;exact Sa _
theorem wX(ao:Option Addr)(c:Nat)(L:List By)(W:World)(hv:Vw iK W.heap ao c L)(hl:L.length≤1024) :
 CA 60 [.slice ao L.length c] W fun v w'=>∃ o c',v=.slice o L.length c'∧Own iK 9 w'.heap o c' L∧Fr W.heap.size o∧aA nob W w':=by
 refine cS 8 [(0,_)] Tryz.func60 ?_;refine Gz 9 ?_;refine OZ (OP (OU lU rfl rfl)) rfl (fun h4=>?_) (fun h4=>?_)
 ·refine Gz 11 ?_;obtain rfl:L=[]:=by
   apply Se;intro hne;have h0:ao=none:=by simpa using h4
   exact hv.non (by have:=Sk.2 hne;omega) h0
  exact⟨_,rfl,none,0,rfl,.inl ⟨rfl,rfl,rfl⟩,Rp,Rk _ _⟩
 refine Gz 7 ?_;refine Py iK lU rfl ?_;intro w1 ho1 hs1 hf1;refine Gz 1 ?_;refine OJ Fp lU rfl rfl ho1 (hv.RY hf1) (by simp only[SL];omega) (by simp only[SL];unfold maxLen;omega) rfl ?_;intro o2 c2 w2 ho2 hf2 hr2 hn2;rw[S2] at ho2 ⊢;refine Gz 5 ?_;exact⟨_,rfl,o2,c2,rfl,ho2,tF (kG _) hr2 hf1.size,hf1.RV hf2 (kG _).step⟩
theorem lD(ao:Option Addr)(c:Nat)(L:By)(W:World)(hv:Vw b8 W.heap ao c L)(hl:L.length≤10000) :
 CA 61 [.slice ao L.length c] W fun v w'=>∃ o c',v=.slice o L.length c'∧Own b8 5 w'.heap o c' L∧Fr W.heap.size o∧aA nob W w':=by
 refine cS 8 [(0,_)] Tryz.func61 ?_;refine Gz 9 ?_;refine OZ (OP (OU aP rfl rfl)) rfl (fun h4=>?_) (fun h4=>?_)
 ·refine Gz 11 ?_;obtain rfl:L=[]:=by
   apply Se;intro hne;have h0:ao=none:=by simpa using h4
   exact hv.non (by have:=Sk.2 hne;omega) h0
  exact⟨_,rfl,none,0,rfl,.inl ⟨rfl,rfl,rfl⟩,Rp,Rk _ _⟩
 refine Gz 7 ?_;refine Py b8 aP rfl ?_;intro w1 ho1 hs1 hf1;refine Gz 1 ?_;refine OJ cP aP rfl rfl ho1 (hv.RY hf1) (by simp only[SL];omega) (by simp only[SL];unfold maxLen;omega) rfl ?_;intro o2 c2 w2 ho2 hf2 hr2 hn2;rw[S2] at ho2 ⊢;refine Gz 5 ?_;exact⟨_,rfl,o2,c2,rfl,ho2,tF (kG _) hr2 hf1.size,hf1.RV hf2 (kG _).step⟩
theorem wW(ao:Option Addr)(c:Nat)(L:List (By×Hd))(W:World)(hv:VwM 2 eP W.heap ao c L)(hl:L.length≤10000) :
 CA 62 [.slice ao L.length c] W fun v w'=>∃ o c',v=.slice o L.length c'∧cH 2 eP 123 w'.heap o c' L∧Fr W.heap.size o∧aA nob W w':=by
 refine cS 8 [(0,_)] Tryz.func62 ?_;refine Gz 9 ?_;refine OZ (OP (OU oJ rfl rfl)) rfl (fun h4=>?_) (fun h4=>?_)
 ·refine Gz 11 ?_;obtain rfl:L=[]:=by
   apply Se;intro hne;have h0:ao=none:=by simpa using h4
   exact hv.non (by have:=Sk.2 hne;omega) h0
  exact⟨_,rfl,none,0,rfl,.inl ⟨rfl,rfl,rfl⟩,Rp,Rk _ _⟩
 refine Gz 7 ?_;refine P9 bM oJ rfl ?_;intro w1 ho1 hs1 hf1;refine Gz 1 ?_;refine Pn bM rfl oJ rfl rfl ho1 (hv.keep' hf1 (fun _ _ _=>id)) (by simp only[SL];omega) (by simp only[SL];unfold maxLen;omega) rfl ?_;intro o2 c2 w2 ho2 hf2 hr2 hn2;rw[S2] at ho2 ⊢;refine Gz 5 ?_;exact⟨_,rfl,o2,c2,rfl,ho2,tF (kG _) hr2 hf1.size,hf1.RV hf2 (kG _).step⟩
theorem EM(ao:Option Addr)(c:Nat)(L:List (NdH×Nd))(W:World)(hv:VwM 10 aH W.heap ao c L)(hl:L.length≤1024) :
 CA 56 [.slice ao L.length c] W fun v w'=>∃ o c',v=.slice o L.length c'∧cH 10 aH 37 w'.heap o c' L∧Fr W.heap.size o∧aA nob W w':=by
 refine cS 8 [(0,_)] Tryz.func56 ?_;refine Gz 9 ?_;refine OZ (OP (OU gL rfl rfl)) rfl (fun h4=>?_) (fun h4=>?_)
 ·refine Gz 11 ?_;obtain rfl:L=[]:=by
   apply Se;intro hne;have h0:ao=none:=by simpa using h4
   exact hv.non (by have:=Sk.2 hne;omega) h0
  exact⟨_,rfl,none,0,rfl,.inl ⟨rfl,rfl,rfl⟩,Rp,Rk _ _⟩
 refine Gz 7 ?_;refine P9 aB gL rfl ?_;intro w1 ho1 hs1 hf1;refine Gz 1 ?_;refine Pn aB rfl gL rfl rfl ho1 (hv.keep' hf1 (fun _ _ _=>id)) (by simp only[SL];omega) (by simp only[SL];unfold maxLen;omega) rfl ?_;intro o2 c2 w2 ho2 hf2 hr2 hn2;rw[S2] at ho2 ⊢;refine Gz 5 ?_;exact⟨_,rfl,o2,c2,rfl,ho2,tF (kG _) hr2 hf1.size,hf1.RV hf2 (kG _).step⟩
end
section
variable {P:Program}{ops:Array Oper}{CH:Array Obj→Prop}{N:Nt}{n:Nat}{R effs:List Nat}{K0:Act→World→Prop}{Q:Exit→Act→World→Prop}{l:SF}{w:World}
theorem Cc{i:Nat}{oi:Oper}{v:Value}(hi:ops[i]?=some oi)(hsel:∀ (j:Nat) (o:Oper) cs b,ops[j]?=some o→o.op≠.select cs b)(hin:i≠n) :
 ∀ (fuel:Nat) (listed:Array Bool) (a:Act) (w:World),(listed.getD n false=false→CH w.heap) →
  (∀ j oj,ops[j]?=some oj→j≠i→listed.getD j true=false→(∀ e∈oj.after,Region.binds .any e=true→e.on≠i)→oi.apart ops oj=true) →
  i∈Region.ready .any ops listed→YC P ops (fun _=>True) oi v a →
  bF P .any ops n CH K0 fuel (listed.setIfInBounds i true) (a.put oi.dst v) w→bF P .any ops n CH K0 (fuel+1) listed a w:=by
 intro fuel
 induction fuel with
|zero=>
   intro listed a w hc _ hr hy H;refine⟨hc,fun h=>(by rw[h] at hr;cases hr),fun j hj=>?_⟩;by_cases hji:j=i
   ·subst hji;exact hy.wpOp hi trivial H
   · have:=ready_mono hj hji
     rw[H.2.1] at this;cases this
|succ fuel ih=>
   intro listed a w hc hfree hr hy H;refine⟨hc,fun h=>(by rw[h] at hr;cases hr),fun j hj=>?_⟩;by_cases hji:j=i
   ·subst hji;exact hy.wpOp hi trivial H
   · have h1:=H.2.2 j (ready_mono hj hji)
     obtain⟨hjun,oj,hoj,hall⟩:=mem_ready.1 hj;have hnot:∀ e∈oj.after,Region.binds .any e=true→e.on≠i:=fun e he hb heq=>by
      have h1:=hall e he hb;have h0:=(mem_ready.1 hr).1;rw[heq] at h1;rcases TI i listed.size with h'|h'
      ·simp[h'] at h0 h1;rw[h0] at h1;cases h1
      ·simp[T7 h'] at h1
     have h2:=oF hoj (hfree j oj hoj hji hjun hnot) (fun cs b=>hsel i oi cs b hi) (fun cs b=>hsel j oj cs b hoj) hy h1;have hfree':∀ k ok,ops[k]?=some ok→k≠i→(listed.setIfInBounds j true).getD k true=false →
      (∀ e∈ok.after,Region.binds .any e=true→e.on≠i)→oi.apart ops ok=true:=fun k ok hk hki hun hno=>by
      refine hfree k ok hk hki ?_ hno;by_cases hjk:j=k
      ·subst hjk;exact hjun
      ·rw[getD_set_ne true hjk] at hun;exact hun
     have ch2:(listed.setIfInBounds j true).getD n false=false→((listed.setIfInBounds i true).setIfInBounds j true).getD n false=false:=fun h4=>by
      rw[TU _ _ (fun e=>hji e.symm),getD_set_ne false hin];exact h4
     refine wpOp_mono (fun a' w' h3=>ih (listed.setIfInBounds j true) a' w' (fun h4=>h3.2.ch (ch2 h4)) hfree' (ready_mono hr (Ne.symm hji)) h3.1 ?_) h2;rw[TU _ _ hji];exact h3.2
theorem Cb{i:Nat}{oi on:Oper}{v:Value}(hi:ops[i]?=some oi)(hsel:∀ (j:Nat) (o:Oper) cs b,ops[j]?=some o→o.op≠.select cs b)(hin:i≠n)(hon:ops[n]?=some on)(hw:∃ e∈on.after,Region.binds .any e=true∧e.on=i) :
 ∀ (fuel:Nat) (listed:Array Bool) (a:Act) (w:World),listed.getD n false=false→CH w.heap →
  (∀ j oj,ops[j]?=some oj→j≠i→listed.getD j true=false→(∀ e∈oj.after,Region.binds .any e=true→e.on≠i)→oi.apart ops oj=true) →
  i∈Region.ready .any ops listed→YC P ops CH oi v a →
  bF P .any ops n CH K0 fuel (listed.setIfInBounds i true) (a.put oi.dst v) w→bF P .any ops n CH K0 (fuel+1) listed a w:=by
 intro fuel
 induction fuel with
|zero=>
   intro listed a w hun hc _ hr hy H;refine⟨fun _=>hc,fun h=>(by rw[h] at hr;cases hr),fun j hj=>?_⟩;by_cases hji:j=i
   ·subst hji;exact hy.wpOp hi hc H
   · have:=ready_mono hj hji
     rw[H.2.1] at this;cases this
|succ fuel ih=>
   intro listed a w hun hc hfree hr hy H;refine⟨fun _=>hc,fun h=>(by rw[h] at hr;cases hr),fun j hj=>?_⟩;by_cases hji:j=i
   ·subst hji;exact hy.wpOp hi hc H
   · have h1:=H.2.2 j (ready_mono hj hji)
     obtain⟨hjun,oj,hoj,hall⟩:=mem_ready.1 hj;have hnot:∀ e∈oj.after,Region.binds .any e=true→e.on≠i:=fun e he hb heq=>by
      have h1:=hall e he hb;have h0:=(mem_ready.1 hr).1;rw[heq] at h1;rcases TI i listed.size with h'|h'
      ·simp[h'] at h0 h1;rw[h0] at h1;cases h1
      ·simp[T7 h'] at h1
     have hjn:j≠n:=fun e=>by
      subst e;obtain⟨e,he,hb,hei⟩:=hw;rw[hoj] at hon;cases hon;exact hnot e he hb hei
     have h2:=oF hoj (hfree j oj hoj hji hjun hnot) (fun cs b=>hsel i oi cs b hi) (fun cs b=>hsel j oj cs b hoj) hy h1;have hfree':∀ k ok,ops[k]?=some ok→k≠i→(listed.setIfInBounds j true).getD k true=false →
      (∀ e∈ok.after,Region.binds .any e=true→e.on≠i)→oi.apart ops ok=true:=fun k ok hk hki hun hno=>by
      refine hfree k ok hk hki ?_ hno;by_cases hjk:j=k
      ·subst hjk;exact hjun
      ·rw[getD_set_ne true hjk] at hun;exact hun
     have hun':(listed.setIfInBounds j true).getD n false=false:=by rw[getD_set_ne false hjn];exact hun
     have ch2:((listed.setIfInBounds i true).setIfInBounds j true).getD n false=false:=by rw[getD_set_ne false hjn,getD_set_ne false hin];exact hun
     refine wpOp_mono (fun a' w' h3=>ih (listed.setIfInBounds j true) a' w' hun' (h3.2.ch ch2) hfree' (ready_mono hr (Ne.symm hji)) h3.1 ?_) h2;rw[TU _ _ hji];exact h3.2
def CHr(R:List Nat)(CH:Array Obj→Prop)(i:Nat):Array Obj→Prop:=bif R.contains i then CH else fun _=>True
def Sz(P:Program)(N:Nt)(ops:Array Oper)(n:Nat)(R:List Nat)(CH:Array Obj→Prop)(effs:List Nat)(K0:Act→World→Prop):Bool→List Nat→SF→World→Prop
|_,[],l,w=>∀ a,bS N l a→K0 a w
|fr,i::r,l,w=>∃ o,ops[i]?=some o ∧
   (bif effs.contains i then Sl P N ops (kL fun a w=>∃ l',bS N l' a∧((fr && !Tt i n)=true→CH w.heap)∧Sz P N ops n R CH effs K0 (fr && !Tt i n) r l' w) [o] l w
    else ∃ v,(∀ a,bS N l a→YC P ops (CHr R CH i) o v a)∧∃ l',(∀ a,bS N l a→bS N l' (a.put o.dst v))∧Sz P N ops n R CH effs K0 fr r l' w)
def KZ(P:Program)(N:Nt)(ops:Array Oper)(n:Nat)(R:List Nat)(CH:Array Obj→Prop)(effs:List Nat)(K0:Act→World→Prop):Bool→OT→Act→World→Prop
|_,.fin,a,w=>K0 a w
|_,.stop,_,_=>True
|fr,.alt i pre t u,a,w=>(∃ l',bS N l' a∧Sz P N ops n R CH effs (KZ P N ops n R CH effs K0 (fr && !Tt i n) t) fr (i::pre) l' w)∧KZ P N ops n R CH effs K0 fr u a w
def CK(ops:Array Oper)(n k:Nat):Bool:=match ops[n]? with|some o=>o.after.toList.any (fun e=>Region.binds .any e && Tt e.on k)|none=>false
def oP(ops:Array Oper)(n:Nat)(R effs:List Nat):List Nat→Array Bool→Option (Array Bool)
|[],L=>some L
|k::r,L=>bif (!effs.contains k) && (Region.ready .any ops L).contains k && Region.free .any ops L k && !Tt k n && (!R.contains k || (CK ops n k && !L.getD n false)) then oP ops n R effs r (L.setIfInBounds k true) else none
def okZ(ops:Array Oper)(n:Nat)(R effs:List Nat):Bool→Bool→OT→Array Bool→Bool
|_,_,.fin,L=>(Region.ready .any ops L).isEmpty
|_,top,.stop,_=>!top
|fr,top,.alt i pre t u,L=>(!top || (Region.ready .any ops L).all (i::u.heads).contains) && effs.contains i && (Region.ready .any ops L).contains i && (fr == !L.getD n false) && SH i L.size &&
   (match oP ops n R effs pre (L.setIfInBounds i true) with|some L'=>okZ ops n R effs (fr && !Tt i n) true t L'|none=>false) && okZ ops n R effs fr false u L
theorem FN{k:Nat}:∀ (pre:List Nat) (L L':Array Bool),oP ops n R effs pre L=some L'→L'.getD n false=L.getD n false
|[],L,L',h=>by simp only[oP,Option.some.injEq] at h;rw[h]
|k::r,L,L',h=>by
   cases hb:((!effs.contains k) && (Region.ready .any ops L).contains k && Region.free .any ops L k && !Tt k n && (!R.contains k || (CK ops n k && !L.getD n false))) with
  |false=>simp only[oP,hb,cond_false] at h;cases h
  |true=>
     simp only[oP,hb,cond_true] at h;simp only[SA,T6] at hb;have hkn:k≠n:=fun e=>by have:=hb.1.2;rw[e,Nat.beq_refl] at this;cases this
     rw[FN (k:=k) r _ _ h,getD_set_ne false hkn]
theorem sF(hsel:Region.noSelect ops=true){K:Act→World→Prop}{L':Array Bool}{m:Nat}{fr:Bool}
 (hK:∀ (f:Nat) (a:Act) (w:World),m≤f→(fr=true→CH w.heap)→K a w→bF P .any ops n CH K0 f L' a w) :
 ∀ (pre:List Nat) (f:Nat) (L:Array Bool) (l:SF) (a:Act) (w:World),pre.length+m≤f→oP ops n R effs pre L=some L'→(L.getD n false=false→fr=true)→bS N l a→(fr=true→CH w.heap)→Sz P N ops n R CH effs K fr pre l w→bF P .any ops n CH K0 f L a w
|[],f,L,l,a,w,hf,hp,hfr,ha,hc,h=>by
   simp only[oP,Option.some.injEq] at hp;subst hp;exact hK f a w (by simpa using hf) hc (h a ha)
|k::r,0,L,l,a,w,hf,hp,hfr,ha,hc,h=>by simp at hf
|k::r,f+1,L,l,a,w,hf,hp,hfr,ha,hc,h=>by
   obtain⟨o,ho,h⟩:=h;cases hb:((!effs.contains k) && (Region.ready .any ops L).contains k && Region.free .any ops L k && !Tt k n && (!R.contains k || (CK ops n k && !L.getD n false))) with
  |false=>simp only[oP,hb,cond_false] at hp;cases hp
  |true=>
     simp only[oP,hb,cond_true] at hp;simp only[SA,T6,Tr] at hb;obtain⟨⟨⟨⟨he,m1⟩,m2⟩,m3⟩,m4⟩:=hb;have hkn:k≠n:=fun e=>by rw[e,Nat.beq_refl] at m3;cases m3
     rw[he] at h;simp only[cond_false] at h;obtain⟨v,hy,l',hl',hs⟩:=h;have hir:k∈Region.ready .any ops L:=by simpa using m1
     have hrec:=sF hsel hK r f _ l' _ w (by simp at hf;omega) hp (fun h0=>hfr (by rw[getD_set_ne false hkn] at h0;exact h0)) (hl' a ha) hc hs;cases hR:R.contains k with
    |false=>
       have hy2:YC P ops (fun _=>True) o v a:=by have:=hy a ha;unfold CHr at this;rw[hR] at this;exact this
       exact Cc ho (Region.noSelect_spec hsel) hkn f L a w (fun h0=>hc (hfr h0)) (Region.free_spec ho m2) hir hy2 hrec
    |true=>
       have hy2:YC P ops CH o v a:=by have:=hy a ha;unfold CHr at this;rw[hR] at this;exact this
       obtain⟨m5,m6⟩:=m4.resolve_left (by rw[hR];decide);unfold CK at m5;cases hon:ops[n]? with
      |none=>rw[hon] at m5;cases m5
      |some on=>
         rw[hon] at m5;obtain⟨e,he1,he2⟩:=List.any_eq_true.1 m5;simp only[SA,Nat.beq_eq] at he2;exact Cb ho (Region.noSelect_spec hsel) hkn hon ⟨e,by simpa using he1,he2.1,he2.2⟩ f L a w m6 (hc (hfr m6)) (Region.free_spec ho m2) hir hy2 hrec
theorem HU{i:Nat}{pre:List Nat}{K:Act→World→Prop}{f:Nat}{L:Array Bool}{a:Act}{fr:Bool}(he:effs.contains i=true)(ha:bS N l a)
 (key:∀ l' a' w',bS N l' a'→((fr && !Tt i n)=true→CH w'.heap)→Sz P N ops n R CH effs K (fr && !Tt i n) pre l' w'→bF P .any ops n CH K0 f (L.setIfInBounds i true) a' w')
 (h:Sz P N ops n R CH effs K fr (i::pre) l w):wpOp P ops (kL K0) i (bF P .any ops n CH K0 f (L.setIfInBounds i true)) a w:=by
 obtain⟨o,ho,h⟩:=h;rw[he] at h;simp only[cond_true] at h;have h1:=h a ha;unfold wpList at h1;unfold wpOp;simp only[ho];have key2:∀ a' w',wpList P ops (kL fun a w=>∃ l',bS N l' a∧((fr && !Tt i n)=true→CH w.heap)∧Sz P N ops n R CH effs K (fr && !Tt i n) pre l' w) [] a' w'→bF P .any ops n CH K0 f (L.setIfInBounds i true) a' w':=by
  intro a' w' h2;obtain⟨l',h3,h4,h5⟩:=h2;exact key l' a' w' h3 h4 h5
 split
 · rename_i hw
   rw[R4 hw] at h1;rcases h1 with h1|⟨_,_,_,h1⟩
   ·exact .inl (Rs key2 h1)
   ·exact h1.elim
 · rename_i hw
   rw[R3 hw] at h1;exact key2 _ _ h1
theorem jY(hsel:Region.noSelect ops=true):∀ (t:OT) (fr top:Bool) (f:Nat) (L:Array Bool) (a:Act) (w:World),t.dep≤f→okZ ops n R effs fr top t L=true→(L.getD n false=false→fr=true)→(fr=true→CH w.heap)→KZ P N ops n R CH effs K0 fr t a w →
 (top=true→bF P .any ops n CH K0 f L a w)∧∀ k∈t.heads,∃ f',f=f'+1∧wpOp P ops (kL K0) k (bF P .any ops n CH K0 f' (L.setIfInBounds k true)) a w
|.fin,fr,top,f,L,a,w,hf,hm,hfr,hc,h=>by
   have hr:Region.ready .any ops L=[]:=by simpa[okZ] using hm
   refine⟨fun _=>?_,fun k hk=>by cases hk⟩;cases f with
  |zero=>exact⟨fun h0=>hc (hfr h0),hr,h⟩
  |succ f=>exact⟨fun h0=>hc (hfr h0),fun _=>h,by rw[hr];simp⟩
|.stop,fr,top,f,L,a,w,hf,hm,hfr,hc,h=>by
   refine⟨fun e=>by subst e;simp[okZ] at hm,fun k hk=>by cases hk⟩
|.alt i pre t u,fr,top,f,L,a,w,hf,hm,hfr,hc,h=>by
   simp only[okZ,SA] at hm;obtain⟨⟨⟨⟨⟨⟨m1,m2⟩,m3⟩,m4⟩,m5⟩,m6⟩,m7⟩:=hm;have hf1:pre.length+t.dep+1≤f:=SM (Nat.le_max_left _ _) hf;have hf2:u.dep≤f:=SM (Nat.le_max_right _ _) hf;obtain⟨f',rfl⟩:∃ f',f=f'+1:=⟨f-1,by omega⟩
   obtain⟨⟨l',ha,h1⟩,h2⟩:=h;have hi:i<L.size:=by simpa[Tp] using m5
   have hr:i∈Region.ready .any ops L:=by simpa using m3
   have hu:=jY hsel u fr false (f'+1) L a w hf2 m7 hfr hc h2;have hfr2:(L.setIfInBounds i true).getD n false=false→(fr && !Tt i n)=true:=fun h0=>by
    by_cases hin:i=n
    ·subst hin;simp[hi] at h0
    · rw[getD_set_ne false hin] at h0
      rw[hfr h0];have:Tt i n=false:=by cases hb:Tt i n with|false=>rfl|true=>exact absurd (Nat.eq_of_beq_eq_true hb) hin
      rw[this];rfl
   have hhead:∀ k∈i::u.heads,∃ f'',f'+1=f''+1∧wpOp P ops (kL K0) k (bF P .any ops n CH K0 f'' (L.setIfInBounds k true)) a w:=by
    intro k hk;rcases St.1 hk with rfl|hk
    · refine⟨f',rfl,HU m2 ha (fun l2 a2 w2 hl2 hc2 hs2=>?_) h1⟩
      cases hp:oP ops n R effs pre (L.setIfInBounds k true) with
     |none=>rw[hp] at m6;cases m6
     |some L'=>
        rw[hp] at m6;have hn':=FN (k:=k) pre _ _ hp;exact sF hsel (m:=t.dep) (fun f3 a3 w3 hf3 hc3 hk3=>(jY hsel t _ true f3 L' a3 w3 hf3 m6 (fun h0=>hfr2 (by rw[←hn'];exact h0)) hc3 hk3).1 rfl) pre f' _ l2 a2 w2 (by omega) hp hfr2 hl2 hc2 hs2
    ·exact hu.2 k hk
   refine⟨fun e=>?_,hhead⟩;subst e;refine⟨fun h0=>hc (hfr h0),fun h0=>(by rw[h0] at hr;cases hr),fun k hk=>?_⟩;simp only[Bool.not_true,Bool.false_or,List.all_eq_true] at m1;obtain⟨f'',e1,hw⟩:=hhead k (by simpa using m1 k hk);obtain rfl:f'=f'':=by omega
   exact hw
theorem Pi{id:Nat}{lops:List Oper}(n:Nat)(R:List Nat)(CH:Array Obj→Prop)(effs pre:List Nat)(t:OT)(hm:P.follows .mixedOrders=true)(hs:(Region.noSelect lops.toArray &&
 (match oP lops.toArray n R effs pre (TW lops.length false) with|some L'=>okZ lops.toArray n R effs true true t L'|none=>false) && Nat.ble (pre.length+t.dep) lops.length)=true)(hc:CH w.heap)
 (h:Sz P N lops.toArray n R CH effs (KZ P N lops.toArray n R CH effs (fun a w=>Q .normal a w) true t) true pre l (w.drewN 1)):Sc P N (.region id lops.toArray true) Q l w:=fun a ha=>by
 simp only[SA] at hs;obtain⟨⟨hs,hok⟩,hlen⟩:=hs;have h1:bF P .any lops.toArray n CH (fun a w=>Q .normal a w) lops.length (TW lops.length false) a (w.drewN 1):=by
  cases hp:oP lops.toArray n R effs pre (TW lops.length false) with
 |none=>rw[hp] at hok;cases hok
 |some L'=>
    rw[hp] at hok;exact sF hs (m:=t.dep) (fr:=true) (fun f3 a3 w3 hf3 hc3 hk3=>(jY hs t true true f3 L' a3 w3 hf3 hok (fun _=>rfl) hc3 hk3).1 rfl) pre lops.length _ l a _ (by simpa[Uk] using hlen) hp (fun _=>rfl) ha (fun _=>hc) h
 have h2:=wp_region_any (P:=P) (id:=id) (ops:=lops.toArray) (Q:=kL fun a w=>Q .normal a w) (a:=a) (w:=w) hm (by
  have:=h1.any;simpa[World.drewN] using this)
 refine wp_mono h2 ?_;intro e a' w' hq;cases e<;>first|exact hq|exact hq.elim
variable {r:List Nat}{i:Nat}{op:Op}{ty:TypeId}{pos:String}{aft:Array Edge}{d:Nat}{v:Value}{t u:OT}{fr:Bool}
theorem Sz.calm(hi:ops[i]?=some ⟨some d,op,ty,pos,aft,none⟩)(he:effs.contains i=false)(hv:Cm P N (CHr R CH i) l ⟨some d,op,ty,pos,aft,none⟩ v)(hd:SH d N.n=true)
 (h:Sz P N ops n R CH effs K0 fr r ((d,v)::l) w):Sz P N ops n R CH effs K0 fr (i::r) l w:=
 ⟨_,hi,by rw[he];exact⟨v,fun a ha=>.inl ⟨by simp[Region.wanted],fun w hw=>hv a w ha hw⟩,_,fun a ha=>ha.put hd v,h⟩⟩
def KW(P:Program)(N:Nt)(ops:Array Oper)(n:Nat)(R:List Nat)(CH:Array Obj→Prop)(effs:List Nat)(K0:Act→World→Prop)(fr:Bool)(r:List Nat):Exit→Act→World→Prop:=kL fun a w=>∃ l',bS N l' a∧(fr=true→CH w.heap)∧Sz P N ops n R CH effs K0 fr r l' w
theorem RH{o:Oper}(hi:ops[i]?=some o)(he:effs.contains i=true)(h:Sl P N ops (KW P N ops n R CH effs K0 (fr && !Tt i n) r) [o] l w):Sz P N ops n R CH effs K0 fr (i::r) l w:=
 ⟨_,hi,by rw[he];exact h⟩
theorem Sz.on(hc:CH w.heap)(h:Sz P N ops n R CH effs K0 fr r l w):Sl P N ops (KW P N ops n R CH effs K0 fr r) [] l w:=fun _ ha=>⟨l,ha,fun _=>hc,h⟩
theorem Sz.off(hf:fr=false)(h:Sz P N ops n R CH effs K0 fr r l w):Sl P N ops (KW P N ops n R CH effs K0 fr r) [] l w:=fun _ ha=>⟨l,ha,fun e=>absurd (hf.symm.trans e) (by decide),h⟩
theorem RI(h:At N .normal Q l w):Sz P N ops n R CH effs (KZ P N ops n R CH effs (fun a w=>Q .normal a w) fr .fin) fr [] l w:=fun a ha=>h a ha
theorem Sz.alt{pre:List Nat}(h1:Sz P N ops n R CH effs (KZ P N ops n R CH effs K0 (fr && !Tt i n) t) fr (i::pre) l w)(h2:Sz P N ops n R CH effs (KZ P N ops n R CH effs K0 fr u) fr [] l w):Sz P N ops n R CH effs (KZ P N ops n R CH effs K0 fr (.alt i pre t u)) fr [] l w:=fun a ha=>⟨⟨l,ha,h1⟩,h2 a ha⟩
theorem Sz.stop:Sz P N ops n R CH effs (KZ P N ops n R CH effs K0 fr .stop) fr [] l w:=fun _ _=>trivial
end
theorem GD{xs:List Int}{i k:Nat}{u:Int}(hi:i<xs.length):(xs.set i u).getD k 0=if k=i then u else xs.getD k 0:=by
 by_cases h:k=i
 ·subst h;rw[R4 rfl,Sj,List.getElem?_set_self hi];rfl
 ·rw[R3 h,Sj,List.getElem?_set_ne (fun e=>h e.symm)];rfl
def wx(i j k:Nat):Nat:=if k=j then i else if k=i then j else k
def gK(xs:List Int)(i j:Nat):List Int:=(xs.set i (xs.getD j 0)).set j (xs.getD i 0)
theorem kB(xs:List Int)(i j:Nat):(gK xs i j).length=xs.length:=by simp[gK]
theorem kY{xs:List Int}{i j k:Nat}(hi:i<xs.length)(hj:j<xs.length):(gK xs i j).getD k 0=xs.getD (wx i j k) 0:=by
 unfold gK wx;rw[GD (by simpa using hj),GD hi];by_cases h1:k=j
 ·rw[R4 h1,R4 h1]
 · rw[R3 h1,R3 h1]
   by_cases h2:k=i
   ·rw[R4 h2,R4 h2]
   ·rw[R3 h2,R3 h2]
theorem swap_perm{xs:List Int}{i j:Nat}(hi:i<xs.length)(hj:j<xs.length):(gK xs i j).Perm xs:=by
 have h:=Array.swap_perm (xs:=xs.toArray) (i:=i) (j:=j) (by simpa using hi) (by simpa using hj);have e1:xs.getD j 0=xs[j]:=by simp[Sj,hj]
 have e2:xs.getD i 0=xs[i]:=by simp[Sj,hi]
 have e:(xs.toArray.swap i j (by simpa using hi) (by simpa using hj)).toList=gK xs i j:=by
  unfold gK;rw[e1,e2];simp[Array.swap]
 have h2:=Array.perm_iff_toList_perm.1 h;rw[e] at h2;exact h2
def sx(a b n k:Nat):Nat:=if a≤k∧k<a+n then k-a+b else if b≤k∧k<b+n then k-b+a else k
theorem kO(a b n k:Nat):(a≤k∧k<a+n∧sx a b n k=k-a+b)∨(¬ (a≤k∧k<a+n)∧b≤k∧k<b+n∧sx a b n k=k-b+a)∨(¬ (a≤k∧k<a+n)∧¬ (b≤k∧k<b+n)∧sx a b n k=k):=by
 unfold sx;by_cases h1:a≤k∧k<a+n
 ·rw[R4 h1];exact .inl ⟨h1.1,h1.2,rfl⟩
 · rw[R3 h1]
   by_cases h2:b≤k∧k<b+n
   ·rw[R4 h2];exact .inr (.inl ⟨h1,h2.1,h2.2,rfl⟩)
   ·rw[R3 h2];exact .inr (.inr ⟨h1,h2,rfl⟩)
theorem HV(a b k:Nat):sx a b 0 k=k:=by have:=kO a b 0 k;omega
theorem eD(i j k:Nat):(k=j∧wx i j k=i)∨(k≠j∧k=i∧wx i j k=j)∨(k≠j∧k≠i∧wx i j k=k):=by
 unfold wx;by_cases h1:k=j
 ·rw[R4 h1];exact .inl ⟨h1,rfl⟩
 · rw[R3 h1]
   by_cases h2:k=i
   ·rw[R4 h2];exact .inr (.inl ⟨h1,h2,rfl⟩)
   ·rw[R3 h2];exact .inr (.inr ⟨h1,h2,rfl⟩)
theorem HW{a b i k:Nat}(h:a+i<b):sx a b i (wx (a+i) (b+i) k)=sx a b (i+1) k:=by
 have h1:=eD (a+i) (b+i) k;have h2:=kO a b i (wx (a+i) (b+i) k);have h3:=kO a b (i+1) k;omega
def rx(a m b k:Nat):Nat:=if a≤k∧k<a+(b-m) then k-a+m else if a+(b-m)≤k∧k<b then k-(b-m) else k
theorem dG(a m b k:Nat):(a≤k∧k<a+(b-m)∧rx a m b k=k-a+m)∨(¬ (a≤k∧k<a+(b-m))∧a+(b-m)≤k∧k<b∧rx a m b k=k-(b-m))∨(¬ (a≤k∧k<a+(b-m))∧¬ (a+(b-m)≤k∧k<b)∧rx a m b k=k):=by
 unfold rx;by_cases h1:a≤k∧k<a+(b-m)
 ·rw[R4 h1];exact .inl ⟨h1.1,h1.2,rfl⟩
 · rw[R3 h1]
   by_cases h2:a+(b-m)≤k∧k<b
   ·rw[R4 h2];exact .inr (.inl ⟨h1,h2.1,h2.2,rfl⟩)
   ·rw[R3 h2];exact .inr (.inr ⟨h1,h2,rfl⟩)
theorem JA{m i j k:Nat}(h:j<i)(hj:0<j)(him:i≤m):sx (m-i) m j (rx (m-(i-j)) m (m+j) k)=rx (m-i) m (m+j) k:=by
 have h1:=dG (m-(i-j)) m (m+j) k;have h2:=kO (m-i) m j (rx (m-(i-j)) m (m+j) k);have h3:=dG (m-i) m (m+j) k;omega
theorem Jz{m i j k:Nat}(h:i<j)(hi:0<i)(him:i≤m):sx (m-i) (m+(j-i)) i (rx (m-i) m (m+(j-i)) k)=rx (m-i) m (m+j) k:=by
 have h1:=dG (m-i) m (m+(j-i)) k;have h2:=kO (m-i) (m+(j-i)) i (rx (m-i) m (m+(j-i)) k);have h3:=dG (m-i) m (m+j) k;omega
theorem Ld{m i k:Nat}(him:i≤m):sx (m-i) m i k=rx (m-i) m (m+i) k:=by
 have h2:=kO (m-i) m i k;have h3:=dG (m-i) m (m+i) k;omega
theorem dS(x:Int):(i64 x).oneCell'=true:=rfl
def StI(W0:World)(o:Option Addr)(c n:Nat)(xs:List Int)(w:World):Prop:=Own i64 3 w.heap o c xs∧xs.length=n∧aA (blk o) W0 w
theorem StI.draws{W0:World}{o:Option Addr}{c n:Nat}{xs:List Int}{w:World}(h:StI W0 o c n xs w)(k:Nat):StI W0 o c n xs (w.drewN k):=⟨h.1,h.2.1,h.2.2.draws k⟩
theorem StI.RY{W0:World}{o:Option Addr}{c n:Nat}{xs:List Int}{w w':World}(h:StI W0 o c n xs w)(f:aA nob w w'):StI W0 o c n xs w':=⟨h.1.RY f,h.2.1,h.2.2.trans (f.mono (fun _ h=>h.elim))⟩
theorem rT(W0:World)(o:Option Addr)(c n a b m:Nat)(fv:Value)(xs:List Int)(W:World)(h:StI W0 o c n xs W)(hab:a+m≤b)(hbm:b+m≤n)(hn:n≤1000000) :
 CA 237 [.slice o n c,iV a,iV b,iV m,fv] W fun v w'=>v=.tuple #[]∧∃ ys,StI W0 o c n ys w'∧ys.Perm xs∧∀ k,ys.getD k 0=xs.getD (sx a b m k) 0:=by
 refine cS 38 [(0,_),(1,_),(2,_),(3,_),(4,_)] Tryz.func237 ?_;refine Gz 6 ?_;refine Oy (β:=Nat×List Int) (fun⟨i,ys⟩=>[(0,.slice o n c),(1,iV a),(2,iV b),(3,iV m),(10,iV i)]) (fun⟨i,ys⟩ w=>i≤m∧StI W0 o c n ys w∧ys.Perm xs∧∀ k,ys.getD k 0=xs.getD (sx a b i k) 0) (fun⟨i,ys⟩=>m-i) ⟨0,xs⟩ ⟨rfl,rfl,rfl,rfl,rfl,trivial⟩ ⟨Sf _,h,List.Perm.refl _,fun k=>by rw[HV]⟩ ?_;rintro⟨i,ys⟩ w2 ⟨hi,hy,hp,hk⟩;refine fK 5 ?_ ?_<;>intro h13
 ·have him:i<m:=by omega
  refine Gz 7 ?_;have hyl:=hy.2.1;refine Pi 21 [13,19] (fun H=>Vw i64 H o c ys) [21,23] [0,1,2,3,4,5,6,7,8,9,10,11,12,13,14,15,16,17,18,19,20] (.alt 21 [22] (.alt 23 [] .fin .stop) .stop) aM (by kernel_rfl) (hy.1.vw) ?_;refine Sz.calm rfl rfl (Oz rfl) rfl ?_;refine Sz.calm rfl rfl (Oz rfl) rfl ?_;refine Sz.calm rfl rfl (Oz rfl) rfl ?_;refine Sz.calm rfl rfl (Pb rfl rfl (by omega)) rfl ?_;refine Sz.calm rfl rfl (Oz rfl) rfl ?_;refine Sz.calm rfl rfl (Oz rfl) rfl ?_;refine Sz.calm rfl rfl (Oz rfl) rfl ?_;refine Sz.calm rfl rfl (Pb rfl rfl (by omega)) rfl ?_;refine Sz.calm rfl rfl (Oz rfl) rfl ?_;refine Sz.calm rfl rfl (Oz rfl) rfl ?_;refine Sz.calm rfl rfl (Oz rfl) rfl ?_;refine Sz.calm rfl rfl (Pb rfl rfl (by omega)) rfl ?_;refine Sz.calm rfl rfl (Ou bP rfl rfl (by rw[←hy.2.1];exact hy.1.vw.non) (by omega)) rfl ?_;refine Sz.calm rfl rfl (OB aL rfl (fun H (hH:Vw i64 H o c ys)=>hH.gz 0 (b+i) (by omega) (by omega))) rfl ?_;refine Sz.calm rfl rfl (Oz rfl) rfl ?_;refine Sz.calm rfl rfl (Oz rfl) rfl ?_;refine Sz.calm rfl rfl (Oz rfl) rfl ?_;refine Sz.calm rfl rfl (Pb rfl rfl (by omega)) rfl ?_;refine Sz.calm rfl rfl (Ou bP rfl rfl (by rw[←hy.2.1];exact hy.1.vw.non) (by omega)) rfl ?_;refine Sz.calm rfl rfl (OB aL rfl (fun H (hH:Vw i64 H o c ys)=>hH.gz 0 (a+i) (by omega) (by omega))) rfl ?_;refine Sz.calm rfl rfl (Ou bP rfl rfl (by rw[←hy.2.1];exact hy.1.vw.non) (by omega)) rfl ?_;refine Sz.alt ?_ ?_
  ·refine RH rfl rfl (O0 dS aL (z:=(a:Int)+i) (u:=ys.getD (b+i) 0) rfl rfl (hy.draws 1).1 (by omega) ?_);intro w3 ho3 hs3 hf3;refine Sz.off rfl ?_;refine Sz.calm rfl rfl (Ou bP rfl rfl (by rw[←hy.2.1];exact hy.1.vw.non) (by omega)) rfl ?_;refine Sz.alt ?_ ?_
   ·refine RH rfl rfl (O0 dS aL (z:=(b:Int)+i) (u:=ys.getD (a+i) 0) rfl rfl ho3 (by rw[S7];omega) ?_);intro w4 ho4 hs4 hf4;have e1:((a:Int)+i).toNat=a+i:=by omega
    have e2:((b:Int)+i).toNat=b+i:=by omega
    rw[e1,e2] at ho4;refine Sz.off rfl ?_;refine RI ?_;refine Gz 7 ?_;refine aG ⟨i+1,gK ys (a+i) (b+i)⟩ ⟨by omega,⟨ho4,by rw[kB];exact hyl,((hy.2.2.draws 1).trans hf3).trans hf4⟩,(swap_perm (by omega) (by omega)).trans hp,fun k=>?_⟩ (by show m-(i+1)<m-i;omega);rw[kY (by omega) (by omega),hk,HW (by omega)]
   exact Sz.stop
  exact Sz.stop
 have hie:i=m:=by omega
 subst hie;refine Gz 7 ?_;refine OQ rfl ?_;exact⟨_,rfl,rfl,ys,hy,hp,hk⟩
theorem DW(W0:World)(o:Option Addr)(c n a m b:Nat)(fv:Value)(xs:List Int)(W:World)(h:StI W0 o c n xs W)(ham:a<m)(hmb:m<b)(hbn:b≤n)(hn:n≤1000000) :
 CA 236 [.slice o n c,iV a,iV m,iV b,fv] W fun v w'=>v=.tuple #[]∧∃ ys,StI W0 o c n ys w'∧ys.Perm xs∧∀ k,ys.getD k 0=xs.getD (rx a m b k) 0:=by
 refine cS 58 [(0,_),(1,_),(2,_),(3,_),(4,_)] Tryz.func236 ?_;refine Gz 18 ?_;refine Oy (β:=Nat×Nat×List Int) (fun⟨i,j,ys⟩=>[(0,.slice o n c),(2,iV m),(4,fv),(10,iV i),(11,iV j)]) (fun⟨i,j,ys⟩ w=>(0<i∧0<j∧i≤m∧m+j≤n)∧StI W0 o c n ys w∧ys.Perm xs∧∀ k,xs.getD (rx a m b k) 0=ys.getD (rx (m-i) m (m+j) k) 0) (fun⟨i,j,ys⟩=>i+j) ⟨m-a,b-m,xs⟩ ⟨rfl,rfl,rfl,(congrArg (fun z:Int=>some (Value.int .i64 z)) (by omega)),(congrArg (fun z:Int=>some (Value.int .i64 z)) (by omega)),trivial⟩ ⟨⟨by omega,by omega,by omega,by omega⟩,h,List.Perm.refl _,fun k=>by rw[show m-(m-a)=a by omega,show m+(b-m)=b by omega]⟩ ?_;rintro⟨i,j,ys⟩ w2 ⟨⟨hi0,hj0,him,hjn⟩,hy,hp,hk⟩;refine fK 5 ?_ ?_<;>intro h20
 ·refine fK 10 ?_ ?_<;>intro h23
  ·refine Gz 12 ?_;obtain⟨a1,ha1⟩:∃ a1:Nat,a1=m-i:=⟨_,rfl⟩
   refine Ot GM rfl ((by rw[show ((m:Int)-i)=((m-i:Nat):Int) by omega];exact rT W0 o c n (m-i) m j fv ys w2 hy (by omega) (by omega) hn)) rfl ?_;rintro _ w3 ⟨rfl,zs,hz,hzp,hzk⟩;refine Gz 9 ?_
   first
   |exact ON ⟨i-j,j,zs⟩ ⟨rfl,rfl,rfl,congrArg (fun z:Int=>some (Value.int .i64 z)) (by omega),rfl,trivial⟩ ⟨⟨by omega,by omega,by omega,by omega⟩,hz,hzp.trans hp,fun k=>by rw[hk,hzk,JA (by omega) hj0 him]⟩ (by show i-j+j<i+j;omega)
   |exact ON ⟨i,j-i,zs⟩ ⟨rfl,rfl,rfl,rfl,congrArg (fun z:Int=>some (Value.int .i64 z)) (by omega),trivial⟩ ⟨⟨by omega,by omega,by omega,by omega⟩,hz,hzp.trans hp,fun k=>by rw[hk,hzk,Jz (by omega) hi0 him]⟩ (by show i+(j-i)<i+j;omega)
  refine Gz 16 ?_;refine Ot GM rfl ((by rw[show ((m:Int)-i)=((m-i:Nat):Int) by omega,show ((m:Int)+j-i)=((m+(j-i):Nat):Int) by omega];exact rT W0 o c n (m-i) (m+(j-i)) i fv ys w2 hy (by omega) (by omega) hn)) rfl ?_;rintro _ w3 ⟨rfl,zs,hz,hzp,hzk⟩;refine Gz 9 ?_
  first
  |exact ON ⟨i-j,j,zs⟩ ⟨rfl,rfl,rfl,congrArg (fun z:Int=>some (Value.int .i64 z)) (by omega),rfl,trivial⟩ ⟨⟨by omega,by omega,by omega,by omega⟩,hz,hzp.trans hp,fun k=>by rw[hk,hzk,JA (by omega) hj0 him]⟩ (by show i-j+j<i+j;omega)
  |exact ON ⟨i,j-i,zs⟩ ⟨rfl,rfl,rfl,rfl,congrArg (fun z:Int=>some (Value.int .i64 z)) (by omega),trivial⟩ ⟨⟨by omega,by omega,by omega,by omega⟩,hz,hzp.trans hp,fun k=>by rw[hk,hzk,Jz (by omega) hi0 him]⟩ (by show i+(j-i)<i+j;omega)
 have hij:i=j:=by omega
 subst hij;refine Gz 16 ?_;refine Ot GM rfl ((by rw[show ((m:Int)-i)=((m-i:Nat):Int) by omega];exact rT W0 o c n (m-i) m i fv ys w2 hy (by omega) (by omega) hn)) rfl ?_;rintro _ w3 ⟨rfl,zs,hz,hzp,hzk⟩;refine Gz 1 ?_;refine OQ rfl ?_;exact⟨_,rfl,rfl,zs,hz,hzp.trans hp,fun k=>by rw[hk,hzk,Ld him]⟩
section
variable {K:Int→List (List UInt8)}
def ltS(K:Int→List By)(x y:Int):Prop:=bT (K x) (K y)<0∨(bT (K x) (K y)=0∧x<y)
theorem kU{x y z:Int}(h1:ltS K x y)(h2:ltS K y z):ltS K x z:=by
 rcases h1 with h1|⟨h1,g1⟩
 · rcases h2 with h2|⟨h2,g2⟩
   ·exact .inl (mI h1 h2)
   ·rw[jE h2] at h1;exact .inl h1
 · rcases h2 with h2|⟨h2,g2⟩
   ·rw[←jE h1] at h2;exact .inl h2
   ·exact .inr ⟨by rw[jE h1,h2],by omega⟩
theorem kT{x y:Int}(h:bT (K y) (K x)<0):ltS K y x:=.inl h
theorem mA{x y:Int}(hxy:x<y)(h:¬ bT (K y) (K x)<0):ltS K x y:=by
 have:=tV (K y) (K x);by_cases e:bT (K x) (K y)=0
 ·exact .inr ⟨e,hxy⟩
 ·exact .inl (by omega)
end
def Srt(K:Int→List By)(xs:List Int)(a b:Nat):Prop:=∀ i j:Nat,a≤i→i<j→j<b→ltS K (xs.getD i 0) (xs.getD j 0)
def Inc(xs:List Int)(a b:Nat):Prop:=∀ i j:Nat,a≤i→i<j→j<b→xs.getD i 0<xs.getD j 0
def StB(xs:List Int)(a m b:Nat):Prop:=∀ i j:Nat,a≤i→i<m→m≤j→j<b→xs.getD i 0<xs.getD j 0
def Seg(xs ys:List Int)(a b:Nat):Prop:=ys.length=xs.length∧ys.Perm xs∧(∀ k:Nat,(k<a∨b≤k)→ys.getD k 0=xs.getD k 0)∧∀ k:Nat,a≤k→k<b→∃ k':Nat,a≤k'∧k'<b∧ys.getD k 0=xs.getD k' 0
theorem RJ(xs:List Int)(a b:Nat):Seg xs xs a b:=⟨rfl,List.Perm.refl _,fun _ _=>rfl,fun k h1 h2=>⟨k,h1,h2,rfl⟩⟩
theorem Seg.trans{xs ys zs:List Int}{a b:Nat}(h:Seg xs ys a b)(g:Seg ys zs a b):Seg xs zs a b:=
 ⟨g.1.trans h.1,g.2.1.trans h.2.1,fun k hk=>(g.2.2.1 k hk).trans (h.2.2.1 k hk),fun k h1 h2=>by
  obtain⟨k',a1,a2,a3⟩:=g.2.2.2 k h1 h2;obtain⟨k'',b1,b2,b3⟩:=h.2.2.2 k' a1 a2;exact⟨k'',b1,b2,a3.trans b3⟩⟩
theorem Seg.wide{xs ys:List Int}{a b a' b':Nat}(h:Seg xs ys a b)(ha:a'≤a)(hb:b≤b'):Seg xs ys a' b':=
 ⟨h.1,h.2.1,fun k hk=>h.2.2.1 k (by omega),fun k h1 h2=>by
  by_cases hk:a≤k∧k<b
  · obtain⟨k',a1,a2,a3⟩:=h.2.2.2 k hk.1 hk.2
    exact⟨k',by omega,by omega,a3⟩
  ·exact⟨k,h1,h2,h.2.2.1 k (by omega)⟩⟩
theorem Seg.swap{xs ys:List Int}{a b i j:Nat}(h:Seg xs ys a b)(hi:a≤i∧i<b)(hj:a≤j∧j<b)(hb:b≤ys.length):Seg xs (gK ys i j) a b:=by
 refine h.trans ⟨kB _ _ _,swap_perm (by omega) (by omega),fun k hk=>?_,fun k h1 h2=>⟨wx i j k,?_,?_,kY (by omega) (by omega)⟩⟩
 · rw[kY (by omega) (by omega)]
   have:=eD i j k;rw[show wx i j k=k by omega]
 ·have:=eD i j k;omega
 ·have:=eD i j k;omega
theorem GE{xs:List Int}{k:Nat}(h:k<xs.length):xs.getD k 0∈xs:=by
 have:xs.getD k 0=xs[k]:=by simp[Sj,h]
 rw[this];exact List.getElem_mem h
structure Jw (W0:World)(o:Option Addr)(f:FuncId)(cs:List Value)(V:Int→Prop)(K:Int→List By):Prop where
 fn:fnB Tryz.prog f=true
 call:∀ (w:World) (x y:Int),aA (blk o) W0 w→V x→V y→Calls Tryz.prog f ([Value.int .i64 x,Value.int .i64 y]++cs).toArray w (Ret fun v w'=>v=iV (bT (K x) (K y))∧aA nob w w')
def EY(K:Int→List By)(ys:List Int)(a i j:Nat):Prop:=(∀ p q:Nat,a≤p→p<q→q≤i→p≠j→q≠j→ltS K (ys.getD p 0) (ys.getD q 0))∧(∀ q:Nat,j<q→q≤i→ltS K (ys.getD j 0) (ys.getD q 0))∧∀ p:Nat,a≤p→p≤i→p≠j→ys.getD p 0<ys.getD j 0
theorem EY.step{K:Int→List By}{ys:List Int}{a i j:Nat}(h:EY K ys a i j)(haj:a<j)(hji:j≤i)(hi:i<ys.length)(hl:bT (K (ys.getD j 0)) (K (ys.getD (j-1) 0))<0):EY K (gK ys j (j-1)) a i (j-1):=by
 obtain⟨h1,h2,h3⟩:=h;have g:∀ k,(gK ys j (j-1)).getD k 0=ys.getD (wx j (j-1) k) 0:=fun k=>kY (by omega) (by omega);have gj:(gK ys j (j-1)).getD (j-1) 0=ys.getD j 0:=by rw[g];have:=eD j (j-1) (j-1);rw[show wx j (j-1) (j-1)=j by omega]
 refine⟨fun p q hp hpq hq n1 n2=>?_,fun q hq hqi=>?_,fun p hp hpi hne=>?_⟩
 · rw[g,g]
   have s1:=eD j (j-1) p;have s2:=eD j (j-1) q;exact h1 _ _ (by omega) (by omega) (by omega) (by omega) (by omega)
 · rw[gj,g]
   have s2:=eD j (j-1) q;by_cases e:q=j
   ·rw[show wx j (j-1) q=j-1 by omega];exact .inl hl
   ·rw[show wx j (j-1) q=q by omega];exact h2 q (by omega) hqi
 · rw[gj,g]
   have s2:=eD j (j-1) p;exact h3 _ (by omega) (by omega) (by omega)
theorem EY.done{K:Int→List By}{ys:List Int}{a i j:Nat}(h:EY K ys a i j)(haj:a≤j)(hji:j≤i)(hs:a<j→¬ bT (K (ys.getD j 0)) (K (ys.getD (j-1) 0))<0):Srt K ys a (i+1):=by
 obtain⟨h1,h2,h3⟩:=h;have hl:∀ p,a≤p→p<j→ltS K (ys.getD p 0) (ys.getD j 0):=fun p hp hpj=>by
  have h4:=mA (h3 (j-1) (by omega) (by omega) (by omega)) (hs (by omega));by_cases e:p=j-1
  ·rw[e];exact h4
  ·exact kU (h1 p (j-1) hp (by omega) (by omega) (by omega) (by omega)) h4
 intro p q hp hpq hq;by_cases e1:p=j
 ·subst e1;exact h2 q hpq (by omega)
 · by_cases e2:q=j
   ·subst e2;exact hl p hp hpq
   ·exact h1 p q hp hpq (by omega) e1 e2
theorem tB{K:Int→List By}{V:Int→Prop}{f:FuncId}{cs:List Value}(W0:World)(o:Option Addr)(hC:Jw W0 o f cs V K)(c n a b:Nat)(xs:List Int)(W:World)(h:StI W0 o c n xs W)(hV:∀ z∈xs,V z)(hab:a≤b)(hbn:b≤n)(hn:n≤1000000)(hinc:Inc xs a b) :
 CA 229 [.slice o n c,iV a,iV b,.func (.func f) #[] cs.toArray] W fun v w'=>v=.tuple #[]∧∃ ys,StI W0 o c n ys w'∧Seg xs ys a b∧Srt K ys a b:=by
 refine cS 53 [(0,_),(1,_),(2,_),(3,_)] Tryz.func229 ?_;refine Gz 8 ?_;refine Oy (β:=Nat×List Int) (fun⟨i,ys⟩=>[(0,.slice o n c),(1,iV a),(2,iV b),(3,.func (.func f) #[] cs.toArray),(8,iV i)]) (fun⟨i,ys⟩ w=>(a<i∧(i≤b∨i=a+1))∧StI W0 o c n ys w∧Seg xs ys a (min i b)∧Srt K ys a i) (fun⟨i,ys⟩=>b-i) ⟨a+1,xs⟩ ⟨rfl,rfl,rfl,rfl,rfl,trivial⟩ ⟨⟨by omega,.inr rfl⟩,h,RJ _ _ _,fun p q h1 h2 h3=>by omega⟩ ?_;rintro⟨i,ys⟩ w2 ⟨⟨hai,hib0⟩,hy,hs1,ht1⟩;refine fK 5 ?_ ?_<;>intro h14
 ·have hib:i<b:=by omega
  have hyl:=hy.2.1;refine Gz 5 ?_;refine O1 (β:=List Int) (fun vs=>[(0,.slice o n c),(1,iV a),(2,iV b),(3,.func (.func f) #[] cs.toArray),(8,iV i)]) (fun vs w=>StI W0 o c n vs w∧Seg xs vs a (i+1)∧Srt K vs a (i+1)) ?_ ?_
  ·refine Gz 8 ?_;refine Oy (β:=Nat×List Int) (fun⟨j,zs⟩=>[(0,.slice o n c),(1,iV a),(2,iV b),(3,.func (.func f) #[] cs.toArray),(8,iV i),(9,iV j)]) (fun⟨j,zs⟩ w=>a≤j∧j≤i∧StI W0 o c n zs w∧Seg xs zs a (i+1)∧EY K zs a i j) (fun⟨j,zs⟩=>j) ⟨i,ys⟩ ⟨rfl,rfl,rfl,rfl,rfl,rfl,trivial⟩ ⟨by omega,Sa _,hy,by rw[Td (by omega)] at hs1;exact hs1.wide (Sa _) (by omega),⟨fun p q h1 h2 h3 h4 h5=>ht1 p q h1 h2 (by omega),fun q h1 h2=>by omega,fun p h1 h2 h3=>by rw[Td (by omega)] at hs1;obtain⟨k,k1,k2,k3⟩:=hs1.2.2.2 p h1 (by omega);rw[k3,hs1.2.2.1 i (.inr (Sa _))];exact hinc k i k1 k2 hib⟩⟩ ?_;rintro⟨j,zs⟩ w4 ⟨haj,hji,hz,hs2,hI⟩;refine Gz 2 ?_;refine OI 17 (fun H=>Vw i64 H o c zs) [14] [0,1,2,3,4,5,6,7,8,9,10,11,12,13,14,15,16] aM (by kernel_rfl) (hz.1.vw) ?_;refine xK 2 ?_ ?_<;>intro h20
   ·have hzl:=hz.2.1;have hVz:∀ k:Nat,k<n→V (zs.getD k 0):=fun k hk=>hV _ (hs2.2.1.mem_iff.1 (GE (by omega)));refine Gz 4 ?_;refine xV rfl (Ou bP rfl rfl (by rw[←hz.2.1];exact hz.1.vw.non) (by omega)) ?_;refine xV rfl (OB aL rfl (fun H (hH:Vw i64 H o c zs)=>hH.gz 0 j rfl (by omega))) ?_;refine Gz 3 ?_;refine xV rfl (Ou bP rfl rfl (by rw[←hz.2.1];exact hz.1.vw.non) (by omega)) ?_;refine xV rfl (OB aL rfl (fun H (hH:Vw i64 H o c zs)=>hH.gz 0 (j-1) (by omega) (by omega))) ?_;refine OE rfl rfl (QC rfl rfl <| O9 hC.fn rfl rfl (hC.call _ (zs.getD j 0) (zs.getD (j-1) 0) (hz.draws 1).2.2 (hVz j (by omega)) (hVz (j-1) (by omega))) rfl ?_);intro v5 w5 hr5;obtain⟨rfl,hf5⟩:=hr5;have hz5:StI W0 o c n zs w5:=(hz.draws 1).RY hf5;refine OK (by exact hz5.1.vw) ?_;refine xW 0 ?_ ?_<;>intro h33
    ·refine Gz 8 ?_;refine Pi 15 [9,13] (fun H=>Vw i64 H o c zs) [15,17] [0,1,2,3,4,5,6,7,8,9,10,11,12,13,14] (.alt 15 [16] (.alt 17 [] .fin .stop) .stop) aM (by kernel_rfl) (hz5.1.vw) ?_;refine Sz.calm rfl rfl (Oz rfl) rfl ?_;refine Sz.calm rfl rfl (Oz rfl) rfl ?_;refine Sz.calm rfl rfl (Oz rfl) rfl ?_;refine Sz.calm rfl rfl (Oz rfl) rfl ?_;refine Sz.calm rfl rfl (Pj rfl rfl (by omega)) rfl ?_;refine Sz.calm rfl rfl (Oz rfl) rfl ?_;refine Sz.calm rfl rfl (Oz rfl) rfl ?_;refine Sz.calm rfl rfl (Pj rfl rfl (by omega)) rfl ?_;refine Sz.calm rfl rfl (Ou bP rfl rfl (by rw[←hz.2.1];exact hz.1.vw.non) (by omega)) rfl ?_;refine Sz.calm rfl rfl (OB aL rfl (fun H (hH:Vw i64 H o c zs)=>hH.gz 0 (j-1) (by omega) (by omega))) rfl ?_;refine Sz.calm rfl rfl (Oz rfl) rfl ?_;refine Sz.calm rfl rfl (Oz rfl) rfl ?_;refine Sz.calm rfl rfl (Ou bP rfl rfl (by rw[←hz.2.1];exact hz.1.vw.non) (by omega)) rfl ?_;refine Sz.calm rfl rfl (OB aL rfl (fun H (hH:Vw i64 H o c zs)=>hH.gz 0 j rfl (by omega))) rfl ?_;refine Sz.calm rfl rfl (Ou bP rfl rfl (by rw[←hz.2.1];exact hz.1.vw.non) (by omega)) rfl ?_;refine Sz.alt ?_ ?_
     ·refine RH rfl rfl (O0 dS aL (z:=(j:Int)) (u:=zs.getD (j-1) 0) rfl rfl (hz5.draws 1).1 (by omega) ?_);intro w6 ho6 hs6 hf6;refine Sz.off rfl ?_;refine Sz.calm rfl rfl (Ou bP rfl rfl (by rw[←hz.2.1];exact hz.1.vw.non) (by omega)) rfl ?_;refine Sz.alt ?_ ?_
      ·refine RH rfl rfl (O0 dS aL (z:=(j:Int)-1) (u:=zs.getD j 0) rfl rfl ho6 (by rw[S7];omega) ?_);intro w7 ho7 hs7 hf7;have e2:((j:Int)-1).toNat=j-1:=by omega
       rw[e2] at ho7;refine Sz.off rfl ?_;refine RI ?_;refine Gz 7 ?_;exact ON ⟨j-1,gK zs j (j-1)⟩ ⟨rfl,rfl,rfl,rfl,rfl,congrArg (fun z:Int=>some (Value.int .i64 z)) (by omega),trivial⟩ ⟨by omega,by omega,⟨ho7,by rw[kB];exact hzl,((hz5.2.2.draws 1).trans hf6).trans hf7⟩,hs2.swap ⟨by omega,by omega⟩ ⟨by omega,by omega⟩ (by omega),hI.step (by omega) hji (by omega) h33⟩ (by show j-1<j;omega)
      exact Sz.stop
     exact Sz.stop
    have hstop:a<j→¬ bT (K (zs.getD j 0)) (K (zs.getD (j-1) 0))<0:=fun _=>h33;refine Gz 9 ?_
    first
    |exact aC zs ⟨hz5,hs2,hI.done haj hji hstop⟩
    |exact aC zs ⟨hz.draws 1,hs2,hI.done haj hji hstop⟩
   have hstop:a<j→¬ bT (K (zs.getD j 0)) (K (zs.getD (j-1) 0))<0:=fun h=>by omega
   refine Gz 11 ?_;refine OE rfl rfl (Ql rfl rfl rfl rfl ?_);refine OK (by exact hz.1.vw) ?_;refine Gz 10 ?_
   first
   |exact aC zs ⟨hz5,hs2,hI.done haj hji hstop⟩
   |exact aC zs ⟨hz.draws 1,hs2,hI.done haj hji hstop⟩
  rintro vs w8 ⟨hv8,hs8,ht8⟩;refine Gz 5 ?_;exact aG ⟨i+1,vs⟩ ⟨⟨by omega,.inl (by omega)⟩,hv8,by rw[Td (by omega)];exact hs8,ht8⟩ (by show b-(i+1)<b-i;omega)
 have hbi:b≤i:=by omega
 refine Gz 7 ?_;refine OQ rfl ?_;refine⟨_,rfl,rfl,ys,hy,by rw[Nat.min_eq_right hbi] at hs1;exact hs1,fun p q h1 h2 h3=>ht1 p q h1 h2 (by omega)⟩
section
variable {P:Program}{N:Nt}{l:SF}{ty t':TypeId}{pos:String}{aft:Array Edge}{dd:Option Nat}{g:Option (Nat×Bool)}{CH:Array Obj→Prop}{x y:Operand}{t:TypeId}{m n:Int}{k':IntKind}
theorem PA(hx:evL l x=some (.int .u64 m))(hy:evL l y=some (.int k' n))(hn:0≤n∧n≤64):Cm P N CH l ⟨dd,.binOp .shr t x y t',ty,pos,aft,g⟩ (.int .u64 (m/2 ^ n.toNat)):=fun a w ha _=>by
 have h1:¬ (n<0):=by omega
 have h2:min n.toNat 64=n.toNat:=by omega
 have h3:m.fdiv (2 ^ n.toNat)=m/2 ^ n.toNat:=Int.fdiv_eq_ediv_of_nonneg _ (Int.pow_nonneg (by decide));have h4:(Op.shift .shr .u64 m k' n).run P w=.ok (.int .u64 (m/2 ^ n.toNat)) w:=by
  unfold Op.shift;rw[R3 h1];show (pure (Value.int .u64 (m.fdiv (2 ^ min n.toNat 64))):Sem Value).run P w=_;rw[h2,h3];rfl
 simp only[execOp,ha.ev hx,ha.ev hy,eqGuard,binOp,Sem.run_bind];simp
end
theorem zM{z:Int}(h:0≤z∧z<18446744073709551616):IntKind.u64.wrap z=z:=by
 unfold IntKind.wrap;simp[IntKind.bits,IntKind.signed];omega
theorem AL{i j:Nat}(h:i+j<4611686018427387904):IntKind.i64.wrap (((i:Int)+j)/2 ^ (1:Int).toNat)=(((i+j)/2:Nat):Int):=by
 have e:(2:Int) ^ (1:Int).toNat=2:=rfl;rw[e,cI (by omega)];omega
section
variable {K:Int→List (List UInt8)}{xs ys:List Int}
theorem xM{a b i j:Nat}{z:Int}(h:Srt K xs a b)(hi:a≤i)(hij:i≤j)(hj:j<b)(hz:ltS K (xs.getD j 0) z):ltS K (xs.getD i 0) z:=by
 by_cases e:i=j
 ·rw[e];exact hz
 ·exact kU (h i j hi (by omega) hj) hz
theorem xN{a b i j:Nat}{z:Int}(h:Srt K xs a b)(hi:a≤i)(hij:i≤j)(hj:j<b)(hz:ltS K z (xs.getD i 0)):ltS K z (xs.getD j 0):=by
 by_cases e:i=j
 ·rw[←e];exact hz
 ·exact kU hz (h i j hi (by omega) hj)
def ux(a k p:Nat):Nat:=if a≤p∧p<k then p+1 else if p=k then a else p
theorem jH(a k p:Nat):(a≤p∧p<k∧ux a k p=p+1)∨(¬ (a≤p∧p<k)∧p=k∧ux a k p=a)∨(¬ (a≤p∧p<k)∧p≠k∧ux a k p=p):=by
 unfold ux;by_cases h1:a≤p∧p<k
 ·rw[R4 h1];exact .inl ⟨h1.1,h1.2,rfl⟩
 · rw[R3 h1]
   by_cases h2:p=k
   ·rw[R4 h2];exact .inr (.inl ⟨h1,h2,rfl⟩)
   ·rw[R3 h2];exact .inr (.inr ⟨h1,h2,rfl⟩)
theorem HM(a p:Nat):ux a a p=p:=by have:=jH a a p;omega
theorem HN{a k p:Nat}(h:a≤k):ux a k (wx k (k+1) p)=ux a (k+1) p:=by
 have h1:=eD k (k+1) p;have h2:=jH a k (wx k (k+1) p);have h3:=jH a (k+1) p;omega
def dx(k m p:Nat):Nat:=if p=k then m else if k<p∧p≤m then p-1 else p
theorem jN(k m p:Nat):(p=k∧dx k m p=m)∨(p≠k∧k<p∧p≤m∧dx k m p=p-1)∨(p≠k∧¬ (k<p∧p≤m)∧dx k m p=p):=by
 unfold dx;by_cases h1:p=k
 ·rw[R4 h1];exact .inl ⟨h1,rfl⟩
 · rw[R3 h1]
   by_cases h2:k<p∧p≤m
   ·rw[R4 h2];exact .inr (.inl ⟨h1,h2.1,h2.2,rfl⟩)
   ·rw[R3 h2];exact .inr (.inr ⟨h1,h2,rfl⟩)
theorem Ja(m p:Nat):dx m m p=p:=by have:=jN m m p;omega
theorem Jb{k m p:Nat}(h:k<m):dx (k+1) m (wx (k+1) k p)=dx k m p:=by
 have h1:=eD (k+1) k p;have h2:=jN (k+1) m (wx (k+1) k p);have h3:=jN k m p;omega
theorem rW{a b:Nat}{s:Nat→Nat}(hp:ys.Perm xs)(hk:∀ k,ys.getD k 0=xs.getD (s k) 0)(h1:∀ k,(k<a∨b≤k)→s k=k)(h2:∀ k,a≤k→k<b→a≤s k∧s k<b):Seg xs ys a b:=
 ⟨hp.length_eq,hp,fun k h=>by rw[hk,h1 k h],fun k ha hb=>⟨s k,(h2 k ha hb).1,(h2 k ha hb).2,hk k⟩⟩
theorem JU{a b i:Nat}(h:Srt K xs (a+1) b)(hai:a+1≤i)(hib:i≤b)(h1:a+1<i→ltS K (xs.getD (i-1) 0) (xs.getD a 0))(h2:i<b→ltS K (xs.getD a 0) (xs.getD i 0))(hk:∀ k,ys.getD k 0=xs.getD (ux a (i-1) k) 0):Srt K ys a b:=by
 have l1:∀ k,a+1≤k→k<i→ltS K (xs.getD k 0) (xs.getD a 0):=fun k p1 p2=>xM h p1 (show k≤i-1 by omega) (by omega) (h1 (by omega));have l2:∀ k,i≤k→k<b→ltS K (xs.getD a 0) (xs.getD k 0):=fun k p1 p2=>xN h (show a+1≤i by omega) p1 p2 (h2 (by omega));intro p q hp hpq hq;rw[hk,hk];rcases jH a (i-1) p with⟨_,s1,s2⟩|⟨s0,s1,s2⟩|⟨s0,s1,s2⟩<;>rcases jH a (i-1) q with⟨_,t1,t2⟩|⟨t0,t1,t2⟩|⟨t0,t1,t2⟩<;>rw[s2,t2]<;>first|(exfalso;omega)|exact h _ _ (by omega) (by omega) (by omega)|exact l1 _ (by omega) (by omega)|exact l2 _ (by omega) (by omega)
theorem KL{a m i:Nat}(h:Srt K xs a m)(hai:a≤i)(him:i≤m)(h1:a<i→ltS K (xs.getD (i-1) 0) (xs.getD m 0))(h2:i<m→ltS K (xs.getD m 0) (xs.getD i 0))(hk:∀ k,ys.getD k 0=xs.getD (dx i m k) 0):Srt K ys a (m+1):=by
 have l1:∀ k,a≤k→k<i→ltS K (xs.getD k 0) (xs.getD m 0):=fun k p1 p2=>xM h p1 (show k≤i-1 by omega) (by omega) (h1 (by omega));have l2:∀ k,i≤k→k<m→ltS K (xs.getD m 0) (xs.getD k 0):=fun k p1 p2=>xN h hai p1 p2 (h2 (by omega));intro p q hp hpq hq;rw[hk,hk];rcases jN i m p with⟨s1,s2⟩|⟨s0,s1,s3,s2⟩|⟨s0,s1,s2⟩<;>rcases jN i m q with⟨t1,t2⟩|⟨t0,t1,t3,t2⟩|⟨t0,t1,t2⟩<;>rw[s2,t2]<;>first|(exfalso;omega)|exact h _ _ (by omega) (by omega) (by omega)|exact l1 _ (by omega) (by omega)|exact l2 _ (by omega) (by omega)
structure Cut (K:Int→List By)(xs:List Int)(a m b s e md:Nat):Prop where
 has:a≤s
 hsm:s≤m
 hme:m≤e
 heb:e≤b
 hmd:s+(e-m)=md
 x1:∀ i j:Nat,a≤i→i<s→e≤j→j<b→ltS K (xs.getD i 0) (xs.getD j 0)
 x2:∀ i j:Nat,s≤i→i<m→m≤j→j<e→ltS K (xs.getD j 0) (xs.getD i 0)
theorem FC{s m e k:Nat}(hs:s≤m)(he:m≤e)(h:¬ (s<m∧m<e)):rx s m e k=k:=by
 have:=dG s m e k;omega
theorem Cut.halves{a m b s e md:Nat}(c:Cut K xs a m b s e md)(h1:Srt K xs a m)(h2:Srt K xs m b)(h3:StB xs a m b)(hk:∀ k,ys.getD k 0=xs.getD (rx s m e k) 0) :
 Srt K ys a s∧Srt K ys s md∧StB ys a s md∧Srt K ys md e∧Srt K ys e b∧StB ys md e b∧∀ i j:Nat,a≤i→i<md→md≤j→j<b→ltS K (ys.getD i 0) (ys.getD j 0):=by
 obtain⟨c1,c2,c3,c4,c5,x1,x2⟩:=c;have r:∀ k,(s≤k∧k<md∧rx s m e k=k-s+m)∨(md≤k∧k<e∧rx s m e k=k-md+s)∨((k<s∨e≤k)∧rx s m e k=k):=fun k=>by have:=dG s m e k;omega
 refine⟨fun i j p1 p2 p3=>?_,fun i j p1 p2 p3=>?_,fun i j p1 p2 p3 p4=>?_,fun i j p1 p2 p3=>?_,fun i j p1 p2 p3=>?_,fun i j p1 p2 p3 p4=>?_,fun i j p1 p2 p3 p4=>?_⟩<;>rw[hk,hk]<;>rcases r i with⟨s1,s2,s3⟩|⟨s1,s2,s3⟩|⟨s1,s3⟩<;>rcases r j with⟨t1,t2,t3⟩|⟨t1,t2,t3⟩|⟨t1,t3⟩<;>rw[s3,t3] <;>
  first|(exfalso;omega)|exact h1 _ _ (by omega) (by omega) (by omega)|exact h2 _ _ (by omega) (by omega) (by omega)|exact h3 _ _ (by omega) (by omega) (by omega) (by omega)|exact x1 _ _ (by omega) (by omega) (by omega) (by omega)|exact x2 _ _ (by omega) (by omega) (by omega) (by omega)
theorem KN{a m b md s:Nat}(ham:a<m)(hmb:m<b)(hmd:md=(a+b)/2)(h1:Srt K xs a m)(h2:Srt K xs m b){S0 R0:Nat}(hSR:(md<m∧S0=md+m-b∧R0=md)∨(¬ md<m∧S0=a∧R0=m))(hs0:S0≤s)(hsR:s≤R0)
 (g1:S0<s→ltS K (xs.getD (s-1) 0) (xs.getD (md+m-s) 0))(g2:s<R0→ltS K (xs.getD (md+m-1-s) 0) (xs.getD s 0)):Cut K xs a m b s (md+m-s) md:=by
 refine⟨by omega,by omega,by omega,by omega,by omega,fun i j p1 p2 p3 p4=>?_,fun i j p1 p2 p3 p4=>?_⟩
 · have hlt:=g1 (by omega)
   exact xM h1 p1 (show i≤s-1 by omega) (by omega) (xN h2 (show m≤md+m-s by omega) p3 p4 hlt)
 · have hlt:=g2 (by omega)
   exact xM h2 p3 (show j≤md+m-1-s by omega) (by omega) (xN h1 (show a≤s by omega) p1 p2 hlt)
theorem dC{a b:Nat}(h:Srt K ys a b)(hk:∀ k,a≤k→k<b→xs.getD k 0=ys.getD k 0):Srt K xs a b:=fun i j p1 p2 p3=>by rw[hk i p1 (by omega),hk j (by omega) p3];exact h i j p1 p2 p3
theorem Fq{a m b:Nat}(h:StB ys a m b)(hmb:m≤b)(hk:∀ k,a≤k→k<b→xs.getD k 0=ys.getD k 0):StB xs a m b:=fun i j p1 p2 p3 p4=>by rw[hk i p1 (by omega),hk j (by omega) p4];exact h i j p1 p2 p3 p4
theorem iZ{zs us:List Int}{a md b:Nat}(h1:a≤md)(h2:md≤b)(g1:Seg ys zs a md)(g2:Seg zs us md b)(s1:Srt K zs a md)(s2:Srt K us md b)(hlr:∀ i j:Nat,a≤i→i<md→md≤j→j<b→ltS K (ys.getD i 0) (ys.getD j 0)):Srt K us a b:=by
 intro i j p1 p2 p3;by_cases hj:j<md
 ·rw[g2.2.2.1 i (.inl (by omega)),g2.2.2.1 j (.inl hj)];exact s1 i j p1 p2 hj
 · by_cases hi:md≤i
   ·exact s2 i j hi p2 p3
   · rw[g2.2.2.1 i (.inl (by omega))]
     obtain⟨i',a1,a2,a3⟩:=g1.2.2.2 i p1 (by omega);obtain⟨j',b1,b2,b3⟩:=g2.2.2.2 j (by omega) p3;rw[a3,b3,g1.2.2.1 j' (.inr b1)];exact hlr i' j' a1 a2 b1 b2
end
theorem CO{K:Int→List By}{V:Int→Prop}{f:FuncId}{cs:List Value}(W0:World)(o:Option Addr)(hC:Jw W0 o f cs V K)(c n:Nat)(hn:n≤1000000):∀ (d a m b:Nat) (xs:List Int) (W:World),b-a≤d→StI W0 o c n xs W→(∀ z∈xs,V z)→a<m→m<b→b≤n→Srt K xs a m→Srt K xs m b→StB xs a m b →
 CA 230 [.slice o n c,iV a,iV m,iV b,.func (.func f) #[] cs.toArray] W fun v w'=>v=.tuple #[]∧∃ ys,StI W0 o c n ys w'∧Seg xs ys a b∧Srt K ys a b:=by
 intro d
 induction d with
|zero=>intro a m b xs W hd h hV ham hmb;omega
|succ d ih=>
   intro a m b xs W hd h hV ham hmb hbn h1 h2 h3;have hxl:=h.2.1;have hVx:∀ k:Nat,k<n→V (xs.getD k 0):=fun k hk=>hV _ (GE (by omega));refine cS 220 [(0,_),(1,_),(2,_),(3,_),(4,_)] Tryz.func230 ?_;refine fK 6 ?_ ?_<;>intro h28
   ·refine Gz 17 ?_;refine Oy (β:=Nat×Nat) (fun⟨i,j⟩=>[(0,.slice o n c),(1,iV a),(4,.func (.func f) #[] cs.toArray),(10,iV i),(11,iV j)]) (fun⟨i,j⟩ w=>(m≤i∧i≤j∧j≤b)∧StI W0 o c n xs w∧(m<i→ltS K (xs.getD (i-1) 0) (xs.getD a 0))∧(j<b→ltS K (xs.getD a 0) (xs.getD j 0))) (fun⟨i,j⟩=>j-i) ⟨m,b⟩ ⟨rfl,rfl,rfl,rfl,rfl,trivial⟩ ⟨⟨by omega,by omega,by omega⟩,h,fun h=>by omega,fun h=>by omega⟩ ?_;rintro⟨i,j⟩ w4 ⟨⟨i1,i2,i3⟩,hz,g1,g2⟩;refine fK 5 ?_ ?_<;>intro h33
    ·have hij:i<j:=by omega
     refine Gz 1 ?_;refine aW [(0,_),(1,_),(4,_),(10,_),(11,_),(33,_)] ?_;refine Gz 10 ?_;refine cL (OH (n:=((i:Int)+j)) is3 E7 rfl (zM (by omega))) ?_;refine cL (PA rfl rfl (by decide)) ?_;refine cL (OH (n:=(((i+j)/2:Nat):Int)) Gu ty3 rfl (AL (by omega))) ?_;obtain⟨q,hq⟩:∃ q:Nat,q=(i+j)/2:=⟨_,rfl⟩
     rw[←hq];refine Gz 4 ?_;refine OI 11 (fun H=>Vw i64 H o c xs) [9] [0,1,2,3,4,5,6,7,8,9,10] aM (by kernel_rfl) (hz.1.vw) ?_;refine Gz 3 ?_;refine xC rfl (Ou bP rfl rfl (by rw[←hxl];exact hz.1.vw.non) (by omega)) ?_;refine xC rfl (OB aL rfl (fun H (hH:Vw i64 H o c xs)=>hH.gz 0 q rfl (by omega))) ?_;refine Gz 2 ?_;refine xC rfl (Ou bP rfl rfl (by rw[←hxl];exact hz.1.vw.non) (by omega)) ?_;refine xC rfl (OB aL rfl (fun H (hH:Vw i64 H o c xs)=>hH.gz 0 a rfl (by omega))) ?_;refine OE rfl rfl (O9 hC.fn rfl rfl (hC.call _ (xs.getD q 0) (xs.getD a 0) (hz.draws 1).2.2 (hVx q (by omega)) (hVx a (by omega))) rfl ?_);intro v5 w5 hr5;obtain⟨rfl,hf5⟩:=hr5;have hz5:StI W0 o c n xs w5:=(hz.draws 1).RY hf5;refine OK (by exact hz5.1.vw) ?_;refine xK 0 ?_ ?_<;>intro h50
     ·refine Gz 9 ?_
      first
      |exact aG ⟨q+1,j⟩ ⟨⟨by omega,by omega,by omega⟩,hz5,fun _=>kT h50,g2⟩ (by show j-(q+1)<j-i;omega)
      |exact aG ⟨i,q⟩ ⟨⟨by omega,by omega,by omega⟩,hz5,g1,fun _=>mA (h3 a q (Sa _) ham (by omega) (by omega)) h50⟩ (by show q-i<j-i;omega)
     refine Gz 8 ?_
     first
     |exact aG ⟨q+1,j⟩ ⟨⟨by omega,by omega,by omega⟩,hz5,fun _=>kT h50,g2⟩ (by show j-(q+1)<j-i;omega)
     |exact aG ⟨i,q⟩ ⟨⟨by omega,by omega,by omega⟩,hz5,g1,fun _=>mA (h3 a q (Sa _) ham (by omega) (by omega)) h50⟩ (by show q-i<j-i;omega)
    have hije:i=j:=by omega
    subst hije;refine Gz 1 ?_;refine aW [(0,_),(1,_),(4,_),(10,_),(11,_),(33,_)] ?_;refine Gz 15 ?_;refine Oy (β:=Nat×List Int) (fun⟨k,ys⟩=>[(0,.slice o n c),(10,iV i),(13,iV k)]) (fun⟨k,ys⟩ w=>(a≤k∧k≤i-1)∧StI W0 o c n ys w∧ys.Perm xs∧∀ p,ys.getD p 0=xs.getD (ux a k p) 0) (fun⟨k,ys⟩=>i-1-k) ⟨a,xs⟩ ⟨rfl,rfl,rfl,trivial⟩ ⟨⟨Sa _,by omega⟩,hz,List.Perm.refl _,fun p=>by rw[HM]⟩ ?_;rintro⟨k,ys⟩ w4 ⟨⟨k1,k2⟩,hy,hyp,hyk⟩;refine fK 6 ?_ ?_<;>intro h58
    ·have hyl:=hy.2.1;refine Gz 1 ?_;refine aW [(0,_),(10,_),(13,_),(58,_)] ?_;refine Gz 6 ?_;refine Pi 15 [9,13] (fun H=>Vw i64 H o c ys) [15,17] [0,1,2,3,4,5,6,7,8,9,10,11,12,13,14] (.alt 15 [16] (.alt 17 [] .fin .stop) .stop) aM (by kernel_rfl) (hy.1.vw) ?_;refine Sz.calm rfl rfl (Oz rfl) rfl ?_;refine Sz.calm rfl rfl (Oz rfl) rfl ?_;refine Sz.calm rfl rfl (Oz rfl) rfl ?_;refine Sz.calm rfl rfl (Oz rfl) rfl ?_;refine Sz.calm rfl rfl (Pb rfl rfl (by omega)) rfl ?_;refine Sz.calm rfl rfl (Oz rfl) rfl ?_;refine Sz.calm rfl rfl (Oz rfl) rfl ?_;refine Sz.calm rfl rfl (Pb rfl rfl (by omega)) rfl ?_;refine Sz.calm rfl rfl (Ou bP rfl rfl (by rw[←hy.2.1];exact hy.1.vw.non) (by omega)) rfl ?_;refine Sz.calm rfl rfl (OB aL rfl (fun H (hH:Vw i64 H o c ys)=>hH.gz 0 (k+1) (by omega) (by omega))) rfl ?_;refine Sz.calm rfl rfl (Oz rfl) rfl ?_;refine Sz.calm rfl rfl (Oz rfl) rfl ?_;refine Sz.calm rfl rfl (Ou bP rfl rfl (by rw[←hy.2.1];exact hy.1.vw.non) (by omega)) rfl ?_;refine Sz.calm rfl rfl (OB aL rfl (fun H (hH:Vw i64 H o c ys)=>hH.gz 0 k rfl (by omega))) rfl ?_;refine Sz.calm rfl rfl (Ou bP rfl rfl (by rw[←hy.2.1];exact hy.1.vw.non) (by omega)) rfl ?_;refine Sz.alt ?_ ?_
     ·refine RH rfl rfl (O0 dS aL (z:=(k:Int)) (u:=ys.getD (k+1) 0) rfl rfl (hy.draws 1).1 (by omega) ?_);intro w6 ho6 hs6 hf6;refine Sz.off rfl ?_;refine Sz.calm rfl rfl (Ou bP rfl rfl (by rw[←hy.2.1];exact hy.1.vw.non) (by omega)) rfl ?_;refine Sz.alt ?_ ?_
      ·refine RH rfl rfl (O0 dS aL (z:=(k:Int)+1) (u:=ys.getD k 0) rfl rfl ho6 (by rw[S7];omega) ?_);intro w7 ho7 hs7 hf7;have e2:((k:Int)+1).toNat=k+1:=by omega
       rw[e2] at ho7;refine Sz.off rfl ?_;refine RI ?_;refine Gz 7 ?_;exact aG ⟨k+1,gK ys k (k+1)⟩ ⟨⟨by omega,by omega⟩,⟨ho7,by rw[kB];exact hyl,((hy.2.2.draws 1).trans hf6).trans hf7⟩,(swap_perm (by omega) (by omega)).trans hyp,fun p=>by rw[kY (by omega) (by omega),hyk,HN k1]⟩ (by show i-1-(k+1)<i-1-k;omega)
      exact Sz.stop
     exact Sz.stop
    have hke:k=i-1:=by omega
    refine Gz 1 ?_;refine aW [(0,_),(10,_),(13,_),(58,_)] ?_;refine Gz 10 ?_;have hma:m=a+1:=by omega
    rw[hke] at hyk;refine⟨_,rfl,rfl,ys,hy,rW hyp hyk (fun p hp=>by have:=jH a (i-1) p;omega) (fun p p1 p2=>by have:=jH a (i-1) p;omega),?_⟩;rw[hma] at h2 g1 i1;exact JU h2 i1 i3 g1 g2 hyk
   refine fK 11 ?_ ?_<;>intro h80
   ·refine Gz 17 ?_;refine Oy (β:=Nat×Nat) (fun⟨i,j⟩=>[(0,.slice o n c),(2,iV m),(4,.func (.func f) #[] cs.toArray),(14,iV i),(15,iV j)]) (fun⟨i,j⟩ w=>(a≤i∧i≤j∧j≤m)∧StI W0 o c n xs w∧(a<i→ltS K (xs.getD (i-1) 0) (xs.getD m 0))∧(j<m→ltS K (xs.getD m 0) (xs.getD j 0))) (fun⟨i,j⟩=>j-i) ⟨a,m⟩ ⟨rfl,rfl,rfl,rfl,rfl,trivial⟩ ⟨⟨by omega,by omega,by omega⟩,h,fun h=>by omega,fun h=>by omega⟩ ?_;rintro⟨i,j⟩ w4 ⟨⟨i1,i2,i3⟩,hz,g1,g2⟩;refine fK 5 ?_ ?_<;>intro h85
    ·have hij:i<j:=by omega
     refine Gz 1 ?_;refine aW [(0,_),(2,_),(4,_),(14,_),(15,_),(85,_)] ?_;refine Gz 10 ?_;refine cL (OH (n:=((i:Int)+j)) is3 E7 rfl (zM (by omega))) ?_;refine cL (PA rfl rfl (by decide)) ?_;refine cL (OH (n:=(((i+j)/2:Nat):Int)) Gu ty3 rfl (AL (by omega))) ?_;obtain⟨q,hq⟩:∃ q:Nat,q=(i+j)/2:=⟨_,rfl⟩
     rw[←hq];refine Gz 4 ?_;refine OI 12 (fun H=>Vw i64 H o c xs) [9] [0,1,2,3,4,5,6,7,8,9,10,11] aM (by kernel_rfl) (hz.1.vw) ?_;refine Gz 3 ?_;refine xC rfl (Ou bP rfl rfl (by rw[←hxl];exact hz.1.vw.non) (by omega)) ?_;refine xC rfl (OB aL rfl (fun H (hH:Vw i64 H o c xs)=>hH.gz 0 m rfl (by omega))) ?_;refine Gz 2 ?_;refine xC rfl (Ou bP rfl rfl (by rw[←hxl];exact hz.1.vw.non) (by omega)) ?_;refine xC rfl (OB aL rfl (fun H (hH:Vw i64 H o c xs)=>hH.gz 0 q rfl (by omega))) ?_;refine OE rfl rfl (O9 hC.fn rfl rfl (hC.call _ (xs.getD m 0) (xs.getD q 0) (hz.draws 1).2.2 (hVx m (by omega)) (hVx q (by omega))) rfl ?_);intro v5 w5 hr5;obtain⟨rfl,hf5⟩:=hr5;have hz5:StI W0 o c n xs w5:=(hz.draws 1).RY hf5;refine OK (by exact hz5.1.vw) ?_;refine xK 0 ?_ ?_<;>intro h102
     ·refine xC rfl (OL rfl) ?_;refine Gz 8 ?_
      first
      |exact aG ⟨i,q⟩ ⟨⟨by omega,by omega,by omega⟩,hz5,g1,fun _=>kT h102⟩ (by show q-i<j-i;omega)
      |exact aG ⟨q+1,j⟩ ⟨⟨by omega,by omega,by omega⟩,hz5,fun _=>mA (h3 q m (by omega) (by omega) (Sa _) hmb) h102,g2⟩ (by show j-(q+1)<j-i;omega)
     refine xC rfl (OL rfl) ?_;refine Gz 9 ?_
     first
     |exact aG ⟨i,q⟩ ⟨⟨by omega,by omega,by omega⟩,hz5,g1,fun _=>kT h102⟩ (by show q-i<j-i;omega)
     |exact aG ⟨q+1,j⟩ ⟨⟨by omega,by omega,by omega⟩,hz5,fun _=>mA (h3 q m (by omega) (by omega) (Sa _) hmb) h102,g2⟩ (by show j-(q+1)<j-i;omega)
    have hije:i=j:=by omega
    subst hije;refine Gz 1 ?_;refine aW [(0,_),(2,_),(4,_),(14,_),(15,_),(85,_)] ?_;refine Gz 15 ?_;refine Oy (β:=Nat×List Int) (fun⟨k,ys⟩=>[(0,.slice o n c),(14,iV i),(17,iV k)]) (fun⟨k,ys⟩ w=>(i≤k∧k≤m)∧StI W0 o c n ys w∧ys.Perm xs∧∀ p,ys.getD p 0=xs.getD (dx k m p) 0) (fun⟨k,ys⟩=>k) ⟨m,xs⟩ ⟨rfl,rfl,rfl,trivial⟩ ⟨⟨by omega,Sa _⟩,hz,List.Perm.refl _,fun p=>by rw[Ja]⟩ ?_;rintro⟨k,ys⟩ w4 ⟨⟨k1,k2⟩,hy,hyp,hyk⟩;refine fK 5 ?_ ?_<;>intro h110
    ·have hyl:=hy.2.1;refine Gz 1 ?_;refine aW [(0,_),(14,_),(17,_),(110,_)] ?_;refine Gz 6 ?_;refine Pi 15 [9,13] (fun H=>Vw i64 H o c ys) [15,17] [0,1,2,3,4,5,6,7,8,9,10,11,12,13,14] (.alt 15 [16] (.alt 17 [] .fin .stop) .stop) aM (by kernel_rfl) (hy.1.vw) ?_;refine Sz.calm rfl rfl (Oz rfl) rfl ?_;refine Sz.calm rfl rfl (Oz rfl) rfl ?_;refine Sz.calm rfl rfl (Oz rfl) rfl ?_;refine Sz.calm rfl rfl (Oz rfl) rfl ?_;refine Sz.calm rfl rfl (Pj rfl rfl (by omega)) rfl ?_;refine Sz.calm rfl rfl (Oz rfl) rfl ?_;refine Sz.calm rfl rfl (Oz rfl) rfl ?_;refine Sz.calm rfl rfl (Pj rfl rfl (by omega)) rfl ?_;refine Sz.calm rfl rfl (Ou bP rfl rfl (by rw[←hy.2.1];exact hy.1.vw.non) (by omega)) rfl ?_;refine Sz.calm rfl rfl (OB aL rfl (fun H (hH:Vw i64 H o c ys)=>hH.gz 0 (k-1) (by omega) (by omega))) rfl ?_;refine Sz.calm rfl rfl (Oz rfl) rfl ?_;refine Sz.calm rfl rfl (Oz rfl) rfl ?_;refine Sz.calm rfl rfl (Ou bP rfl rfl (by rw[←hy.2.1];exact hy.1.vw.non) (by omega)) rfl ?_;refine Sz.calm rfl rfl (OB aL rfl (fun H (hH:Vw i64 H o c ys)=>hH.gz 0 k rfl (by omega))) rfl ?_;refine Sz.calm rfl rfl (Ou bP rfl rfl (by rw[←hy.2.1];exact hy.1.vw.non) (by omega)) rfl ?_;refine Sz.alt ?_ ?_
     ·refine RH rfl rfl (O0 dS aL (z:=(k:Int)) (u:=ys.getD (k-1) 0) rfl rfl (hy.draws 1).1 (by omega) ?_);intro w6 ho6 hs6 hf6;refine Sz.off rfl ?_;refine Sz.calm rfl rfl (Ou bP rfl rfl (by rw[←hy.2.1];exact hy.1.vw.non) (by omega)) rfl ?_;refine Sz.alt ?_ ?_
      ·refine RH rfl rfl (O0 dS aL (z:=(k:Int)-1) (u:=ys.getD k 0) rfl rfl ho6 (by rw[S7];omega) ?_);intro w7 ho7 hs7 hf7;have e2:((k:Int)-1).toNat=k-1:=by omega
       rw[e2] at ho7;refine Sz.off rfl ?_;refine RI ?_;refine Gz 7 ?_;exact ON ⟨k-1,gK ys k (k-1)⟩ ⟨rfl,rfl,congrArg (fun z:Int=>some (Value.int .i64 z)) (by omega),trivial⟩ ⟨⟨by omega,by omega⟩,⟨ho7,by rw[kB];exact hyl,((hy.2.2.draws 1).trans hf6).trans hf7⟩,(swap_perm (by omega) (by omega)).trans hyp,fun p=>by have e:=Jb (k:=k-1) (m:=m) (p:=p) (by omega);rw[show k-1+1=k by omega] at e;rw[kY (by omega) (by omega),hyk,e]⟩ (by show k-1<k;omega)
      exact Sz.stop
     exact Sz.stop
    have hke:k=i:=by omega
    refine Gz 1 ?_;refine aW [(0,_),(14,_),(17,_),(110,_)] ?_;refine Gz 10 ?_;have hbm:b=m+1:=by omega
    rw[hke] at hyk;refine⟨_,rfl,rfl,ys,hy,rW hyp hyk (fun p hp=>by have:=jN i m p;omega) (fun p p1 p2=>by have:=jN i m p;omega),?_⟩;rw[hbm];exact KL h1 i1 i3 g1 g2 hyk
   refine Gz 10 ?_;refine cL (OH (n:=((a:Int)+b)) is3 E7 rfl (zM (by omega))) ?_;refine cL (PA rfl rfl (by decide)) ?_;refine cL (OH (n:=(((a+b)/2:Nat):Int)) Gu ty3 rfl (AL (by omega))) ?_;obtain⟨md,hmd⟩:∃ md:Nat,md=(a+b)/2:=⟨_,rfl⟩
   rw[←hmd];refine Gz 17 ?_;refine O1 (β:=Nat×Nat) (fun⟨S0,R0⟩=>[(0,.slice o n c),(1,iV a),(2,iV m),(3,iV b),(4,.func (.func f) #[] cs.toArray),(18,iV md),(19,iV ((md:Int)+m)),(20,iV S0),(21,iV R0)]) (fun⟨S0,R0⟩ w=>((md<m∧S0=md+m-b∧R0=md)∨(¬ md<m∧S0=a∧R0=m))∧w=W) ?_ ?_
   ·refine fK 4 ?_ ?_<;>intro h140
    ·refine Gz 15 ?_
     first
     |exact O4 ⟨md+m-b,md⟩ ⟨rfl,rfl,rfl,rfl,rfl,rfl,rfl,congrArg (fun z:Int=>some (Value.int .i64 z)) (by omega),rfl,trivial⟩ ⟨.inl ⟨by omega,rfl,rfl⟩,rfl⟩
     |exact aC ⟨a,m⟩ ⟨.inr ⟨by omega,rfl,rfl⟩,rfl⟩
    refine Gz 13 ?_
    first
    |exact O4 ⟨md+m-b,md⟩ ⟨rfl,rfl,rfl,rfl,rfl,rfl,rfl,congrArg (fun z:Int=>some (Value.int .i64 z)) (by omega),rfl,trivial⟩ ⟨.inl ⟨by omega,rfl,rfl⟩,rfl⟩
    |exact aC ⟨a,m⟩ ⟨.inr ⟨by omega,rfl,rfl⟩,rfl⟩
   rintro⟨S0,R0⟩ wq ⟨hSR,hwq⟩;subst wq;refine Gz 9 ?_;refine Oy (β:=Nat×Nat) (fun⟨s,r⟩=>[(0,.slice o n c),(1,iV a),(2,iV m),(3,iV b),(4,.func (.func f) #[] cs.toArray),(18,iV md),(19,iV ((md:Int)+m)),(20,iV s),(21,iV r),(22,iV ((md:Int)+m-1))]) (fun⟨s,r⟩ w=>S0≤s∧s≤r∧r≤R0∧StI W0 o c n xs w∧(S0<s→ltS K (xs.getD (s-1) 0) (xs.getD (md+m-s) 0))∧(r<R0→ltS K (xs.getD (md+m-1-r) 0) (xs.getD r 0))) (fun⟨s,r⟩=>r-s) ⟨S0,R0⟩ ⟨rfl,rfl,rfl,rfl,rfl,rfl,rfl,rfl,rfl,rfl,trivial⟩ ⟨Sa _,by omega,Sa _,h,fun h=>by omega,fun h=>by omega⟩ ?_;rintro⟨s,r⟩ w4 ⟨hs0,hsr0,hrR,hz,g1,g2⟩;refine fK 5 ?_ ?_<;>intro h151
   ·have hsr:s<r:=by omega
    refine Gz 1 ?_;refine aW [(0,_),(1,_),(2,_),(3,_),(4,_),(18,_),(19,_),(20,_),(21,_),(22,_),(151,_)] ?_;refine Gz 10 ?_;refine cL (OH (n:=((s:Int)+r)) is3 E7 rfl (zM (by omega))) ?_;refine cL (PA rfl rfl (by decide)) ?_;refine cL (OH (n:=(((s+r)/2:Nat):Int)) Gu ty3 rfl (AL (by omega))) ?_;obtain⟨q,hq⟩:∃ q:Nat,q=(s+r)/2:=⟨_,rfl⟩
    rw[←hq];have hqa:a≤q∧q<m∧m≤md+m-1-q∧md+m-1-q<b∧q≤md+m-1:=by omega
    refine Gz 4 ?_;refine OI 14 (fun H=>Vw i64 H o c xs) [11] [0,1,2,3,4,5,6,7,8,9,10,11,12,13] aM (by kernel_rfl) (hz.1.vw) ?_;refine Gz 5 ?_;refine xC rfl (Ou bP rfl rfl (by rw[←hxl];exact hz.1.vw.non) (by omega)) ?_;refine xC rfl (OB aL rfl (fun H (hH:Vw i64 H o c xs)=>hH.gz 0 (md+m-1-q) (by omega) (by omega))) ?_;refine Gz 2 ?_;refine xC rfl (Ou bP rfl rfl (by rw[←hxl];exact hz.1.vw.non) (by omega)) ?_;refine xC rfl (OB aL rfl (fun H (hH:Vw i64 H o c xs)=>hH.gz 0 q rfl (by omega))) ?_;refine OE rfl rfl (O9 hC.fn rfl rfl (hC.call _ (xs.getD (md+m-1-q) 0) (xs.getD q 0) (hz.draws 1).2.2 (hVx _ (by omega)) (hVx q (by omega))) rfl ?_);intro v5 w5 hr5;obtain⟨rfl,hf5⟩:=hr5;have hz5:StI W0 o c n xs w5:=(hz.draws 1).RY hf5;refine OK (by exact hz5.1.vw) ?_;refine xK 0 ?_ ?_<;>intro h170
    ·refine xC rfl (OL rfl) ?_;refine Gz 8 ?_
     first
     |exact aG ⟨s,q⟩ ⟨hs0,by omega,by omega,hz5,g1,fun _=>kT h170⟩ (by show q-s<r-s;omega)
     |exact aG ⟨q+1,r⟩ ⟨by omega,by omega,hrR,hz5,fun _=>by rw[show md+m-(q+1)=md+m-1-q by omega,Ul];exact mA (h3 q (md+m-1-q) (by omega) (by omega) (by omega) (by omega)) h170,g2⟩ (by show r-(q+1)<r-s;omega)
    refine xC rfl (OL rfl) ?_;refine Gz 9 ?_
    first
    |exact aG ⟨s,q⟩ ⟨hs0,by omega,by omega,hz5,g1,fun _=>kT h170⟩ (by show q-s<r-s;omega)
    |exact aG ⟨q+1,r⟩ ⟨by omega,by omega,hrR,hz5,fun _=>by rw[show md+m-(q+1)=md+m-1-q by omega,Ul];exact mA (h3 q (md+m-1-q) (by omega) (by omega) (by omega) (by omega)) h170,g2⟩ (by show r-(q+1)<r-s;omega)
   have hsre:s=r:=by omega
   subst hsre;have hcut:=KN ham hmb hmd h1 h2 hSR hs0 hrR g1 g2;obtain⟨e,he⟩:∃ e:Nat,e=md+m-s:=⟨_,rfl⟩
   rw[←he] at hcut;refine Gz 1 ?_;refine aW [(0,_),(1,_),(2,_),(3,_),(4,_),(18,_),(19,_),(20,_),(21,_),(22,_),(151,_)] ?_;refine Gz 8 ?_;obtain⟨wz,hwz⟩:∃ wz,wz=w4:=⟨_,rfl⟩
   rw[←hwz] at hz ⊢;refine Gz 3 ?_;refine cL (Ox (u:=iV (e:Nat)) (Pj rfl rfl (by omega)) (by congr 1;omega)) ?_;refine Gz 3 ?_;refine O1 (β:=List Int) (fun ys=>[(0,.slice o n c),(1,iV a),(3,iV b),(4,.func (.func f) #[] cs.toArray),(18,iV md),(20,iV s),(24,iV e)]) (fun ys w=>StI W0 o c n ys w∧ys.Perm xs∧∀ k,ys.getD k 0=xs.getD (rx s m e k) 0) ?_ ?_
   ·refine fK 4 ?_ ?_<;>intro h180
    ·refine fW 3 ?_ ?_<;>intro h184
     ·refine Gz 10 ?_;refine Ot Lx rfl (DW W0 o c n s m e _ xs wz hz (by omega) (by omega) (by omega) hn) rfl ?_;rintro _ w6 ⟨rfl,ys,hy,hyp,hyk⟩;refine Gz 1 ?_
      first
      |exact aC ys ⟨hy,hyp,hyk⟩
      |exact aC xs ⟨hz,List.Perm.refl _,fun k=>by rw[FC hcut.hsm hcut.hme (by omega)]⟩
     refine Gz 5 ?_
     first
     |exact aC ys ⟨hy,hyp,hyk⟩
     |exact aC xs ⟨hz,List.Perm.refl _,fun k=>by rw[FC hcut.hsm hcut.hme (by omega)]⟩
    refine Gz 9 ?_
    first
    |exact aC ys ⟨hy,hyp,hyk⟩
    |exact aC xs ⟨hz,List.Perm.refl _,fun k=>by rw[FC hcut.hsm hcut.hme (by omega)]⟩
   rintro ys w7 ⟨hy,hyp,hyk⟩;obtain⟨q1,q2,q3,q4,q5,q6,q7⟩:=hcut.halves h1 h2 h3 hyk;have c1:=hcut.has;have c2:=hcut.hsm;have c3:=hcut.hme;have c4:=hcut.heb;have c5:=hcut.hmd;refine O1 (β:=List Int) (fun zs=>[(0,.slice o n c),(3,iV b),(4,.func (.func f) #[] cs.toArray),(18,iV md),(24,iV e)]) (fun zs w=>StI W0 o c n zs w∧Seg ys zs a md∧Srt K zs a md) ?_ ?_
   ·refine fK 4 ?_ ?_<;>intro h194
    ·refine fW 3 ?_ ?_<;>intro h198
     ·refine Gz 10 ?_;refine Ot Dv rfl (ih a s md ys w7 (by omega) hy (fun z hz=>hV z (hyp.mem_iff.1 hz)) (by omega) (by omega) (by omega) q1 q2 q3) rfl ?_;rintro _ w8 ⟨rfl,zs,hz,hzg,hzs⟩;refine Gz 1 ?_
      first
      |exact aC zs ⟨hz,hzg,hzs⟩
      |exact aC ys ⟨hy,RJ _ _ _,by rw[show s=a by omega] at q2;exact q2⟩
      |exact aC ys ⟨hy,RJ _ _ _,by rw[show s=md by omega] at q1;exact q1⟩
     refine Gz 5 ?_
     first
     |exact aC zs ⟨hz,hzg,hzs⟩
     |exact aC ys ⟨hy,RJ _ _ _,by rw[show s=a by omega] at q2;exact q2⟩
     |exact aC ys ⟨hy,RJ _ _ _,by rw[show s=md by omega] at q1;exact q1⟩
    refine Gz 9 ?_
    first
    |exact aC zs ⟨hz,hzg,hzs⟩
    |exact aC ys ⟨hy,RJ _ _ _,by rw[show s=a by omega] at q2;exact q2⟩
    |exact aC ys ⟨hy,RJ _ _ _,by rw[show s=md by omega] at q1;exact q1⟩
   rintro zs w9 ⟨hz,hzg,hzs⟩;refine fK 4 ?_ ?_<;>intro h208
   ·refine fW 3 ?_ ?_<;>intro h212
    ·refine Gz 10 ?_;refine Ot Dv rfl (ih md e b zs w9 (by omega) hz (fun z hz=>hV z (hyp.mem_iff.1 (hzg.2.1.mem_iff.1 hz))) (by omega) (by omega) (by omega) (dC q4 (fun k k1 k2=>hzg.2.2.1 k (.inr (by omega)))) (dC q5 (fun k k1 k2=>hzg.2.2.1 k (.inr (by omega)))) (Fq q6 (by omega) (fun k k1 k2=>hzg.2.2.1 k (.inr (by omega))))) rfl ?_;rintro _ w10 ⟨rfl,us,hu,hug,hus⟩;refine Gz 1 ?_;refine OQ rfl ?_;have hmdb:a≤md∧md≤b:=by omega
     have hsy:Seg xs ys a b:=rW hyp hyk (fun p hp=>by have:=dG s m e p;omega) (fun p p1 p2=>by have:=dG s m e p;omega)
     first
     |exact⟨_,rfl,rfl,us,hu,(hsy.trans (hzg.wide (Sa _) hmdb.2)).trans (hug.wide hmdb.1 (Sa _)),iZ hmdb.1 hmdb.2 hzg hug hzs hus q7⟩
     |exact⟨_,rfl,rfl,zs,hz,hsy.trans (hzg.wide (Sa _) hmdb.2),iZ hmdb.1 hmdb.2 hzg (RJ _ _ _) hzs (dC (ys:=ys) (by first|(rw[show e=md by omega] at q5;exact q5)|(rw[show e=b by omega] at q4;exact q4)) (fun k k1 k2=>hzg.2.2.1 k (.inr k1))) q7⟩
    refine Gz 5 ?_;refine OQ rfl ?_;have hmdb:a≤md∧md≤b:=by omega
    have hsy:Seg xs ys a b:=rW hyp hyk (fun p hp=>by have:=dG s m e p;omega) (fun p p1 p2=>by have:=dG s m e p;omega)
    first
    |exact⟨_,rfl,rfl,us,hu,(hsy.trans (hzg.wide (Sa _) hmdb.2)).trans (hug.wide hmdb.1 (Sa _)),iZ hmdb.1 hmdb.2 hzg hug hzs hus q7⟩
    |exact⟨_,rfl,rfl,zs,hz,hsy.trans (hzg.wide (Sa _) hmdb.2),iZ hmdb.1 hmdb.2 hzg (RJ _ _ _) hzs (dC (ys:=ys) (by first|(rw[show e=md by omega] at q5;exact q5)|(rw[show e=b by omega] at q4;exact q4)) (fun k k1 k2=>hzg.2.2.1 k (.inr k1))) q7⟩
   refine Gz 9 ?_;refine OQ rfl ?_;have hmdb:a≤md∧md≤b:=by omega
   have hsy:Seg xs ys a b:=rW hyp hyk (fun p hp=>by have:=dG s m e p;omega) (fun p p1 p2=>by have:=dG s m e p;omega)
   first
   |exact⟨_,rfl,rfl,us,hu,(hsy.trans (hzg.wide (Sa _) hmdb.2)).trans (hug.wide hmdb.1 (Sa _)),iZ hmdb.1 hmdb.2 hzg hug hzs hus q7⟩
   |exact⟨_,rfl,rfl,zs,hz,hsy.trans (hzg.wide (Sa _) hmdb.2),iZ hmdb.1 hmdb.2 hzg (RJ _ _ _) hzs (dC (ys:=ys) (by first|(rw[show e=md by omega] at q5;exact q5)|(rw[show e=b by omega] at q4;exact q4)) (fun k k1 k2=>hzg.2.2.1 k (.inr k1))) q7⟩
section
variable {K:Int→List (List UInt8)}{ys zs:List Int}{n:Nat}
def BI(bs n:Nat)(ys:List Int):Prop:=∀ q i j:Nat,i<q*bs→q*bs≤j→j<n→ys.getD i 0<ys.getD j 0
theorem Seg.bi{bs a b q:Nat}(h:Seg ys zs a b)(ha:a=q*bs)(hb:b≤a+bs)(hbn:b≤n)(g:BI bs n ys):BI bs n zs:=by
 intro p i j hi hj hjn;obtain⟨i',i1,i2⟩:∃ i',(i'=i∧¬ (a≤i∧i<b)∨(a≤i∧i<b∧a≤i'∧i'<b))∧zs.getD i 0=ys.getD i' 0:=by
  by_cases k:a≤i∧i<b
  · obtain⟨i',a1,a2,a3⟩:=h.2.2.2 i k.1 k.2
    exact⟨i',.inr ⟨k.1,k.2,a1,a2⟩,a3⟩
  ·exact⟨i,.inl ⟨rfl,k⟩,h.2.2.1 i (by omega)⟩
 obtain⟨j',j1,j2⟩:∃ j',(j'=j∧¬ (a≤j∧j<b)∨(a≤j∧j<b∧a≤j'∧j'<b))∧zs.getD j 0=ys.getD j' 0:=by
  by_cases k:a≤j∧j<b
  · obtain⟨j',a1,a2,a3⟩:=h.2.2.2 j k.1 k.2
    exact⟨j',.inr ⟨k.1,k.2,a1,a2⟩,a3⟩
  ·exact⟨j,.inl ⟨rfl,k⟩,h.2.2.1 j (by omega)⟩
 rw[i2,j2];rcases TI q p with hpq|hpq
 · have:(q+1)*bs≤p*bs:=SS bs hpq
   rw[S4,Tl] at this;exact g p i' j' (by omega) (by omega) (by omega)
 · have:p*bs≤q*bs:=SS bs hpq
   exact g p i' j' (by omega) (by omega) (by omega)
def BSn(K:Int→List By)(bs n:Nat)(ys:List Int):Prop:=∀ q:Nat,Srt K ys (q*bs) (min (q*bs+bs) n)
theorem Srt.sub{a b a' b':Nat}(h:Srt K ys a b)(ha:a≤a')(hb:b'≤b):Srt K ys a' b':=fun i j h1 h2 h3=>h i j (by omega) h2 (by omega)
theorem RK{a b:Nat}(h:b≤a):Srt K ys a b:=fun i j h1 h2 h3=>by omega
end
theorem BE{K:Int→List By}{V:Int→Prop}{f:FuncId}{cs:List Value}(W0:World)(o:Option Addr)(hC:Jw W0 o f cs V K)(c n:Nat)(hn:n≤100000)(xs:List Int)(W:World)(h:StI W0 o c n xs W)(hV:∀ z∈xs,V z)(hinc:Inc xs 0 n) :
 CA 215 [.slice o n c,iV n,.func (.func f) #[] cs.toArray] W fun v w'=>v=.tuple #[]∧∃ ys,StI W0 o c n ys w'∧ys.Perm xs∧Srt K ys 0 n:=by
 refine cS 63 [(0,_),(1,_),(2,_)] Tryz.func215 ?_;refine Gz 14 ?_;refine Oy (β:=Nat×List Int) (fun⟨q,ys⟩=>[(0,.slice o n c),(1,iV n),(2,.func (.func f) #[] cs.toArray),(6,iV 20),(7,iV ((q*20:Nat):Int)),(8,iV ((q*20+20:Nat):Int))]) (fun⟨q,ys⟩ w=>q*20≤n∧StI W0 o c n ys w∧ys.Perm xs∧BI 20 n ys∧(∀ p,p<q→Srt K ys (p*20) (p*20+20))∧∀ k,q*20≤k→ys.getD k 0=xs.getD k 0) (fun⟨q,ys⟩=>n-q*20) ⟨0,xs⟩ ⟨rfl,rfl,rfl,rfl,rfl,rfl,trivial⟩ ⟨by omega,h,List.Perm.refl _,fun q i j i1 i2 i3=>hinc i j (Sf _) (by omega) i3,fun p hp=>by omega,fun _ _=>rfl⟩ ?_;rintro⟨q,ys⟩ w2 ⟨hq,hy,hyp,hyb,hys,hyk⟩;refine fK 5 ?_ ?_<;>intro h13
 ·have hb:q*20+20≤n:=by omega
  refine Gz 12 ?_;refine Ot JD rfl (tB W0 o hC c n (q*20) (q*20+20) ys w2 hy (fun z hz=>hV z (hyp.mem_iff.1 hz)) (by omega) hb (by omega) (fun i j i1 i2 i3=>by rw[hyk i i1,hyk j (by omega)];exact hinc i j (Sf _) i2 (by omega))) rfl ?_;rintro _ w3 ⟨rfl,zs,hz,hzg,hzs⟩;refine Gz 15 ?_;refine ON ⟨q+1,zs⟩ ⟨rfl,rfl,rfl,rfl,congrArg (fun z:Int=>some (Value.int .i64 z)) (by omega),congrArg (fun z:Int=>some (Value.int .i64 z)) (by omega),trivial⟩ ⟨by omega,hz,hzg.2.1.trans hyp,hzg.bi rfl (Sa _) hb hyb,fun p hp=>?_,fun k hk=>by rw[hzg.2.2.1 k (.inr (by omega))];exact hyk k (by omega)⟩ (by show n-(q+1)*20<n-q*20;omega);by_cases e:p=q
  ·subst e;exact hzs
  ·exact dC (hys p (by omega)) (fun k k1 k2=>hzg.2.2.1 k (.inl (by omega)))
 have hb:¬ q*20+20≤n:=by omega
 refine Gz 14 ?_;refine Ot JD rfl (tB W0 o hC c n (q*20) n ys w2 hy (fun z hz=>hV z (hyp.mem_iff.1 hz)) (by omega) (Sa _) (by omega) (fun i j i1 i2 i3=>by rw[hyk i i1,hyk j (by omega)];exact hinc i j (Sf _) i2 (by omega))) rfl ?_;rintro _ w3 ⟨rfl,zs,hz,hzg,hzs⟩;have hzn:BSn K 20 n zs:=fun p=>by
  rcases Ta p q with hp|hp|hp
  · have:(p+1)*20≤q*20:=SS 20 hp
    exact dC (hys p hp) (fun k k1 k2=>hzg.2.2.1 k (.inl (by omega))) |>.sub (Sa _) (by omega)
  ·subst hp;exact hzs.sub (Sa _) (by omega)
  ·exact RK (by omega)
 have hzb:BI 20 n zs:=hzg.bi rfl (by omega) (Sa _) hyb;have hzp:=hzg.2.1.trans hyp;refine Gz 3 ?_;refine Oy (β:=Nat×List Int) (fun⟨bs,vs⟩=>[(0,.slice o n c),(1,iV n),(2,.func (.func f) #[] cs.toArray),(6,iV bs)]) (fun⟨bs,vs⟩ w=>(20≤bs∧bs≤1000000)∧StI W0 o c n vs w∧vs.Perm xs∧BI bs n vs∧BSn K bs n vs) (fun⟨bs,vs⟩=>n-bs) ⟨20,zs⟩ ⟨rfl,rfl,rfl,rfl,trivial⟩ ⟨⟨by omega,by omega⟩,hz,hzp,hzb,hzn⟩ ?_;rintro⟨bs,vs⟩ w4 ⟨⟨hbs,hbl⟩,hv4,hvp,hvb,hvs⟩;refine fK 5 ?_ ?_<;>intro h30
 ·refine Gz 9 ?_;refine cL (Pc rfl rfl (by omega)) ?_;refine Gz 6 ?_;refine Oy (β:=Nat×Nat×List Int) (fun⟨q,a,zs⟩=>[(0,.slice o n c),(1,iV n),(2,.func (.func f) #[] cs.toArray),(6,iV bs),(7,iV a),(8,iV ((a+2*bs:Nat):Int))]) (fun⟨q,a,zs⟩ w=>(a=q*(2*bs)∧a≤n)∧StI W0 o c n zs w∧zs.Perm xs∧BI (2*bs) n zs∧(∀ p,p<q→Srt K zs (p*(2*bs)) (p*(2*bs)+2*bs))∧(∀ p,a≤p*bs→Srt K zs (p*bs) (min (p*bs+bs) n))∧(∀ p i j:Nat,a≤p*bs→i<p*bs→p*bs≤j→j<n→zs.getD i 0<zs.getD j 0)) (fun⟨q,a,zs⟩=>n-a) ⟨0,0,vs⟩ ⟨rfl,rfl,rfl,rfl,rfl,(congrArg (fun z:Int=>some (Value.int .i64 z)) (by omega)),trivial⟩ ⟨⟨by omega,by omega⟩,hv4,hvp,fun p i j i1 i2 i3=>hvb (2*p) i j (by rw[TB 2 p,TT];exact i1) (by rw[TB 2 p,TT];exact i2) i3,fun p hp=>by omega,fun p _=>hvs p,fun p i j _ i1 i2 i3=>hvb p i j i1 i2 i3⟩ ?_;rintro⟨q,a,zs⟩ w5 ⟨⟨ha,han⟩,hz5,hz5p,hb2,hsp,hsu,hbu⟩;refine fK 5 ?_ ?_<;>intro h35
  ·have hb:a+2*bs≤n:=by omega
   refine Gz 15 ?_;have e1:2*q*bs=a:=by rw[ha,TB 2 q,TT]
   have e2:(2*q+1)*bs=a+bs:=by rw[S4,Tl,e1]
   have e3:(q+1)*(2*bs)=a+2*bs:=by rw[S4,Tl,ha]
   refine Ot Dv rfl ((by rw[show ((a:Int)+bs)=((a+bs:Nat):Int) by omega];exact CO W0 o hC c n (by omega) (a+2*bs-a) a (a+bs) (a+2*bs) zs w5 (Sa _) hz5 (fun z hz=>hV z (hz5p.mem_iff.1 hz)) (by omega) (by omega) hb (by have h9:=hsu (2*q) (by omega);rw[e1] at h9;exact h9.sub (Sa _) (by omega)) (by have h9:=hsu (2*q+1) (by omega);rw[e2] at h9;exact h9.sub (Sa _) (by omega)) (fun i j i1 i2 i3 i4=>hbu (2*q+1) i j (by omega) (by omega) (by omega) (by omega)))) rfl ?_;rintro _ w6 ⟨rfl,us,hu,hug,hus⟩;refine Gz 11 ?_;refine cL (Pc rfl rfl (by omega)) ?_;refine Gz 4 ?_;refine ON ⟨q+1,a+2*bs,us⟩ ⟨rfl,rfl,rfl,rfl,rfl,congrArg (fun z:Int=>some (Value.int .i64 z)) (by omega),trivial⟩ ⟨⟨e3.symm,hb⟩,hu,hug.2.1.trans hz5p,hug.bi ha (Sa _) hb hb2,fun p hp=>?_,fun p hp=>dC (hsu p (by omega)) (fun k k1 k2=>hug.2.2.1 k (.inr (by omega))),fun p i j hp i1 i2 i3=>?_⟩ (by show n-(a+2*bs)<n-a;omega)
   · by_cases e:p=q
     ·subst e;rw[←ha];exact hus
     · have:=SS (2*bs) (show p+1≤q by omega)
       rw[S4,Tl] at this;exact dC (hsp p (by omega)) (fun k k1 k2=>hug.2.2.1 k (.inl (by omega)))
   · rw[hug.2.2.1 j (.inr (by omega))]
     by_cases hi:a≤i∧i<a+2*bs
     · obtain⟨i',a1,a2,a3⟩:=hug.2.2.2 i hi.1 hi.2
       rw[a3];exact hbu p i' j (by omega) (by omega) i2 i3
     ·rw[hug.2.2.1 i (by omega)];exact hbu p i j (by omega) i1 i2 i3
  have hb:¬ a+2*bs≤n:=by omega
  refine Gz 8 ?_;refine O1 (β:=List Int) (fun vs=>[(0,.slice o n c),(1,iV n),(2,.func (.func f) #[] cs.toArray),(6,iV bs)]) (fun vs w=>StI W0 o c n vs w∧vs.Perm xs∧BI (2*bs) n vs∧BSn K (2*bs) n vs) ?_ ?_
  ·refine fK 12 ?_ ?_<;>intro h54
   ·refine Gz 9 ?_;have e1:2*q*bs=a:=by rw[ha,TB 2 q,TT]
    have e2:(2*q+1)*bs=a+bs:=by rw[S4,Tl,e1]
    refine Ot Dv rfl ((by rw[show ((a:Int)+bs)=((a+bs:Nat):Int) by omega];exact CO W0 o hC c n (by omega) (n-a) a (a+bs) n zs w5 (Sa _) hz5 (fun z hz=>hV z (hz5p.mem_iff.1 hz)) (by omega) (by omega) (Sa _) (by have h9:=hsu (2*q) (by omega);rw[e1] at h9;exact h9.sub (Sa _) (by omega)) (by have h9:=hsu (2*q+1) (by omega);rw[e2] at h9;exact h9.sub (Sa _) (by omega)) (fun i j i1 i2 i3 i4=>hbu (2*q+1) i j (by omega) (by omega) (by omega) (by omega)))) rfl ?_;rintro _ w6 ⟨rfl,us,hu,hug,hus⟩;refine Gz 1 ?_
    first
    |exact aC us ⟨hu,hug.2.1.trans hz5p,hug.bi ha (by omega) (Sa _) hb2,fun p=>by
        rcases Ta p q with hp|hp|hp
        · have:=SS (2*bs) hp
          rw[Tk,S4,Tl] at this;exact(dC (hsp p hp) (fun k k1 k2=>hug.2.2.1 k (.inl (by omega)))).sub (Sa _) (by omega)
        ·subst hp;rw[←ha];exact hus.sub (Sa _) (by omega)
        · have:=SS (2*bs) hp
          rw[Tk,S4,Tl] at this;exact RK (by omega)⟩
    |exact aC zs ⟨hz5,hz5p,hb2,fun p=>by
        rcases Ta p q with hp|hp|hp
        ·exact(hsp p hp).sub (Sa _) (by omega)
        · subst hp
          have e1:2*p*bs=a:=by rw[ha,TB 2 p,TT]
          have h9:=hsu (2*p) (by omega);rw[e1] at h9;rw[←ha];exact h9.sub (Sa _) (by omega)
        · have:=SS (2*bs) hp
          rw[Tk,S4,Tl] at this;exact RK (by omega)⟩
   refine Gz 4 ?_
   first
   |exact aC us ⟨hu,hug.2.1.trans hz5p,hug.bi ha (by omega) (Sa _) hb2,fun p=>by
       rcases Ta p q with hp|hp|hp
       · have:=SS (2*bs) hp
         rw[Tk,S4,Tl] at this;exact(dC (hsp p hp) (fun k k1 k2=>hug.2.2.1 k (.inl (by omega)))).sub (Sa _) (by omega)
       ·subst hp;rw[←ha];exact hus.sub (Sa _) (by omega)
       · have:=SS (2*bs) hp
         rw[Tk,S4,Tl] at this;exact RK (by omega)⟩
   |exact aC zs ⟨hz5,hz5p,hb2,fun p=>by
       rcases Ta p q with hp|hp|hp
       ·exact(hsp p hp).sub (Sa _) (by omega)
       · subst hp
         have e1:2*p*bs=a:=by rw[ha,TB 2 p,TT]
         have h9:=hsu (2*p) (by omega);rw[e1] at h9;rw[←ha];exact h9.sub (Sa _) (by omega)
       · have:=SS (2*bs) hp
         rw[Tk,S4,Tl] at this;exact RK (by omega)⟩
  rintro vs w8 ⟨hv8,hv8p,hv8b,hv8s⟩;refine Gz 2 ?_;refine cL (Pc rfl rfl (by omega)) ?_;refine Gz 3 ?_;exact ON ⟨2*bs,vs⟩ ⟨rfl,rfl,rfl,congrArg (fun z:Int=>some (Value.int .i64 z)) (by omega),trivial⟩ ⟨⟨by omega,by omega⟩,hv8,hv8p,hv8b,hv8s⟩ (by show n-2*bs<n-bs;omega)
 refine Gz 7 ?_;refine OQ rfl ?_;refine⟨_,rfl,rfl,vs,hv4,hvp,?_⟩;have h9:=hvs 0;rw[Nat.zero_mul] at h9;exact h9.sub (Sa _) (by omega)
theorem uK{K:Int→List By}{V:Int→Prop}{f:FuncId}{cs:List Value}(W0:World)(o:Option Addr)(hC:Jw W0 o f cs V K)(c n:Nat)(hn:n≤100000)(xs:List Int)(W:World)(h:StI W0 o c n xs W)(hV:∀ z∈xs,V z)(hinc:Inc xs 0 n) :
 CA 170 [.slice o n c,.func (.func f) #[] cs.toArray] W fun v w'=>v=.tuple #[]∧∃ ys,StI W0 o c n ys w'∧ys.Perm xs∧Srt K ys 0 n:=by
 refine cS 9 [(0,_),(1,_)] Tryz.func170 ?_;refine cA 5 LC (BE W0 o hC c n hn xs W h hV hinc) ?_;rintro _ w1 ⟨rfl,ys,hy,hyp,hys⟩;refine Gz 1 ?_;refine OQ rfl ?_;exact⟨_,rfl,rfl,ys,hy,hyp,hys⟩
section
open Go Go.RowKit Go.Maps
theorem ED(ao bo:Option Addr)(ac bc:Nat)(a b:List By)(W:World)(ha:Vw iK W.heap ao ac a)(hb:Vw iK W.heap bo bc b) :
 CA 228 [.slice ao a.length ac,.slice bo b.length bc] W fun v w'=>v=.bool (decide (a=b))∧aA nob W w':=by
 have h63:=ha.RX;refine cS 26 [(0,_),(1,_)] Tryz.func228 ?_;refine fK 12 ?_ ?_<;>intro h10
 ·refine Gz 11 ?_;exact⟨_,rfl,by rw[R5 (fun e=>by subst e;exact h10 rfl)],Rk _ _⟩
 refine Gz 14 ?_;have hlen:a.length=b.length:=by omega
 refine Oy (β:=Nat) (fun k=>[(0,.slice ao a.length ac),(1,.slice bo b.length bc),(12,iV a.length),(13,iV k)]) (fun k w=>k≤a.length∧(∀ i,i<k→i<a.length→a.getD i []=b.getD i [])∧aA nob W w) (fun k=>a.length-k) 0 ⟨rfl,rfl,rfl,rfl,trivial⟩ ⟨Sf _,fun i hi=>by omega,Rk _ _⟩ ?_;rintro k w2 ⟨hk,hsm,hF2⟩;refine fK 2 ?_ ?_<;>intro h14
 ·have hka:k<a.length:=by omega
  have hkb:k<b.length:=by omega
  have ha2:=ha.RY hF2;have hb2:=hb.RY hF2;refine Gz 15 ?_;refine Pe 9 [0,1,2,3,4,5,6,7,8] aM (by kernel_rfl) ?_;refine Gz 2 ?_;refine xC rfl (Ou lU rfl rfl ha2.non (by omega)) ?_;refine xC rfl (Ow lV rfl (ha2.get k (a.getD k []) (by simp[Sj,hka]))) ?_;refine Gz 2 ?_;refine xC rfl (Ou lU rfl rfl hb2.non (by omega)) ?_;refine xC rfl (Ow lV rfl (hb2.get k (b.getD k []) (by simp[Sj,hkb]))) ?_;refine xK 0 ?_ ?_<;>intro h24
  ·refine Gz 15 ?_;exact⟨_,rfl,by rw[R5 (fun e=>h24 (by rw[e]))],hF2.draws 1⟩
  refine Gz 10 ?_;refine aG (k+1) ⟨by omega,fun i hi hia=>?_,hF2.draws 1⟩ (by show a.length-(k+1)<a.length-k;omega);by_cases hik:i=k
  ·subst hik;exact S5.1 h24
  ·exact hsm i (by omega) hia
 refine Gz 16 ?_;exact⟨_,rfl,by rw[R8 (Gh (by omega) (k:=k) (by omega) [] hsm)],hF2⟩
theorem F7(ao bo:Option Addr)(ac bc:Nat)(a b:List By)(W:World)(ha:Vw iK W.heap ao ac a)(hb:Vw iK W.heap bo bc b) :
 CA 214 [.slice ao a.length ac,.slice bo b.length bc] W fun v w'=>v=.bool (decide (a=b))∧aA nob W w':=by
 refine cS 8 [(0,_),(1,_)] Tryz.func214 ?_;refine cA 9 Lz (ED ao bo ac bc a b W ha hb) ?_;rintro _ w1 ⟨rfl,hf1⟩;refine Gz 5 ?_;exact⟨_,rfl,rfl,hf1⟩
def kK(l s:List By):Prop:=s.length<l.length∧l.take s.length=s
instance (l s:List By):Decidable (kK l s):=by unfold kK;exact inferInstance
theorem HA(ao bo:Option Addr)(ac bc:Nat)(a b:List By)(W:World)(ha:Vw iK W.heap ao ac a)(hb:Vw iK W.heap bo bc b) :
 CA 169 [.slice ao a.length ac,.slice bo b.length bc] W fun v w'=>v=.bool (decide (kK a b))∧aA nob W w':=by
 refine cS 18 [(0,_),(1,_)] Tryz.func169 ?_;refine fK 11 ?_ ?_<;>intro h9
 ·refine Gz 4 ?_;refine cW (Ox (u:=.slice ao (a.take b.length).length ac) (OV lU rfl rfl (by have:=ha.le;omega)) (by rw[bN,Sh,Td (by omega)];rfl)) ?_;refine Gz 1 ?_;refine OC rfl rfl LD rfl (F7 ao bo ac bc (a.take b.length) b W (ha.take _) hb) rfl ?_;rintro _ w1 ⟨rfl,hf1⟩;refine Gz 6 ?_
  first
  |exact⟨_,rfl,congrArg _ (decide_eq_decide.2 ⟨fun e=>⟨by omega,e⟩,fun e=>e.2⟩),hf1⟩
  |exact⟨_,rfl,by rw[R5 (show ¬ kK a b from fun e=>by have:=e.1;omega)],Rk _ _⟩
 refine Gz 13 ?_
 first
 |exact⟨_,rfl,congrArg _ (decide_eq_decide.2 ⟨fun e=>⟨by omega,e⟩,fun e=>e.2⟩),hf1⟩
 |exact⟨_,rfl,by rw[R5 (show ¬ kK a b from fun e=>by have:=e.1;omega)],Rk _ _⟩
variable {D:Nat→Prop}
def iM(ps:List (NdH×Nd))(z:Int):Int:=(ps.countP (fun p=>decide (p.2.ino=z)):Nat)
theorem KP{ps:List (NdH×Nd)}{i:Nat}{p:NdH×Nd}(hp:ps[i]?=some p)(z:Int):iM (ps.take (i+1)) z=iM (ps.take i) z+if p.2.ino=z then 1 else 0:=by
 unfold iM;rw[tkL hp,List.countP_append,List.countP_singleton];by_cases h:p.2.ino=z
 ·simp[h]
 ·simp[h]
theorem Hi(ps:List (NdH×Nd))(z:Int):0≤iM ps z∧iM ps z≤ps.length:=by
 unfold iM;have:=List.countP_le_length (p:=fun p:NdH×Nd=>decide (p.2.ino=z)) (l:=ps);omega
def uO(ps:List (NdH×Nd))(i:Int):Int:=if 0≤i∧i<ps.length then iM ps (ps.getD i.toNat (yC,nd0)).2.ino else 0
theorem qX{ps:List (NdH×Nd)}{i:Int}{q:NdH×Nd}(h:0≤i∧i<ps.length)(hq:ps[i.toNat]?=some q):uO ps i=iM ps q.2.ino:=by
 unfold uO;rw[R4 h,Sj,hq];rfl
theorem sR{ps:List (NdH×Nd)}{i:Int}(h:¬ (0≤i∧i<ps.length)):uO ps i=0:=by unfold uO;rw[R3 h]
theorem Gi(lo:Option Addr)(lc:Nat)(ps:List (NdH×Nd))(i:Int)(W:World)(hv:bD D W.heap lo lc ps) :
 CA 71 [.slice lo ps.length lc,iV i] W fun v w'=>v=iV (uO ps i)∧aA nob W w':=by
 have h63:=hv.1.RX;refine cS 34 [(0,_),(1,_)] Tryz.func71 ?_;refine fK 9 ?_ ?_<;>intro h9
 ·refine Gz 17 ?_
  first
  |exact⟨_,rfl,by rw[sR (by omega)],Rk _ _⟩
  |exact⟨_,rfl,by rw[qX hin hq,S1],hF2⟩
 refine fW 4 ?_ ?_<;>intro h14
 ·refine Gz 12 ?_
  first
  |exact⟨_,rfl,by rw[sR (by omega)],Rk _ _⟩
  |exact⟨_,rfl,by rw[qX hin hq,S1],hF2⟩
 have hin:0≤i∧i<ps.length:=by omega
 obtain⟨q,hq⟩:∃ q,ps[i.toNat]?=some q:=⟨_,R7 (by omega)⟩
 refine Gz 20 ?_;refine Oy (β:=Nat) (fun k=>[(0,.slice lo ps.length lc),(1,iV i),(5,iV (iM (ps.take k) q.2.ino)),(16,.slice lo ps.length lc),(17,iV ps.length),(18,iV k)]) (fun k w=>k≤ps.length∧aA nob W w) (fun k=>ps.length-k) 0 ⟨rfl,rfl,rfl,rfl,rfl,rfl,trivial⟩ ⟨Sf _,Rk _ _⟩ ?_;rintro k w2 ⟨hk,hF2⟩;refine fK 2 ?_ ?_<;>intro h19
 ·have hkl:k<ps.length:=by omega
  obtain⟨p,hp⟩:∃ p,ps[k]?=some p:=⟨_,R7 hkl⟩
  have hv2:=hv.RY hF2;have hct:=KP hp q.2.ino;have hcl:=Hi (ps.take k) q.2.ino;have hctl:(ps.take k).length≤k:=by rw[Sh];omega
  refine Gz 6 ?_;refine O1 (β:=Unit) (fun _u=>[(0,.slice lo ps.length lc),(1,iV i),(5,iV (iM (ps.take (k+1)) q.2.ino)),(16,.slice lo ps.length lc),(17,iV ps.length),(18,iV k)]) (fun _u w=>aA nob W w) ?_ ?_
  ·refine Gz 3 ?_;refine cL (OA gL rfl rfl hv2.1.non (by omega)) ?_;refine cL (OG (cs:=aH p) aX rfl (fun j v hj=>hv2.1.rowZ k rfl hp j v hj)) ?_;refine Ov fS rfl ?_;intro w3 hg3 hs3 hf3;obtain⟨r,hr⟩:∃ r,r=w2.heap.size:=⟨_,rfl⟩
   rw[←hr] at hg3 ⊢;refine OD (vs:=aH p) aX rfl rfl (aB p).2 hg3 rfl ?_;intro w4 hg4 hs4 hf4;have hF4:aA nob W w4:=hF2.trans (hf3.RV hf4 (fun k e=>.inr (by have e:k=r:=e;omega)));have hv4:=hv.RY hF4;refine Gz 3 ?_;refine Pe 8 [0,1,2,3,4,5,6,7] aM (by kernel_rfl) ?_;refine Gz 1 ?_;refine xC rfl (Ow aL rfl (aD hg4 rfl)) ?_;refine Gz 2 ?_;refine xC rfl (OA gL rfl rfl hv4.1.non (by omega)) ?_;refine Gz 1 ?_;refine xC rfl (Ow aL rfl (hv4.1.rowZ i.toNat (by omega) hq 1 _ rfl)) ?_;refine xK 0 ?_ ?_<;>intro h29
   ·refine Gz 9 ?_
    first
    |exact O4 () ⟨rfl,rfl,congrArg (fun z:Int=>some (Value.int .i64 z)) (by rw[hct,R4 h29]),rfl,rfl,rfl,trivial⟩ (hF4.draws 1)
    |exact O4 () ⟨rfl,rfl,congrArg (fun z:Int=>some (Value.int .i64 z)) (by rw[hct,R3 h29,Int.add_zero]),rfl,rfl,rfl,trivial⟩ (hF4.draws 1)
   refine Gz 5 ?_
   first
   |exact O4 () ⟨rfl,rfl,congrArg (fun z:Int=>some (Value.int .i64 z)) (by rw[hct,R4 h29]),rfl,rfl,rfl,trivial⟩ (hF4.draws 1)
   |exact O4 () ⟨rfl,rfl,congrArg (fun z:Int=>some (Value.int .i64 z)) (by rw[hct,R3 h29,Int.add_zero]),rfl,rfl,rfl,trivial⟩ (hF4.draws 1)
  rintro _ w5 hF5;refine Gz 4 ?_;exact aG (k+1) ⟨by omega,hF5⟩ (by show ps.length-(k+1)<ps.length-k;omega)
 have hke:k=ps.length:=by omega
 subst hke;refine Gz 17 ?_
 first
 |exact⟨_,rfl,by rw[sR (by omega)],Rk _ _⟩
 |exact⟨_,rfl,by rw[qX hin hq,S1],hF2⟩
end
end Go.Proofs.YthmmmagklhiiiaaGreatDoor
