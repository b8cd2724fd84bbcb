/- lamella: what the law needs. No condition beyond the bounds that each states. -/
import Derived.Lib.AppendZeros
import Derived.RangeFuncWrites
import Derived.RangeFuncCalls
import Derived.RangeFuncLeaves
import Derived.RangeFuncBound
import Derived.OrdersIn
import Derived.Lib.Join
import Derived.Laws.StructEq
import Derived.Shelf.Strings.OnBuilder
import Derived.Test.YthmmmagklhiiiaaGreatDoorChecked
import Derived.Test.YthmmmagklhiiiaaGreatDoorBuildShortQ1
namespace Go.Proofs.YthmmmagklhiiiaaGreatDoor
open Go Go.RowKit
set_option linter.unusedVariables false
set_option linter.unusedSectionVars false
set_option maxHeartbeats 64000000
open List (find?_eq_none)
open Option (or_none)
open List renaming length_append → SR, getElem?_eq_getElem → SS, getElem?_eq_some_iff → SV, mem_of_getElem? → S1, length_take → S2, length_singleton → S5, getD → S6, length_eq_zero_iff → S7, length_pos_iff → S8, take_of_length_le → S9, length_drop → Ta, length_map → Tb, length_cons → Td, getElem?_of_mem → Te, take_succ_eq_append_getElem → Tg, mem_map → Tj, eq_nil_of_length_eq_zero → Tk, mem_cons → Tm, take_append_drop → Tn, append_assoc → To, length → Tp, length_nil → Tr, mem_singleton → Tv, mem_append → Tx, getElem?_eq_none → Ty, pairwise_iff_getElem → TA, take_length → TB, getElem?_take → TC, map_cons → TD, not_mem_nil → TE, getElem_of_mem → TG, nil_append → TH, length_set → TL, flatMap_cons → TN, mem_of_mem_take → TR, mem_cons_of_mem → TS, drop_eq_getElem_cons → TV, foldl_append → TX, foldl_cons → TY, cons_append → T1, findIdx?_eq_some_iff_getElem → T2, findIdx?_eq_none_iff → Uk, map_append → Um, drop_of_length_le → Uu, dropLast_concat_getLast → Uw, cons → Ux, length_dropLast → Uz, forall_mem_cons → UB, mem_of_find?_eq_some → UC, flatten_append → U0, mem_cons_self → Vb, find?_isSome → Vf, find?_append → Vg
open _root_.Nat renaming le_refl → SY, zero_le → S3, blt → Tq, le_trans → Tt, mul_le_mul_right → Tu, zero_add → TI, add_mul → TK, lt_trichotomy → TW, min_eq_left → T6, blt_eq → T8, beq → Uf, lt_or_ge → Us, ble_eq → U6, add_sub_cancel → U7
open _root_.Array renaming getElem?_eq_some_iff → SZ, setIfInBounds_comm → UG, replicate → UI, getElem?_eq_none → US
open Classical renaming byContradiction → S4, not_not → TJ
open Go.Op renaming bytesLess → Ti
open _root_.Bool renaming and_eq_true → Tl, or_eq_true → Ud, not_eq_true' → UR
open _root_.Int renaming toNat_natCast → TF
open UInt8 renaming lt_iff_toNat_lt → T7
open Prod renaming ext → U3
open _root_.Option renaming isSome_iff_exists → Vh
def iZ(F:Nat→Int)(n:Nat):Prop:=
 0≤F 1∧F 1≤511∧0≤F 2∧F 2≤2047∧0≤F 3∧F 3≤2047∧1≤F 4∧F 4≤1024∧0≤F 5∧F 5≤4294967295 ∧
 ((F 0=2∧0≤F 7∧F 7≤4096∧0≤F 8∧F 8≤1024∧(0<F 8↔0<F 7%128)∧0≤F 6∧F 6≤4294967295∧0≤F 9∧F 9<128∧(0<F 8∨F 9=0)∧n=0) ∨
  (F 0=1∧0≤F 6∧F 6≤4294967295∧0≤F 7∧F 7≤1048576∧F 4=1∧F 8=0∧F 9=0∧n=0) ∨
  (F 0=3∧1≤n∧n≤200∧F 6=0∧F 7=0∧F 8=0∧F 9=0))
def jL(F:Nat→Int)(T:By):Prop:=iZ F T.length∧(F 0=3→(0:UInt8)∉T)
instance (F:Nat→Int)(T:By):Decidable (jL F T):=by unfold jL iZ;exact inferInstance
def okF(F:Nat→Int)(x:Fd):Prop:=0≤F x.o∧F x.o≤x.m
theorem IL{F:Nat→Int}(h:∀ x∈aQ (F 0),okF F x) :
 (0≤F 1∧F 1≤511∧0≤F 2∧F 2≤2047∧0≤F 3∧F 3≤2047∧0≤F 4∧F 4≤1024∧0≤F 5∧F 5≤4294967295) ∧
 (F 0=2→0≤F 6∧F 6≤4294967295∧0≤F 7∧F 7≤4096∧0≤F 8∧F 8≤1024∧0≤F 9∧F 9≤127) ∧
 (F 0=1→0≤F 6∧F 6≤4294967295∧0≤F 7∧F 7≤1048576):=by
 refine⟨?_,fun e=>?_,fun e=>?_⟩
 · have h2:∀ x∈pS,okF F x:=fun x hx=>h x (Tx.2 (.inl hx))
   simp only[pS,UB,okF] at h2;omega
 · have h2:∀ x∈tY,okF F x:=fun x hx=>h x (Tx.2 (.inr (by unfold fY;rw[SQ e];exact hx)))
   simp only[tY,UB,okF] at h2;omega
 · have h2:∀ x∈pP,okF F x:=fun x hx=>h x (Tx.2 (.inr (by unfold fY;rw[SP (by omega),SQ e];exact hx)))
   simp only[pP,UB,okF] at h2;omega
theorem yA{F:Nat→Int}{T:By}(h:jL F T):∀ x∈aQ (F 0),okF F x:=by
 intro x hx;have h1:=h.1;unfold iZ at h1;unfold okF;rcases Tx.1 hx with hx|hx
 · simp only[pS,Tm,TE,or_false] at hx
   rcases hx with rfl|rfl|rfl|rfl|rfl<;>(simp only;omega)
 · unfold fY at hx
   split at hx
   · simp only[tY,Tm,TE,or_false] at hx
     rcases hx with rfl|rfl|rfl|rfl<;>(simp only;omega)
   · split at hx
     · simp only[pP,Tm,TE,or_false] at hx
       rcases hx with rfl|rfl<;>(simp only;omega)
     ·cases hx
def eV(F:Nat→Int)(L:List Fd):Nat→Int:=fun o=>if o∈L.map (·.o) then F o else 0
def sO(G:Nat→Int)(U:By)(F:Nat→Int)(T:By):Prop:=(∀ o,o<10→G o=F o)∧U=T
instance (G:Nat→Int)(U:By)(F:Nat→Int)(T:By):Decidable (sO G U F T):=by unfold sO;exact inferInstance
theorem AN(F:Nat→Int)(L:List Fd)(x:Fd):upd (eV F L) x.o (F x.o)=eV F (L++[x]):=by
 funext q;unfold upd eV;by_cases h:q=x.o
 ·subst h;simp
 · by_cases h2:q∈L.map (·.o)
   ·rw[SP h,SQ h2,SQ (by simp at h2 ⊢;exact .inl h2)]
   ·rw[SP h,SP h2,SP (by simp at h2 ⊢;exact⟨h2,h⟩)]
theorem Cf(F:Nat→Int):eV F []=fun _=>0:=by funext q;simp[eV]
theorem tK(F:Nat→Int)(U T:By):sO (upd (eV F (aQ (F 0))) 0 (F 0)) U F T↔(F 0≠2→F 8=0∧F 9=0)∧(F 0≠2→F 0≠1→F 6=0∧F 7=0)∧U=T:=by
 unfold sO;have hcom:∀ o,(o=1∨o=2∨o=3∨o=4∨o=5)→eV F (aQ (F 0)) o=F o:=fun o ho=>by
  unfold eV aQ;rw[SQ];rw[Um,Tx];left;simp[pS];omega
 have hval:∀ o,6≤o→(eV F (aQ (F 0)) o=if o∈(fY (F 0)).map (·.o) then F o else 0):=fun o ho=>by
  unfold eV aQ;congr 1;rw[Um,Tx];simp[pS];omega
 constructor
 · rintro⟨h,hU⟩
   have g:∀ o,6≤o→o<10→(if o∈(fY (F 0)).map (·.o) then F o else 0)=F o:=fun o h6 h10=>by
    have:=h o h10;unfold upd at this;rw[SP (by omega),hval o h6] at this;exact this
   have g6:=g 6 (by decide) (by decide);have g7:=g 7 (by decide) (by decide);have g8:=g 8 (by decide) (by decide);have g9:=g 9 (by decide) (by decide);refine⟨fun h2=>?_,fun h2 h1=>?_,hU⟩
   · by_cases h1:F 0=1
     ·simp[fY,h1,pP] at g8 g9;omega
     ·simp[fY,h1,h2] at g8 g9;omega
   ·simp[fY,h1,h2] at g6 g7;omega
 · rintro⟨h8,h6,hU⟩
   refine⟨fun o ho=>?_,hU⟩;unfold upd;by_cases h0:o=0
   ·rw[SQ h0,h0]
   · rw[SP h0]
     by_cases h5:o<6
     ·exact hcom o (by omega)
     · rw[hval o (by omega)]
       by_cases h2:F 0=2
       ·rw[SQ];simp[fY,h2,tY];omega
       · have h8':=h8 h2
         by_cases h1:F 0=1
         · by_cases h7:o<8
           ·rw[SQ];simp[fY,h1,pP];omega
           · rw[SP (by simp[fY,h1,pP];omega)]
             have:o=8∨o=9:=by omega
             rcases this with rfl|rfl<;>omega
         · have h6':=h6 h2 h1
           rw[SP (by simp[fY,h1,h2])];have:o=6∨o=7∨o=8∨o=9:=by omega
           rcases this with rfl|rfl|rfl|rfl<;>omega
section
variable {N:Nt}{l:SF}{ty:TypeId}{pos:String}{aft:Array Edge}{CH:Array Obj→Prop}{x y:Operand}{t':TypeId}{g:Option (Nat×Bool)}{dd:Option Nat}
theorem K3(G:Nat→Int)(U:By)(F:Nat→Int)(T:By)(w:World):(Op.equalIn 10000 88 (.agg (bK G U).toArray) (.agg (bK F T).toArray)).run Tryz.prog w=.ok (decide (sO G U F T)) w:=by
 have h0:=run_equalIn_struct (P:=Tryz.prog) w 9999 88 (bK G U).toArray (bK F T).toArray (by kernel_rfl) (by kernel_rfl);refine h0.trans ?_;obtain⟨r,hr,hr2⟩:=qM (P:=Tryz.prog) w (d:=9998) (d1:=9999) rfl (xs:=(bK G U).toArray) (ys:=(bK F T).toArray) (Tryz.prog.fieldsOf 88).toList (by
  unfold Program.fieldsOf;rw[Tryz.underlying88];simp only[UB];refine⟨⟨by decide,_,_,rfl,rfl,?_,?_⟩,⟨by decide,_,_,rfl,rfl,?_,?_⟩,⟨by decide,_,_,rfl,rfl,?_,?_⟩,⟨by decide,_,_,rfl,rfl,?_,?_⟩,⟨by decide,_,_,rfl,rfl,?_,?_⟩,⟨by decide,_,_,rfl,rfl,?_,?_⟩,⟨by decide,_,_,rfl,rfl,?_,?_⟩,⟨by decide,_,_,rfl,rfl,?_,?_⟩,⟨by decide,_,_,rfl,rfl,?_,?_⟩,⟨by decide,_,_,rfl,rfl,?_,?_⟩,⟨by decide,_,_,rfl,rfl,?_,?_⟩,by simp⟩<;>first|(unfold okV;rw[ty3];exact(rfl:IntKind.i64=IntKind.i64))|(unfold okV;rw[ty9];exact trivial))
 suffices hsf:r=decide (sO G U F T) by rw[←hsf];exact hr
 rw[Bool.eq_iff_iff,hr2,decide_eq_true_iff];unfold Program.fieldsOf;rw[Tryz.underlying88];constructor
 · intro h
   have h2:bK G U=bK F T:=by
    simp only[UB] at h;obtain⟨a0,a1,a2,a3,a4,a5,a6,a7,a8,a9,a10,_⟩:=h;apply GV;intro o ho
    match o,ho with
   |0,_=>simpa using a0
   |1,_=>simpa using a1
   |2,_=>simpa using a2
   |3,_=>simpa using a3
   |4,_=>simpa using a4
   |5,_=>simpa using a5
   |6,_=>simpa using a6
   |7,_=>simpa using a7
   |8,_=>simpa using a8
   |9,_=>simpa using a9
   |10,_=>simpa using a10
   exact GU h2
 · rintro⟨h1,h2⟩ f _
   rw[Jo h1 h2]
theorem Rg{G F:Nat→Int}{U T:By}(hx:evL l x=some (.agg (bK G U).toArray))(hy:evL l y=some (.agg (bK F T).toArray)):Cm Tryz.prog N CH l ⟨dd,.binOp .neq 88 x y t',ty,pos,aft,g⟩ (.bool (decide (¬ sO G U F T))):=fun a w ha _=>by
 have h1:=run_eqGuard_agg (P:=Tryz.prog) w .neq 88 x y (bK G U).toArray (bK F T).toArray (by kernel_rfl);have h2:=run_neq_struct (P:=Tryz.prog) w 88 (bK G U).toArray (bK F T).toArray;rw[K3] at h2;simp only[execOp,ha.ev hx,ha.ev hy,Sem.run_bind,h1,h2,Result.andThen_ok,Sem.run_pure];simp
end
theorem yX{L:List Fd}{k:Nat}(h:k<L.length):L.take (k+1)=L.take k++[L.getD k fd0]:=by
 rw[Tg h];simp[S6,h]
theorem Hs{H:Array Obj}{ao:Option Addr}{c:Nat}{L:List Fd}(h:VwM 3 fdV H ao c L){k:Nat}{z:Int}(hz:z=k)(hk:k<L.length) :
 ∀ j v,(fdV (L.getD k fd0))[j]?=some v→aU H ((adr ao (z.toNat*3)).add j)=some v:=by
 have e:L[k]?=some (L.getD k fd0):=by simp[S6,hk]
 exact h.rowZ k hz e
theorem qT{p:Prop}[Decidable p](h:¬ p):Value.bool false=.bool (decide p):=by rw[SU h]
theorem Ia{p:Prop}[Decidable p](h:p):Value.bool true=.bool (decide p):=by rw[SX h]
theorem KY(F:Nat→Int)(T:By)(W:World)(hT:T.length≤maxLen) :
 CA 125 [.agg (bK F T).toArray] W fun v w'=>v=.bool (decide (jL F T))∧aA nob W w':=by
 refine cS 100 [(0,_)] Tryz.func125 ?_;refine Gz 2 ?_;refine Px rfl rfl ?_;intro w1 hg1 hs1 hf1;have hg1:w1.heap[W.heap.size]?=some (.cells (bK F T).toArray 88 (0,0)):=hg1;refine Gz 4 ?_;refine Pk 6 (fun H=>H[W.heap.size]?=some (.cells (bK F T).toArray 88 (0,0))) [0,3,4] [1,2,0,3,4,5] aJ (by kernel_rfl) (hg1) ?_;refine Gz 2 ?_;refine Ph rfl rfl (O6 Kk rfl (xB _) rfl ?_);rintro _ w2 ⟨ao2,c2,rfl,ho2,hfr2,hf2⟩;refine Pn (by exact hf2.obj hg1 id) ?_;refine Ph rfl rfl (O6 Kj rfl (wU (F 0) w2) rfl ?_);rintro _ w3 ⟨ao3,c3,rfl,ho3,hfr3,hf3⟩;refine Pn (by exact hf3.obj (hf2.obj hg1 id) id) ?_;refine Ph rfl rfl (Pu dP rfl qB rfl rfl (ho2.SN hf3) (ho3.vw dP) (by have:=iA (F 0);unfold aQ at this;rw[SR] at this;omega) (by have:=iA (F 0);unfold aQ at this;rw[SR] at this;unfold maxLen;omega) rfl ?_);intro ao4 c4 w4 ho4 hf4 hr4 hn4;have hfr2:Fr w1.heap.size ao2:=hfr2;have hg4:=hf4.obj (hf3.obj (hf2.obj hg1 id) id) (fun⟨a,ha,hb⟩=>by have:=hfr2 a ha;omega);have hF3:aA nob W w3:=(hf1.trans hf2.SL).trans hf3;have hF4:aA nob W w4:=hF3.SJ hf4 (fun k ⟨a,ha,hb⟩=>.inr (by have:=hfr2 a ha;omega));refine Pn (by exact hg4) ?_;refine Gz 5 ?_;refine O9 Fi rfl ?_;intro w5 hg5 hs5 hf5;have hg5:w5.heap[w4.heap.size]?=some (.cells (bK (fun _=>0) []).toArray 88 (0,0)):=hg5;have hlt4:W.heap.size<w4.heap.size:=by have:=hf2.size;have:=hf3.size;have:=hf4.size;have:w1.heap.size≤w2.heap.size:=hf2.SL.size;omega
 have hF5:=hF4.trans hf5;have hp5:=hf5.obj hg4 id;have hL5:VwM 3 fdV w5.heap ao4 c4 (aQ (F 0)):=(ho4.vw dP).SN hf5;have hLlen:=iA (F 0);have hne4:∀ a,ao4=some a→a.block<w4.heap.size:=fun a ha=>ho4.lt a ha;refine Gz 11 ?_;refine Pb (β:=Nat) (fun k=>[(1,pT W.heap.size),(4,pT w4.heap.size),(14,.slice ao4 (aQ (F 0)).length c4),(15,iV (aQ (F 0)).length),(16,iV k)]) (fun k w=>k≤(aQ (F 0)).length∧w.heap[w4.heap.size]?=some (.cells (bK (eV F ((aQ (F 0)).take k)) []).toArray 88 (0,0))∧(∀ x∈(aQ (F 0)).take k,okF F x)∧w.heap[W.heap.size]?=some (.cells (bK F T).toArray 88 (0,0))∧VwM 3 fdV w.heap ao4 c4 (aQ (F 0))∧w4.heap.size<w.heap.size∧aA nob W w) (fun k=>(aQ (F 0)).length-k) 0 ⟨rfl,rfl,rfl,rfl,rfl,trivial⟩ ⟨S3 _,by rw[List.take_zero,Cf];exact hg5,by simp,hp5,hL5,by omega,hF5⟩ ?_;rintro k w6 ⟨hk,hq,hall,hp,hL,hlt6,hF6⟩;refine fK 2 ?_ ?_<;>intro h17
 ·refine Gz 10 ?_;have hkL:k<(aQ (F 0)).length:=by omega
  have hrow:=Hs hL (k:=k) rfl hkL;have hmem:=yB hkL;obtain⟨⟨hfn,ho10,ho0,hcall⟩,hb1,hb4,hm0,hmb⟩:=nP hmem;obtain⟨x,hx⟩:∃ x,x=(aQ (F 0)).getD k fd0:=⟨_,rfl⟩
  rw[←hx] at hrow hmem hfn ho10 ho0 hcall hb1 hb4 hm0;refine cL (Pa qB rfl rfl hL.non (by omega)) ?_;refine cL (Pi (cs:=fdV x) zI rfl hrow) ?_;refine O9 gG rfl ?_;intro w7 hg7 hs7 hf7;refine sA rfl zI (by simp[fdV,Value.oneCell']) hg7 ?_;intro w8 hg8 hs8 hf8;have hF8:aA nob w6 w8:=hf7.SJ hf8 (fun k hk=>.inr (by omega));have hp8:=hF8.obj hp id;have hq8:=hF8.obj hq id;refine Gz 6 ?_;refine P9 hfn rfl rfl (hcall W.heap.size w8) rfl ?_;rintro _ w9 ⟨rfl,hw9⟩;subst w9;refine Gz 1 ?_;refine cL (O8 aK rfl (bB hp8 (oF F T ho10))) ?_;refine fK 7 ?_ ?_<;>intro h26
  ·have hbad:¬ jL F T:=fun h=>by have:=yA h x hmem;unfold okF at this;omega
   refine Gz 22 ?_;exact⟨_,rfl,qT hbad,(hF6.trans hF8)⟩
  refine fW 4 ?_ ?_<;>intro h31
  ·have hbad:¬ jL F T:=fun h=>by have:=yA h x hmem;unfold okF at this;omega
   refine Gz 17 ?_;exact⟨_,rfl,qT hbad,(hF6.trans hF8)⟩
  refine Gz 9 ?_;refine P9 hfn rfl rfl (hcall w4.heap.size w8) rfl ?_;rintro _ w9 ⟨rfl,hw9⟩;subst w9;refine Gz 2 ?_;refine Pg aK rfl rfl rfl hq8 (by simp[bK];omega) ?_;intro w10 hg10 hs10 hf10;rw[AQ _ _ ho10,AN,hx,←yX hkL] at hg10;refine Gz 7 ?_;refine aG (k+1) ?_ (by show (aQ (F 0)).length-(k+1)<(aQ (F 0)).length-k;omega);have hF10:aA (· = w4.heap.size) w6 w10:=(hF8.mono (fun _ h=>h.elim)).trans hf10;refine⟨by omega,hg10,fun y hy=>?_,hF10.obj hp (by omega),hL.SO hF10 (fun a ha e=>by have:=hne4 a ha;omega),by have:=hF10.size;omega,(hF6.trans hF8).SJ hf10 (fun k hk=>.inr (by omega))⟩;rw[yX hkL,←hx] at hy;rcases Tx.1 hy with hy|hy
  ·exact hall y hy
  ·rw[Tv] at hy;subst hy;unfold okF;omega
 refine Gz 12 ?_;have hfin:=DM hk (by assumption);rw[hfin] at hq hall;obtain⟨k0,k2,k1⟩:=IL hall;refine Gz 2 ?_;refine Pg aK rfl rfl rfl hq rfl ?_;intro w11 hg11 hs11 hf11;have hg11:w11.heap[w4.heap.size]?=some (.cells (bK (upd (eV F (aQ (F 0))) 0 (F 0)) []).toArray 88 (0,0)):=by rw[←AQ _ _ (by decide)];exact hg11
 have hp11:=hf11.obj hp (by omega);have hF11:aA nob W w11:=hF6.SJ hf11 (fun k hk=>.inr (by omega));refine Gz 2 ?_;refine PI (β:=By) (fun U=>[(1,pT W.heap.size),(4,pT w4.heap.size)]) (fun U w=>(if F 0=3 then T else [])=U∧w.heap[w4.heap.size]?=some (.cells (bK (upd (eV F (aQ (F 0))) 0 (F 0)) U).toArray 88 (0,0))∧w.heap[W.heap.size]?=some (.cells (bK F T).toArray 88 (0,0))∧aA nob W w) ?_ ?_
 ·refine fK 4 ?_ ?_<;>intro h44
  ·refine Gz 7 ?_;refine Pg kN rfl rfl rfl hg11 rfl ?_;intro w12 hg12 hs12 hf12;have hp12:=hf12.obj hp11 (show ¬ (W.heap.size=w4.heap.size) by omega);have hF12:aA nob W w12:=hF11.tw hf12;refine Gz 1 ?_;refine aC (if F 0=3 then T else []) ?_;exact⟨rfl,by rw[SQ h44];exact hg12,hp12,hF12⟩
  refine Gz 4 ?_;refine aC (if F 0=3 then T else []) ?_;exact⟨rfl,by rw[SP h44];exact hg11,hp11,hF11⟩
 rintro U w13 ⟨hU,hqz,hpz,hFz⟩;refine Gz 3 ?_;refine cL (Pi (cs:=bK (upd (eV F (aQ (F 0))) 0 (F 0)) U) qP rfl (fun j v hj=>aD hqz hj)) ?_;refine cL (Pi (cs:=bK F T) qP rfl (fun j v hj=>aD hpz hj)) ?_;refine PD (Rg rfl rfl) rfl (fun h50=>?_) (fun h50=>?_)
 ·rw[tK,←hU] at h50;have hbad:¬ jL F T:=fun h=>by have:=h.1;unfold iZ at this;apply h50;refine⟨fun _=>by omega,fun _ _=>by omega,?_⟩;by_cases h3:F 0=3;rw[SQ h3];rw[SP h3];exact(Tk (by omega)).symm
  refine Gz 16 ?_;exact⟨_,rfl,qT hbad,hFz⟩
 have hsame:=(tK F U T).1 (Decidable.not_not.1 h50);obtain⟨s8,s6,sU⟩:=hsame;have sT:F 0≠3→T.length=0:=fun h3=>by rw[←sU,←hU,SP h3];rfl
 refine fW 3 ?_ ?_<;>intro h54
 ·have hbad:¬ jL F T:=fun h=>by have:=h.1;unfold iZ at this;omega
  refine Gz 12 ?_;exact⟨_,rfl,qT hbad,hFz⟩
 refine fK 16 ?_ ?_<;>intro h59
 ·refine Gz 8 ?_;refine cL (Rl rfl rfl (by omega) (by decide)) ?_;refine fK 0 ?_ ?_<;>intro h63
  ·refine fK 7 ?_ ?_<;>intro h66
   ·refine Gz 1 ?_;refine cL (P3 ty4 rfl rfl) ?_;refine Gz 15 ?_;exact⟨_,rfl,Ia ⟨by unfold iZ;omega,fun h3=>by first|exact hnul|omega⟩,hFz⟩
   refine Gz 1 ?_;refine cL (P3 ty4 rfl rfl) ?_;refine Gz 15 ?_;exact⟨_,rfl,qT (fun h=>by have:=h.1;unfold iZ at this;omega),hFz⟩
  refine fK 7 ?_ ?_<;>intro h66
  ·refine Gz 1 ?_;refine cL (P3 ty4 rfl rfl) ?_;refine Gz 15 ?_;exact⟨_,rfl,qT (fun h=>by have:=h.1;unfold iZ at this;omega),hFz⟩
  refine Gz 1 ?_;refine cL (P3 ty4 rfl rfl) ?_;refine fW 5 ?_ ?_<;>intro h74
  ·refine Gz 9 ?_;exact⟨_,rfl,Ia ⟨by unfold iZ;omega,fun h3=>by first|exact hnul|omega⟩,hFz⟩
  refine Gz 9 ?_;exact⟨_,rfl,qT (fun h=>by have:=h.1;unfold iZ at this;omega),hFz⟩
 refine fK 6 ?_ ?_<;>intro h78
 ·refine fK 8 ?_ ?_<;>intro h81
  ·refine Gz 7 ?_;exact⟨_,rfl,Ia ⟨by unfold iZ;omega,fun h3=>by first|exact hnul|omega⟩,hFz⟩
  refine Gz 7 ?_;exact⟨_,rfl,qT (fun h=>by have:=h.1;unfold iZ at this;omega),hFz⟩
 refine fK 6 ?_ ?_<;>intro h83
 ·refine Gz 8 ?_;refine cL (PG ty9 rfl) ?_;refine fK 0 ?_ ?_<;>intro h87
  ·refine Gz 3 ?_;refine cW (PG ty9 rfl) ?_;refine fW 0 ?_ ?_<;>intro h92
   ·refine Gz 4 ?_;refine Pd rfl rfl He rfl (Cg _ 0 w13) rfl ?_;rintro _ w14 ⟨rfl,hw14⟩;subst w14;refine fW 0 ?_ ?_<;>intro h98
    ·have hnul:=nR h98;refine Gz 8 ?_;exact⟨_,rfl,Ia ⟨by unfold iZ;omega,fun h3=>by first|exact hnul|omega⟩,hFz⟩
    have hnul:=nQ (Int.not_lt.1 h98);refine Gz 8 ?_;exact⟨_,rfl,qT (fun h=>h.2 (by omega) hnul),hFz⟩
   refine Gz 14 ?_;exact⟨_,rfl,qT (fun h=>by have:=h.1;unfold iZ at this;omega),hFz⟩
  refine Gz 19 ?_;exact⟨_,rfl,qT (fun h=>by have:=h.1;unfold iZ at this;omega),hFz⟩
 refine Gz 14 ?_;exact⟨_,rfl,qT (fun h=>by have:=h.1;unfold iZ at this;omega),hFz⟩
def sB(s:Int×By)(t:By):Int×By:=(mC s.1 t,mO s.1 s.2 t)
def xF(s:Int×By)(x:Xa):Int×By:=sB (sB s x.1) x.2
def xSt(X:List Xa)(k:Nat):Int×By:=(X.take k).foldl xF (dR 1 (0,[]) X.length)
theorem rY(X:List Xa)(k:Nat)(h:k<X.length):xSt X (k+1)=xF (xSt X k) (X.getD k x0):=by
 unfold xSt;rw[Tg h,TX];simp[S6,h]
theorem gQ{s:Int×By}{t:By}(h:s.1=0)(ht:t.length≤255):(sB s t).1=0∧(sB s t).2.length=s.2.length+1+t.length:=by
 refine⟨by show mC s.1 t=0;rw[DZ (.inr (by omega)),h],?_⟩;show (mO s.1 s.2 t).length=_;unfold mO;rw[SP (by omega)];simp only[SR,Td];omega
theorem zN{X:List Xa}(h:dS X):∀ k,k≤X.length→(xSt X k).1=0∧(xSt X k).2.length≤1+300*k
|0,_=>by
   have hb:=lJ (n:=X.length) (by have:=h.2;omega);have h1:eD 0 X.length 1=0:=bE hb;refine⟨h1,?_⟩;show (mG 0 [] X.length 1).length≤_;rw[gR h1,SR,bG];simp
|k+1,hk=>by
   obtain⟨h1,h2⟩:=zN h k (by omega);obtain⟨_,g2,_,g4⟩:=h.1 k (by omega);rw[rY X k (by omega)];obtain⟨a1,a2⟩:=gQ (s:=xSt X k) (t:=(X.getD k x0).1) h1 (by omega);obtain⟨b1,b2⟩:=gQ (s:=sB (xSt X k) (X.getD k x0).1) (t:=(X.getD k x0).2) a1 (by omega);exact⟨b1,by show (sB (sB (xSt X k) (X.getD k x0).1) (X.getD k x0).2).2.length≤_;omega⟩
def iS(X:List Xa):By×Int:=if X.length=0∨¬ dS X then ([],1) else ((xSt X X.length).2,0)
theorem IM(xo:Option Addr)(xc:Nat)(X:List Xa)(W:World)(hv:XaV W.heap xo xc X) :
 CA 124 [.slice xo X.length xc] W (CI W (iS X)):=by
 have hl:=hv.SM;refine cS 35 [(0,_)] Tryz.func124 ?_;refine fK 11 ?_ ?_<;>intro h9
 ·refine Gz 17 ?_;have e:iS X=([],1):=by unfold iS;rw[SQ (.inl (by omega))]
  rw[e];exact⟨_,rfl,none,0,rfl,R8,R6,RY _ _⟩
 refine Gz 2 ?_;refine Pd rfl rfl Ms rfl (I8 xo xc X W hv) rfl ?_;rintro _ w0 ⟨rfl,hF0⟩;refine PB rfl rfl (Qg rfl) rfl (fun h13=>?_) (fun h13=>?_)
 ·have hm:¬ dS X:=of_decide_eq_false h13;refine Gz 13 ?_;have e:iS X=([],1):=by unfold iS;rw[SQ (.inr hm)]
  rw[e];exact⟨_,rfl,none,0,rfl,R8,R6,hF0⟩
 have hm:dS X:=S4 fun h=>h13 (SU h);have hlen:=zN hm;have hm8:=hm.2;refine Gz 8 ?_;refine O9 vF rfl ?_;intro w1 hg1 hs1 hf1;refine Gz 6 ?_;refine O6 tU rfl (mS (fun k=>w0.heap.size≤k) w0.heap.size 0 [] _ 1 w1 (Sf hg1 (SY _)) (lA hf1 (fun k hk=>hk)) (by simp)) rfl ?_;rintro _ w1b ⟨hP1,hF1⟩;refine Gz 11 ?_;refine Pb (β:=Nat) (fun k=>[(4,pT w0.heap.size),(18,.slice xo X.length xc),(19,iV X.length),(20,iV k)]) (fun k w=>k≤X.length∧WrL (fun k=>w0.heap.size≤k) w.heap w0.heap.size (xSt X k).1 (xSt X k).2∧aA nob w0 w) (fun k=>X.length-k) 0 ⟨rfl,rfl,rfl,rfl,trivial⟩ ⟨S3 _,hP1,(hf1.any.trans hF1).fresh (fun k hk=>hk)⟩ ?_;rintro k w2 ⟨hk,hP2,hF2⟩;refine fK 2 ?_ ?_<;>intro h21
 ·refine Gz 10 ?_;obtain⟨xa,xc2,hrow0,hxv,hnl⟩:=hv.at (i:=k) rfl (by omega);obtain⟨_,q2,_,q4⟩:=hm.1 k (by omega);have hFW:=hF0.trans hF2;have hrow:=fun j v h=>uJ (hrow0 j v h) hFW id;obtain⟨z1,z2⟩:=hlen k hk;refine cL (Pa kA rfl rfl hv.non (by omega)) ?_;refine cL (Pi (cs:=[.string (bs (X.getD k x0).1),.slice xa (X.getD k x0).2.length xc2]) dT rfl hrow) ?_;refine O9 rX rfl ?_;intro w3 hg3 hs3 hf3;refine sA rfl dT (by simp[Value.oneCell']) hg3 ?_;intro w4 hg4 hs4 hf4;have hF4:aA nob w2 w4:=hf3.SJ hf4 (fun k hk=>.inr (by omega));have hP4:=hP2.shrink hF4;refine Gz 6 ?_;refine O6 DJ rfl (nH _ w0.heap.size _ _ _ w4 hP4 (fun k hk=>⟨Tt (hF2.trans hF4).size hk,.inr hk⟩) (by omega)) rfl ?_;rintro _ w5 ⟨hP5,hF5⟩;have hg5:=hF5.obj hg4 (fun h=>by rcases h.2 with h|h<;>omega);have hF05:aA nob w0 w5:=((hF2.trans hF4).any.trans hF5).fresh (fun k hk=>hk.1);obtain⟨a1,a2⟩:=gQ (s:=xSt X k) (t:=(X.getD k x0).1) z1 (by omega);have a3:(mO (xSt X k).1 (xSt X k).2 (X.getD k x0).1).length=_:=a2;refine Gz 5 ?_;refine cL (Qd aN ty5 ty9 rfl (hxv.SN (hF0.trans hF05))) ?_;refine O6 DJ rfl (nH _ w0.heap.size _ _ _ w5 hP5 (fun k hk=>⟨Tt hF05.size hk,.inr (Tt hF5.size hk)⟩) (by omega)) rfl ?_;rintro _ w6 ⟨hP6,hF6⟩;refine Gz 7 ?_;refine aG (k+1) ?_ (by show X.length-(k+1)<X.length-k;omega);exact⟨by omega,by rw[rY X k (by omega)];exact hP6.mono (fun q hq=>hq.1),(hF05.any.trans hF6).fresh (fun k hk=>hk.1)⟩
 refine Gz 11 ?_;refine O6 yV rfl (eP _ w0.heap.size _ _ w2 hP2 (by have:=(hlen k hk).2;have:=hm.2;omega)) rfl ?_;rintro _ w3 ⟨ao3,c3,rfl,ho3,hfr3,hf3⟩;refine Gz 1 ?_;refine O6 AY rfl (nB _ w0.heap.size _ _ w3 (hP2.SN hf3)) rfl ?_;rintro _ w4 ⟨rfl,hw4⟩;subst w4;refine Gz 6 ?_;have hk2:k=X.length:=by omega
 subst hk2;have z:=(hlen _ (SY _)).1;have e:iS X=(iX (xSt X X.length).1 (xSt X X.length).2,(xSt X X.length).1):=by unfold iS iX;rw[SP (by intro h;rcases h with h|h;omega;exact h hm),SP (by omega),z]
 rw[e];exact⟨_,rfl,ao3,c3,rfl,ho3,hfr3.mono (Tt hF0.size hF2.size),(hF0.trans hF2).trans hf3⟩
def LN(F:Nat→Int)(s:Int×By)(x:Fd):Int×By:=dR x.b s (F x.o)
def rSt(F:Nat→Int)(k:Nat):Int×By:=((aQ (F 0)).take k).foldl (LN F) (dR 1 (0,[]) (F 0))
def yE(F:Nat→Int)(T:By):Int×By:=if F 0=3 then sB (rSt F (aQ (F 0)).length) T else rSt F (aQ (F 0)).length
def mE(F:Nat→Int)(T:By):By×Int:=if jL F T then ((yE F T).2,0) else ([],1)
theorem Al(F:Nat→Int)(k:Nat)(h:k<(aQ (F 0)).length):rSt F (k+1)=LN F (rSt F k) ((aQ (F 0)).getD k fd0):=by
 unfold rSt;rw[yX h,TX];rfl
theorem qF{s:Int×By}{z n:Int}(h:s.1=0)(hb:¬ eZ z n):(dR n s z).1=0∧(dR n s z).2=s.2++le z n.toNat:=by
 have h1:eD s.1 z n=0:=by rw[bE hb,h]
 exact⟨h1,gR h1⟩
theorem eX{z n m:Int}(h1:1≤n)(h4:n≤4)(h0:0≤z)(hm:z≤m)(hb:m<2 ^ (8*n).toNat):¬ eZ z n:=by
 unfold eZ;have h2:z/2 ^ (8*n).toNat=0:=Int.ediv_eq_zero_of_lt h0 (by omega);rw[h2];omega
theorem AH{F:Nat→Int}{T:By}(h:jL F T):F 0=1∨F 0=2∨F 0=3:=by
 have:=h.1;unfold iZ at this;omega
theorem sS{F:Nat→Int}{T:By}(h:jL F T):∀ k,k≤(aQ (F 0)).length→(rSt F k).1=0∧(rSt F k).2.length=1+(((aQ (F 0)).take k).map (fun x=>x.b.toNat)).sum
|0,_=>by
   have hk:=AH h;obtain⟨a,b⟩:=qF (s:=(0,[])) (z:=F 0) (n:=1) rfl (eX (m:=3) (by decide) (by decide) (by omega) (by omega) (by decide));exact⟨a,by show (dR 1 (0,[]) (F 0)).2.length=_;rw[b,SR,bG];rfl⟩
|k+1,hk=>by
   obtain⟨h1,h2⟩:=sS h k (by omega);have hm:=yB (k:=F 0) (i:=k) (by omega);obtain⟨_,b1,b4,m0,mb⟩:=nP hm;have ho:=yA h _ hm;obtain⟨a,b⟩:=qF (s:=rSt F k) (z:=F ((aQ (F 0)).getD k fd0).o) (n:=((aQ (F 0)).getD k fd0).b) h1 (eX b1 b4 ho.1 ho.2 mb);rw[Al F k (by omega)];refine⟨a,?_⟩;show (dR _ _ _).2.length=_;rw[b,SR,bG,yX (by omega),Um,List.sum_append,h2];simp;omega
theorem FC(F:Nat→Int)(k:Nat):(((aQ (F 0)).take k).map (fun x=>x.b.toNat)).sum≤36:=by
 have h1:∀ (L:List Fd),(∀ x∈L,x.b.toNat≤4)→(L.map (fun x=>x.b.toNat)).sum≤4*L.length:=by
  intro L
  induction L with
 |nil=>intro _;simp
 |cons x r ih=>intro h;have:=ih (fun y hy=>h y (by simp[hy]));have:=h x (by simp);simp only[TD,List.sum_cons,Td];omega
 have h2:=h1 ((aQ (F 0)).take k) (fun x hx=>by have:=nP (TR hx);omega);have h3:=iA (F 0);rw[S2] at h2;omega
theorem KC(F:Nat→Int)(T:By)(W:World)(hT:T.length≤maxLen) :
 CA 74 [.agg (bK F T).toArray] W (CI W (mE F T)):=by
 refine cS 41 [(0,_)] Tryz.func74 ?_;refine Gz 2 ?_;refine Px rfl rfl ?_;intro w1 hg1 hs1 hf1;have hg1:w1.heap[W.heap.size]?=some (.cells (bK F T).toArray 88 (0,0)):=hg1;refine Gz 7 ?_;refine cL (Pi (cs:=bK F T) qP rfl (fun j v hj=>aD hg1 hj)) ?_;refine cA 0 MI (KY F T w1 hT) ?_;rintro _ w2 ⟨rfl,hf2⟩;refine PD (Qg rfl) rfl (fun h9=>?_) (fun h9=>?_)
 ·have hm:¬ jL F T:=of_decide_eq_false h9;refine Gz 12 ?_;have e:mE F T=([],1):=by unfold mE;rw[SP hm]
  rw[e];exact⟨_,rfl,none,0,rfl,R8,R6,hf1.trans hf2⟩
 have hm:jL F T:=S4 fun h=>h9 (SU h);have hlen:=sS hm;have hp2:=hf2.obj hg1 id;have hF2:=hf1.trans hf2;have hlt2:W.heap.size<w2.heap.size:=by have:=hf2.size;omega
 refine Gz 7 ?_;refine O9 vF rfl ?_;intro w3 hg3 hs3 hf3;have hp3:=hf3.obj hp2 id;refine Gz 6 ?_;refine O6 tU rfl (mS (fun k=>w2.heap.size≤k) w2.heap.size 0 [] (F 0) 1 w3 (Sf hg3 (SY _)) (lA hf3 (fun k hk=>hk)) (by simp)) rfl ?_;rintro _ w4 ⟨hP4,hf4⟩;have hp4:=hf4.obj hp3 (by omega);have hF4:aA nob w2 w4:=(hf3.any.trans hf4).fresh (fun k hk=>hk);have hP4:WrL (fun k=>w2.heap.size≤k) w4.heap w2.heap.size (rSt F 0).1 (rSt F 0).2:=hP4;refine Gz 4 ?_;refine Pk 7 (fun H=>H[W.heap.size]?=some (.cells (bK F T).toArray 88 (0,0))) [0,3,4] [1,2,6,0,3,4,5] aJ (by kernel_rfl) (hp4) ?_;refine Gz 3 ?_;refine Ph rfl rfl (O6 Kk rfl (xB _) rfl ?_);rintro _ w5 ⟨ao2,c2,rfl,ho2,hfr2,hf5⟩;refine Pn (by exact hf5.obj hp4 id) ?_;refine Ph rfl rfl (O6 Kj rfl (wU (F 0) w5) rfl ?_);rintro _ w6 ⟨ao3,c3,rfl,ho3,hfr3,hf6⟩;refine Pn (by exact hf6.obj (hf5.obj hp4 id) id) ?_;refine Ph rfl rfl (Pu dP rfl qB rfl rfl (ho2.SN hf6) (ho3.vw dP) (by have:=iA (F 0);unfold aQ at this;rw[SR] at this;omega) (by have:=iA (F 0);unfold aQ at this;rw[SR] at this;unfold maxLen;omega) rfl ?_);intro ao4 c4 w7 ho4 hf7 hr4 hn4;have hfr2:Fr w4.heap.size ao2:=hfr2;have hlt4:=hF4.size;have hp7:=hf7.obj (hf6.obj (hf5.obj hp4 id) id) (fun⟨a,ha,hb⟩=>by have:=hfr2 a ha;omega);have hF47:aA nob w4 w7:=(hf5.SL.trans hf6).SJ hf7 hfr2.step;have hP7:=hP4.shrink hF47;have hne4:∀ a,ao4=some a→w4.heap.size≤a.block∧a.block<w7.heap.size:=fun a ha=>⟨by rcases hr4 a ha with h|h;exact hfr2 a h;have:=hf5.SL.size;have:=hf6.size;omega,ho4.lt a ha⟩
 have hL7:VwM 3 fdV w7.heap ao4 c4 (aQ (F 0)):=ho4.vw dP;have hLlen:=iA (F 0);refine Pn (by exact hp7) ?_;refine Gz 4 ?_;refine Pb (β:=Nat) (fun k=>[(1,pT W.heap.size),(4,pT w2.heap.size),(17,.slice ao4 (aQ (F 0)).length c4),(18,iV (aQ (F 0)).length),(19,iV k)]) (fun k w=>k≤(aQ (F 0)).length∧WrL (fun k=>w2.heap.size≤k∧(k<w4.heap.size∨w7.heap.size≤k)) w.heap w2.heap.size (rSt F k).1 (rSt F k).2∧VwM 3 fdV w.heap ao4 c4 (aQ (F 0))∧w.heap[W.heap.size]?=some (.cells (bK F T).toArray 88 (0,0))∧w7.heap.size≤w.heap.size∧w2.heap.size≤w.heap.size∧aA nob W w) (fun k=>(aQ (F 0)).length-k) 0 ⟨rfl,rfl,rfl,rfl,rfl,trivial⟩ ⟨S3 _,hP7,hL7,hp7,SY _,by have:=hF47.size;omega,(hF2.trans hF4).trans hF47⟩ ?_;rintro k w8 ⟨hk,hP8,hL,hp8,hlt8,hlt82,hF8⟩;refine fK 2 ?_ ?_<;>intro h20
 ·refine Gz 10 ?_;have hkL:k<(aQ (F 0)).length:=by omega
  have hrow:=Hs hL (k:=k) rfl hkL;have hmem:=yB hkL;obtain⟨⟨hfn,ho10,ho0,hcall⟩,hb1,hb4,hm0,hmb⟩:=nP hmem;obtain⟨x,hx⟩:∃ x,x=(aQ (F 0)).getD k fd0:=⟨_,rfl⟩
  rw[←hx] at hrow hmem hfn ho10 ho0 hcall hb1 hb4 hm0;refine cL (Pa qB rfl rfl hL.non (by omega)) ?_;refine cL (Pi (cs:=fdV x) zI rfl hrow) ?_;refine O9 gG rfl ?_;intro w9 hg9 hs9 hf9;refine sA rfl zI (by simp[fdV,Value.oneCell']) hg9 ?_;intro w10 hg10 hs10 hf10;have hF10:aA nob w8 w10:=hf9.SJ hf10 (fun k hk=>.inr (by omega));have hp10:=hF10.obj hp8 id;have hP10:=hP8.shrink hF10;have hF10s:=hF10.size;obtain⟨z1,z2⟩:=hlen k hk;have z3:=FC F k;refine Gz 2 ?_;refine Pk 7 (fun H=>H[W.heap.size]?=some (.cells (bK F T).toArray 88 (0,0))∧H[w8.heap.size]?=some (.cells (fdV x).toArray 196 (0,0))) [2,7] [0,1,5,6,2,3,4,7] aJ (by kernel_rfl) (⟨hp10,hg10⟩) ?_;refine Gz 4 ?_;refine Ph rfl rfl (P9 hfn rfl rfl (hcall W.heap.size _) rfl ?_);rintro _ w9b ⟨rfl,hw9⟩;subst w9b;refine Pn (by exact⟨hp10,hg10⟩) ?_;refine Gz 1 ?_;refine xC rfl (Pe aK rfl (fun H hH=>bB hH.1 (oF F T ho10))) ?_;refine Ph rfl rfl (O6 tU rfl (mS _ w2.heap.size _ _ (F x.o) x.b _ hP10 (fun k hk=>⟨⟨by have:w10.heap.size≤k:=hk;omega,.inr (by have:w10.heap.size≤k:=hk;omega)⟩,.inr hk⟩) (by omega)) rfl ?_);rintro _ w11 ⟨hP11,hf11⟩;refine PN rfl ?_;refine Gz 7 ?_;refine aG (k+1) ?_ (by show (aQ (F 0)).length-(k+1)<(aQ (F 0)).length-k;omega);have hf11:=hf11.SL;have hs11:=hf11.size;exact⟨by omega,by rw[Al F k hkL,←hx];exact hP11.mono (fun q hq=>hq.1),(hL.SN hF10).SO hf11 (fun a ha h=>by have:=hne4 a ha;have:=h.1.2;omega),hf11.obj hp10 (fun h=>by have:=h.1.1;omega),by omega,by omega,((hF8.trans hF10).any.trans hf11).fresh (fun k hk=>by have:=hk.1.1;omega)⟩
 refine Gz 13 ?_;have hkk:k=(aQ (F 0)).length:=by omega
 subst hkk;have z:=hlen _ (SY _);have z3:=FC F (aQ (F 0)).length;refine fK 1 ?_ ?_<;>intro h34
 ·refine Gz 6 ?_;refine O6 DJ rfl (nH _ w2.heap.size _ _ T w8 hP8 (fun k hk=>⟨by omega,.inr (by omega)⟩) (by omega)) rfl ?_;rintro _ w12 ⟨hP12,hf12⟩;have hm3:=hm.1;unfold iZ at hm3;have hz:=gQ (s:=rSt F (aQ (F 0)).length) (t:=T) z.1 (by omega);have hz2:(mO (rSt F (aQ (F 0)).length).1 (rSt F (aQ (F 0)).length).2 T).length=_:=hz.2;have hF12:aA nob W w12:=(hF8.any.trans hf12).fresh (fun k hk=>by have:=hk.1;omega);refine Gz 4 ?_;refine O6 yV rfl (eP _ w2.heap.size _ _ w12 hP12 (by omega)) rfl ?_;rintro _ w13 ⟨ao13,c13,rfl,ho13,hfr13,hf13⟩;refine Gz 1 ?_;refine O6 AY rfl (nB _ w2.heap.size _ _ w13 (hP12.SN hf13)) rfl ?_;rintro _ w14 ⟨rfl,hw14⟩;subst w14;refine Gz 6 ?_;have eE:yE F T=sB (rSt F (aQ (F 0)).length) T:=by unfold yE;rw[SQ h34]
  have e:mE F T=(iX (mC (rSt F (aQ (F 0)).length).1 T) (mO (rSt F (aQ (F 0)).length).1 (rSt F (aQ (F 0)).length).2 T),mC (rSt F (aQ (F 0)).length).1 T):=by
   have e0:mC (rSt F (aQ (F 0)).length).1 T=0:=hz.1;unfold mE iX;rw[SQ hm,eE,e0,SP (by omega)];rfl
  rw[e];exact⟨_,rfl,ao13,c13,rfl,ho13,hfr13.mono hF12.size,hF12.trans hf13⟩
 refine Gz 7 ?_;refine O6 yV rfl (eP _ w2.heap.size _ _ w8 hP8 (by omega)) rfl ?_;rintro _ w13 ⟨ao13,c13,rfl,ho13,hfr13,hf13⟩;refine Gz 1 ?_;refine O6 AY rfl (nB _ w2.heap.size _ _ w13 (hP8.SN hf13)) rfl ?_;rintro _ w14 ⟨rfl,hw14⟩;subst w14;refine Gz 6 ?_;have eE:yE F T=rSt F (aQ (F 0)).length:=by unfold yE;rw[SP h34]
 have e:mE F T=(iX (rSt F (aQ (F 0)).length).1 (rSt F (aQ (F 0)).length).2,(rSt F (aQ (F 0)).length).1):=by
  unfold mE iX;rw[SQ hm,eE,z.1,SP (by omega)]
 rw[e];exact⟨_,rfl,ao13,c13,rfl,ho13,hfr13.mono hF8.size,hF8.trans hf13⟩
theorem De{F:Nat→Int}{T:By}(h:jL F T):(yE F T).2.length=(if F 0=2 then 22 else if F 0=1 then 21 else 14+T.length):=by
 obtain⟨h1,h2⟩:=sS h _ (SY _);rw[TB] at h2;have hk:=AH h;have h9:=h.1;unfold iZ at h9;unfold yE;by_cases h3:F 0=3
 · rw[SQ h3,SP (by omega),SP (by omega)]
   have h4:=(gQ (s:=rSt F (aQ (F 0)).length) (t:=T) h1 (by omega)).2;rw[h4,h2];unfold aQ fY;rw[SP (by omega),SP (by omega)];simp[pS]<;>omega
 · rw[SP h3,h2]
   by_cases h4:F 0=2
   · rw[SQ h4]
     unfold aQ fY;rw[SQ h4];simp[pS,tY]
   · rw[SP h4,SQ (by omega)]
     unfold aQ fY;rw[SP h4,SQ (by omega)];simp[pS,pP]
abbrev Rd:=Int×By
def gS(n:Int)(s:Rd):Rd:=(dC (cF s.1 n) s.2 n,oQ (cF s.1 n) s.2 n)
def gV(n:Int)(s:Rd):Int:=bX (gA (cF s.1 n) s.2 n)
def gF(q:Rd×(Nat→Int))(x:Fd):Rd×(Nat→Int):=(gS x.b q.1,upd q.2 x.o (gV x.b q.1))
def gK(b:By):Int:=gV 1 (0,b)
def g0(b:By):Rd×(Nat→Int):=(gS 1 (0,b),upd (fun _=>0) 0 (gK b))
def iO(s:Rd):Rd:=(dC (tE s.1 s.2) (tR s.1 s.2) (tN s.1 s.2),oQ (tE s.1 s.2) (tR s.1 s.2) (tN s.1 s.2))
def gTx(s:Rd):By:=gA (tE s.1 s.2) (tR s.1 s.2) (tN s.1 s.2)
theorem tS{n:Int}{s:Rd}(h1:1≤n)(h4:n≤4)(h0:s.1=0)(hl:n≤s.2.length):gS n s=(0,s.2.drop n.toNat)∧gV n s=bX (s.2.take n.toNat):=by
 have e:dC 0 s.2 n=0:=by rw[gW (by omega) (by omega)]
 unfold gS gV;rw[tD h1 h4,h0,e];obtain⟨a,b⟩:=eJ e;rw[a,b];exact⟨rfl,rfl⟩
theorem DC{n:Int}{s:Rd}(h1:1≤n)(h4:n≤4)(h0:s.1=0)(hl:(s.2.length:Int)<n):(gS n s).1≠0:=by
 unfold gS;rw[tD h1 h4,h0,uE (by omega) hl,SQ rfl];exact(by decide:(2:Int)≠0)
theorem DD{n:Int}{s:Rd}(h:s.1≠0):(gS n s).1≠0:=by
 have:cF s.1 n=s.1:=by unfold cF;rw[SQ h]
 unfold gS;rw[this,pQ h];exact h
def fZ(F:Nat→Int)(L:List Fd):By:=L.flatMap (fun x=>le (F x.o) x.b.toNat)
def BJ(L:List Fd):Nat:=(L.map (fun x=>x.b.toNat)).sum
theorem lD(F:Nat→Int):∀ L:List Fd,(fZ F L).length=BJ L
|[]=>rfl
|x::r=>by have:=lD F r;simp only[fZ,BJ] at this ⊢;simp[bG,this]
theorem Dv{ys:By}{n:Nat}(h:n≤ys.length):le (bX (ys.take n)) n=ys.take n:=by
 have:=yN (ys.take n);rwa[S2,T6 h] at this
theorem DF:∀ (L:List Fd) (q:Rd×(Nat→Int)),(∀ x∈L,1≤x.b∧x.b≤4)→(L.map (·.o)).Nodup →
 (∀ o,o∉L.map (·.o)→(L.foldl gF q).2 o=q.2 o)∧(q.1.1≠0→(L.foldl gF q).1.1≠0) ∧
 ((L.foldl gF q).1.1=0→q.1.2=fZ (L.foldl gF q).2 L++(L.foldl gF q).1.2)∧(q.1.1=0→(L.foldl gF q).1.1≠0→q.1.2.length<BJ L)
|[],q,_,_=>⟨fun _ _=>rfl,id,fun _=>rfl,fun h0 h=>absurd h0 h⟩
|x::r,q,hb,hn=>by
   rw[TD,List.nodup_cons] at hn;obtain⟨i1,i2,i3,i4⟩:=DF r (gF q x) (fun y hy=>hb y (by simp[hy])) hn.2;obtain⟨b1,b4⟩:=hb x (by simp);have eo:((x::r).foldl gF q)=r.foldl gF (gF q x):=rfl;rw[eo];obtain⟨R,hR⟩:∃ R,R=r.foldl gF (gF q x):=⟨_,rfl⟩
   rw[←hR] at i1 i2 i3 i4 ⊢;have hx:R.2 x.o=gV x.b q.1:=by rw[i1 x.o hn.1];show upd _ _ _ _=_;simp[upd]
   have he:fZ R.2 (x::r)=le (R.2 x.o) x.b.toNat++fZ R.2 r:=by simp[fZ]
   have hs:BJ (x::r)=x.b.toNat+BJ r:=by simp[BJ]
   refine⟨fun o ho=>?_,fun h=>i2 (DD h),fun h=>?_,fun h0 h=>?_⟩
   · rw[TD,Tm,not_or] at ho
     rw[i1 o ho.2];show upd _ _ _ _=_;simp[upd,ho.1]
   · have hq0:q.1.1=0:=S4 fun h'=>i2 (DD h') h
     have hl:x.b≤q.1.2.length:=S4 fun h'=>i2 (DC b1 b4 hq0 (by omega)) h;obtain⟨g1,g2⟩:=tS b1 b4 hq0 hl;have h3:=i3 h;have h4:(gF q x).1.2=q.1.2.drop x.b.toNat:=by show (gS x.b q.1).2=_;rw[g1]
     rw[h4] at h3;rw[he,hx,g2,Dv (by omega),To,←h3,Tn]
   · rw[hs]
     by_cases hl:x.b≤q.1.2.length
     · obtain⟨g1,g2⟩:=tS b1 b4 h0 hl
       have h5:(gF q x).1=(0,q.1.2.drop x.b.toNat):=g1;have:=i4 (by rw[h5]) h;rw[h5] at this;simp only[Ta] at this;omega
     ·omega
section
variable {P:Program}{N:Nt}{Q:Exit→Act→World→Prop}{l:SF}{w:World}{ops:Array Oper}{rest:List Oper}
variable {op:Op}{ty:TypeId}{pos:String}{aft:Array Edge}{d:Nat}{v:Value}{CH:Array Obj→Prop}
variable {x y:Operand}{t t' tn:TypeId}{g:Option (Nat×Bool)}{dd:Option Nat}
theorem Rs{e:TypeId}{size bytes:Nat}(ht:aM P t e size bytes){ao:Option Addr}{c n:Nat}(hx:evL l x=some (.slice ao n c)) :
 Cm P N CH l ⟨dd,.call ⟨.builtin .cap,#[x],#[t]⟩,ty,pos,aft,g⟩ (iV c):=fun a w ha _=>by
 simp[execOp,ha.ev hx,resolve,invoke,builtin,Builtin.cap_,run_underlying ht.und,goInt]
theorem QX{α:Type}{enc:α→Value}{e:TypeId}{bytes:Nat}{k kn:IntKind}{n:Int}(ht:aM P t e 1 bytes)(htn:P.underlying tn=some (.int kn))
 (hx:evL l x=some sN)(hy:evL l y=some (.int k n))(h0:0<n)(hb:n.toNat*bytes≤140737488355328)(hm:n.toNat≤maxLen)(hd:Tq d N.n=true)
 (h:∀ c w',Own enc e w'.heap (some ⟨w.heap.size,0,none⟩) c []→w'.heap.size=w.heap.size+1→aA nob w w'→Sl P N ops Q rest ((d,.slice (some ⟨w.heap.size,0,none⟩) n.toNat c)::l) w') :
 Sl P N ops Q (⟨some d,.call ⟨.builtin .append,#[x,y],#[t,tn]⟩,ty,pos,aft,none⟩::rest) l w:=by
 obtain⟨i,z,hi,h1,hz,h2,h3⟩:=ht.parts;obtain⟨m,rfl⟩:∃ m:Nat,n=m:=⟨n.toNat,by omega⟩
 rw[TF] at hb hm h;have hr:=Lib.run_append_nil_zeros (P:=P) w t tn ty e i z k kn ht.und htn hi h1 m (by omega) (by omega) (by unfold maxLen at hm;omega) (by rw[h3];omega);refine PC (w':=w.drew.alloc (.cells (Builtin.zeroCells z.cells m++Builtin.zeroCells z.cells (grownCap w m 0 e-m)) e)) (fun a ha=>?_) hd (h _ _ (.inr ⟨w.heap.size,_,rfl,heap_alloc_new w.drew _,S3 _,grownCap_le_maxLen w _ 0 e hm,?_,by simp⟩) (by simp) (R3 _ _ _))
 ·simp[execOp,ha.ev hx,ha.ev hy,resolve,invoke,builtin,hr]
 · have:=grownCap_ge w m 0 e
   simp only[Array.size_append,size_zeroCells,hz];omega
end
theorem FP(n:Int)(W:World)(hn:0≤n∧n≤1099511627776) :
 CA 132 [sN,iV n] W fun v w'=>∃ ao c,v=.slice ao 0 c∧Own b8 5 w'.heap ao c []∧Fr W.heap.size ao∧aA nob W w':=by
 refine cS 27 [(0,_),(1,_)] Tryz.func132 ?_;refine Gz 9 ?_;refine cL (Qv (P5 rfl rfl) (by omega)) ?_;refine Gz 10 ?_;refine cL (Rs aN rfl) ?_;refine fK 10 ?_ ?_<;>intro h16
 ·refine Gz 6 ?_;refine cL (Rs aN rfl) ?_;refine cL (O7 (u:=sN) (Pr aN rfl rfl (by omega)) (by rw[aS];rfl)) ?_;refine Gz 1 ?_;refine QX (enc:=b8) (k:=.i64) (n:=n) aN ty3 rfl (by show some (Value.int .i64 _)=_;congr 2;omega) (by omega) (by omega) (by unfold maxLen;omega) rfl ?_;intro c1 w1 ho1 hs1 hf1;refine Gz 2 ?_;refine cL (O7 (u:=.slice (some ⟨W.heap.size,0,none⟩) 0 c1) (Pr aN rfl rfl (by have:=ho1.vw.le;omega)) (by rw[aS];rfl)) ?_;refine Gz 11 ?_
  first
  |exact⟨_,rfl,none,0,rfl,R8,R6,RY _ _⟩
  |exact⟨_,rfl,_,c1,rfl,ho1,wQ _,hf1⟩
 refine Gz 13 ?_
 first
 |exact⟨_,rfl,none,0,rfl,R8,R6,RY _ _⟩
 |exact⟨_,rfl,_,c1,rfl,ho1,wQ _,hf1⟩
theorem wR{L:List By}{i:Nat}(h:i<L.length):(L.take (i+1)).flatten=(L.take i).flatten++L.getD i []:=by
 rw[Tg h,U0,S6,SS h];simp
theorem DL(L:List By)(i:Nat):(L.take i).flatten.length≤L.flatten.length:=by
 conv=>rhs;rw[←Tn i L,U0,SR]
 omega
theorem BO(D0:Nat→Prop)(ao:Option Addr)(cap:Nat)(hs:List Hd)(L:List By)(W:World)(hv:Vw hd W.heap ao cap hs)(hr:cK D0 W.heap hs L)(hb:L.flatten.length≤1099511627776) :
 CA 80 [.slice ao hs.length cap] W (lG W L.flatten):=by
 have hl:=hv.SM;have hln:=hr.1;refine cS 36 [(0,_)] Tryz.func80 ?_;refine Gz 10 ?_;refine PI (β:=Unit) (fun _u=>[(0,.slice ao hs.length cap),(3,iV (L.flatten.length:Nat))]) (fun _u w=>w=W) ?_ ?_
 ·refine Gz 8 ?_;refine Pb (β:=Nat) (fun i=>[(0,.slice ao hs.length cap),(3,iV ((L.take i).flatten.length:Nat)),(9,.slice ao hs.length cap),(10,iV hs.length),(11,iV i)]) (fun i w=>i≤L.length∧w=W) (fun i=>L.length-i) 0 ⟨rfl,rfl,rfl,rfl,rfl,trivial⟩ ⟨S3 _,rfl⟩ ?_;rintro i wq ⟨hi,hwq⟩;subst wq;refine fK 2 ?_ ?_<;>intro h12
  ·have hiL:i<L.length:=by omega
   obtain⟨x,hx,hxn,hxv,hxD⟩:=hr.at hiL;have hcell:aU W.heap (adr ao (i:Int).toNat)=some (hd x):=by rw[TF];exact hv.get i x hx
   have hhd:hd x=.slice x.a (L.getD i []).length x.c:=by unfold hd;rw[hxn]
   rw[hhd] at hcell;have hfl:=wR hiL;have hfb:=DL L (i+1);have hfll:(L.take (i+1)).flatten.length=(L.take i).flatten.length+(L.getD i []).length:=by rw[hfl,SR]
   refine Gz 10 ?_;refine cL (O5 sJ rfl rfl hv.non (by omega)) ?_;refine cL (O8 aO rfl hcell) ?_;refine Gz 15 ?_;refine cL (Qv (P5 rfl rfl) (by omega)) ?_;refine Gz 10 ?_;rw[show ((L.take i).flatten.length:Int)+((L.getD i []).length:Nat)=((L.take (i+1)).flatten.length:Nat) by omega];exact aG (i+1) ⟨by omega,rfl⟩ (by show L.length-(i+1)<L.length-i;omega)
  refine Gz 8 ?_;have hiL:i=L.length:=by omega
  subst hiL;rw[TB];exact aC () rfl
 rintro _ wq hwq;subst wq;refine Gz 3 ?_;refine O6 MF rfl (FP _ W (by omega)) rfl ?_;rintro _ w1 ⟨o1,c1,rfl,ho1,hfr1,hf1⟩;refine Gz 12 ?_;refine Pb (β:=Nat×(Option Addr×Nat)) (fun⟨i,⟨o2,c2⟩⟩=>[(6,.slice o2 (L.take i).flatten.length c2),(25,.slice ao hs.length cap),(26,iV hs.length),(27,iV i)]) (fun⟨i,⟨o2,c2⟩⟩ w=>i≤L.length∧Own b8 5 w.heap o2 c2 (L.take i).flatten∧Fr W.heap.size o2∧aA nob W w) (fun⟨i,⟨o2,c2⟩⟩=>L.length-i) ⟨0,⟨o1,c1⟩⟩ ⟨rfl,rfl,rfl,rfl,trivial⟩ ⟨S3 _,by simpa using ho1,hfr1,hf1⟩ ?_;rintro⟨i,⟨o2,c2⟩⟩ w2 ⟨hi,ho2,hfr2,hF2⟩;refine fK 2 ?_ ?_<;>intro h28
 ·have hiL:i<L.length:=by omega
  obtain⟨x,hx,hxn,hxv,hxD⟩:=hr.at hiL;have hcell:aU w2.heap (adr ao (i:Int).toNat)=some (hd x):=by rw[TF];exact(hv.SN hF2).get i x hx
  have hhd:hd x=.slice x.a (L.getD i []).length x.c:=by unfold hd;rw[hxn]
  rw[hhd] at hcell;have hfl:=wR hiL;have hfb:=DL L (i+1);have hfll:(L.take (i+1)).flatten.length=(L.take i).flatten.length+(L.getD i []).length:=by rw[hfl,SR]
  refine Gz 10 ?_;refine cL (O5 sJ rfl rfl hv.non (by omega)) ?_;refine cL (O8 aO rfl hcell) ?_;refine Gz 2 ?_;refine aW [(6,_),(8,_),(25,_),(26,_),(27,_),(28,_)] ?_;refine Gz 4 ?_;refine Pm cU aN rfl rfl ho2 (hxv.SN hF2) (by omega) (by unfold maxLen;omega) rfl ?_;intro o3 c3 w3 ho3 hf3 hr3 hn3;rw[←hfl] at ho3 ⊢;refine Gz 8 ?_;exact aG ⟨i+1,⟨o3,c3⟩⟩ ⟨by omega,ho3,lV hfr2 hr3 hF2.size,hF2.SJ hf3 hfr2.step⟩ (by show L.length-(i+1)<L.length-i;omega)
 refine Gz 14 ?_;refine aW [(2,_),(6,_),(25,_),(26,_),(27,_),(28,_)] ?_;refine Gz 3 ?_;have hiL:i=L.length:=by omega
 subst hiL;rw[TB] at ho2 ⊢;exact⟨_,rfl,o2,c2,rfl,ho2,hfr2,hF2⟩
def mwC(p:Nat)(fo:Option Addr)(fn fc:Nat)(to:Option Addr)(tn tc:Nat):List Value:=[pT p,.slice fo fn fc,.slice to tn tc]
def MwO(D:Nat→Prop)(H:Array Obj)(g p:Nat)(f t:By):Prop:=
 ∃ fo fc to tc,H[g]?=some (.cells (mwC p fo f.length fc to t.length tc).toArray 125 (0,0))∧Own b8 5 H fo fc f∧Own b8 5 H to tc t∧¬ blk fo g∧¬ blk to g∧Ap fo to∧D g∧(∀ k,blk fo k→D k)∧(∀ k,blk to k→D k)∧TbV H p∧¬ D p
section
variable {D:Nat→Prop}{g p:Nat}{f t:List UInt8}
theorem MwO.lt{H:Array Obj}(h:MwO D H g p f t):g<H.size:=by obtain⟨fo,fc,to,tc,hg,_⟩:=h;exact(SZ.1 hg).1
theorem MwO.SO{S:Nat→Prop}{w w':World}(h:MwO D w.heap g p f t)(hf:aA S w w')(hs:∀ k,D k→¬ S k)(hp:¬ S p):MwO D w'.heap g p f t:=by
 obtain⟨fo,fc,to,tc,hg,h1,h2,h3,h4,h5,h6,h7,h8,h9,h10⟩:=h;exact⟨fo,fc,to,tc,hf.obj hg (hs g h6),h1.SO hf (fun a ha=>hs _ (h7 _ ⟨a,ha,rfl⟩)),h2.SO hf (fun a ha=>hs _ (h8 _ ⟨a,ha,rfl⟩)),h3,h4,h5,h6,h7,h8,hf.obj h9 hp,h10⟩
theorem MwO.mono{D':Nat→Prop}{H:Array Obj}(h:MwO D H g p f t)(hd:∀ k,D k→D' k)(hp:¬ D' p):MwO D' H g p f t:=by
 obtain⟨fo,fc,to,tc,hg,h1,h2,h3,h4,h5,h6,h7,h8,h9,h10⟩:=h;exact⟨fo,fc,to,tc,hg,h1,h2,h3,h4,h5,hd _ h6,fun k hk=>hd _ (h7 k hk),fun k hk=>hd _ (h8 k hk),h9,hp⟩
end
theorem I3(p:Nat)(W:World)(ht:TbV W.heap p) :
 CA 19 [pT p] W fun v w'=>v=pT W.heap.size∧MwO (fun k=>W.heap.size≤k) w'.heap W.heap.size p [] []∧aA nob W w':=by
 refine cS 6 [(0,_)] Tryz.func19 ?_;refine Gz 8 ?_;refine cL (P6 (cs:=#[pT p,sN,sN]) KG LC rfl (by kernel_rfl)) ?_;refine Px rfl rfl ?_;intro w1 hg1 hs1 hf1;refine Gz 5 ?_;have hpl:=(SZ.1 ht).1;exact⟨_,rfl,rfl,⟨none,0,none,0,hg1,R8,R8,(fun⟨a,ha,_⟩=>by cases ha),(fun⟨a,ha,_⟩=>by cases ha),R4,SY _,(fun k ⟨a,ha,_⟩=>by cases ha),(fun k ⟨a,ha,_⟩=>by cases ha),hf1.obj ht id,(by omega)⟩,hf1⟩
theorem IZ{D:Nat→Prop}{W w1 w2:World}{g p:Nat}{f t t':By}{fo to to':Option Addr}{fc tc tc':Nat}(hD:∀ k,W.heap.size≤k→D k)
 (hg:W.heap[g]?=some (.cells (mwC p fo f.length fc to t.length tc).toArray 125 (0,0)))(h1:Own b8 5 W.heap fo fc f)(h3:¬ blk fo g)(h4:¬ blk to g)(h5:Ap fo to)(h6:D g)(h7:∀ k,blk fo k→D k)(h8:∀ k,blk to k→D k)(h9:TbV W.heap p)(h10:¬ D p)
 (ho:Own b8 5 w1.heap to' tc' t')(hf1:aA (blk to) W w1)(hr:∀ a,to'=some a→to=some a∨W.heap.size≤a.block)
 (hg2:w2.heap[g]?=some (.cells (mwC p fo f.length fc to' t'.length tc').toArray 125 (0,0)))(hf2:aA (· = g) w1 w2) :
 MwO D w2.heap g p f t'∧aA D W w2:=by
 have hgl:=(SZ.1 hg).1;have hpl:=(SZ.1 h9).1;have hD1:aA D W w1:=hf1.mono h8;have hD2:aA D W w2:=hD1.trans (hf2.mono (fun k h=>by have h:k=g:=h;subst h;exact h6));have hn:¬ blk to' g:=fun⟨a,ha,hb⟩=>by
  rcases hr a ha with h|h
  ·exact h4 ⟨a,h,hb⟩
  ·omega
 refine⟨⟨fo,fc,to',tc',hg2,(h1.SO hf1 (fun a ha ⟨b,hb,h⟩=>h5 a b ha hb h.symm)).SO hf2 (fun a ha h=>h3 ⟨a,ha,h⟩),ho.SO hf2 (fun a ha h=>hn ⟨a,ha,h⟩),h3,hn,fun a b ha hb e=>?_,h6,h7,fun k ⟨a,ha,hb⟩=>?_,hD2.obj h9 h10,h10⟩,hD2⟩
 · rcases hr b hb with h|h
   ·exact h5 a b ha h e
   ·have:=h1.lt a ha;omega
 · rcases hr a ha with h|h
   ·exact h8 k ⟨a,h,hb⟩
   ·exact hD k (by omega)
theorem I0{D:Nat→Prop}{W w1 w2:World}{g p:Nat}{f t f':By}{fo to fo':Option Addr}{fc tc fc':Nat}(hD:∀ k,W.heap.size≤k→D k)
 (hg:W.heap[g]?=some (.cells (mwC p fo f.length fc to t.length tc).toArray 125 (0,0)))(h2:Own b8 5 W.heap to tc t)(h3:¬ blk fo g)(h4:¬ blk to g)(h5:Ap fo to)(h6:D g)(h7:∀ k,blk fo k→D k)(h8:∀ k,blk to k→D k)(h9:TbV W.heap p)(h10:¬ D p)
 (ho:Own b8 5 w1.heap fo' fc' f')(hf1:aA (blk fo) W w1)(hr:∀ a,fo'=some a→fo=some a∨W.heap.size≤a.block)
 (hg2:w2.heap[g]?=some (.cells (mwC p fo' f'.length fc' to t.length tc).toArray 125 (0,0)))(hf2:aA (· = g) w1 w2) :
 MwO D w2.heap g p f' t∧aA D W w2:=by
 have hgl:=(SZ.1 hg).1;have hpl:=(SZ.1 h9).1;have hD1:aA D W w1:=hf1.mono h7;have hD2:aA D W w2:=hD1.trans (hf2.mono (fun k h=>by have h:k=g:=h;subst h;exact h6));have hn:¬ blk fo' g:=fun⟨a,ha,hb⟩=>by
  rcases hr a ha with h|h
  ·exact h3 ⟨a,h,hb⟩
  ·omega
 refine⟨⟨fo',fc',to,tc,hg2,ho.SO hf2 (fun a ha h=>hn ⟨a,ha,h⟩),(h2.SO hf1 (fun a ha ⟨b,hb,h⟩=>h5 b a hb ha h)).SO hf2 (fun a ha h=>h4 ⟨a,ha,h⟩),hn,h4,fun a b ha hb e=>?_,h6,fun k ⟨a,ha,hb⟩=>?_,h8,hD2.obj h9 h10,h10⟩,hD2⟩
 · rcases hr a ha with h|h
   ·exact h5 a b h hb e
   ·have:=h2.lt b hb;omega
 · rcases hr a ha with h|h
   ·exact h7 k ⟨a,h,hb⟩
   ·exact hD k (by omega)
theorem KT{D:Nat→Prop}{W w1 w2:World}{g p:Nat}{f t t':By}{fo to to':Option Addr}{fc tc tc':Nat}(hD:∀ k,W.heap.size≤k→D k)
 (hg:W.heap[g]?=some (.cells (mwC p fo f.length fc to t.length tc).toArray 125 (0,0)))(h1:Own b8 5 W.heap fo fc f)(h3:¬ blk fo g)(h6:D g)(h7:∀ k,blk fo k→D k)(h9:TbV W.heap p)(h10:¬ D p)
 (ho:Own b8 5 w1.heap to' tc' t')(hf1:aA nob W w1)(hr:Fr W.heap.size to')
 (hg2:w2.heap[g]?=some (.cells (mwC p fo f.length fc to' t'.length tc').toArray 125 (0,0)))(hf2:aA (· = g) w1 w2) :
 MwO D w2.heap g p f t'∧aA D W w2:=by
 have hgl:=(SZ.1 hg).1;have hpl:=(SZ.1 h9).1;have hD2:aA D W w2:=(hf1.any).trans (hf2.mono (fun k h=>by have h:k=g:=h;subst h;exact h6));have hn:¬ blk to' g:=fun⟨a,ha,hb⟩=>by have:=hr a ha;omega
 exact⟨⟨fo,fc,to',tc',hg2,(h1.SN hf1).SO hf2 (fun a ha h=>h3 ⟨a,ha,h⟩),ho.SO hf2 (fun a ha h=>hn ⟨a,ha,h⟩),h3,hn,fun a b ha hb e=>(by have:=h1.lt a ha;have:=hr b hb;omega),h6,h7,fun k ⟨a,ha,hb⟩=>hD k (by have:=hr a ha;omega),hD2.obj h9 h10,h10⟩,hD2⟩
theorem I9(D:Nat→Prop)(g p:Nat)(f t:By)(bo:Option Addr)(bc:Nat)(b:By)(W:World)(hM:MwO D W.heap g p f t)(hD:∀ k,W.heap.size≤k→D k)(hv:Vw b8 W.heap bo bc b)(hb:f.length+2*(t.length+b.length)≤1099511627776) :
 CA 26 [pT g,.slice bo b.length bc] W fun v w'=>v=iV (256*f.length+t.length:Nat)∧MwO D w'.heap g p (cT f (t++b)).1 (cT f (t++b)).2∧aA D W w':=by
 have hM0:=hM;obtain⟨fo,fc,to,tc,hg,h1,h2,h3,h4,h5,h6,h7,h8,h9,h10⟩:=hM;refine cS 67 [(0,_),(1,_)] Tryz.func26 ?_;refine Gz 6 ?_;refine PS 13 [0,1,2,3,4,5,6,7,8,9,10,11,12] aJ (by kernel_rfl) ?_;refine Gz 3 ?_;refine xC rfl (O8 aO rfl (aD hg rfl)) ?_;refine Gz 1 ?_;refine xC rfl (PT rfl rfl (by omega)) ?_;refine Gz 3 ?_;refine xC rfl (O8 aO rfl (aD hg rfl)) ?_;refine Gz 13 ?_;refine Pm cU aN rfl rfl h2 hv (by omega) (by unfold maxLen;omega) rfl ?_;intro to1 tc1 w1 ho1 hf1 hr1 hn1;have hf1:=hf1.SL;have hg1:=hf1.obj hg h4;refine Gz 2 ?_;refine Pg aO rfl rfl rfl hg1 rfl ?_;intro w2 hg2 hs2 hf2;obtain⟨hM2,hF2⟩:=IZ hD hg h1 h3 h4 h5 h6 h7 h8 h9 h10 ho1 hf1 hr1 hg2 hf2;have hW2:=hF2.size;refine Gz 4 ?_;refine Pb (β:=By×By) (fun⟨f9,t9⟩=>[(0,pT g),(5,iV (256*f.length+t.length:Nat))]) (fun⟨f9,t9⟩ w=>cT f9 t9=cT f (t++b)∧MwO D w.heap g p f9 t9∧aA D W w∧f9.length+2*t9.length≤1099511627776) (fun⟨f9,t9⟩=>t9.length) ⟨f,t++b⟩ ⟨rfl,rfl,trivial⟩ ⟨rfl,hM2,hF2,by rw[SR];omega⟩ ?_;rintro⟨f9,t9⟩ w3 ⟨hcw,hM3,hF3,hb3⟩;obtain⟨ho,hcap,ko,kc,kg,k1,k2,k3,k4,k5,k6,k7,k8,k9,k10⟩:=hM3;have hM3:MwO D w3.heap g p f9 t9:=⟨ho,hcap,ko,kc,kg,k1,k2,k3,k4,k5,k6,k7,k8,k9,k10⟩
 refine fK 8 ?_ ?_<;>intro h34
 ·have hbig:128≤t9.length:=by omega
  have htk:=kW hbig;have hle3:=k2.vw.le;have hps:=fR (b:=t9.take 128) (by omega);refine Gz 7 ?_;refine Pk 15 (fun H=>H[g]?=some (.cells (mwC p ho f9.length hcap ko t9.length kc).toArray 125 (0,0))) [9] [0,1,2,3,4,5,6,7,8,9,10,11,12,13,14] aJ (by kernel_rfl) (kg) ?_;refine Gz 8 ?_;refine xC rfl (O7 (u:=.slice ko (t9.take 128).length kc) (Pr aN rfl rfl (by omega)) (by rw[aS,htk];rfl)) ?_;refine Ph rfl rfl (O6 Jt rfl (rM p ko kc (t9.take 128) _ k9 (k2.vw.take 128)) rfl ?_);rintro _ w4 ⟨o4,c4,rfl,ho4,hfr4,hf4⟩;refine Pn (by exact hf4.SL.obj kg id) ?_;have hf4:=hf4.SL;have hz4:=hf4.size;have hg4:=hf4.obj kg id;refine Gz 15 ?_;refine Pm cU aN rfl rfl (k1.SN hf4) ho4.vw (by omega) (by unfold maxLen;omega) rfl ?_;intro fo5 fc5 w5 ho5 hf5 hr5 hn5;have hg5:=hf5.obj hg4 k3;refine Gz 2 ?_;refine Pg aO rfl rfl rfl hg5 rfl ?_;intro w6 hg6 hs6 hf6;obtain⟨hM6,hF6⟩:=I0 (lA hf4 (lA hF3 hD)) hg4 (k2.SN hf4) k3 k4 k5 k6 k7 k8 (hf4.obj k9 id) k10 ho5 hf5 hr5 hg6 hf6;obtain⟨jo,jc,lo,lc,jg,j1,j2,j3,j4,j5,j6,j7,j8,j9,j10⟩:=hM6;have hz6:=hF6.size;have hlej:=j2.vw.le;have hcl:(t9.drop 128).length=t9.length-128:=Ta;refine Gz 8 ?_;refine cL (O7 (u:=.slice (aY lo lc 128 1) (t9.drop 128).length (lc-128)) (PM aN rfl rfl (by omega)) (by rw[hcl];rfl)) ?_;refine O6 Hb rfl (jH (aY lo lc 128 1) (lc-128) (t9.drop 128) w6 (by have:=j2.vw.cut (l:=128) (h:=t9.length) (m:=lc) (by omega) (by omega) (by omega) (SY _);rwa[S9 (by omega)] at this) (by rw[hcl];omega)) rfl ?_;rintro _ w7 ⟨o7,c7,rfl,ho7,hfr7,hf7⟩;have hg7:=hf7.obj jg id;refine Gz 2 ?_;refine Pg aO rfl rfl rfl hg7 rfl ?_;intro w8 hg8 hs8 hf8;obtain⟨hM8,hF8⟩:=KT (lA hF6 (lA hf4 (lA hF3 hD))) jg j1 j3 j6 j7 j9 j10 ho7 hf7 hfr7 hg8 hf8;refine Gz 2 ?_;exact aG ⟨f9++(cR (t9.take 128)).1,t9.drop 128⟩ ⟨by rw[←jT hbig];exact hcw,hM8,((hF3.trans hf4.any).trans hF6).trans hF8,by rw[SR,hcl];omega⟩ (by show (t9.drop 128).length<t9.length;omega)
 have hsm:t9.length<128:=by omega
 refine Gz 16 ?_;rw[fM hsm] at hcw;rw[←hcw];exact⟨_,rfl,rfl,hM3,hF3⟩
theorem GC(D:Nat→Prop)(g p:Nat)(f t:By)(W:World)(hM:MwO D W.heap g p f t)(hb:f.length≤1099511627000)(htl:t.length<128) :
 CA 27 [pT g] W (lG W (uB f t)):=by
 obtain⟨fo,fc,to,tc,hg,h1,h2,h3,h4,h5,h6,h7,h8,h9,h10⟩:=hM;refine cS 35 [(0,_)] Tryz.func27 ?_;refine fK 13 ?_ ?_<;>intro h10
 ·have e:uB f t=f:=by unfold uB;rw[SQ (by omega)]
  refine Gz 9 ?_;refine O6 Hb rfl (jH fo fc f W h1.vw (by omega)) rfl ?_;intro _ w1 hP1;refine Gz 6 ?_;rw[e]
  first
  |exact⟨_,rfl,hP1⟩
  |(have e3:[f,(cR t).1].flatten=f++(cR t).1:=by simp
    rw[e3] at ho3 ⊢;exact⟨_,rfl,o3,c3,rfl,ho3,hfr3.mono ((hf1.trans hf2).size),(hf1.trans hf2).trans hf3⟩)
 have e:uB f t=f++(cR t).1:=by unfold uB;rw[SP (by omega)]
 have hps:=fR (b:=t) (by omega);refine Gz 6 ?_;refine Pk 14 (fun H=>H[g]?=some (.cells (mwC p fo f.length fc to t.length tc).toArray 125 (0,0))) [8] [0,1,2,3,4,5,6,7,8,9,10,11,12,13] aJ (by kernel_rfl) (hg) ?_;refine Gz 8 ?_;refine Ph rfl rfl (O6 Jt rfl (rM p to tc t _ h9 h2.vw) rfl ?_);rintro _ w1 ⟨o1,c1,rfl,ho1,hfr1,hf1⟩;refine Pn (by exact hf1.SL.obj hg id) ?_;have hf1:=hf1.SL;have hg1:=hf1.obj hg id;refine Gz 14 ?_;refine Q1 (enc:=hd) (u:=⟨fo,f.length,fc⟩) (u':=⟨o1,(cR t).1.length,c1⟩) sJ Ch rfl rfl rfl ?_;intro w2 ho2 hs2 hf2;refine O6 Oq rfl (BO (fun _=>True) _ _ [⟨fo,f.length,fc⟩,⟨o1,(cR t).1.length,c1⟩] [f,(cR t).1] w2 ho2.vw ((Se.snoc (x:=⟨fo,f.length,fc⟩) rfl ((h1.SN hf1).SN hf2).vw (fun _ _ _=>trivial)).snoc (x:=⟨o1,(cR t).1.length,c1⟩) rfl (ho1.SN hf2).vw (fun _ _ _=>trivial)) (by simp;omega)) rfl ?_;rintro _ w3 ⟨o3,c3,rfl,ho3,hfr3,hf3⟩;refine Gz 5 ?_;rw[e]
 first
 |exact⟨_,rfl,hP1⟩
 |(have e3:[f,(cR t).1].flatten=f++(cR t).1:=by simp
   rw[e3] at ho3 ⊢;exact⟨_,rfl,o3,c3,rfl,ho3,hfr3.mono ((hf1.trans hf2).size),(hf1.trans hf2).trans hf3⟩)
abbrev I6:={ z:Int // -9223372036854775808≤z∧z≤9223372036854775807 }
def enI(z:I6):Value:=.int .i64 z.1
theorem qU:jC Tryz.prog 3 enI:=by
 refine⟨Go.Maps.int_keyed ty3,fun a=>⟨.int .i64 a.1,?_⟩,fun a b h=>by unfold enI at h;exact Subtype.ext (by simpa using h)⟩;have h1:IntKind.i64.min = -9223372036854775808:=rfl;have h2:IntKind.i64.max=9223372036854775807:=rfl;have:=a.2;simp[keyOf,mapKey,enI,Lit.wf,h1,h2,this]
abbrev SK:={s:By // s.length≤maxLen}
def enS(s:SK):Value:=.string (bs s.1)
theorem AO:jC Tryz.prog 9 enS:=
 ⟨Maps.string_keyed (by kernel_rfl),fun a=>⟨.string a.1,by
  unfold keyOf;rw[show Tryz.prog.underlying 9=some .string by kernel_rfl];have h:a.1.length≤maxLen:=a.2;simp[mapKey,show Tryz.prog.underlying 9=some .string by kernel_rfl,enS,bs,ByteArray.size,h]⟩,fun a b h=>Subtype.ext (HY (by simpa[enS] using h))⟩
def iY(r:By):SK:=if h:r.length≤maxLen then ⟨r,h⟩ else ⟨[],by decide⟩
theorem nL{r:By}(h:r.length≤maxLen):(iY r).1=r:=by unfold iY;rw[dif_pos h]
def Nx(A:Nat→Prop)(W w':World):Nat→Prop:=fun k=>A k∨(W.heap.size≤k∧k<w'.heap.size)
theorem aA.nx{A:Nat→Prop}{W w':World}(h:aA (fun k=>A k∨W.heap.size≤k) W w'):aA A W w':=
 ⟨h.os,h.tape,h.output,h.size,fun k hk hn=>h.same k hk (fun h'=>h'.elim hn (fun h2=>by omega))⟩
theorem MwO.tight{D:Nat→Prop}{H:Array Obj}{g p:Nat}{f t:By}(h:MwO D H g p f t):MwO (fun k=>D k∧k<H.size) H g p f t:=by
 have hl:=h.lt;obtain⟨fo,fc,to,tc,hg,h1,h2,h3,h4,h5,h6,h7,h8,h9,h10⟩:=h;exact⟨fo,fc,to,tc,hg,h1,h2,h3,h4,h5,⟨h6,hl⟩,fun k ⟨a,ha,hb⟩=>⟨h7 k ⟨a,ha,hb⟩,by have:=h1.lt a ha;omega⟩,fun k ⟨a,ha,hb⟩=>⟨h8 k ⟨a,ha,hb⟩,by have:=h2.lt a ha;omega⟩,h9,fun h=>h10 h.1⟩
theorem MwO.nx{A:Nat→Prop}{W w':World}{g p:Nat}{f t:By}(h:MwO (fun k=>A k∨W.heap.size≤k) w'.heap g p f t):MwO (Nx A W w') w'.heap g p f t:=
 h.tight.mono (fun k hk=>hk.1.elim .inl (fun h2=>.inr ⟨h2,hk.2⟩)) (fun hp=>by
  obtain⟨_,_,_,_,_,_,_,_,_,_,_,_,_,_,h10⟩:=h;exact h10 (hp.elim .inl (fun h2=>.inr h2.1)))
theorem MwO.tab{D:Nat→Prop}{H:Array Obj}{g p:Nat}{f t:By}(h:MwO D H g p f t):TbV H p∧¬ D p:=by obtain⟨_,_,_,_,_,_,_,_,_,_,_,_,_,h9,h10⟩:=h;exact⟨h9,h10⟩
theorem C6(T b:By):(cT [] T).1.length+2*((cT [] T).2.length+b.length)≤2*(T.length+b.length):=by
 have h:=Bi [] T;rw[Tr,TI] at h;omega
theorem nY(A:Nat→Prop)(g p:Nat)(T:By)(bo:Option Addr)(bc:Nat)(b:By)(W:World)(hM:MwO A W.heap g p (cT [] T).1 (cT [] T).2)(hv:Vw b8 W.heap bo bc b)(hb:T.length+b.length≤274877906944) :
 CA 26 [pT g,.slice bo b.length bc] W fun v w'=>v=iV (bM T T.length:Nat)∧MwO (Nx A W w') w'.heap g p (cT [] (T++b)).1 (cT [] (T++b)).2∧aA A W w':=by
 obtain⟨ht,hp⟩:=hM.tab;have hpl:=(SZ.1 ht).1;have hs:=C6 T b;refine(I9 (fun k=>A k∨W.heap.size≤k) g p _ _ bo bc b W (hM.mono (fun k h=>.inl h) (fun h=>h.elim hp (fun h=>by omega))) (fun k h=>.inr h) hv (by omega)).mono ?_;rintro e w' ⟨v,rfl,rfl,h1,h2⟩;rw[←F3,←Bk] at *;exact⟨_,rfl,rfl,h1.nx,h2.nx⟩
theorem lN(A:Nat→Prop)(g p:Nat)(T:By)(W:World)(hM:MwO A W.heap g p (cT [] T).1 (cT [] T).2)(hb:T.length≤274877906944) :
 CA 27 [pT g] W (lG W (frW T (nF T))):=by
 have hs:=C6 T [];have hr:=xA [] T;have:=GC A g p _ _ W hM (by rw[Tr] at hs;omega) hr;rwa[EY] at this
theorem nU(p:Nat)(W:World)(ht:TbV W.heap p) :
 CA 19 [pT p] W fun v w'=>v=pT W.heap.size∧MwO (fun k=>W.heap.size≤k∧k<w'.heap.size) w'.heap W.heap.size p (cT [] []).1 (cT [] []).2∧aA nob W w':=by
 refine(I3 p W ht).mono ?_;rintro e w' ⟨v,rfl,rfl,h1,h2⟩;exact⟨_,rfl,rfl,by rw[fM (show ([]:By).length<128 by decide)];exact h1.tight,h2⟩
section
variable {P:Program}{N:Nt}{Q:Exit→Act→World→Prop}{l:SF}{w:World}{ops:Array Oper}{rest:List Oper}{d:Nat}{ty t:TypeId}{pos:String}{aft:Array Edge}
theorem Qr{α:Type}{k:Nat}{enc:α→List Value}(hk:jD k enc){e:TypeId}{bytes:Nat}(ht:aM P t e k bytes)(hd:Tq d N.n=true)
 (h:∀ w',bS k enc e w'.heap (some ⟨w.heap.size,0,none⟩) 0 ([]:List α)→w'.heap.size=w.heap.size+1→aA nob w w'→Sl P N ops Q rest ((d,.slice (some ⟨w.heap.size,0,none⟩) 0 0)::l) w') :
 Sl P N ops Q (⟨some d,.buildSlice t 0 #[],ty,pos,aft,none⟩::rest) l w:=by
 refine PC (w':=w.alloc (.cells #[] e)) (fun a ha=>?_) hd (h _ (cE (xs:=[]) hk (heap_alloc_new w _) (S3 _)) (by simp) (aA.alloc _ _ _));simp[execOp,Instr.buildSlice,run_underlying ht.und,ht.size,Instr.fill,newRow];rw[sR]
end
def eF(L:List By)(t:By):List By:=
 match L.getLast? with
|none=>L++[[]]
|some b=>if 128<b.length+t.length then L++[[]] else L
def dW(L:List By)(t:By):List By:=L.dropLast++[(L.getLast?.getD [])++t]
def oT(t:By):Bool:=t.length<1 || 128≤t.length
theorem uN{t:By}(h:t.length<1∨128≤t.length):oT t=true:=by unfold oT;simpa only[Ud,decide_eq_true_eq] using h
theorem rU{t:By}(h:1≤t.length∧t.length<128):oT t=false:=by
 unfold oT;rw[Bool.or_eq_false_iff];simp only[decide_eq_false_iff_not];omega
theorem H3{t:By}(h:oT t=false):1≤t.length∧t.length<128:=by
 unfold oT at h;rw[Bool.or_eq_false_iff] at h;simp only[decide_eq_false_iff_not] at h;omega
def pW(L:List By)(t:By):List By×Nat×Nat:=
 if oT t then (L,0,0) else (dW (eF L t) t,(eF L t).length,((eF L t).getLast?.getD []).length)
def offs:Nat→List By→List Nat
|_,[]=>[]
|k,b::r=>k::offs (k+b.length) r
theorem fS:∀ (k:Nat) (L:List By),(offs k L).length=L.length
|_,[]=>rfl
|k,b::r=>by simp[offs,fS _ r]
theorem iU:∀ (k:Nat) (A B:List By),offs k (A++B)=offs k A++offs (k+A.flatten.length) B
|k,[],B=>by simp[offs]
|k,a::A,B=>by simp[offs,iU _ A B,Nat.add_assoc]
theorem jR(L:List By)(h:L≠[]):L.dropLast.flatten++L.getLast h=L.flatten:=by
 conv=>rhs;rw[←Uw h]
 simp
theorem AU(L:List By)(h:L≠[]):L.getLast?.getD []=L.getLast h:=by rw[List.getLast?_eq_some_getLast h];rfl
theorem Ez(L:List By)(h:L≠[]):(offs 0 L).getD (L.length-1) 0=L.dropLast.flatten.length:=by
 have e:L=L.dropLast++[L.getLast h]:=(Uw h).symm;have hl:L.length-1=(offs 0 L.dropLast).length:=by rw[fS];simp
 rw[hl]
 conv=>lhs;rw[e,iU]
 simp[offs,S6]
theorem mI(L:List By)(h:L≠[]):(offs 0 L).getD (L.length-1) 0+(L.getLast?.getD []).length=L.flatten.length:=by
 rw[Ez L h,AU L h,←jR L h,SR]
theorem wD(L:List By)(t:By)(h:L≠[]):offs 0 (dW L t)=offs 0 L:=by
 conv=>rhs;rw[←Uw h]
 simp[dW,iU,offs]
theorem oK(L:List By)(t:By)(h:L≠[]):(dW L t).flatten=L.flatten++t:=by
 rw[dW,AU L h,←jR L h];simp
theorem Ax(L:List By):offs 0 (L++[[]])=offs 0 L++[L.flatten.length]:=by simp[iU,offs]
theorem IX(L:List By)(t:By):eF L t≠[]:=by
 unfold eF;split
 ·simp
 · rename_i b hb;split
   ·simp
   ·intro h;simp[h] at hb
theorem nT(L:List By)(t:By)(h:L=[]∨128<(L.getLast?.getD []).length+t.length):eF L t=L++[[]]:=by
 unfold eF
 split
 ·rfl
 · rename_i b hb
   rcases h with h|h
   ·simp[h] at hb
   ·rw[hb] at h;exact SQ h
theorem nS(L:List By)(t:By)(h1:L≠[])(h2:¬ 128<(L.getLast?.getD []).length+t.length):eF L t=L:=by
 unfold eF
 split
 ·rename_i hb;simp at hb;exact absurd hb h1
 ·rename_i b hb;rw[hb] at h2;exact SP h2
theorem yI(L:List By)(t:By):(eF L t).flatten=L.flatten:=by
 unfold eF;split
 ·simp
 ·split<;>simp
theorem Gx(L:List By)(t:By):L.length≤(eF L t).length∧(eF L t).length≤L.length+1:=by
 unfold eF;split
 ·simp
 ·split<;>simp
def gI(D:Nat→Prop)(H:Array Obj)(p:Nat)(L:List By):Prop:=
 ∃ ao c bo c',H[p]?=some (.cells [.slice ao L.flatten.length c,.slice bo (offs 0 L).length c'].toArray 184 (0,0))∧Own b8 5 H ao c L.flatten∧Own inN 3 H bo c' (offs 0 L) ∧
  Ap ao bo∧(¬ blk ao p)∧(¬ blk bo p)∧D p∧(∀ k,blk ao k→D k)∧(∀ k,blk bo k→D k)
theorem gI.SO{D S:Nat→Prop}{w w':World}{p:Nat}{L:List By}(h:gI D w.heap p L)(f:aA S w w')(hs:∀ k,D k→¬ S k):gI D w'.heap p L:=by
 obtain⟨ao,c,bo,c',h1,h2,h3,h4,h5,h6,h7,h8,h9⟩:=h;exact⟨ao,c,bo,c',f.obj h1 (hs p h7),h2.SO f (fun a ha=>hs _ (h8 _ ⟨a,ha,rfl⟩)),h3.SO f (fun a ha=>hs _ (h9 _ ⟨a,ha,rfl⟩)),h4,h5,h6,h7,h8,h9⟩
def dF(D:Nat→Prop)(W:World)(p:Nat)(L:List By)(w':World):Prop:=
 ∃ D',gI D' w'.heap p L∧(∀ k,D' k→D k∨W.heap.size≤k)∧(∀ k,D' k→k<w'.heap.size)∧aA D W w'
theorem dF.draws{D:Nat→Prop}{W w:World}{p:Nat}{L:List By}(h:dF D W p L w)(n:Nat):dF D W p L (w.drewN n):=by
 obtain⟨D',h1,h2,h3,h4⟩:=h;exact⟨D',h1,h2,h3,h4.draws n⟩
theorem dF.same{D:Nat→Prop}{W:World}{p:Nat}{L:List By}(h:gI D W.heap p L)(hD:∀ k,D k→k<W.heap.size):dF D W p L W:=
 ⟨D,h,fun _ hk=>.inl hk,hD,RY _ _⟩
theorem zJ{D:Nat→Prop}{W w1 w2 w3:World}{p:Nat}{L:List By}{ao bo bo2:Option Addr}{c c2:Nat}(hD:∀ k,D k→k<W.heap.size)
 (hrow:Own b8 5 W.heap ao c L.flatten)(hap:Ap ao bo)(hap1:¬ blk ao p)(hbp:¬ blk bo p)(hDp:D p)(hDa:∀ k,blk ao k→D k)(hDb:∀ k,blk bo k→D k)
 (hf1:aA nob W w1)(ho2:Own inN 3 w2.heap bo2 c2 (offs 0 L++[L.flatten.length]))(hf2:aA (blk bo) w1 w2)(hr2:∀ a,bo2=some a→bo=some a∨w1.heap.size≤a.block)
 (hg3:w3.heap[p]?=some (.cells [.slice ao L.flatten.length c,.slice bo2 (offs 0 L++[L.flatten.length]).length c2].toArray 184 (0,0)))(hf3:aA (· = p) w2 w3):dF D W p (L++[[]]) w3:=by
 have hWp:=hD p hDp;have s1:=hf1.size;have s2:=hf2.size;have hbo2p:¬ blk bo2 p:=fun⟨a,ha,hb⟩=>by
  rcases hr2 a ha with h|h
  ·exact hbp ⟨a,h,hb⟩
  ·omega
 have hab:Ap ao bo2:=fun a b ha hb e=>by
  rcases hr2 b hb with h|h
  ·exact hap a b ha h e
  ·have:=hD _ (hDa _ ⟨a,ha,rfl⟩);omega
 have e1:(L++[[]]).flatten=L.flatten:=by simp
 have F2:aA (blk bo) W w2:=(hf1.mono (fun _ h=>h.elim)).trans hf2;refine⟨fun k=>D k∨(W.heap.size≤k∧k<w3.heap.size),⟨ao,c,bo2,c2,?_,?_,?_,hab,hap1,hbo2p,.inl hDp,fun k hk=>.inl (hDa k hk),?_⟩,?_,?_,?_⟩
 ·rw[e1,Ax];exact hg3
 · rw[e1]
   exact(hrow.SO F2 (fun a ha h=>by obtain⟨b,hb,e⟩:=h;exact hap a b ha hb e.symm)).SO hf3 (fun a ha h=>hap1 ⟨a,ha,h⟩)
 ·rw[Ax];exact ho2.SO hf3 (fun a ha h=>hbo2p ⟨a,ha,h⟩)
 · rintro k ⟨a,ha,rfl⟩
   rcases hr2 a ha with h|h
   ·exact .inl (hDb _ ⟨a,h,rfl⟩)
   · have h5:=ho2.lt a ha
     have:=hf3.size;exact .inr ⟨by omega,by omega⟩
 · intro k hk;rcases hk with hk|hk
   ·exact .inl hk
   ·exact .inr hk.1
 · intro k hk;rcases hk with hk|hk
   ·have:=hD k hk;have:=hf3.size;omega
   ·exact hk.2
 ·exact(F2.mono (fun k h=>hDb k h)).trans (hf3.mono (fun k h=>by subst h;exact hDp))
theorem JZ{D D1:Nat→Prop}{W w1 w3 w4:World}{p:Nat}{L:List By}{t:By}{ao bo ao3:Option Addr}{c3 c':Nat}(hne:L≠[])(hD1:∀ k,D1 k→D k∨W.heap.size≤k)(hD2:∀ k,D1 k→k<w1.heap.size)(hF:aA D W w1)
 (hbeg:Own inN 3 w1.heap bo c' (offs 0 L))(hap:Ap ao bo)(hap1:¬ blk ao p)(hbp:¬ blk bo p)(hDp:D1 p)(hDa:∀ k,blk ao k→D1 k)(hDb:∀ k,blk bo k→D1 k)
 (ho3:Own b8 5 w3.heap ao3 c3 (L.flatten++t))(hf3:aA (blk ao) w1 w3)(hr3:∀ a,ao3=some a→ao=some a∨w1.heap.size≤a.block)
 (hg4:w4.heap[p]?=some (.cells [.slice ao3 (L.flatten++t).length c3,.slice bo (offs 0 L).length c'].toArray 184 (0,0)))(hf4:aA (· = p) w3 w4):dF D W p (dW L t) w4:=by
 have hWp:=hD2 p hDp;have s0:=hF.size;have s3:=hf3.size;have s4:=hf4.size;have ha3p:¬ blk ao3 p:=fun⟨a,ha,hb⟩=>by
  rcases hr3 a ha with h|h
  ·exact hap1 ⟨a,h,hb⟩
  ·omega
 have hab:Ap ao3 bo:=fun a b ha hb e=>by
  rcases hr3 a ha with h|h
  ·exact hap a b h hb e
  ·have:=hD2 _ (hDb _ ⟨b,hb,rfl⟩);omega
 refine⟨fun k=>D1 k∨(w1.heap.size≤k∧k<w4.heap.size),⟨ao3,c3,bo,c',?_,?_,?_,hab,ha3p,hbp,.inl hDp,?_,fun k hk=>.inl (hDb k hk)⟩,?_,?_,?_⟩
 ·rw[oK L t hne,wD L t hne];exact hg4
 ·rw[oK L t hne];exact ho3.SO hf4 (fun a ha h=>ha3p ⟨a,ha,h⟩)
 · rw[wD L t hne]
   exact(hbeg.SO hf3 (fun a ha h=>by obtain⟨b,hb,e⟩:=h;exact hap b a hb ha e)).SO hf4 (fun a ha h=>hbp ⟨a,ha,h⟩)
 · rintro k ⟨a,ha,rfl⟩
   rcases hr3 a ha with h|h
   ·exact .inl (hDa _ ⟨a,h,rfl⟩)
   · have h5:=ho3.lt a ha
     exact .inr ⟨h,by omega⟩
 · intro k hk;rcases hk with hk|hk
   ·exact hD1 k hk
   ·exact .inr (by omega)
 · intro k hk;rcases hk with hk|hk
   ·have:=hD2 k hk;omega
   ·exact hk.2
 ·refine hF.SJ ((hf3.mono (fun k h=>hDa k h)).trans (hf4.mono (fun k h=>by subst h;exact hDp))) hD1
theorem Lv(D:Nat→Prop)(p:Nat)(L:List By)(to:Option Addr)(tc:Nat)(t:By)(W:World)(hP:gI D W.heap p L)(hD:∀ k,D k→k<W.heap.size)
 (hv:Vw b8 W.heap to tc t)(hvD:t≠[]→∀ a,to=some a→¬ D a.block)(hb1:L.flatten.length≤1099511627776)(hb2:L.length≤1099511627776) :
 CA 67 [pT p,.slice to t.length tc] W fun v w'=>v=.tuple #[inN (pW L t).2.1,inN (pW L t).2.2]∧dF D W p (pW L t).1 w':=by
 have hl:=hv.SM;have hPP:=hP;obtain⟨ao,c,bo,c',hobj,hrow,hbeg,hap,hap1,hbp,hDp,hDa,hDb⟩:=hP;have hol:=fS 0 L;refine cS 83 [(0,_),(1,_)] Tryz.func67 ?_;refine fK 11 ?_ ?_<;>intro h9
 ·refine Gz 17 ?_;have hbad:oT t=true:=uN (by omega);exact⟨_,rfl,by simp[pW,hbad,inN],by rw[show pW L t=(L,0,0) from by simp[pW,hbad]];exact dF.same hPP hD⟩
 refine fW 3 ?_ ?_<;>intro h13
 ·refine Gz 13 ?_;have hbad:oT t=true:=uN (by omega);exact⟨_,rfl,by simp[pW,hbad,inN],by rw[show pW L t=(L,0,0) from by simp[pW,hbad]];exact dF.same hPP hD⟩
 refine Gz 16 ?_;refine PI (β:=Unit) (fun _u=>[(0,pT p),(1,.slice to t.length tc),(6,iV (eF L t).length)]) (fun _u w=>oT t=false∧dF D W p (eF L t) w) ?_ ?_
 ·refine Gz 1 ?_;refine PS 22 [0,1,2,3,4,5,6,7,8,9,10,11,12,13,14,15,16,17,18,19,20,21] aJ (by kernel_rfl) ?_;refine xK 1 ?_ ?_<;>intro h21
  ·refine Gz 24 ?_;refine Pk 14 (fun H=>H[p]?=some (.cells [.slice ao L.flatten.length c,.slice bo (offs 0 L).length c'].toArray 184 (0,0))) [10,11,14] [0,1,2,3,4,5,6,7,8,9,10,11,12,13,14] aJ (by kernel_rfl) (hobj) ?_;refine Gz 10 ?_;refine Ph rfl rfl (PX (enc:=inN) (u:=L.flatten.length) bR rfl rfl rfl ?_);intro w1 ho1 hs1 hf1;refine Pn (by exact hf1.obj hobj (fun h=>h)) ?_;refine Ph rfl rfl (Pm DA bR rfl rfl (hbeg.SN hf1.SL.SL) ho1.vw (by simp only[S5];omega) (by simp only[S5];unfold maxLen;omega) rfl ?_);intro bo2 c2 w2 ho2 hf2 hr2 hn2;refine Pn (by exact hf2.obj (hf1.obj hobj (fun h=>h)) hbp) ?_;refine Gz 2 ?_;refine Ph rfl rfl (Pg qD rfl rfl rfl (hf2.obj (hf1.obj hobj (fun h=>h)) hbp) rfl ?_);intro w3 hg3 hs3 hf3;refine PN rfl ?_;refine Gz 7 ?_;have hg:oT t=false:=rU (by omega)
   first
   |(have hnew:eF L t=L++[[]]:=nT L t (by first|(left;exact Tk (by omega))|(right;omega))
     refine PJ () ⟨rfl,rfl,congrArg (fun z:Int=>some (Value.int .i64 z)) (by rw[hnew,SR];simp[hol]),trivial⟩ ?_;exact⟨hg,by rw[hnew];exact zJ hD hrow hap hap1 hbp hDp hDa hDb hf1.SL.SL ho2 hf2 hr2 hg3 hf3⟩)
   |(have hold:eF L t=L:=nS L t hne (by omega)
     refine PJ () ⟨rfl,rfl,congrArg (fun z:Int=>some (Value.int .i64 z)) (by rw[hold,hol]),trivial⟩ ?_;exact⟨hg,by rw[hold];exact(dF.same hPP hD).draws 1⟩)
  refine Gz 4 ?_;refine xV rfl (O8 aO rfl (aD hobj rfl)) ?_;refine Gz 4 ?_;refine xV rfl (O8 qD rfl (aD hobj rfl)) ?_;refine Gz 2 ?_;refine xV rfl (O5 bR rfl rfl hbeg.vw.non (by omega)) ?_;have hne:L≠[]:=by intro e;subst e;simp[offs] at h21
  have hlast:=mI L hne;refine xV rfl (O8 aK rfl (hbeg.vw.gz 0 (L.length-1) (by omega) (by omega))) ?_;refine xW 4 ?_ ?_<;>intro h40
  ·refine Gz 5 ?_;refine Pk 14 (fun H=>H[p]?=some (.cells [.slice ao L.flatten.length c,.slice bo (offs 0 L).length c'].toArray 184 (0,0))) [10,11,14] [0,1,2,3,4,5,6,7,8,9,10,11,12,13,14] aJ (by kernel_rfl) (hobj) ?_;refine Gz 10 ?_;refine Ph rfl rfl (PX (enc:=inN) (u:=L.flatten.length) bR rfl rfl rfl ?_);intro w1 ho1 hs1 hf1;refine Pn (by exact hf1.obj hobj (fun h=>h)) ?_;refine Ph rfl rfl (Pm DA bR rfl rfl (hbeg.SN hf1.SL.SL) ho1.vw (by simp only[S5];omega) (by simp only[S5];unfold maxLen;omega) rfl ?_);intro bo2 c2 w2 ho2 hf2 hr2 hn2;refine Pn (by exact hf2.obj (hf1.obj hobj (fun h=>h)) hbp) ?_;refine Gz 2 ?_;refine Ph rfl rfl (Pg qD rfl rfl rfl (hf2.obj (hf1.obj hobj (fun h=>h)) hbp) rfl ?_);intro w3 hg3 hs3 hf3;refine PN rfl ?_;refine Gz 7 ?_;have hg:oT t=false:=rU (by omega)
   first
   |(have hnew:eF L t=L++[[]]:=nT L t (by first|(left;exact Tk (by omega))|(right;omega))
     refine PJ () ⟨rfl,rfl,congrArg (fun z:Int=>some (Value.int .i64 z)) (by rw[hnew,SR];simp[hol]),trivial⟩ ?_;exact⟨hg,by rw[hnew];exact zJ hD hrow hap hap1 hbp hDp hDa hDb hf1.SL.SL ho2 hf2 hr2 hg3 hf3⟩)
   |(have hold:eF L t=L:=nS L t hne (by omega)
     refine PJ () ⟨rfl,rfl,congrArg (fun z:Int=>some (Value.int .i64 z)) (by rw[hold,hol]),trivial⟩ ?_;exact⟨hg,by rw[hold];exact(dF.same hPP hD).draws 1⟩)
  refine Gz 5 ?_;have hg:oT t=false:=rU (by omega)
  first
  |(have hnew:eF L t=L++[[]]:=nT L t (by first|(left;exact Tk (by omega))|(right;omega))
    refine PJ () ⟨rfl,rfl,congrArg (fun z:Int=>some (Value.int .i64 z)) (by rw[hnew,SR];simp[hol]),trivial⟩ ?_;exact⟨hg,by rw[hnew];exact zJ hD hrow hap hap1 hbp hDp hDa hDb hf1.SL.SL ho2 hf2 hr2 hg3 hf3⟩)
  |(have hold:eF L t=L:=nS L t hne (by omega)
    refine PJ () ⟨rfl,rfl,congrArg (fun z:Int=>some (Value.int .i64 z)) (by rw[hold,hol]),trivial⟩ ?_;exact⟨hg,by rw[hold];exact(dF.same hPP hD).draws 1⟩)
 rintro _ w1 ⟨hgood,D1,hP1,hD1,hD2,hF⟩;obtain⟨ao,c,bo,c',hobj,hrow,hbeg,hap,hap1,hbp,hDp,hDa,hDb⟩:=hP1;have hol:=fS 0 (eF L t);have hne:=IX L t;have hpos:0<(eF L t).length:=S8.2 hne;have hlast:=mI (eF L t) hne;have hnl:=Gx L t;have hnf:=yI L t;have hnfl:(eF L t).flatten.length=L.flatten.length:=by rw[hnf]
 have hgood':1≤t.length∧t.length<128:=H3 hgood;refine Gz 1 ?_;refine PS 15 [0,1,2,3,4,5,6,7,8,9,10,11,12,13,14] aJ (by kernel_rfl) ?_;refine Gz 3 ?_;refine xC rfl (O8 aO rfl (aD hobj rfl)) ?_;refine Gz 4 ?_;refine xC rfl (O8 qD rfl (aD hobj rfl)) ?_;refine Gz 2 ?_;refine xC rfl (O5 bR rfl rfl hbeg.vw.non (by omega)) ?_;refine xC rfl (O8 aK rfl (hbeg.vw.gz 0 ((eF L t).length-1) (by omega) (by omega))) ?_;refine Gz 12 ?_;refine Pm cU aN rfl rfl hrow (hv.SO (hF.draws 1) (hvD (by intro e;rw[e] at hgood';simp at hgood'))) (by omega) (by unfold maxLen;omega) rfl ?_;intro ao3 c3 w3 ho3 hf3 hr3 hn3;refine Gz 2 ?_;refine Pg aO rfl rfl rfl (hf3.obj hobj hap1) rfl ?_;intro w4 hg4 hs4 hf4;refine Gz 12 ?_;have e:pW L t=(dW (eF L t) t,(eF L t).length,((eF L t).getLast?.getD []).length):=by simp[pW,hgood]
 refine⟨_,rfl,?_,?_⟩
 ·rw[e];exact N6 rfl (by show _=((((eF L t).getLast?.getD []).length:Nat):Int);omega)
 ·rw[e];exact JZ hne hD1 hD2 hF hbeg hap hap1 hbp hDp hDa hDb ho3 hf3.SL hr3 hg4 hf4
theorem KR(W:World):CA 65 [] W fun v w'=>v=pT W.heap.size∧gI (fun k=>k=W.heap.size) w'.heap W.heap.size []∧aA nob W w'∧w'.heap.size=W.heap.size+1:=by
 refine cS 3 [] Tryz.func65 ?_;refine Gz 7 ?_;refine cL (P6 KD LA rfl rfl) ?_;refine Px rfl rfl ?_;intro w1 hg1 hs1 hf1;refine Gz 5 ?_;exact⟨_,rfl,rfl,⟨none,0,none,0,hg1,R8,R8,R4,(fun⟨a,h,_⟩=>by cases h),(fun⟨a,h,_⟩=>by cases h),rfl,(fun k ⟨a,h,_⟩=>by cases h),(fun k ⟨a,h,_⟩=>by cases h)⟩,hf1,hs1⟩
def zK(W:World)(xs:By):Value→World→Prop:=fun v w'=>∃ ao' cap',v=.slice ao' xs.length cap'∧Own b8 5 w'.heap ao' cap' xs∧Fr W.heap.size ao'∧aA nob W w'
theorem Cs(cap:Nat)(xs:By)(W:World)(hv:Vw b8 W.heap none cap xs):CA 61 [.slice none xs.length cap] W (zK W xs):=by
 have hx:xs=[]:=Tk (by
  rcases Nat.eq_zero_or_pos xs.length with h|h
  ·exact h
  ·exact absurd rfl (hv.non (by omega)))
 subst hx;refine cS 8 [(0,_)] Tryz.func61 ?_;refine Gz 9 ?_;refine cL (Pz aN rfl rfl) ?_;refine Gz 11 ?_;exact⟨_,rfl,none,0,rfl,R8,R6,RY _ _⟩
theorem A5(a:Addr)(cap:Nat)(xs:By)(W:World)(hv:Vw b8 W.heap (some a) cap xs)(hb:xs.length≤140737488355328):CA 61 [.slice (some a) xs.length cap] W (zK W xs):=by
 have hl:=hv.SM;refine cS 8 [(0,_)] Tryz.func61 ?_;refine Gz 9 ?_;refine cL (Pz aN rfl rfl) ?_;refine Gz 7 ?_;refine Qf b8 aN rfl ?_;intro w1 ho1 hs1 hf1;refine Gz 1 ?_;refine Pm cU aN rfl rfl ho1 (hv.SN hf1) (by simp only[Tr];omega) (by simp only[Tr];unfold maxLen;omega) rfl ?_;intro ao2 c2 w2 ho2 hf2 hr2 hn2;refine Gz 5 ?_;have hfr:Fr W.heap.size (some (⟨W.heap.size,0,none⟩:Addr)):=fun a ha=>by cases ha;exact SY _
 refine⟨_,rfl,ao2,c2,rfl,ho2,fun a ha=>?_,hf1.SJ hf2 hfr.step⟩;rcases hr2 a ha with h|h
 ·exact hfr a h
 ·have:=hf1.size;omega
theorem EV(ao:Option Addr)(cap:Nat)(xs:By)(W:World)(hv:Vw b8 W.heap ao cap xs)(hb:xs.length≤140737488355328):CA 61 [.slice ao xs.length cap] W (zK W xs):=by
 cases ao with
|none=>exact Cs cap xs W hv
|some a=>exact A5 a cap xs W hv hb
theorem Dl(L:List By):∀ (b k:Nat),k<L.length→(offs b L).getD k 0=b+(L.take k).flatten.length:=by
 induction L with
|nil=>intro b k h;simp at h
|cons x r ih=>
   intro b k h;cases k with
  |zero=>simp[offs]
  |succ k=>
     have:=ih (b+x.length) k (by simpa using h);simp only[offs,List.getD_cons_succ,this,List.take_succ_cons,List.flatten_cons,SR];omega
theorem oJ(L:List By)(k:Nat)(h:k<L.length):(L.take (k+1)).flatten.length=(L.take k).flatten.length+(L.getD k []).length:=by
 rw[Tg h,U0,SR];simp[S6,h]
theorem qK(L:List By)(k:Nat)(h:k<L.length):(L.flatten.drop (L.take k).flatten.length).take (L.getD k []).length=L.getD k []:=by
 have e:L=L.take k++(L.getD k []::L.drop (k+1)):=by
  conv=>lhs;rw[←Tn k L]
  rw[TV h];simp[S6,h]
 have e2:L.flatten=(L.take k).flatten++(L.getD k []++(L.drop (k+1)).flatten):=by
  conv=>lhs;rw[e]
  simp
 rw[e2,List.drop_left,List.take_left]
theorem kM(L:List By)(k:Nat):(L.take k).flatten.length≤L.flatten.length:=by
 conv=>rhs;rw[←Tn k L]
 rw[U0,SR];omega
theorem Fa(D:Nat→Prop)(p:Nat)(L:List By)(W:World)(hP:gI D W.heap p L)(hb1:L.flatten.length≤1099511627776)(hb2:L.length≤1099511627776) :
 CA 68 [pT p] W fun v w'=>∃ ao' cap' hs',v=.slice ao' hs'.length cap'∧Own hd 25 w'.heap ao' cap' hs'∧cK (fun k=>W.heap.size≤k) w'.heap hs' L∧Fr W.heap.size ao'∧aA nob W w':=by
 obtain⟨ao,c,bo,c',hobj,hrow,hbeg,hap,hap1,hbp,hDp,hDa,hDb⟩:=hP;have hol:=fS 0 L;refine cS 51 [(0,_)] Tryz.func68 ?_;refine Gz 16 ?_;refine O6 Cl rfl (EV ao c L.flatten W hrow.vw (by omega)) rfl ?_;rintro _ w1 ⟨ro,rc,rfl,hro,hfro,hf1⟩;refine Gz 9 ?_;refine cL (O8 qD rfl (aD (hf1.obj hobj (fun h=>h)) rfl)) ?_;refine Gz 5 ?_;refine Pb (β:=Nat×Option Addr×Nat×List Hd) (fun⟨k,go,gc,gs⟩=>[(0,pT p),(3,.slice go gs.length gc),(4,.slice ro L.flatten.length rc),(16,.slice bo (offs 0 L).length c'),(17,iV (offs 0 L).length),(18,iV k)]) (fun⟨k,go,gc,gs⟩ w=>k≤L.length∧Own hd 25 w.heap go gc gs∧cK (blk ro) w.heap gs (L.take k)∧Own b8 5 w.heap ro rc L.flatten∧Ap ro go∧Fr W.heap.size go∧aA nob W w) (fun⟨k,go,gc,gs⟩=>L.length-k) (0,none,0,[]) ⟨rfl,rfl,rfl,rfl,rfl,rfl,trivial⟩ ⟨by omega,R8,Se,hro,R5,R6,hf1⟩ ?_;rintro⟨k,go,gc,gs⟩ w2 ⟨hk1,hog,hrg,hro2,hapg,hfg,hF⟩;have hgl:=hrg.1;simp only[S2] at hgl;refine fK 2 ?_ ?_<;>intro h19
 ·refine Gz 11 ?_;have hkl:k<L.length:=by omega
  have hat:aU w2.heap (adr bo (k:Int).toNat)=some (inN (L.take k).flatten.length):=by have:=(hbeg.SN hF).vw.gz 0 k (z:=k) rfl (by omega);rwa[Dl L 0 k hkl,TI] at this
  have hst:=oJ L k hkl;have hle1:=kM L (k+1);refine cL (O5 bR rfl rfl hbeg.vw.non (by omega)) ?_;refine cL (O8 aK rfl hat) ?_;refine Gz 19 ?_;refine cL (O8 qD rfl (aD (hF.obj hobj (fun h=>h)) rfl)) ?_;refine fK 1 ?_ ?_<;>intro h32
  ·refine Gz 7 ?_;refine cL (O8 qD rfl (aD (hF.obj hobj (fun h=>h)) rfl)) ?_;refine Gz 2 ?_;have hend:aU w2.heap (adr bo ((k:Int)+1).toNat)=some (inN (L.take (k+1)).flatten.length):=by have:=(hbeg.SN hF).vw.gz 0 (k+1) (z:=(k:Int)+1) rfl (by omega);rwa[Dl L 0 (k+1) (by omega),TI] at this
   refine cL (O5 bR rfl rfl hbeg.vw.non (by omega)) ?_;refine cL (O8 aK rfl hend) ?_;refine Gz 9 ?_;obtain⟨E,hE,hE2⟩:∃ E,E=(L.take (k+1)).flatten.length∧E=(L.take (k+1)).flatten.length:=⟨_,rfl,rfl⟩
   have hrc:=hro2.vw.le;refine cL (P8 aN rfl rfl rfl rfl (by omega) (by omega) (by omega)) ?_;refine PX (enc:=hd) (u:=⟨aY ro (L.take (k+1)).flatten.length (L.take k).flatten.length 1,(L.take (k+1)).flatten.length-(L.take k).flatten.length,(L.take (k+1)).flatten.length-(L.take k).flatten.length⟩) sJ rfl rfl rfl ?_;intro w3 ho3 hs3 hf3;refine Pm Ch sJ rfl rfl (hog.SN hf3) ho3.vw (by simp only[S5];omega) (by simp only[S5];unfold maxLen;omega) rfl ?_;intro ao4 c4 w4 ho4 hf4 hr4 hn4;refine Gz 8 ?_;refine aG (k+1,ao4,c4,gs++[⟨aY ro (L.take (k+1)).flatten.length (L.take k).flatten.length 1,(L.take (k+1)).flatten.length-(L.take k).flatten.length,(L.take (k+1)).flatten.length-(L.take k).flatten.length⟩]) ?_ (by show L.length-(k+1)<L.length-k;omega);have hF4:aA nob W w4:=(hF.trans hf3).SJ hf4 hfg.step;have hnr:∀ a,ro=some a→¬ blk go a.block:=fun a ha h=>hapg.not a ha h;refine⟨by omega,ho4,?_,(hro2.SN hf3).SO hf4 hnr,fun a b ha hb e=>?_,fun a ha=>?_,hF4⟩
   · have hrg4:cK (blk ro) w4.heap gs (L.take k):=(hrg.SO hf3 (fun _ _ h=>h)).SO hf4 (fun k' hk'=>by obtain⟨a,ha,rfl⟩:=hk';exact hnr a ha)
     have hcut:=((hro2.SN hf3).SO hf4 hnr).vw.cut (l:=(L.take k).flatten.length) (h:=E) (m:=E) (by omega) (by omega) (by omega) (by omega);have hEd:E-(L.take k).flatten.length=(L.getD k []).length:=by omega
     have e:L.take (k+1)=L.take k++[L.getD k []]:=by rw[Tg hkl];simp[S6,hkl]
     rw[hEd,qK L k hkl,hE] at hcut;have hsn:=hrg4.snoc (x:=⟨aY ro (L.take (k+1)).flatten.length (L.take k).flatten.length 1,(L.take (k+1)).flatten.length-(L.take k).flatten.length,(L.take (k+1)).flatten.length-(L.take k).flatten.length⟩) (xs:=L.getD k []) (by show (L.take (k+1)).flatten.length - _=_;omega) (by show Vw b8 _ (aY ro (L.take (k+1)).flatten.length _ 1) ((L.take (k+1)).flatten.length - _) _;rw[←hE,hEd,hE];exact hcut) (fun _ k' hk'=>kH hk');exact(congrArg (cK (blk ro) w4.heap _) e).mpr hsn
   · rcases hr4 b hb with h|h
     ·exact hapg a b ha h e
     ·have:=hro2.lt a ha;have:=hf3.size;omega
   · rcases hr4 a ha with h|h
     ·exact hfg a h
     ·have:=hF.size;have:=hf3.size;omega
  refine Gz 11 ?_;obtain⟨E,hE,hE2⟩:∃ E,E=L.flatten.length∧E=(L.take (k+1)).flatten.length:=⟨_,rfl,by rw[S9 (by omega)]⟩
  have hrc:=hro2.vw.le;refine cL (P8 aN rfl rfl rfl rfl (by omega) (by omega) (by omega)) ?_;refine PX (enc:=hd) (u:=⟨aY ro L.flatten.length (L.take k).flatten.length 1,L.flatten.length-(L.take k).flatten.length,L.flatten.length-(L.take k).flatten.length⟩) sJ rfl rfl rfl ?_;intro w3 ho3 hs3 hf3;refine Pm Ch sJ rfl rfl (hog.SN hf3) ho3.vw (by simp only[S5];omega) (by simp only[S5];unfold maxLen;omega) rfl ?_;intro ao4 c4 w4 ho4 hf4 hr4 hn4;refine Gz 8 ?_;refine aG (k+1,ao4,c4,gs++[⟨aY ro L.flatten.length (L.take k).flatten.length 1,L.flatten.length-(L.take k).flatten.length,L.flatten.length-(L.take k).flatten.length⟩]) ?_ (by show L.length-(k+1)<L.length-k;omega);have hF4:aA nob W w4:=(hF.trans hf3).SJ hf4 hfg.step;have hnr:∀ a,ro=some a→¬ blk go a.block:=fun a ha h=>hapg.not a ha h;refine⟨by omega,ho4,?_,(hro2.SN hf3).SO hf4 hnr,fun a b ha hb e=>?_,fun a ha=>?_,hF4⟩
  · have hrg4:cK (blk ro) w4.heap gs (L.take k):=(hrg.SO hf3 (fun _ _ h=>h)).SO hf4 (fun k' hk'=>by obtain⟨a,ha,rfl⟩:=hk';exact hnr a ha)
    have hcut:=((hro2.SN hf3).SO hf4 hnr).vw.cut (l:=(L.take k).flatten.length) (h:=E) (m:=E) (by omega) (by omega) (by omega) (by omega);have hEd:E-(L.take k).flatten.length=(L.getD k []).length:=by omega
    have e:L.take (k+1)=L.take k++[L.getD k []]:=by rw[Tg hkl];simp[S6,hkl]
    rw[hEd,qK L k hkl,hE] at hcut;have hsn:=hrg4.snoc (x:=⟨aY ro L.flatten.length (L.take k).flatten.length 1,L.flatten.length-(L.take k).flatten.length,L.flatten.length-(L.take k).flatten.length⟩) (xs:=L.getD k []) (by show L.flatten.length - _=_;omega) (by show Vw b8 _ (aY ro L.flatten.length _ 1) (L.flatten.length - _) _;rw[←hE,hEd,hE];exact hcut) (fun _ k' hk'=>kH hk');exact(congrArg (cK (blk ro) w4.heap _) e).mpr hsn
  · rcases hr4 b hb with h|h
    ·exact hapg a b ha h e
    ·have:=hro2.lt a ha;have:=hf3.size;omega
  · rcases hr4 a ha with h|h
    ·exact hfg a h
    ·have:=hF.size;have:=hf3.size;omega
 refine Gz 17 ?_;have hkk:L.take k=L:=S9 (by omega);rw[hkk] at hrg;exact⟨_,rfl,go,gc,gs,rfl,hog,hrg.mono (fun k h=>by obtain⟨a,ha,rfl⟩:=h;exact hfro a ha),hfg,hF⟩
def gH(L:List By)(t:By):List By×Nat×Nat:=
 if oT t then (L,0,0) else
 if L=[]∨128<(L.getD (L.length-1) []).length+t.length then (L++[t],L.length+1,0) else (L.set (L.length-1) (L.getD (L.length-1) []++t),L.length,(L.getD (L.length-1) []).length)
theorem EP(L:List By):L.getD (L.length-1) []=L.getLast?.getD []:=by
 rw[List.getLast?_eq_getElem?];simp[S6]
theorem J1(L:List By)(t:By):gH L t=pW L t:=by
 unfold gH pW
 split
 ·rfl
 · rw[EP]
   split
   · rename_i h
     rw[nT L t h];simp[dW]
   · rename_i h
     have hne:L≠[]:=fun e=>h (.inl e);rw[nS L t hne (fun e=>h (.inr e))];refine U3 ?_ rfl;show L.set (L.length-1) _=dW L t;unfold dW
     conv=>lhs;rw[←Uw hne]
     have hl:(L.dropLast++[L.getLast hne]).length-1=L.dropLast.length:=by simp
     rw[hl,List.set_append_right _ _ (SY _),List.getLast?_eq_some_getLast hne];simp
def yG(o:Oper):Bool:=match o.op with|.defer _=>false|_=>true
def dQ(Q:Exit→Act→World→Prop):Prop:=¬ LetsOut Q
theorem Sg{Q:Exit→Act→World→Prop}{K:Act→World→Prop}(h:dQ Q):dQ (Exit.then K Q):=fun⟨a,w,e⟩=>h ⟨a,w,e⟩
theorem dQ.block{Q:Exit→Act→World→Prop}{i:Nat}(h:dQ Q):dQ (Exit.inBlock i Q):=fun⟨a,w,e⟩=>h ⟨a,w,e⟩
theorem dQ.post{α:Type}{B:Nat}{Kp:World→World→Prop}{I:List α→World→Prop}{Ix:Code→List α→World→Prop}{xs:List α}{W:World}:dQ (ownPostG B Kp I Ix xs W):=fun⟨_,_,e⟩=>e
section
variable {P:Program}{lp n:Nat}
abbrev FR(lp:Nat):Fence:=Fence.wide.inRound lp
theorem HW{f:FuncId}{args:Array Value}{w:World}{R:Ending→World→Prop}(h:Calls P f args w R):CallsIn (FR lp) n P f args w R:=CallsIn.inRound lp (callsIn_wide.2 h)
theorem IC{row:String}{args:Array Value}{w:World}{R:Value→World→Prop}(h:Rows P row args w R):RowsIn (FR lp) n P row args w R:=fun c cs _=>by
 obtain⟨v,w',r,s⟩:=h c cs;exact⟨v,w',r,stepsIn_wide.2 s⟩
theorem Ih{o:Oper}{a:Act}{next next':Act→World→Prop}{Q:Exit→Act→World→Prop}(hn:∀ a w,next a w→next' a w){r:Result Next}(h:o.upon P a next Q r):o.uponIn (FR lp) n P a next' Q r:=by
 rcases r with⟨x,w'⟩|⟨c,w'⟩
 · cases x with
  |value v=>exact hn _ _ h
  |skip=>exact hn _ _ h
  |defer d=>exact hn _ _ h
  |enter f args=>
     refine⟨fun hd=>absurd hd (by simp[FR,Fence.wide]),HW (Calls.mono h ?_)⟩;rintro e w'' he;cases e with
    |returned v=>exact hn _ _ he
    |panicked ch=>exact he
    |outgrown=>exact he
  |row row args=>exact⟨fun hd=>absurd hd (by simp[FR,Fence.wide]),IC (Rows.mono h (fun v w'' he=>hn _ _ he))⟩
  |_=>exact h.elim
 ·cases c<;>first|exact h|exact h.elim
theorem yM{ops:Array Oper}{Q:Exit→Act→World→Prop}(hQ:dQ Q):∀ (rest:List Oper),rest.all yG=true→∀ (a:Act) (w:World),wpList P ops Q rest a w→wpListIn (FR lp) n P ops Q rest a w
|[],_,_,_,h=>h
|o::rest,hd,a,w,h=>by
   rw[List.all_cons,Tl] at hd;unfold wpList at h;unfold wpListIn;by_cases hw:Region.wanted o (yielded ops a.tmps)
   · rw[SQ hw] at h ⊢
     rcases h with h|⟨_,h⟩
     · refine⟨fun _ _=>trivial,?_⟩
       rw[Oper.semAt_eq _ _ _ (fun c hc=>by have:=hd.1;simp[yG,hc] at this)];exact Ih (yM hQ rest hd.2) h
     ·exact absurd h hQ
   · rw[SP hw] at h ⊢
     exact⟨fun _ _=>trivial,yM hQ rest hd.2 _ _ h⟩
end
def Rc(lp n:Nat)(P:Program)(N:Nt)(c:Code)(Q:Exit→Act→World→Prop)(l:SF)(w:World):Prop:=∀ a,bV N l a→c.wpIn (FR lp) n P Q a w
section
variable {P:Program}{N:Nt}{Q:Exit→Act→World→Prop}{l:SF}{w:World}{lp n:Nat}
theorem Rc.seq{x y:Code}(h:Rc lp n P N x (Exit.then (y.wpIn (FR lp) n P Q) Q) l w):Rc lp n P N (.seq x y) Q l w:=fun a ha=>wpIn_seq (h a ha)
theorem Rc.block{id:Nat}{c:Code}(h:Rc lp n P N c (Exit.inBlock id Q) l w):Rc lp n P N (.block id c) Q l w:=fun a ha=>wpIn_block (h a ha)
theorem Rc.region{id:Nat}{ops:List Oper}(hQ:dQ Q)(hd:ops.all yG=true)(h:Sl P N ops.toArray Q ops l w):Rc lp n P N (.region id ops.toArray false) Q l w:=fun a ha=>wpIn_region_lit (yM hQ ops hd a w (h a ha))
theorem Sh{c:Operand}{x y:Code}(hc:evL l c=some (.bool true))(h:Rc lp n P N x Q l w):Rc lp n P N (.cond c x y) Q l w:=fun a ha=>wpIn_cond (ha.ev hc) (h a ha)
theorem Sj{c:Operand}{x y:Code}(hc:evL l c=some (.bool false))(h:Rc lp n P N y Q l w):Rc lp n P N (.cond c x y) Q l w:=fun a ha=>wpIn_cond (ha.ev hc) (h a ha)
theorem Rc.skip(h:At N .normal Q l w):Rc lp n P N .skip Q l w:=fun a ha=>wpIn_skip (h a ha)
theorem QY{y:Code}(h:Rc lp n P N y Q l w):At N .normal (Exit.then (y.wpIn (FR lp) n P Q) Q) l w:=fun a ha=>h a ha
theorem Rc.cut{x y:Code}{β:Type}(L:β→SF)(J:β→World→Prop)(h1:Rc lp n P N x (Exit.then (fun a w=>∃ b,bV N (L b) a∧J b w) Q) l w)
 (h2:∀ b w,J b w→Rc lp n P N y Q (L b) w):Rc lp n P N (.seq x y) Q l w:=fun a ha=>
 wpIn_seq (wpIn_mono (h1 a ha) fun e a' w' hq=>by
  cases e with
 |normal=>obtain⟨b,hb,hJ⟩:=hq;exact h2 b w' hJ a' hb
 |_=>exact hq)
theorem QQ{α:Type}{B:Nat}{Kp:World→World→Prop}{I:List α→World→Prop}{Ix:Code→List α→World→Prop}{xs:List α}{W:World}(h:KeepsFrom B W w∧Kp W w∧I xs w):At N .normal (ownPostG B Kp I Ix xs W) l w:=fun _ _=>h
end
def Si(n:Nat)(P:Program)(N:Nt)(ops:Array Oper)(Q:Exit→Act→World→Prop)(rest:List Oper)(l:SF)(w:World):Prop:=∀ a,bV N l a→wpListIn Fence.wide n P ops Q rest a w
section
variable {P:Program}{N:Nt}{Q:Exit→Act→World→Prop}{l:SF}{w:World}{n:Nat}{ops:Array Oper}{rest:List Oper}
variable {op:Op}{ty:TypeId}{pos:String}{aft:Array Edge}{d:Nat}{v:Value}{x:Operand}
theorem QZ(n:Nat){id:Nat}{ops:List Oper}(h:Si n P N ops.toArray Q ops l w):Sc P N (.region id ops.toArray false) Q l w:=fun a ha=>wpIn_wide.1 (wpIn_region_lit (h a ha))
theorem Si.calm(hv:Cm P N (· = w.heap) l ⟨some d,op,ty,pos,aft,none⟩ v)(hd:Tq d N.n=true)(h:Si n P N ops Q rest ((d,v)::l) w) :
 Si n P N ops Q (⟨some d,op,ty,pos,aft,none⟩::rest) l w:=fun a ha=>by
 unfold wpListIn;rw[SQ (by simp[Region.wanted])];refine⟨fun _ _=>trivial,?_⟩;show Oper.uponIn _ _ _ _ _ _ _ ((execOp a.eval _).run P w);rw[hv a w ha rfl];exact h _ (ha.put hd v)
theorem Sk(h:At N .normal Q l w):Si n P N ops Q [] l w:=fun a ha=>wpListIn_nil (h a ha)
theorem Si.yield{r:Nat}{xs:List Operand}{vs:List Value}{ts:Array TypeId}{A B:World→Prop}(hc:evL l x=some (.func (.yield r) #[] #[]))(hx:pM l xs=some vs)
 (hy:YieldAt Fence.wide (n-1) P r vs.toArray w (fun e W'=>(e=.returned (.bool true)∧A W')∨(e=.returned (.bool false)∧B W')))(hd:Tq d N.n=true)
 (h1:∀ W',A W'→Si n P N ops Q rest ((d,.bool true)::l) W')(h2:∀ W',B W'→Si n P N ops Q rest ((d,.bool false)::l) W') :
 Si n P N ops Q (⟨some d,.call ⟨.value x,xs.toArray,ts⟩,ty,pos,aft,none⟩::rest) l w:=fun a ha=>by
 unfold wpListIn;rw[SQ (by simp[Region.wanted])];refine⟨fun _ _=>trivial,?_⟩;obtain⟨fn,tmps,assign,body,hrun,hR⟩:=hy;have e:(execOp a.eval ⟨some d,.call ⟨.value x,xs.toArray,ts⟩,ty,pos,aft,none⟩).run P w=.ok (.round r fn tmps assign body) w:=by
  have h1:=ha.ev hc;simp[execOp,resolve,h1,Deferred.ofValue,invoke,callFunc];rw[←ha.evs hx] at hrun;exact hrun
 have e2:(Oper.semAt Fence.wide.round a.eval ⟨some d,.call ⟨.value x,xs.toArray,ts⟩,ty,pos,aft,none⟩).run P w=.ok (.round r fn tmps assign body) w:=e;rw[e2];refine⟨fun hd=>absurd hd (by simp[Fence.wide]),hR.mono ?_⟩;rintro e W' (⟨rfl,hA⟩|⟨rfl,hB⟩)
 ·exact h1 W' hA _ (ha.put hd _)
 ·exact h2 W' hB _ (ha.put hd _)
end
def Nt.col(N:Nt)(D:Nat):Nt:=⟨N.n,{ target:=.collected D,args:=#[] } :: N.ds⟩
theorem zD{P:Program}{f:FuncId}{fn:Func}{c:Code}{args:List Value}{w:World}{R:Ending→World→Prop}(N:Nat)(l:SF)
 (hf:P.funcs[f]?=some fn)(hb:fn.body=some c)(hN:fn.ntmps=N)(hle:Nat.ble args.length N=true)
 (hl:∀ t v,lk l t=some v→args[t]?=some v)
 (h:Sc P ⟨N,[]⟩ c (bodyPostM Fence.wide 4 P fn R) l w):Calls P f args.toArray w R:=by
 refine callsIn_wide.1 (callsIn_of_wp_marks (F:=Fence.wide) (n:=4) hf hb trivial (wpIn_wide.2 (h _ ⟨rfl,?_,?_⟩)))
 · have:args.length≤N:=by simpa[U6] using hle
   simp[hN];omega
 · intro t v ht
   have:=hl t v ht;have hlt:t<args.length:=(SV.1 this).1;rw[SS hlt] at this;simpa[Array.getElem?_append,hlt] using this
section
variable {P:Program}{N D:Nat}{fn:Func}{R:Ending→World→Prop}{l:SF}{w:World}
theorem Cc{tmps:Array Value}{v:Value}(hr:(results fn tmps).run P w=.ok v w)(h:R (.returned v) w):LeavesInM Fence.wide 4 P fn tmps R [] .returning w:=by
 unfold LeavesInM LeavesIn;exact⟨v,hr,h⟩
theorem AK{tmps:Array Value}{v:Value}(hD:w.heap[D]?=some (.deferred (some [])))(hr:(results fn tmps).run P (w.putObj D (.deferred none))=.ok v (w.putObj D (.deferred none)))(h:R (.returned v) (w.putObj D (.deferred none))) :
 LeavesInM Fence.wide 4 P fn tmps R [{ target:=.collected D,args:=#[] }] .returning w:=
 ⟨by simp,.inl ⟨_,_,rfl,run_takeDeferred hD,Cc hr h⟩⟩
theorem ER(hD:w.heap[D]?=some (.deferred (some []))):aA (· = D) w (w.putObj D (.deferred none)):=
 ⟨rfl,rfl,rfl,by simp,fun k _ hk=>World.putObj_heap_other hk⟩
theorem Qs{t u:Nat}{v x:Value}(hr:fn.results=#[.tmp t,.tmp u])(hv:lk l t=some v)(hx:lk l u=some x)(hD:w.heap[D]?=some (.deferred (some [])))
 (h:∀ w',w'=w.putObj D (.deferred none)→aA (· = D) w w'→R (.returned (.tuple #[v,x])) w'):At (Nt.col ⟨N,[]⟩ D) .ret (bodyPostM Fence.wide 4 P fn R) l w:=fun a ha=>by
 show LeavesInM _ _ _ _ _ _ a.defers _ _;rw[ha.dfr];exact AK hD (by rw[results_tmp2 hr]) (by simpa[ha.has t v hv,ha.has u x hx] using h _ rfl (ER hD))
end
theorem Es{α:Type}{B:Nat}(c:Code):OwnFrom B ((fun(_:Code) (_:List α) (_:World)=>False) c):=fun _ _ _ _ h _ _=>h.elim
theorem Rt{α:Type}{P:Program}{N:Nt}{l:SF}{w w0:World}{Q:Exit→Act→World→Prop}{f p q:Nat}{rid:Nat}{ty:TypeId}{pos:String}{aft:Array Edge}{body:Code}{gf:Nat}{lb:Array Value}{enc:α→Value}
 {Kp:World→World→Prop}{S Sp:List α→Prop}{M:Nat}
 (hf:lk l f=some (.func (.func gf) #[] lb))(hg:fnB P gf=true)(hseq:SeqStopsK Fence.wide 3 P gf lb (fun x=>#[enc x]) Kp S Sp M w0)
 (hKt:∀ {A B C:World},Kp A B→Kp B C→Kp A C)(hKb:∀ (W:World) (l:Nat) (o o':Obj),w.heap.size≤l→W.heap[l]?=some o→o.isCells=false→o.isWalk=false→Kp W (W.putObj l o'))(hb0:Below w0.heap.size w0 w)
 (hp:Tq p N.n=true)(hq:Tq q N.n=true)
 (I:List α→World→Prop)(hI:OwnFrom w.heap.size I)(h0:I [] w)
 (hbody:∀ (lp:Nat) (pre:List α) (x:α) (W:World),I pre W→pre.length<M→Rc lp 2 P ⟨N.n,[]⟩ body (ownPostG w.heap.size Kp I (fun _ _ _=>False) (pre++[x]) W) ((q,enc x)::(p,enc x)::l) W)
 (hdone:∀ (D:Nat) (xs:List α) (W:World),w.heap.size≤D→S xs→I xs W→W.heap[D]?=some (.deferred (some []))→At (N.col D) .normal Q l W) :
 Sc P N (.rangeFunc (.tmp f) #[p] (.region rid #[⟨some q,.assign (.tmp p),ty,pos,aft,none⟩] false) body) Q l w:=fun a ha=>by
 refine wpIn_wide.1 (wpIn_rangeFunc_ownG (F:=Fence.wide) (n:=4) rfl (by decide) (gf:=gf) (lb:=lb) (ha.ev (x:=.tmp f) hf) trivial (dN hg) hseq hKt hKb hb0 (fun _=>rfl) I (fun _ _ _=>False) hI Es h0
  (fun x=>{ tmps:=(a.tmps.setIfInBounds p (enc x)).setIfInBounds q (enc x),defers:=[] }) ?_ ?_ ?_ ?_)
 · intro lp x W K hK
   refine wpIn_region_lit (l:=[_]) ?_;unfold wpListIn;rw[SQ (by simp[Region.wanted])];refine⟨fun _ _=>trivial,?_⟩;have hps:p<a.tmps.size:=by rw[ha.siz];simpa[T8] using hp
   have e:(execOp (Act.eval { tmps:=a.tmps.setIfInBounds p (enc x),defers:=[] }) ⟨some q,.assign (.tmp p),ty,pos,aft,none⟩).run P W=.ok (.value (enc x)) W:=by
    simp[execOp,Act.eval,hps]
   have ez:(#[p].zip #[enc x]).foldl (fun t (x:Nat×Value)=>match x with|(p,v)=>t.setIfInBounds p v) a.tmps=a.tmps.setIfInBounds p (enc x):=by simp
   rw[ez,Oper.semAt_eq _ _ _ (fun c hc=>by cases hc),e];exact hK
 · intro lp pre x W hi hlt
   refine hbody lp pre x W hi hlt _ ⟨rfl,by simp[ha.siz],?_⟩;have h1:bV N ((q,enc x)::(p,enc x)::l) ((a.put (some p) (enc x)).put (some q) (enc x)):=(ha.put hp _).put hq _;exact h1.has
 · intro D xs W hD hS hi hK
   exact hdone D xs W hD hS hi hK _ ⟨by show _::a.defers=_;rw[ha.dfr];rfl,ha.siz,ha.has⟩
 · intro D c pre W _ _ h _
   exact h.elim
theorem Ci{W W':World}{row:Option Nat}(h:W.grownBy W' row):aA (fun k=>some k=row) W W':=⟨h.os,h.tape,h.output,h.size,fun k hk hn=>h.block k hk hn⟩
theorem GR{B:Nat}{S:Nat→Prop}{W w:World}(h:aA S W w)(hs:∀ k,S k→k<W.heap.size→∃ cur T fr,W.heap[k]?=some (.cells cur T fr)):KeepsFrom B W w:=
 ⟨h.size,fun k o _ hk ho=>(h.same k (SZ.1 hk).1 (fun hS=>by
  obtain⟨cur,T,fr,e⟩:=hs k hS (SZ.1 hk).1;rw[hk] at e;cases e;cases ho)).trans hk⟩
theorem Own.cells{α:Type}{enc:α→Value}{e:TypeId}{H:Array Obj}{ao:Option Addr}{cap:Nat}{xs:List α}(h:Own enc e H ao cap xs){a:Addr}(ha:ao=some a):∃ cur,H[a.block]?=some (.cells cur e (0,0)):=by
 rcases h with⟨rfl,_⟩|⟨g,cur,rfl,hg,_⟩
 ·cases ha
 ·cases ha;exact⟨_,hg⟩
def BbI{α:Type}(e T:TypeId)(bx:Nat)(w0:World)(f:List α→By)(pre:List α)(w:World):Prop:=
 ∃ oo oc,w.heap[bx]?=some (.cells [Value.slice oo (f pre).length oc].toArray T (0,0))∧Own b8 e w.heap oo oc (f pre)∧Fr w0.heap.size oo∧aA (· = bx) w0 w
theorem BbI.own{α:Type}{e T:TypeId}{bx:Nat}{w0:World}{f:List α→By}:OwnFrom w0.heap.size (BbI (α:=α) e T bx w0 f):=fun pre W W' row ⟨oo,oc,h1,h2,h3,h4⟩ hg hr=>by
 have g:=Ci hg;refine⟨oo,oc,g.obj h1 (fun e=>?_),h2.SO g (fun a ha e=>?_),h3,h4.SJ g (fun k e=>.inr (hr k e.symm).1)⟩
 · obtain⟨_,o,ho,hc⟩:=hr bx e.symm
   rw[h1] at ho;cases ho;cases hc
 · obtain⟨_,o,ho,hc⟩:=hr a.block e.symm
   obtain⟨cur,hcur⟩:=h2.cells ha;rw[hcur] at ho;cases ho;cases hc
section
variable {P:Program}{N:Nt}{Q:Exit→Act→World→Prop}{l:SF}{w:World}{ops:Array Oper}{rest:List Oper}
variable {ty:TypeId}{pos:String}{aft:Array Edge}{d g:Nat}{x:Operand}{s:ByteArray}{p:Nat}
theorem QR{t:TypeId}(ht:P.underlying t=some .string)(hx:evL l x=some (.string s))(hd:Tq d N.n=true)
 (h:∀ w',w'.heap[w.heap.size]?=some (.stringIter s 0)→w'.heap.size=w.heap.size+1→aA nob w w'→Sl P N ops Q rest ((d,pT w.heap.size)::l) w') :
 Sl P N ops Q (⟨some d,.range t x,ty,pos,aft,none⟩::rest) l w:=by
 refine PC (w':=w.alloc (.stringIter s 0)) (fun a ha=>?_) hd (h _ (heap_alloc_new w _) (by simp) (aA.alloc _ _ _));simp[execOp,ha.ev hx,Instr.range,run_underlying ht,newObj];rfl
theorem Ru(hx:evL l x=some (pT g))(hg:w.heap[g]?=some (.stringIter s p))(hp:p<s.size)(hd:Tq d N.n=true)
 (h:∀ w',w'.heap[g]?=some (.stringIter s (p+(Utf8.decode s p).2))→w'.heap.size=w.heap.size→aA (· = g) w w'→Sl P N ops Q rest ((d,.tuple #[.bool true,iV p,.int .i32 (Utf8.decode s p).1])::l) w') :
 Sl P N ops Q (⟨some d,.next x true,ty,pos,aft,none⟩::rest) l w:=by
 obtain⟨s1,s2,s3⟩:=lK (o':=.stringIter s (p+(Utf8.decode s p).2)) hg;refine PC (w':=ChangeMaps.setBlock w g (.stringIter s (p+(Utf8.decode s p).2))) (fun b hb=>?_) hd (h _ s1 s2 s3);simp[execOp,hb.ev hx,Instr.next,getObj,setObj,Sem.run,hg,hp,Result.andThen,ChangeMaps.setBlock,goInt]
theorem Rv(hx:evL l x=some (pT g))(hg:w.heap[g]?=some (.stringIter s p))(hp:¬ p<s.size)(hd:Tq d N.n=true)
 (h:Sl P N ops Q rest ((d,.tuple #[.bool false])::l) w) :
 Sl P N ops Q (⟨some d,.next x true,ty,pos,aft,none⟩::rest) l w:=by
 refine PC (w':=w) (fun b hb=>?_) hd h;simp[execOp,hb.ev hx,Instr.next,getObj,Sem.run,hg,hp,Result.andThen]
end
theorem HZ(s:By){i:Nat}(h:i<s.length):(bs s).get! i=s[i]:=by
 show (s.toArray)[i]! = _;rw[getElem!_pos s.toArray i (by simpa using h)];simp
theorem xZ{s:By}{p:Nat}(hp:p<s.length) :
 1≤(Utf8.decode (bs s) p).2∧p+(Utf8.decode (bs s) p).2≤s.length∧(Utf8.decode (bs s) p).1<1114112 ∧
 ((s.getD p 0).toNat<128→(Utf8.decode (bs s) p).1=(s.getD p 0).toNat)∧(128≤(s.getD p 0).toNat→128≤(Utf8.decode (bs s) p).1) ∧
 ∀ k,p<k→k<p+(Utf8.decode (bs s) p).2→128≤(s.getD k 0).toNat:=by
 have hz:=gP s;have e0:(bs s).get! (p+0)=s.getD p 0:=by rw[Nat.add_zero,HZ s hp];simp[S6,hp]
 have ek:∀ k,p+k<s.length→(bs s).get! (p+k)=s.getD (p+k) 0:=fun k h=>by rw[HZ s h];simp[S6,h]
 have b0:=(s.getD p 0).toNat_lt;unfold Utf8.decode;simp only[e0,hz];by_cases h1:(s.getD p 0).toNat<0x80
 · rw[SQ h1]
   exact⟨by simp,by simp;omega,by show (s.getD p 0).toNat<1114112;omega,fun _=>rfl,fun h=>by omega,fun k h2 h3=>by simp at h3;omega⟩
 · rw[SP h1]
   have bad:∀ r:Nat×Nat,r=(Utf8.runeError,1)→1≤r.2∧p+r.2≤s.length∧r.1<1114112∧((s.getD p 0).toNat<128→r.1=(s.getD p 0).toNat)∧(128≤(s.getD p 0).toNat→128≤r.1)∧∀ k,p<k→k<p+r.2→128≤(s.getD k 0).toNat:=by
    rintro r rfl;exact⟨by simp,by simp;omega,by simp[Utf8.runeError],fun h=>by omega,fun h=>by simp[Utf8.runeError],fun k h2 h3=>by simp at h3;omega⟩
   have cont:∀ k,(decide (p+k<s.length) && ((bs s).get! (p+k)).toNat/64 == 2)=true→p+k<s.length∧128≤(s.getD (p+k) 0).toNat:=fun k h=>by
    simp only[Tl,decide_eq_true_eq,beq_iff_eq] at h;have:=h.2;rw[ek k h.1] at this;exact⟨h.1,by omega⟩
   split
   · rename_i h2
     rw[Tl] at h2;obtain⟨c1,d1⟩:=cont 1 h2.2
     split
     · rename_i h3
       refine⟨by simp,by simp;omega,?_,fun h=>by omega,fun _=>h3,fun k h4 h5=>?_⟩
       ·show _<1114112;omega
       · have h5:k<p+2:=h5
         have:k=p+1:=by omega
         subst this;exact d1
     ·exact bad _ rfl
   · split
     · rename_i h2
       simp only[Tl] at h2;obtain⟨c1,d1⟩:=cont 1 (by simpa using h2.1.2);obtain⟨c2,d2⟩:=cont 2 (by simpa using h2.2)
       split
       · rename_i h3
         simp only[Tl,decide_eq_true_eq] at h3;refine⟨by simp,by simp;omega,?_,fun h=>by omega,fun _=>Tt (by decide) h3.1,fun k h4 h5=>?_⟩
         ·show _<1114112;omega
         · have h5:k<p+3:=h5
           rcases(by omega:k=p+1∨k=p+2) with rfl|rfl
           ·exact d1
           ·exact d2
       ·exact bad _ rfl
     · split
       · rename_i h2
         simp only[Tl] at h2;obtain⟨c1,d1⟩:=cont 1 (by simpa using h2.1.1.2);obtain⟨c2,d2⟩:=cont 2 (by simpa using h2.1.2);obtain⟨c3,d3⟩:=cont 3 (by simpa using h2.2)
         split
         · rename_i h3
           simp only[Tl,decide_eq_true_eq,ge_iff_le] at h3;refine⟨by simp,by simp;omega,?_,fun h=>by omega,fun _=>Tt (by decide) h3.1,fun k h4 h5=>?_⟩
           · have h6:=h3.2
             simp only[Utf8.valid,Ud,Tl,decide_eq_true_eq] at h6;show _<1114112;omega
           · have h5:k<p+4:=h5
             rcases(by omega:k=p+1∨k=p+2∨k=p+3) with rfl|rfl|rfl
             ·exact d1
             ·exact d2
             ·exact d3
         ·exact bad _ rfl
       ·exact bad _ rfl
def rT(s:By)(p:Nat):Prop:=∀ k,k<p→s.getD k 0≠0∧s.getD k 0≠47
theorem Cy{s:By}{p:Nat}(hp:p<s.length)(h:rT s p)(h0:(Utf8.decode (bs s) p).1≠0)(h47:(Utf8.decode (bs s) p).1≠47):rT s (p+(Utf8.decode (bs s) p).2):=by
 obtain⟨r1,r2,r3,r4,r5,r6⟩:=xZ hp;intro k hk;by_cases hkp:k<p
 ·exact h k hkp
 by_cases hkp2:k=p
 · subst hkp2
   by_cases hlt:(s.getD k 0).toNat<128
   · have e:=r4 hlt
     exact⟨fun h=>h0 (by rw[e,h];rfl),fun h=>h47 (by rw[e,h];rfl)⟩
   ·exact⟨fun h=>by rw[h] at hlt;exact hlt (by decide),fun h=>by rw[h] at hlt;exact hlt (by decide)⟩
 · have:=r6 k (by omega) hk
   exact⟨fun h=>by rw[h] at this;revert this;decide,fun h=>by rw[h] at this;revert this;decide⟩
theorem xG{s:By}{p:Nat}(hp:p<s.length){c:UInt8}(hc:c.toNat<128)(h:(Utf8.decode (bs s) p).1=c.toNat):c∈s:=by
 obtain⟨r1,r2,r3,r4,r5,r6⟩:=xZ hp;by_cases hlt:(s.getD p 0).toNat<128
 · have e:=r4 hlt
   have:s.getD p 0=c:=UInt8.toNat_inj.1 (by omega);rw[←this];simp[S6,hp]
 ·have:=r5 (by omega);omega
theorem E5{s:By}(h:rT s s.length):(0:UInt8)∉s∧(47:UInt8)∉s:=by
 constructor
 · intro hm
   obtain⟨i,hi,e⟩:=TG hm;exact(h i hi).1 (by simp[S6,hi,e])
 · intro hm
   obtain⟨i,hi,e⟩:=TG hm;exact(h i hi).2 (by simp[S6,hi,e])
def cP(s:By):Int:=if 255<s.length then 23 else if s=[]∨s=[46]∨s=[46,46]∨(0:UInt8)∈s∨(47:UInt8)∈s then 22 else 0
theorem iP{s:By}(h:cP s=0):s.length≤255∧s≠[]∧(0:UInt8)∉s∧(47:UInt8)∉s:=by
 unfold cP at h
 split at h
 ·simp at h
 · split at h
   ·simp at h
   · rename_i h1 h2
     simp only[not_or] at h2;exact⟨by omega,h2.1,h2.2.2.2.1,h2.2.2.2.2⟩
def fU:List By→Int
|[]=>0
|s::r=>if cP s=0 then fU r else cP s
theorem mT:∀ {A B:List By},(∀ s∈A,cP s=0)→fU (A++B)=fU B
|[],B,_=>rfl
|a::A,B,h=>by
   show (if cP a=0 then fU (A++B) else cP a)=_;rw[SQ (h a (by simp)),mT (fun s hs=>h s (by simp[hs]))]
theorem EC{A B:List By}{s:By}(h:∀ s∈A,cP s=0)(hs:cP s≠0):fU (A++s::B)=cP s:=by
 rw[mT h];show (if cP s=0 then _ else _)=_;rw[SP hs]
theorem tF{A:List By}(h:∀ s∈A,cP s=0):fU A=0:=by
 have:=mT (B:=[]) h;rw[List.append_nil] at this;exact this
theorem AE{A:List By}(h:fU A=0):∀ s∈A,cP s=0:=by
 induction A with
|nil=>simp
|cons a A ih=>
   have h:(if cP a=0 then fU A else cP a)=0:=h;by_cases ha:cP a=0
   · rw[SQ ha] at h
     intro s hs;rcases Tm.1 hs with rfl|hs
     ·exact ha
     ·exact ih h s hs
   ·rw[SP ha] at h;exact absurd h ha
def eB(l:List Nd):List By:=l.flatMap (·.names)
theorem Gw{l:List Nd}{n:Nd}{i k:Nat}{s:By}(hn:l[i]?=some n)(hs:n.names[k]?=some s)(h1:∀ s∈eB (l.take i),cP s=0)(h2:∀ s∈n.names.take k,cP s=0)(h3:cP s≠0):fU (eB l)=cP s:=by
 have hi:=(SV.1 hn).1;have hk:=(SV.1 hs).1;have e1:l=l.take i++n::l.drop (i+1):=by rw[←(SV.1 hn).2,List.getElem_cons_drop,Tn]
 have e2:n.names=n.names.take k++s::n.names.drop (k+1):=by rw[←(SV.1 hs).2,List.getElem_cons_drop,Tn]
 have e3:eB l=(eB (l.take i)++n.names.take k)++s::(n.names.drop (k+1)++eB (l.drop (i+1))):=by
  conv=>lhs;rw[e1]
  simp only[eB,List.flatMap_append,TN]
  conv=>lhs;rw[e2]
  simp
 rw[e3];exact EC (fun s hs=>(Tx.1 hs).elim (h1 s) (h2 s)) h3
theorem tkL{α:Type}{l:List α}{i:Nat}{x:α}(h:l[i]?=some x):l.take (i+1)=l.take i++[x]:=by
 rw[Tg (SV.1 h).1,(SV.1 h).2]
theorem CC(l:List Nd)(n:Nd):eB (l++[n])=eB l++n.names:=by simp[eB]
def dI(l:List By):By:=47::Lib.join l [47]
def iD(l:List By):Prop:=∀ s∈l,s≠[]∧(47:UInt8)∉s
theorem dL(x:By)(r:List By):Lib.joinTail [47] (x::r)=47::(x++Lib.joinTail [47] r):=by simp[Lib.joinTail]
theorem kC(x:By)(r:List By):dI (x::r)=Lib.joinTail [47] (x::r):=by rw[dI,Lib.join_cons,dL]
theorem Km:∀ {x y A B:By},(47:UInt8)∉x→(47:UInt8)∉y→(A=[]∨∃ A',A=47::A')→(B=[]∨∃ B',B=47::B')→x++A=y++B→x=y∧A=B
|[],[],A,B,_,_,_,_,h=>⟨rfl,h⟩
|[],b::y,A,B,_,h2,h3,_,h=>by
   rcases h3 with rfl|⟨A',rfl⟩
   ·cases h
   · simp only[TH,T1,Ux.injEq] at h
     exact absurd (by rw[h.1];exact Vb) h2
|a::x,[],A,B,h1,_,_,h4,h=>by
   rcases h4 with rfl|⟨B',rfl⟩
   ·cases h
   · simp only[TH,T1,Ux.injEq] at h
     exact absurd (by rw[←h.1];exact Vb) h1
|a::x,b::y,A,B,h1,h2,h3,h4,h=>by
   simp only[T1,Ux.injEq] at h;obtain⟨e1,e2⟩:=Km (fun m=>h1 (TS _ m)) (fun m=>h2 (TS _ m)) h3 h4 h.2;exact⟨by rw[h.1,e1],e2⟩
theorem vI(r:List By):Lib.joinTail [47] r=[]∨∃ A',Lib.joinTail [47] r=47::A':=by
 cases r with
|nil=>exact .inl rfl
|cons x r=>exact .inr ⟨_,dL x r⟩
theorem zV:∀ {a b:List By},iD a→iD b→Lib.joinTail [47] a=Lib.joinTail [47] b→a=b
|[],[],_,_,_=>rfl
|[],y::b,_,_,h=>by rw[dL] at h;cases h
|x::a,[],_,_,h=>by rw[dL] at h;cases h
|x::a,y::b,ha,hb,h=>by
   rw[dL,dL,Ux.injEq] at h;obtain⟨e1,e2⟩:=Km (ha x (by simp)).2 (hb y (by simp)).2 (vI a) (vI b) h.2;rw[e1,zV (fun s hs=>ha s (by simp[hs])) (fun s hs=>hb s (by simp[hs])) e2]
theorem Ep{a b:List By}(ha:iD a)(hb:iD b)(h:dI a=dI b):a=b:=by
 match a,b with
|[],[]=>rfl
|[],y::b=>
   rw[kC,dL,dI,Lib.join_nil,Ux.injEq] at h;exact absurd (List.append_eq_nil_iff.1 h.2.symm).1 (hb y (by simp)).1
|x::a,[]=>
   rw[kC,dL,dI,Lib.join_nil,Ux.injEq] at h;exact absurd (List.append_eq_nil_iff.1 h.2).1 (ha x (by simp)).1
|x::a,y::b=>
   rw[kC,kC] at h;exact zV ha hb h
theorem zU:∀ {r:List By},(∀ s∈r,s.length≤255)→(Lib.joinTail [47] r).length≤256*r.length
|[],_=>by simp[Lib.joinTail]
|x::r,h=>by
   have ih:=zU (fun s hs=>h s (TS _ hs));have hx:=h x (by simp);rw[dL];simp only[Td,SR];omega
theorem tM{l:List By}(h:∀ s∈l,s.length≤255):(Lib.join l [47]).length≤256*l.length:=by
 cases l with
|nil=>simp[Lib.join_nil]
|cons x r=>
   have ih:=zU (fun s hs=>h s (TS _ hs));have hx:=h x (by simp);rw[Lib.join_cons];simp only[Td,SR];omega
def okT(n:Nd):Prop:=if n.kind=3 then n.tgt≠[]∧n.tgt.length≤200∧(0:UInt8)∉n.tgt else n.tgt=[]
instance (n:Nd):Decidable (okT n):=by unfold okT;exact inferInstance
def eM(n:Nd):Prop:=(1≤n.kind∧n.kind≤3)∧n.opq=false∧(0≤n.md∧n.md≤511)∧(0≤n.ud∧n.ud≤65535)∧(0≤n.gd∧n.gd≤65535)∧(n.kind=2∨n.data=[])∧n.data.length≤4096∧okT n∧dS n.xs
instance (n:Nd):Decidable (eM n):=by unfold eM;exact inferInstance
def Alk(a b:Nd):Prop:=a.kind=b.kind∧(a.md=b.md∧a.ud=b.ud∧a.gd=b.gd)∧a.tgt=b.tgt∧a.opq=b.opq∧a.data=b.data∧a.xs=b.xs
instance (a b:Nd):Decidable (Alk a b):=by unfold Alk;exact inferInstance
theorem Sm(a:Nd):Alk a a:=⟨rfl,⟨rfl,rfl,rfl⟩,rfl,rfl,rfl,rfl⟩
theorem Alk.symm{a b:Nd}(h:Alk a b):Alk b a:=⟨h.1.symm,⟨h.2.1.1.symm,h.2.1.2.1.symm,h.2.1.2.2.symm⟩,h.2.2.1.symm,h.2.2.2.1.symm,h.2.2.2.2.1.symm,h.2.2.2.2.2.symm⟩
theorem Alk.trans{a b c:Nd}(h:Alk a b)(g:Alk b c):Alk a c:=
 ⟨h.1.trans g.1,⟨h.2.1.1.trans g.2.1.1,h.2.1.2.1.trans g.2.1.2.1,h.2.1.2.2.trans g.2.1.2.2⟩,h.2.2.1.trans g.2.2.1,h.2.2.2.1.trans g.2.2.2.1,h.2.2.2.2.1.trans g.2.2.2.2.1,h.2.2.2.2.2.trans g.2.2.2.2.2⟩
def cM(l:List Nd):Prop:=¬ l.Pairwise fun a b=>a.names≠b.names
def eY(l:List Nd)(s:List By):Prop:=∃ n∈l,n.names=s∧n.kind=1
def gO(b a:Nd):Prop:=a.ino=b.ino→a.kind≠1∧Alk a b
instance (b a:Nd):Decidable (gO b a):=by unfold gO;exact inferInstance
instance (l:List Nd):Decidable (cM l):=by unfold cM;exact inferInstance
instance (l:List Nd)(s:List By):Decidable (eY l s):=by unfold eY;exact inferInstance
def chk(l:List Nd):Int:=
 if 1024<l.length then 3 else if fU (eB l)≠0 then fU (eB l) else if ∃ n∈l,16<n.names.length then 9 else if cM l then 6
 else if ¬ eY l [] then 4 else if ∃ n∈l,n.names≠[]∧¬ eY l n.names.dropLast then 5 else if ∃ n∈l,¬ eM n then 7 else if l.Pairwise gO then 0 else 8
theorem DX{s:By}(h:(255:Int)<s.length):cP s=23:=by unfold cP;rw[SQ (by omega)]
theorem kT{s:By}(h:¬ (255:Int)<s.length)(h2:s=[]∨s=[46]∨s=[46,46]∨(0:UInt8)∈s∨(47:UInt8)∈s):cP s=22:=by unfold cP;rw[SP (by omega),SQ h2]
theorem DY{s:By}(h:¬ (255:Int)<s.length)(h1:¬ s=[])(h2:¬ s=[46])(h3:¬ s=[46,46])(h4:(0:UInt8)∉s∧(47:UInt8)∉s):cP s=0:=by
 unfold cP;rw[SP (by omega),SP (fun e=>e.elim h1 fun e=>e.elim h2 fun e=>e.elim h3 fun e=>e.elim h4.1 h4.2)]
theorem zR(s:By)(W:World)(hs:s.length≤maxLen):CA 147 [.string (bs s)] W fun v w'=>v=iV (cP s)∧aA nob W w':=by
 have hl:(s.length:Int)≤9223372036854775807:=by unfold maxLen at hs;omega
 refine cS 31 [(0,_)] Tryz.func147 ?_;refine Gz 10 ?_;refine cL (PG ty9 rfl) ?_;refine fK 0 ?_ ?_<;>intro h8
 ·refine Gz 13 ?_;exact⟨_,rfl,by rw[DX h8],RY _ _⟩
 refine fK 7 ?_ ?_<;>intro h11
 ·refine Gz 21 ?_;exact⟨_,rfl,by rw[kT h8 (.inl h11)],RY _ _⟩
 refine fW 2 ?_ ?_<;>intro h14
 ·refine Gz 18 ?_;exact⟨_,rfl,by rw[kT h8 (.inr (.inl h14))],RY _ _⟩
 refine fW 3 ?_ ?_<;>intro h18
 ·refine Gz 14 ?_;exact⟨_,rfl,by rw[kT h8 (.inr (.inr (.inl h18)))],RY _ _⟩
 refine Gz 12 ?_;refine QR ty9 rfl rfl ?_;intro w1 hg1 hs1 hf1;obtain⟨g,hg⟩:∃ g,g=W.heap.size:=⟨_,rfl⟩
 rw[←hg] at hg1 ⊢;refine Gz 3 ?_;refine Pb (β:=Nat) (fun p=>[(0,.string (bs s)),(21,pT g)]) (fun p w=>w.heap[g]?=some (.stringIter (bs s) p)∧p≤s.length∧rT s p∧aA nob W w) (fun p=>s.length-p) 0 ⟨rfl,rfl,trivial⟩ ⟨hg1,S3 _,fun k hk=>by omega,hf1⟩ ?_;rintro p w2 ⟨hg2,hp,hcl,hF2⟩;refine Gz 2 ?_;by_cases h22:p<(bs s).size
 ·refine Ru rfl hg2 h22 rfl ?_;intro w3 hg3 hs3 hf3;have hpl:p<s.length:=by rw[gP] at h22;exact h22
  obtain⟨r1,r2,r3,r4,r5,r6⟩:=xZ hpl;refine fK 17 ?_ ?_<;>intro h26
  ·have hb:cP s=22:=kT h8 (.inr (.inr (.inr (.inl (xG hpl (c:=0) (by decide) (by show _=0;omega))))));refine Gz 18 ?_;exact⟨_,rfl,by rw[hb],hF2.SJ hf3 (fun k e=>.inr (by have e:k=g:=e;omega))⟩
  refine fW 2 ?_ ?_<;>intro h29
  ·have hb:cP s=22:=kT h8 (.inr (.inr (.inr (.inr (xG hpl (c:=47) (by decide) (by show _=47;omega))))));refine Gz 15 ?_;exact⟨_,rfl,by rw[hb],hF2.SJ hf3 (fun k e=>.inr (by have e:k=g:=e;omega))⟩
  refine Gz 6 ?_;have hF3:aA nob W w3:=hF2.SJ hf3 (fun k e=>.inr (by have e:k=g:=e;omega));exact aG (p+(Utf8.decode (bs s) p).2) ⟨hg3,r2,Cy hpl hcl (by omega) (by omega),hF3⟩ (by show s.length-(p+(Utf8.decode (bs s) p).2)<s.length-p;omega)
 refine Rv rfl hg2 h22 rfl ?_;have hpe:p=s.length:=by rw[gP] at h22;omega
 subst hpe;refine Gz 17 ?_;exact⟨_,rfl,by rw[DY h8 h11 h14 h18 (E5 hcl)],hF2⟩
section
theorem O0(a:Addr)(i j:Nat):(a.add i).add j=a.add (i+j):=Addr.add_add a i j
theorem GH{α:Type}{a b:List α}(hl:a.length=b.length){k:Nat}(hk:a.length≤k)(d:α)(h:∀ i,i<k→i<a.length→a.getD i d=b.getD i d):a=b:=by
 apply List.ext_getElem hl;intro i h1 h2;have:=h i (by omega) h1;simpa[S6,h1,h2] using this
def mN(ps:List (NdH×Nd))(s:List By):Int:=match ps.findIdx? (fun p=>decide (p.2.names=s)) with|some i=>i|none=>-1
theorem Cq{ps:List (NdH×Nd)}{s:List By}(h:∀ p∈ps,p.2.names≠s):mN ps s = -1:=by
 have:ps.findIdx? (fun p=>decide (p.2.names=s))=none:=by
  rw[Uk];intro p hp;exact SU (h p hp)
 unfold mN;rw[this]
theorem tV(ps:List (NdH×Nd))(s:List By):(mN ps s = -1∧∀ p∈ps,p.2.names≠s)∨∃ (i:Nat) (p:NdH×Nd),mN ps s=i∧ps[i]?=some p∧p.2.names=s∧∀ j q,j<i→ps[j]?=some q→q.2.names≠s:=by
 by_cases h:∃ p∈ps,p.2.names=s
 · right
   obtain⟨i,hi⟩:∃ i,ps.findIdx? (fun p=>decide (p.2.names=s))=some i:=by
    cases hf:ps.findIdx? (fun p=>decide (p.2.names=s)) with
   |some i=>exact⟨i,rfl⟩
   |none=>
      rw[Uk] at hf;obtain⟨p,hp,e⟩:=h;have:=hf p hp;simp[e] at this
   obtain⟨h1,h2,h3⟩:=T2.1 hi;refine⟨i,ps[i],by unfold mN;rw[hi],SS h1,by simpa using h2,fun j q hj hq=>?_⟩;have:=h3 j hj;rw[(SV.1 hq).2] at this;simpa using this
 · left
   have h':∀ p∈ps,p.2.names≠s:=fun p hp e=>h ⟨p,hp,e⟩;exact⟨Cq h',h'⟩
variable {D:Nat→Prop}
end
section
def nmd(l:List Nd):Int:=if fU (eB l)≠0 then fU (eB l) else if ∃ n∈l,16<n.names.length then 9 else if cM l then 6 else 0
def plc(l:List Nd):Int:=if 1024<l.length then 3 else if nmd l≠0 then nmd l else if ¬ eY l [] then 4 else if ∃ n∈l,n.names≠[]∧¬ eY l n.names.dropLast then 5 else 0
theorem aI(l:List Nd):chk l=if plc l≠0 then plc l else if ∃ n∈l,¬ eM n then 7 else if l.Pairwise gO then 0 else 8:=by
 unfold chk plc nmd;by_cases h1:1024<l.length
 ·simp[h1]
 · by_cases h2:fU (eB l)=0
   · by_cases h3:∃ n∈l,16<n.names.length
     ·simp[h1,h2,h3]
     · by_cases h4:cM l
       ·simp[h1,h2,h3,h4]
       · by_cases h5:eY l []
         · by_cases h6:∃ n∈l,n.names≠[]∧¬ eY l n.names.dropLast
           ·simp[h1,h2,h3,h4,h5,h6]
           ·simp only[h1,h2,h3,h4,h5,h6,if_false,ne_eq,not_true_eq_false]
         ·simp[h1,h2,h3,h4,h5]
   ·simp[h1,h2]
abbrev nds(ps:List (NdH×Nd)):List Nd:=ps.map (·.2)
theorem dO{ps:List (NdH×Nd)}{i:Nat}{p:NdH×Nd}(h:ps[i]?=some p):(nds ps)[i]?=some p.2:=by simp[nds,h]
theorem AF(ps:List (NdH×Nd))(i:Nat):nds (ps.take i)=(nds ps).take i:=by simp[nds,List.map_take]
theorem fH(ps:List (NdH×Nd)):cM (nds ps)↔∃ (i j:Nat) (p q:NdH×Nd),i<j∧ps[i]?=some p∧ps[j]?=some q∧p.2.names=q.2.names:=by
 unfold cM;rw[TA];constructor
 · intro h
   simp only[Classical.not_forall] at h;obtain⟨i,j,h1,h2,h3,h4⟩:=h;rw[Tb] at h1 h2;exact⟨i,j,ps[i],ps[j],h3,SS h1,SS h2,by simpa using h4⟩
 · rintro⟨i,j,p,q,h1,h2,h3,h4⟩ h
   have e2:=(SV.1 h2)
   have e3:=(SV.1 h3)
   refine h i j (by simpa using e2.1) (by simpa using e3.1) h1 ?_;simp only[List.getElem_map,e2.2,e3.2];exact h4
theorem JB{ps:List (NdH×Nd)}{i:Nat}{p:NdH×Nd}(h:ps[i]?=some p):0≤mN ps p.2.names∧mN ps p.2.names≤i:=by
 rcases tV ps p.2.names with⟨h1,h2⟩|⟨j,q,h1,h2,h3,h4⟩
 ·exact absurd rfl (h2 p (S1 h))
 · refine⟨by omega,?_⟩
   by_cases hj:j≤i
   ·omega
   ·exact absurd rfl (h4 i p (by omega) h)
theorem D2{ps:List (NdH×Nd)}(h:∀ (i:Nat) (p:NdH×Nd),ps[i]?=some p→¬ mN ps p.2.names<i):¬ cM (nds ps):=by
 intro ht;obtain⟨i,j,p,q,h1,h2,h3,h4⟩:=(fH ps).1 ht;have:=(JB h2).2;have g:=h j q h3;rw[←h4] at g;omega
theorem tkN{ps:List (NdH×Nd)}{i:Nat}{p:NdH×Nd}(h:ps[i]?=some p):(nds ps).take (i+1)=(nds ps).take i++[p.2]:=tkL (dO h)
theorem OZ{ps:List (NdH×Nd)}{i:Nat}{p:NdH×Nd}{R:Nd→Prop}(hp:ps[i]?=some p)(h:∀ n∈(nds ps).take i,R n)(hn:R p.2):∀ n∈(nds ps).take (i+1),R n:=by
 intro n hm;rw[tkN hp,Tx,Tv] at hm;rcases hm with hm|rfl
 ·exact h n hm
 ·exact hn
variable {D:Nat→Prop}
theorem iE{l:List Nd}(h:nmd l=0):(∀ s∈eB l,cP s=0)∧(∀ n∈l,n.names.length≤16)∧¬ cM l:=by
 unfold nmd at h;by_cases h1:fU (eB l)=0
 · rw[SP (fun g=>g h1)] at h
   by_cases h2:∃ n∈l,16<n.names.length
   ·rw[SQ h2] at h;simp at h
   · rw[SP h2] at h
     by_cases h3:cM l
     ·rw[SQ h3] at h;simp at h
     ·exact⟨AE h1,fun n hn=>by have:¬ 16<n.names.length:=fun g=>h2 ⟨n,hn,g⟩;omega,h3⟩
 ·rw[SQ h1] at h;exact absurd h h1
theorem drop_take{α:Type}(l:List α):l.dropLast=l.take (l.length-1):=by rw[List.dropLast_eq_take]
end
section
def Iu (P:Program) (t e:TypeId):Bool:=match P.underlying t with
 | some (.struct fs)=>(match fs.toList with
   | [f0, f1, f2] => decide (f0.type = e ∧ f0.offset = 0 ∧ f0.name ≠ "_") && decide (f1.type = e ∧ f1.offset = 1 ∧ f1.name ≠ "_") && decide (f2.type = e ∧ f2.offset = 2 ∧ f2.name ≠ "_")
   | _=>false)
 | _=>false
theorem IA{P:Program}{t e:TypeId}(h:Iu P t e=true)(he:P.underlying e=some (.int .i64))(hs:P.stoodInHeld t=false)(w:World)(a b c a' b' c':Int) :
 (Op.equalIn 10000 t (.agg [iV a,iV b,iV c].toArray) (.agg [iV a',iV b',iV c'].toArray)).run P w=.ok (decide (a=a'∧b=b'∧c=c')) w:=by
 unfold Iu at h
 split at h
 · rename_i fs hu
   split at h
   · rename_i f0 f1 f2 hl
     simp only[Tl,decide_eq_true_eq] at h;obtain⟨⟨⟨t0,o0,n0⟩,⟨t1,o1,n1⟩⟩,⟨t2,o2,n2⟩⟩:=h;have hf:P.fieldsOf t=fs:=by unfold Program.fieldsOf;rw[hu]
     rw[run_equalIn_struct w 9999 t _ _ (by rw[hf];exact hu) hs,hf,hl];have hp:∀ (cs:Array Value) (o:Nat) (v:Value),cs[o]?=some v→(part e cs o).run P w=.ok v w:=fun cs o v hv=>by
      simp[part,isAgg,run_underlying he,hv]
     have hq:∀ (x y:Int),(Op.equalIn 9999 e (iV x) (iV y)).run P w=.ok (x == y) w:=fun x y=>run_equalIn_int w 9998 e .i64 .i64 x y he;simp only[Op.eqFields,n0,n1,n2,ne_eq,not_false_eq_true,if_true,t0,o0,t1,o1,t2,o2,Sem.run_bind];rw[hp _ 0 (iV a) rfl,Result.andThen_ok,hp _ 0 (iV a') rfl,Result.andThen_ok,hq,Result.andThen_ok];by_cases h1:a=a'
     · subst h1
       simp only[beq_self_eq_true,Bool.not_true,Bool.false_eq_true,if_false,Sem.run_bind,true_and];rw[hp _ 1 (iV b) rfl,Result.andThen_ok,hp _ 1 (iV b') rfl,Result.andThen_ok,hq,Result.andThen_ok];by_cases h2:b=b'
       · subst h2
         simp only[beq_self_eq_true,Bool.not_true,Bool.false_eq_true,if_false,Sem.run_bind,true_and];rw[hp _ 2 (iV c) rfl,Result.andThen_ok,hp _ 2 (iV c') rfl,Result.andThen_ok,hq,Result.andThen_ok];by_cases h3:c=c'
         ·subst h3;simp
         ·simp[h3]
       ·simp[h2]
     ·simp[h1]
   ·cases h
 ·cases h
section
variable {P:Program}{N:Nt}{l:SF}{ty t':TypeId}{pos:String}{aft:Array Edge}{dd:Option Nat}{g:Option (Nat×Bool)}{CH:Array Obj→Prop}{x y:Operand}{t e:TypeId}
theorem Rw(h:Iu P t e=true)(he:P.underlying e=some (.int .i64))(hs:P.stoodInHeld t=false)(hg:P.eqGuardType P.depth t=false){a b c a' b' c':Int}(hx:evL l x=some (.agg [iV a,iV b,iV c].toArray))(hy:evL l y=some (.agg [iV a',iV b',iV c'].toArray)) :
 Cm P N CH l ⟨dd,.binOp .eql t x y t',ty,pos,aft,g⟩ (.bool (decide (a=a'∧b=b'∧c=c'))):=fun k w ha _=>by
 simp only[execOp,ha.ev hx,ha.ev hy,Sem.run_bind,run_eqGuard_agg w .eql t x y _ _ hg,Result.andThen_ok,run_eql_struct,IA h he hs];simp
end
theorem stA:Iu Tryz.prog 34 3=true:=by kernel_rfl
theorem N8:Tryz.prog.underlying 3=some (.int .i64):=by kernel_rfl
theorem N9:Tryz.prog.stoodInHeld 34=false:=by kernel_rfl
theorem Oa:Tryz.prog.eqGuardType Tryz.prog.depth 34=false:=by kernel_rfl
theorem bJ{H:Array Obj}{q:Nat}{cs ds:List Value}{T:TypeId}{fr:Nat×Nat}(h:H[q]?=some (.cells cs.toArray T fr))(o:Nat)(hd:(cs.drop o).take ds.length=ds):∀ (j:Nat) (v:Value),ds[j]?=some v→aU H (((⟨q,0,none⟩:Addr).add o).add j)=some v:=by
 intro j v hj;rw[O0];refine aD h ?_;rw[←hd,TC] at hj
 split at hj
 ·rw[List.getElem?_drop] at hj;exact hj
 ·cases hj
def JF(n:Nd):List Value:=[iV n.md,iV n.ud,iV n.gd]
variable {D:Nat→Prop}
end
section
theorem yF{α:Type}{a b:List α}{k:Nat}(hl:a.length=b.length)(hk:a.length≤k)(h:∀ j:Nat,j<k→a[j]?=b[j]?):a=b:=by
 apply List.ext_getElem?;intro j;by_cases hj:j<k
 ·exact h j hj
 ·rw[Ty (by omega),Ty (by omega)]
theorem XsV.at{D:Nat→Prop}{H:Array Obj}{h:Hd}{X:List Xa}{ys:List (By×Hd)}(hl:ys.length=X.length)(hx:∀ (i:Nat) (x:By×Hd) (y:Xa),ys[i]?=some x→X[i]?=some y→x.1=y.1∧ByV D H x.2 y.2){k:Nat}(hk:k<X.length) :
 ∃ (a:Xa) (b:Hd),X[k]?=some a∧ys[k]?=some (a.1,b)∧ByV D H b a.2:=by
 have h1:=SS hk;have h2:ys[k]?=some ys[k]:=SS (by omega);obtain⟨e,hb⟩:=hx k _ _ h2 h1;refine⟨X[k],(ys[k]).2,h1,?_,hb⟩;rw[h2,←e]
variable {D:Nat→Prop}
end
section
theorem K1{ps:List (NdH×Nd)}{i k:Nat}{p q:NdH×Nd}(h:(nds ps).Pairwise gO)(hk:k<i)(hq:ps[k]?=some q)(hp:ps[i]?=some p):gO q.2 p.2:=by
 have e1:=SV.1 (dO hq);have e2:=SV.1 (dO hp);have:=TA.1 h k i e1.1 e2.1 hk;rw[e1.2,e2.2] at this;exact this
variable {D:Nat→Prop}
end
section
theorem cY(x a b:Int)(W:World):CA 151 [iV x,iV a,iV b] W fun v w'=>v=.bool (decide (a≤x∧x≤b))∧w'=W:=by
 refine cS 15 [(0,_),(1,_),(2,_)] Tryz.func151 ?_;refine fK 9 ?_ ?_<;>intro h9
 ·refine fW 3 ?_ ?_<;>intro h13
  ·refine Gz 6 ?_
   first
   |exact⟨_,rfl,by rw[SX (show a≤x∧x≤b from ⟨h9,h13⟩)],rfl⟩
   |exact⟨_,rfl,by rw[SU (show ¬ (a≤x∧x≤b) from fun h=>h13 h.2)],rfl⟩
   |exact⟨_,rfl,by rw[SU (show ¬ (a≤x∧x≤b) from fun h=>h9 h.1)],rfl⟩
  refine Gz 6 ?_
  first
  |exact⟨_,rfl,by rw[SX (show a≤x∧x≤b from ⟨h9,h13⟩)],rfl⟩
  |exact⟨_,rfl,by rw[SU (show ¬ (a≤x∧x≤b) from fun h=>h13 h.2)],rfl⟩
  |exact⟨_,rfl,by rw[SU (show ¬ (a≤x∧x≤b) from fun h=>h9 h.1)],rfl⟩
 refine Gz 10 ?_
 first
 |exact⟨_,rfl,by rw[SX (show a≤x∧x≤b from ⟨h9,h13⟩)],rfl⟩
 |exact⟨_,rfl,by rw[SU (show ¬ (a≤x∧x≤b) from fun h=>h13 h.2)],rfl⟩
 |exact⟨_,rfl,by rw[SU (show ¬ (a≤x∧x≤b) from fun h=>h9 h.1)],rfl⟩
def eQ(s:By)(m:Int):Prop:=(1≤(s.length:Int)∧(s.length:Int)≤m)∧(0:UInt8)∉s
instance (s:By)(m:Int):Decidable (eQ s m):=by unfold eQ;exact inferInstance
theorem As(s:By)(m:Int)(W:World):CA 150 [.string (bs s),iV m] W fun v w'=>v=.bool (decide (eQ s m))∧w'=W:=by
 refine cS 14 [(0,_),(1,_)] Tryz.func150 ?_;refine Gz 8 ?_;refine cL (PG ty9 rfl) ?_;refine Gz 1 ?_;refine O6 mM rfl (cY _ 1 m W) rfl ?_;rintro _ w1 ⟨rfl,hw1⟩;subst w1;by_cases h8:1≤(s.length:Int)∧(s.length:Int)≤m
 ·rw[SX h8];refine Gz 2 ?_;refine Pd rfl rfl He rfl (Cg s 0 W) rfl ?_;rintro _ w1 ⟨rfl,hw1⟩;subst w1;refine fW 0 ?_ ?_<;>intro h12
  ·refine Gz 6 ?_
   first
   |exact⟨_,rfl,by rw[SX (show eQ s m from ⟨h8,nR h12⟩)],rfl⟩
   |exact⟨_,rfl,by rw[SU (show ¬ eQ s m from fun h=>h.2 (nQ (Int.not_lt.1 h12)))],rfl⟩
   |exact⟨_,rfl,by rw[SU (show ¬ eQ s m from fun h=>h8 h.1)],rfl⟩
  refine Gz 6 ?_
  first
  |exact⟨_,rfl,by rw[SX (show eQ s m from ⟨h8,nR h12⟩)],rfl⟩
  |exact⟨_,rfl,by rw[SU (show ¬ eQ s m from fun h=>h.2 (nQ (Int.not_lt.1 h12)))],rfl⟩
  |exact⟨_,rfl,by rw[SU (show ¬ eQ s m from fun h=>h8 h.1)],rfl⟩
 rw[SU h8];refine Gz 10 ?_
 first
 |exact⟨_,rfl,by rw[SX (show eQ s m from ⟨h8,nR h12⟩)],rfl⟩
 |exact⟨_,rfl,by rw[SU (show ¬ eQ s m from fun h=>h.2 (nQ (Int.not_lt.1 h12)))],rfl⟩
 |exact⟨_,rfl,by rw[SU (show ¬ eQ s m from fun h=>h8 h.1)],rfl⟩
theorem sC(xo:Option Addr)(xc:Nat)(X:List Xa)(W:World)(hv:XaV W.heap xo xc X) :
 CA 152 [.slice xo X.length xc] W fun v w'=>v=.bool (decide (dS X))∧aA nob W w':=by
 have hl:=hv.SM;refine cS 34 [(0,_)] Tryz.func152 ?_;refine Gz 19 ?_;refine Pb (β:=Nat) (fun k=>[(0,.slice xo X.length xc),(3,.string (bs (qG X k))),(6,.slice xo X.length xc),(7,iV X.length),(8,iV k)]) (fun k w=>k≤X.length∧(∀ i,i<k→AT X i)∧aA nob W w) (fun k=>X.length-k) 0 ⟨rfl,rfl,rfl,rfl,rfl,trivial⟩ ⟨S3 _,by intro i hi;omega,RY _ _⟩ ?_;rintro k w2 ⟨hk,hgood,hF2⟩;refine fK 2 ?_ ?_<;>intro h9
 ·refine Gz 10 ?_;obtain⟨xa,xc2,hrow,hxv,hnl⟩:=(hv.SN hF2).at (i:=k) rfl (by omega);refine cL (Pa kA rfl rfl hv.non (by omega)) ?_;refine cL (Pi (cs:=[.string (bs (X.getD k x0).1),.slice xa (X.getD k x0).2.length xc2]) dT rfl hrow) ?_;refine O9 rX rfl ?_;intro w3 hg3 hs3 hf3;refine sA rfl dT (by simp[Value.oneCell']) hg3 ?_;intro w4 hg4 hs4 hf4;have hF4:aA nob W w4:=hF2.trans (hf3.SJ hf4 (fun k hk=>.inr (by omega)));refine Gz 7 ?_;refine O6 Kh rfl (As _ 40 w4) rfl ?_;rintro _ w5 ⟨rfl,hw5⟩;subst w5;by_cases h14:eQ (X.getD k x0).1 40
  ·rw[SX h14];refine cL (Pp rfl) ?_;refine Gz 4 ?_;refine PB rfl rfl (Pv (QH (a:=(X.getD k x0).1) (b:=qG X k) rfl rfl)) rfl (fun h20=>?_) (fun h20=>?_)
   ·rw[fX] at h20;have hbad:¬ dS X:=fun h=>by rw[(h.1 k (by omega)).1] at h20;cases h20
    refine Gz 23 ?_;exact⟨_,rfl,by rw[SU hbad],hF4⟩
   rw[fX] at h20;have g1:Ti (qG X k) (X.getD k x0).1=true:=by revert h20;cases Ti (qG X k) (X.getD k x0).1<;>simp
   refine fW 5 ?_ ?_<;>intro h26
   ·have hbad:¬ dS X:=fun h=>by have:=(h.1 k (by omega)).2.2.2;omega
    refine Gz 17 ?_;exact⟨_,rfl,by rw[SU hbad],hF4⟩
   refine Gz 17 ?_;refine aG (k+1) ⟨by omega,fun i hi=>?_,hF4⟩ (by show X.length-(k+1)<X.length-k;omega);by_cases hik:i=k
   ·subst hik;exact⟨g1,by have:=h14.1.2;omega,h14.2,by omega⟩
   ·exact hgood i (by omega)
  rw[SU h14];have hbad:¬ dS X:=fun h=>h14 (by have g:=h.1 k (by omega);have:=S8.2 (Jf g.1);exact⟨⟨by omega,by have:=g.2.1;omega⟩,g.2.2.1⟩);refine cL (Pp rfl) ?_;refine Gz 28 ?_;exact⟨_,rfl,by rw[SU hbad],hF4⟩
 refine Gz 13 ?_;refine cL (P7 rfl rfl) ?_;refine Gz 5 ?_;refine⟨_,rfl,?_,hF2⟩;have hk2:k=X.length:=by omega
 subst hk2;congr 1;exact decide_eq_decide.2 ⟨fun h=>⟨hgood,by omega⟩,fun h=>by have:=h.2;omega⟩
variable {D:Nat→Prop}
theorem Ii(p:NdH×Nd)(W:World)(hn:NdV D W.heap p)(hsm:smN p.2) :
 CA 110 [.agg (aE p).toArray] W fun v w'=>v=.bool (decide (eM p.2))∧aA nob W w':=by
 have no:∀ w',¬ eM p.2→aA nob W w'→Ret (fun v w'=>v=.bool (decide (eM p.2))∧aA nob W w') (.returned (.bool false)) w':=fun w' h f=>⟨_,rfl,by rw[SU h],f⟩
 have yes:∀ w',(eM p.2↔dS p.2.xs)→aA nob W w'→Ret (fun v w'=>v=.bool (decide (eM p.2))∧aA nob W w') (.returned (.bool (decide (dS p.2.xs)))) w':=fun w' h f=>⟨_,rfl,congrArg _ (decide_eq_decide.2 h.symm),f⟩
 refine cS 59 [(0,_)] Tryz.func110 ?_;refine Gz 2 ?_;refine Px rfl rfl ?_;intro w1 hg1 hs1 hf1;obtain⟨g,hg⟩:∃ g,g=W.heap.size:=⟨_,rfl⟩
 rw[←hg] at hg1 hs1 ⊢
 replace hg1:w1.heap[g]?=some (.cells (aE p).toArray 37 (0,0)):=hg1
 refine Gz 6 ?_;refine cL (Pi (cs:=JF p.2) DT rfl (bJ hg1 3 rfl)) ?_;refine O9 N5 rfl ?_;intro w2 hg2 hs2 hf2;obtain⟨q,hq⟩:∃ q,q=w1.heap.size:=⟨_,rfl⟩
 rw[←hq] at hg2 ⊢;refine sA rfl DT (by simp[JF,Value.oneCell']) hg2 ?_;intro w3 hg3 hs3 hf3;have hf13:aA nob w1 w3:=hf2.SJ hf3 (fun k e=>.inr (by have e:k=q:=e;omega));have hg4:=hf13.obj hg1 id;have hF3:=(hf1.trans hf13).draws 1;have hn3:=hn.SN hF3;refine Gz 3 ?_;refine PS 9 [0,1,2,3,4,5,6,7,8] aJ (by kernel_rfl) ?_;refine Gz 1 ?_;refine xC rfl (O8 aO rfl (by first|exact aD hg4 rfl|exact aD hg3 rfl)) ?_;refine Gz 1 ?_;rw[hn3.2.1.1];refine xC rfl (PK rfl rfl) ?_;refine Gz 1 ?_;refine xC rfl (O8 kN rfl (by first|exact aD hg4 rfl|exact aD hg3 rfl)) ?_;refine xC rfl (PU rfl rfl) ?_;refine Gz 8 ?_;refine cL (O8 aK rfl (by first|exact aD hg4 rfl|exact aD hg3 rfl)) ?_;refine fK 5 ?_ ?_<;>intro h18
 ·refine Gz 10 ?_;by_cases h30:(p.2.data.length:Int)=0
  ·rw[SX h30];refine Gz 2 ?_;by_cases h32:p.2.tgt=[]
   ·rw[SX h32];refine Gz 3 ?_;refine PB rfl rfl (Pv (O8 Ea rfl (by first|exact aD hg4 rfl|exact aD hg3 rfl))) rfl (fun h36=>?_) (fun h36=>?_)
    ·refine cW (Pp rfl) ?_;refine Gz 26 ?_
     first
     |exact no _ (fun hm=>by have:=hm.1;omega) hF3
     |exact no _ (fun hm=>by have:=hm.2.2.2.2.2.2.1;omega) hF3
     |exact no _ (fun hm=>hm.2.2.2.2.2.1.elim (fun e=>by omega) (fun e=>h30 (by rw[e];rfl))) hF3
     |exact no _ (fun hm=>by have m:=hm.2.2.2.2.2.2.2.1;unfold okT at m;rw[SP (by omega)] at m;exact h32 m) hF3
     |exact no _ (fun hm=>by have m:=hm.2.2.2.2.2.2.2.1;unfold okT at m;rw[SQ h26] at m;exact h32 ⟨⟨by have:=S8.2 m.1;omega,by have:=m.2.1;omega⟩,m.2.2⟩) hF3
     |exact no _ (fun hm=>by rw[hm.2.1] at h36;cases h36) hF3
     |exact no _ (fun hm=>h42 hm.2.2.1) hF3
     |exact no _ (fun hm=>h47 hm.2.2.2.1) hF3
     |exact no _ (fun hm=>h52 hm.2.2.2.2.1) hF3
     |refine yes _ ?_ (hF3.trans hf6)
      have k2:okT p.2:=by
       unfold okT
       first
       |(rw[SP (by omega)];exact h32)
       |(rw[SQ h26];exact⟨fun e=>by have:=h32.1.1;have e0:=congrArg Tp e;have e1:([]:By).length=0:=rfl;omega,by have:=h32.1.2;omega,h32.2⟩)
      have k1:p.2.kind=2∨p.2.data=[]:=by
       first
       |exact .inl h20
       |exact .inr (S7.1 (by omega))
      exact⟨fun hm=>hm.2.2.2.2.2.2.2.2,fun hx=>⟨by omega,by simpa using h36,h42,h47,h52,k1,by omega,k2,hx⟩⟩
    refine cW (Pp rfl) ?_;refine Gz 3 ?_;refine cW (O8 aK rfl (by first|exact aD hg4 rfl|exact aD hg3 rfl)) ?_;refine Pd rfl rfl mM rfl (cY _ _ _ _) rfl ?_;rintro _ w4 ⟨rfl,hw4⟩;subst w4;by_cases h42:0≤p.2.md∧p.2.md≤511
    ·rw[SX h42];refine Gz 3 ?_;refine cW (O8 aK rfl (by first|exact aD hg4 rfl|exact aD hg3 rfl)) ?_;refine Pd rfl rfl mM rfl (cY _ _ _ _) rfl ?_;rintro _ w4 ⟨rfl,hw4⟩;subst w4;by_cases h47:0≤p.2.ud∧p.2.ud≤65535
     ·rw[SX h47];refine Gz 3 ?_;refine cW (O8 aK rfl (by first|exact aD hg4 rfl|exact aD hg3 rfl)) ?_;refine Pd rfl rfl mM rfl (cY _ _ _ _) rfl ?_;rintro _ w4 ⟨rfl,hw4⟩;subst w4;by_cases h52:0≤p.2.gd∧p.2.gd≤65535
      ·rw[SX h52];refine Gz 3 ?_;refine cW (O8 cJ rfl (by first|exact aD hg4 rfl|exact aD hg3 rfl)) ?_;refine Pd rfl rfl Hf rfl ((by show Calls _ _ [Value.slice p.1.xs.a p.1.xs.n p.1.xs.c].toArray _ _;rw[hn3.2.2.1];exact sC _ _ _ _ (hn3.2.2.xav hsm.2.2))) rfl ?_;rintro _ w6 ⟨rfl,hf6⟩;refine Gz 6 ?_
       first
       |exact no _ (fun hm=>by have:=hm.1;omega) hF3
       |exact no _ (fun hm=>by have:=hm.2.2.2.2.2.2.1;omega) hF3
       |exact no _ (fun hm=>hm.2.2.2.2.2.1.elim (fun e=>by omega) (fun e=>h30 (by rw[e];rfl))) hF3
       |exact no _ (fun hm=>by have m:=hm.2.2.2.2.2.2.2.1;unfold okT at m;rw[SP (by omega)] at m;exact h32 m) hF3
       |exact no _ (fun hm=>by have m:=hm.2.2.2.2.2.2.2.1;unfold okT at m;rw[SQ h26] at m;exact h32 ⟨⟨by have:=S8.2 m.1;omega,by have:=m.2.1;omega⟩,m.2.2⟩) hF3
       |exact no _ (fun hm=>by rw[hm.2.1] at h36;cases h36) hF3
       |exact no _ (fun hm=>h42 hm.2.2.1) hF3
       |exact no _ (fun hm=>h47 hm.2.2.2.1) hF3
       |exact no _ (fun hm=>h52 hm.2.2.2.2.1) hF3
       |refine yes _ ?_ (hF3.trans hf6)
        have k2:okT p.2:=by
         unfold okT
         first
         |(rw[SP (by omega)];exact h32)
         |(rw[SQ h26];exact⟨fun e=>by have:=h32.1.1;have e0:=congrArg Tp e;have e1:([]:By).length=0:=rfl;omega,by have:=h32.1.2;omega,h32.2⟩)
        have k1:p.2.kind=2∨p.2.data=[]:=by
         first
         |exact .inl h20
         |exact .inr (S7.1 (by omega))
        exact⟨fun hm=>hm.2.2.2.2.2.2.2.2,fun hx=>⟨by omega,by simpa using h36,h42,h47,h52,k1,by omega,k2,hx⟩⟩
      rw[SU h52];refine Gz 11 ?_
      first
      |exact no _ (fun hm=>by have:=hm.1;omega) hF3
      |exact no _ (fun hm=>by have:=hm.2.2.2.2.2.2.1;omega) hF3
      |exact no _ (fun hm=>hm.2.2.2.2.2.1.elim (fun e=>by omega) (fun e=>h30 (by rw[e];rfl))) hF3
      |exact no _ (fun hm=>by have m:=hm.2.2.2.2.2.2.2.1;unfold okT at m;rw[SP (by omega)] at m;exact h32 m) hF3
      |exact no _ (fun hm=>by have m:=hm.2.2.2.2.2.2.2.1;unfold okT at m;rw[SQ h26] at m;exact h32 ⟨⟨by have:=S8.2 m.1;omega,by have:=m.2.1;omega⟩,m.2.2⟩) hF3
      |exact no _ (fun hm=>by rw[hm.2.1] at h36;cases h36) hF3
      |exact no _ (fun hm=>h42 hm.2.2.1) hF3
      |exact no _ (fun hm=>h47 hm.2.2.2.1) hF3
      |exact no _ (fun hm=>h52 hm.2.2.2.2.1) hF3
      |refine yes _ ?_ (hF3.trans hf6)
       have k2:okT p.2:=by
        unfold okT
        first
        |(rw[SP (by omega)];exact h32)
        |(rw[SQ h26];exact⟨fun e=>by have:=h32.1.1;have e0:=congrArg Tp e;have e1:([]:By).length=0:=rfl;omega,by have:=h32.1.2;omega,h32.2⟩)
       have k1:p.2.kind=2∨p.2.data=[]:=by
        first
        |exact .inl h20
        |exact .inr (S7.1 (by omega))
       exact⟨fun hm=>hm.2.2.2.2.2.2.2.2,fun hx=>⟨by omega,by simpa using h36,h42,h47,h52,k1,by omega,k2,hx⟩⟩
     rw[SU h47];refine Gz 16 ?_
     first
     |exact no _ (fun hm=>by have:=hm.1;omega) hF3
     |exact no _ (fun hm=>by have:=hm.2.2.2.2.2.2.1;omega) hF3
     |exact no _ (fun hm=>hm.2.2.2.2.2.1.elim (fun e=>by omega) (fun e=>h30 (by rw[e];rfl))) hF3
     |exact no _ (fun hm=>by have m:=hm.2.2.2.2.2.2.2.1;unfold okT at m;rw[SP (by omega)] at m;exact h32 m) hF3
     |exact no _ (fun hm=>by have m:=hm.2.2.2.2.2.2.2.1;unfold okT at m;rw[SQ h26] at m;exact h32 ⟨⟨by have:=S8.2 m.1;omega,by have:=m.2.1;omega⟩,m.2.2⟩) hF3
     |exact no _ (fun hm=>by rw[hm.2.1] at h36;cases h36) hF3
     |exact no _ (fun hm=>h42 hm.2.2.1) hF3
     |exact no _ (fun hm=>h47 hm.2.2.2.1) hF3
     |exact no _ (fun hm=>h52 hm.2.2.2.2.1) hF3
     |refine yes _ ?_ (hF3.trans hf6)
      have k2:okT p.2:=by
       unfold okT
       first
       |(rw[SP (by omega)];exact h32)
       |(rw[SQ h26];exact⟨fun e=>by have:=h32.1.1;have e0:=congrArg Tp e;have e1:([]:By).length=0:=rfl;omega,by have:=h32.1.2;omega,h32.2⟩)
      have k1:p.2.kind=2∨p.2.data=[]:=by
       first
       |exact .inl h20
       |exact .inr (S7.1 (by omega))
      exact⟨fun hm=>hm.2.2.2.2.2.2.2.2,fun hx=>⟨by omega,by simpa using h36,h42,h47,h52,k1,by omega,k2,hx⟩⟩
    rw[SU h42];refine Gz 21 ?_
    first
    |exact no _ (fun hm=>by have:=hm.1;omega) hF3
    |exact no _ (fun hm=>by have:=hm.2.2.2.2.2.2.1;omega) hF3
    |exact no _ (fun hm=>hm.2.2.2.2.2.1.elim (fun e=>by omega) (fun e=>h30 (by rw[e];rfl))) hF3
    |exact no _ (fun hm=>by have m:=hm.2.2.2.2.2.2.2.1;unfold okT at m;rw[SP (by omega)] at m;exact h32 m) hF3
    |exact no _ (fun hm=>by have m:=hm.2.2.2.2.2.2.2.1;unfold okT at m;rw[SQ h26] at m;exact h32 ⟨⟨by have:=S8.2 m.1;omega,by have:=m.2.1;omega⟩,m.2.2⟩) hF3
    |exact no _ (fun hm=>by rw[hm.2.1] at h36;cases h36) hF3
    |exact no _ (fun hm=>h42 hm.2.2.1) hF3
    |exact no _ (fun hm=>h47 hm.2.2.2.1) hF3
    |exact no _ (fun hm=>h52 hm.2.2.2.2.1) hF3
    |refine yes _ ?_ (hF3.trans hf6)
     have k2:okT p.2:=by
      unfold okT
      first
      |(rw[SP (by omega)];exact h32)
      |(rw[SQ h26];exact⟨fun e=>by have:=h32.1.1;have e0:=congrArg Tp e;have e1:([]:By).length=0:=rfl;omega,by have:=h32.1.2;omega,h32.2⟩)
     have k1:p.2.kind=2∨p.2.data=[]:=by
      first
      |exact .inl h20
      |exact .inr (S7.1 (by omega))
     exact⟨fun hm=>hm.2.2.2.2.2.2.2.2,fun hx=>⟨by omega,by simpa using h36,h42,h47,h52,k1,by omega,k2,hx⟩⟩
   rw[SU h32];refine Gz 31 ?_
   first
   |exact no _ (fun hm=>by have:=hm.1;omega) hF3
   |exact no _ (fun hm=>by have:=hm.2.2.2.2.2.2.1;omega) hF3
   |exact no _ (fun hm=>hm.2.2.2.2.2.1.elim (fun e=>by omega) (fun e=>h30 (by rw[e];rfl))) hF3
   |exact no _ (fun hm=>by have m:=hm.2.2.2.2.2.2.2.1;unfold okT at m;rw[SP (by omega)] at m;exact h32 m) hF3
   |exact no _ (fun hm=>by have m:=hm.2.2.2.2.2.2.2.1;unfold okT at m;rw[SQ h26] at m;exact h32 ⟨⟨by have:=S8.2 m.1;omega,by have:=m.2.1;omega⟩,m.2.2⟩) hF3
   |exact no _ (fun hm=>by rw[hm.2.1] at h36;cases h36) hF3
   |exact no _ (fun hm=>h42 hm.2.2.1) hF3
   |exact no _ (fun hm=>h47 hm.2.2.2.1) hF3
   |exact no _ (fun hm=>h52 hm.2.2.2.2.1) hF3
   |refine yes _ ?_ (hF3.trans hf6)
    have k2:okT p.2:=by
     unfold okT
     first
     |(rw[SP (by omega)];exact h32)
     |(rw[SQ h26];exact⟨fun e=>by have:=h32.1.1;have e0:=congrArg Tp e;have e1:([]:By).length=0:=rfl;omega,by have:=h32.1.2;omega,h32.2⟩)
    have k1:p.2.kind=2∨p.2.data=[]:=by
     first
     |exact .inl h20
     |exact .inr (S7.1 (by omega))
    exact⟨fun hm=>hm.2.2.2.2.2.2.2.2,fun hx=>⟨by omega,by simpa using h36,h42,h47,h52,k1,by omega,k2,hx⟩⟩
  rw[SU h30];refine Gz 33 ?_
  first
  |exact no _ (fun hm=>by have:=hm.1;omega) hF3
  |exact no _ (fun hm=>by have:=hm.2.2.2.2.2.2.1;omega) hF3
  |exact no _ (fun hm=>hm.2.2.2.2.2.1.elim (fun e=>by omega) (fun e=>h30 (by rw[e];rfl))) hF3
  |exact no _ (fun hm=>by have m:=hm.2.2.2.2.2.2.2.1;unfold okT at m;rw[SP (by omega)] at m;exact h32 m) hF3
  |exact no _ (fun hm=>by have m:=hm.2.2.2.2.2.2.2.1;unfold okT at m;rw[SQ h26] at m;exact h32 ⟨⟨by have:=S8.2 m.1;omega,by have:=m.2.1;omega⟩,m.2.2⟩) hF3
  |exact no _ (fun hm=>by rw[hm.2.1] at h36;cases h36) hF3
  |exact no _ (fun hm=>h42 hm.2.2.1) hF3
  |exact no _ (fun hm=>h47 hm.2.2.2.1) hF3
  |exact no _ (fun hm=>h52 hm.2.2.2.2.1) hF3
  |refine yes _ ?_ (hF3.trans hf6)
   have k2:okT p.2:=by
    unfold okT
    first
    |(rw[SP (by omega)];exact h32)
    |(rw[SQ h26];exact⟨fun e=>by have:=h32.1.1;have e0:=congrArg Tp e;have e1:([]:By).length=0:=rfl;omega,by have:=h32.1.2;omega,h32.2⟩)
   have k1:p.2.kind=2∨p.2.data=[]:=by
    first
    |exact .inl h20
    |exact .inr (S7.1 (by omega))
   exact⟨fun hm=>hm.2.2.2.2.2.2.2.2,fun hx=>⟨by omega,by simpa using h36,h42,h47,h52,k1,by omega,k2,hx⟩⟩
 refine fK 6 ?_ ?_<;>intro h20
 ·refine Gz 6 ?_;refine cL (O8 aO rfl (by first|exact aD hg4 rfl|exact aD hg3 rfl)) ?_;refine Gz 1 ?_;rw[hn3.2.1.1];refine cL (P7 rfl rfl) ?_;refine Gz 7 ?_;by_cases h30:(p.2.data.length:Int)≤4096
  ·rw[SX h30];refine Gz 2 ?_;by_cases h32:p.2.tgt=[]
   ·rw[SX h32];refine Gz 3 ?_;refine PB rfl rfl (Pv (O8 Ea rfl (by first|exact aD hg4 rfl|exact aD hg3 rfl))) rfl (fun h36=>?_) (fun h36=>?_)
    ·refine cW (Pp rfl) ?_;refine Gz 26 ?_
     first
     |exact no _ (fun hm=>by have:=hm.1;omega) hF3
     |exact no _ (fun hm=>by have:=hm.2.2.2.2.2.2.1;omega) hF3
     |exact no _ (fun hm=>hm.2.2.2.2.2.1.elim (fun e=>by omega) (fun e=>h30 (by rw[e];rfl))) hF3
     |exact no _ (fun hm=>by have m:=hm.2.2.2.2.2.2.2.1;unfold okT at m;rw[SP (by omega)] at m;exact h32 m) hF3
     |exact no _ (fun hm=>by have m:=hm.2.2.2.2.2.2.2.1;unfold okT at m;rw[SQ h26] at m;exact h32 ⟨⟨by have:=S8.2 m.1;omega,by have:=m.2.1;omega⟩,m.2.2⟩) hF3
     |exact no _ (fun hm=>by rw[hm.2.1] at h36;cases h36) hF3
     |exact no _ (fun hm=>h42 hm.2.2.1) hF3
     |exact no _ (fun hm=>h47 hm.2.2.2.1) hF3
     |exact no _ (fun hm=>h52 hm.2.2.2.2.1) hF3
     |refine yes _ ?_ (hF3.trans hf6)
      have k2:okT p.2:=by
       unfold okT
       first
       |(rw[SP (by omega)];exact h32)
       |(rw[SQ h26];exact⟨fun e=>by have:=h32.1.1;have e0:=congrArg Tp e;have e1:([]:By).length=0:=rfl;omega,by have:=h32.1.2;omega,h32.2⟩)
      have k1:p.2.kind=2∨p.2.data=[]:=by
       first
       |exact .inl h20
       |exact .inr (S7.1 (by omega))
      exact⟨fun hm=>hm.2.2.2.2.2.2.2.2,fun hx=>⟨by omega,by simpa using h36,h42,h47,h52,k1,by omega,k2,hx⟩⟩
    refine cW (Pp rfl) ?_;refine Gz 3 ?_;refine cW (O8 aK rfl (by first|exact aD hg4 rfl|exact aD hg3 rfl)) ?_;refine Pd rfl rfl mM rfl (cY _ _ _ _) rfl ?_;rintro _ w4 ⟨rfl,hw4⟩;subst w4;by_cases h42:0≤p.2.md∧p.2.md≤511
    ·rw[SX h42];refine Gz 3 ?_;refine cW (O8 aK rfl (by first|exact aD hg4 rfl|exact aD hg3 rfl)) ?_;refine Pd rfl rfl mM rfl (cY _ _ _ _) rfl ?_;rintro _ w4 ⟨rfl,hw4⟩;subst w4;by_cases h47:0≤p.2.ud∧p.2.ud≤65535
     ·rw[SX h47];refine Gz 3 ?_;refine cW (O8 aK rfl (by first|exact aD hg4 rfl|exact aD hg3 rfl)) ?_;refine Pd rfl rfl mM rfl (cY _ _ _ _) rfl ?_;rintro _ w4 ⟨rfl,hw4⟩;subst w4;by_cases h52:0≤p.2.gd∧p.2.gd≤65535
      ·rw[SX h52];refine Gz 3 ?_;refine cW (O8 cJ rfl (by first|exact aD hg4 rfl|exact aD hg3 rfl)) ?_;refine Pd rfl rfl Hf rfl ((by show Calls _ _ [Value.slice p.1.xs.a p.1.xs.n p.1.xs.c].toArray _ _;rw[hn3.2.2.1];exact sC _ _ _ _ (hn3.2.2.xav hsm.2.2))) rfl ?_;rintro _ w6 ⟨rfl,hf6⟩;refine Gz 6 ?_
       first
       |exact no _ (fun hm=>by have:=hm.1;omega) hF3
       |exact no _ (fun hm=>by have:=hm.2.2.2.2.2.2.1;omega) hF3
       |exact no _ (fun hm=>hm.2.2.2.2.2.1.elim (fun e=>by omega) (fun e=>h30 (by rw[e];rfl))) hF3
       |exact no _ (fun hm=>by have m:=hm.2.2.2.2.2.2.2.1;unfold okT at m;rw[SP (by omega)] at m;exact h32 m) hF3
       |exact no _ (fun hm=>by have m:=hm.2.2.2.2.2.2.2.1;unfold okT at m;rw[SQ h26] at m;exact h32 ⟨⟨by have:=S8.2 m.1;omega,by have:=m.2.1;omega⟩,m.2.2⟩) hF3
       |exact no _ (fun hm=>by rw[hm.2.1] at h36;cases h36) hF3
       |exact no _ (fun hm=>h42 hm.2.2.1) hF3
       |exact no _ (fun hm=>h47 hm.2.2.2.1) hF3
       |exact no _ (fun hm=>h52 hm.2.2.2.2.1) hF3
       |refine yes _ ?_ (hF3.trans hf6)
        have k2:okT p.2:=by
         unfold okT
         first
         |(rw[SP (by omega)];exact h32)
         |(rw[SQ h26];exact⟨fun e=>by have:=h32.1.1;have e0:=congrArg Tp e;have e1:([]:By).length=0:=rfl;omega,by have:=h32.1.2;omega,h32.2⟩)
        have k1:p.2.kind=2∨p.2.data=[]:=by
         first
         |exact .inl h20
         |exact .inr (S7.1 (by omega))
        exact⟨fun hm=>hm.2.2.2.2.2.2.2.2,fun hx=>⟨by omega,by simpa using h36,h42,h47,h52,k1,by omega,k2,hx⟩⟩
      rw[SU h52];refine Gz 11 ?_
      first
      |exact no _ (fun hm=>by have:=hm.1;omega) hF3
      |exact no _ (fun hm=>by have:=hm.2.2.2.2.2.2.1;omega) hF3
      |exact no _ (fun hm=>hm.2.2.2.2.2.1.elim (fun e=>by omega) (fun e=>h30 (by rw[e];rfl))) hF3
      |exact no _ (fun hm=>by have m:=hm.2.2.2.2.2.2.2.1;unfold okT at m;rw[SP (by omega)] at m;exact h32 m) hF3
      |exact no _ (fun hm=>by have m:=hm.2.2.2.2.2.2.2.1;unfold okT at m;rw[SQ h26] at m;exact h32 ⟨⟨by have:=S8.2 m.1;omega,by have:=m.2.1;omega⟩,m.2.2⟩) hF3
      |exact no _ (fun hm=>by rw[hm.2.1] at h36;cases h36) hF3
      |exact no _ (fun hm=>h42 hm.2.2.1) hF3
      |exact no _ (fun hm=>h47 hm.2.2.2.1) hF3
      |exact no _ (fun hm=>h52 hm.2.2.2.2.1) hF3
      |refine yes _ ?_ (hF3.trans hf6)
       have k2:okT p.2:=by
        unfold okT
        first
        |(rw[SP (by omega)];exact h32)
        |(rw[SQ h26];exact⟨fun e=>by have:=h32.1.1;have e0:=congrArg Tp e;have e1:([]:By).length=0:=rfl;omega,by have:=h32.1.2;omega,h32.2⟩)
       have k1:p.2.kind=2∨p.2.data=[]:=by
        first
        |exact .inl h20
        |exact .inr (S7.1 (by omega))
       exact⟨fun hm=>hm.2.2.2.2.2.2.2.2,fun hx=>⟨by omega,by simpa using h36,h42,h47,h52,k1,by omega,k2,hx⟩⟩
     rw[SU h47];refine Gz 16 ?_
     first
     |exact no _ (fun hm=>by have:=hm.1;omega) hF3
     |exact no _ (fun hm=>by have:=hm.2.2.2.2.2.2.1;omega) hF3
     |exact no _ (fun hm=>hm.2.2.2.2.2.1.elim (fun e=>by omega) (fun e=>h30 (by rw[e];rfl))) hF3
     |exact no _ (fun hm=>by have m:=hm.2.2.2.2.2.2.2.1;unfold okT at m;rw[SP (by omega)] at m;exact h32 m) hF3
     |exact no _ (fun hm=>by have m:=hm.2.2.2.2.2.2.2.1;unfold okT at m;rw[SQ h26] at m;exact h32 ⟨⟨by have:=S8.2 m.1;omega,by have:=m.2.1;omega⟩,m.2.2⟩) hF3
     |exact no _ (fun hm=>by rw[hm.2.1] at h36;cases h36) hF3
     |exact no _ (fun hm=>h42 hm.2.2.1) hF3
     |exact no _ (fun hm=>h47 hm.2.2.2.1) hF3
     |exact no _ (fun hm=>h52 hm.2.2.2.2.1) hF3
     |refine yes _ ?_ (hF3.trans hf6)
      have k2:okT p.2:=by
       unfold okT
       first
       |(rw[SP (by omega)];exact h32)
       |(rw[SQ h26];exact⟨fun e=>by have:=h32.1.1;have e0:=congrArg Tp e;have e1:([]:By).length=0:=rfl;omega,by have:=h32.1.2;omega,h32.2⟩)
      have k1:p.2.kind=2∨p.2.data=[]:=by
       first
       |exact .inl h20
       |exact .inr (S7.1 (by omega))
      exact⟨fun hm=>hm.2.2.2.2.2.2.2.2,fun hx=>⟨by omega,by simpa using h36,h42,h47,h52,k1,by omega,k2,hx⟩⟩
    rw[SU h42];refine Gz 21 ?_
    first
    |exact no _ (fun hm=>by have:=hm.1;omega) hF3
    |exact no _ (fun hm=>by have:=hm.2.2.2.2.2.2.1;omega) hF3
    |exact no _ (fun hm=>hm.2.2.2.2.2.1.elim (fun e=>by omega) (fun e=>h30 (by rw[e];rfl))) hF3
    |exact no _ (fun hm=>by have m:=hm.2.2.2.2.2.2.2.1;unfold okT at m;rw[SP (by omega)] at m;exact h32 m) hF3
    |exact no _ (fun hm=>by have m:=hm.2.2.2.2.2.2.2.1;unfold okT at m;rw[SQ h26] at m;exact h32 ⟨⟨by have:=S8.2 m.1;omega,by have:=m.2.1;omega⟩,m.2.2⟩) hF3
    |exact no _ (fun hm=>by rw[hm.2.1] at h36;cases h36) hF3
    |exact no _ (fun hm=>h42 hm.2.2.1) hF3
    |exact no _ (fun hm=>h47 hm.2.2.2.1) hF3
    |exact no _ (fun hm=>h52 hm.2.2.2.2.1) hF3
    |refine yes _ ?_ (hF3.trans hf6)
     have k2:okT p.2:=by
      unfold okT
      first
      |(rw[SP (by omega)];exact h32)
      |(rw[SQ h26];exact⟨fun e=>by have:=h32.1.1;have e0:=congrArg Tp e;have e1:([]:By).length=0:=rfl;omega,by have:=h32.1.2;omega,h32.2⟩)
     have k1:p.2.kind=2∨p.2.data=[]:=by
      first
      |exact .inl h20
      |exact .inr (S7.1 (by omega))
     exact⟨fun hm=>hm.2.2.2.2.2.2.2.2,fun hx=>⟨by omega,by simpa using h36,h42,h47,h52,k1,by omega,k2,hx⟩⟩
   rw[SU h32];refine Gz 31 ?_
   first
   |exact no _ (fun hm=>by have:=hm.1;omega) hF3
   |exact no _ (fun hm=>by have:=hm.2.2.2.2.2.2.1;omega) hF3
   |exact no _ (fun hm=>hm.2.2.2.2.2.1.elim (fun e=>by omega) (fun e=>h30 (by rw[e];rfl))) hF3
   |exact no _ (fun hm=>by have m:=hm.2.2.2.2.2.2.2.1;unfold okT at m;rw[SP (by omega)] at m;exact h32 m) hF3
   |exact no _ (fun hm=>by have m:=hm.2.2.2.2.2.2.2.1;unfold okT at m;rw[SQ h26] at m;exact h32 ⟨⟨by have:=S8.2 m.1;omega,by have:=m.2.1;omega⟩,m.2.2⟩) hF3
   |exact no _ (fun hm=>by rw[hm.2.1] at h36;cases h36) hF3
   |exact no _ (fun hm=>h42 hm.2.2.1) hF3
   |exact no _ (fun hm=>h47 hm.2.2.2.1) hF3
   |exact no _ (fun hm=>h52 hm.2.2.2.2.1) hF3
   |refine yes _ ?_ (hF3.trans hf6)
    have k2:okT p.2:=by
     unfold okT
     first
     |(rw[SP (by omega)];exact h32)
     |(rw[SQ h26];exact⟨fun e=>by have:=h32.1.1;have e0:=congrArg Tp e;have e1:([]:By).length=0:=rfl;omega,by have:=h32.1.2;omega,h32.2⟩)
    have k1:p.2.kind=2∨p.2.data=[]:=by
     first
     |exact .inl h20
     |exact .inr (S7.1 (by omega))
    exact⟨fun hm=>hm.2.2.2.2.2.2.2.2,fun hx=>⟨by omega,by simpa using h36,h42,h47,h52,k1,by omega,k2,hx⟩⟩
  rw[SU h30];refine Gz 33 ?_
  first
  |exact no _ (fun hm=>by have:=hm.1;omega) hF3
  |exact no _ (fun hm=>by have:=hm.2.2.2.2.2.2.1;omega) hF3
  |exact no _ (fun hm=>hm.2.2.2.2.2.1.elim (fun e=>by omega) (fun e=>h30 (by rw[e];rfl))) hF3
  |exact no _ (fun hm=>by have m:=hm.2.2.2.2.2.2.2.1;unfold okT at m;rw[SP (by omega)] at m;exact h32 m) hF3
  |exact no _ (fun hm=>by have m:=hm.2.2.2.2.2.2.2.1;unfold okT at m;rw[SQ h26] at m;exact h32 ⟨⟨by have:=S8.2 m.1;omega,by have:=m.2.1;omega⟩,m.2.2⟩) hF3
  |exact no _ (fun hm=>by rw[hm.2.1] at h36;cases h36) hF3
  |exact no _ (fun hm=>h42 hm.2.2.1) hF3
  |exact no _ (fun hm=>h47 hm.2.2.2.1) hF3
  |exact no _ (fun hm=>h52 hm.2.2.2.2.1) hF3
  |refine yes _ ?_ (hF3.trans hf6)
   have k2:okT p.2:=by
    unfold okT
    first
    |(rw[SP (by omega)];exact h32)
    |(rw[SQ h26];exact⟨fun e=>by have:=h32.1.1;have e0:=congrArg Tp e;have e1:([]:By).length=0:=rfl;omega,by have:=h32.1.2;omega,h32.2⟩)
   have k1:p.2.kind=2∨p.2.data=[]:=by
    first
    |exact .inl h20
    |exact .inr (S7.1 (by omega))
   exact⟨fun hm=>hm.2.2.2.2.2.2.2.2,fun hx=>⟨by omega,by simpa using h36,h42,h47,h52,k1,by omega,k2,hx⟩⟩
 refine fK 6 ?_ ?_<;>intro h26
 ·refine Gz 6 ?_;refine cL (O8 kN rfl (by first|exact aD hg4 rfl|exact aD hg3 rfl)) ?_;refine O6 Kh rfl (As p.2.tgt 200 _) rfl ?_;rintro _ w4 ⟨rfl,hw4⟩;subst w4;refine Gz 7 ?_;by_cases h30:(p.2.data.length:Int)=0
  ·rw[SX h30];refine Gz 2 ?_;by_cases h32:eQ p.2.tgt 200
   ·rw[SX h32];refine Gz 3 ?_;refine PB rfl rfl (Pv (O8 Ea rfl (by first|exact aD hg4 rfl|exact aD hg3 rfl))) rfl (fun h36=>?_) (fun h36=>?_)
    ·refine cW (Pp rfl) ?_;refine Gz 26 ?_
     first
     |exact no _ (fun hm=>by have:=hm.1;omega) hF3
     |exact no _ (fun hm=>by have:=hm.2.2.2.2.2.2.1;omega) hF3
     |exact no _ (fun hm=>hm.2.2.2.2.2.1.elim (fun e=>by omega) (fun e=>h30 (by rw[e];rfl))) hF3
     |exact no _ (fun hm=>by have m:=hm.2.2.2.2.2.2.2.1;unfold okT at m;rw[SP (by omega)] at m;exact h32 m) hF3
     |exact no _ (fun hm=>by have m:=hm.2.2.2.2.2.2.2.1;unfold okT at m;rw[SQ h26] at m;exact h32 ⟨⟨by have:=S8.2 m.1;omega,by have:=m.2.1;omega⟩,m.2.2⟩) hF3
     |exact no _ (fun hm=>by rw[hm.2.1] at h36;cases h36) hF3
     |exact no _ (fun hm=>h42 hm.2.2.1) hF3
     |exact no _ (fun hm=>h47 hm.2.2.2.1) hF3
     |exact no _ (fun hm=>h52 hm.2.2.2.2.1) hF3
     |refine yes _ ?_ (hF3.trans hf6)
      have k2:okT p.2:=by
       unfold okT
       first
       |(rw[SP (by omega)];exact h32)
       |(rw[SQ h26];exact⟨fun e=>by have:=h32.1.1;have e0:=congrArg Tp e;have e1:([]:By).length=0:=rfl;omega,by have:=h32.1.2;omega,h32.2⟩)
      have k1:p.2.kind=2∨p.2.data=[]:=by
       first
       |exact .inl h20
       |exact .inr (S7.1 (by omega))
      exact⟨fun hm=>hm.2.2.2.2.2.2.2.2,fun hx=>⟨by omega,by simpa using h36,h42,h47,h52,k1,by omega,k2,hx⟩⟩
    refine cW (Pp rfl) ?_;refine Gz 3 ?_;refine cW (O8 aK rfl (by first|exact aD hg4 rfl|exact aD hg3 rfl)) ?_;refine Pd rfl rfl mM rfl (cY _ _ _ _) rfl ?_;rintro _ w4 ⟨rfl,hw4⟩;subst w4;by_cases h42:0≤p.2.md∧p.2.md≤511
    ·rw[SX h42];refine Gz 3 ?_;refine cW (O8 aK rfl (by first|exact aD hg4 rfl|exact aD hg3 rfl)) ?_;refine Pd rfl rfl mM rfl (cY _ _ _ _) rfl ?_;rintro _ w4 ⟨rfl,hw4⟩;subst w4;by_cases h47:0≤p.2.ud∧p.2.ud≤65535
     ·rw[SX h47];refine Gz 3 ?_;refine cW (O8 aK rfl (by first|exact aD hg4 rfl|exact aD hg3 rfl)) ?_;refine Pd rfl rfl mM rfl (cY _ _ _ _) rfl ?_;rintro _ w4 ⟨rfl,hw4⟩;subst w4;by_cases h52:0≤p.2.gd∧p.2.gd≤65535
      ·rw[SX h52];refine Gz 3 ?_;refine cW (O8 cJ rfl (by first|exact aD hg4 rfl|exact aD hg3 rfl)) ?_;refine Pd rfl rfl Hf rfl ((by show Calls _ _ [Value.slice p.1.xs.a p.1.xs.n p.1.xs.c].toArray _ _;rw[hn3.2.2.1];exact sC _ _ _ _ (hn3.2.2.xav hsm.2.2))) rfl ?_;rintro _ w6 ⟨rfl,hf6⟩;refine Gz 6 ?_
       first
       |exact no _ (fun hm=>by have:=hm.1;omega) hF3
       |exact no _ (fun hm=>by have:=hm.2.2.2.2.2.2.1;omega) hF3
       |exact no _ (fun hm=>hm.2.2.2.2.2.1.elim (fun e=>by omega) (fun e=>h30 (by rw[e];rfl))) hF3
       |exact no _ (fun hm=>by have m:=hm.2.2.2.2.2.2.2.1;unfold okT at m;rw[SP (by omega)] at m;exact h32 m) hF3
       |exact no _ (fun hm=>by have m:=hm.2.2.2.2.2.2.2.1;unfold okT at m;rw[SQ h26] at m;exact h32 ⟨⟨by have:=S8.2 m.1;omega,by have:=m.2.1;omega⟩,m.2.2⟩) hF3
       |exact no _ (fun hm=>by rw[hm.2.1] at h36;cases h36) hF3
       |exact no _ (fun hm=>h42 hm.2.2.1) hF3
       |exact no _ (fun hm=>h47 hm.2.2.2.1) hF3
       |exact no _ (fun hm=>h52 hm.2.2.2.2.1) hF3
       |refine yes _ ?_ (hF3.trans hf6)
        have k2:okT p.2:=by
         unfold okT
         first
         |(rw[SP (by omega)];exact h32)
         |(rw[SQ h26];exact⟨fun e=>by have:=h32.1.1;have e0:=congrArg Tp e;have e1:([]:By).length=0:=rfl;omega,by have:=h32.1.2;omega,h32.2⟩)
        have k1:p.2.kind=2∨p.2.data=[]:=by
         first
         |exact .inl h20
         |exact .inr (S7.1 (by omega))
        exact⟨fun hm=>hm.2.2.2.2.2.2.2.2,fun hx=>⟨by omega,by simpa using h36,h42,h47,h52,k1,by omega,k2,hx⟩⟩
      rw[SU h52];refine Gz 11 ?_
      first
      |exact no _ (fun hm=>by have:=hm.1;omega) hF3
      |exact no _ (fun hm=>by have:=hm.2.2.2.2.2.2.1;omega) hF3
      |exact no _ (fun hm=>hm.2.2.2.2.2.1.elim (fun e=>by omega) (fun e=>h30 (by rw[e];rfl))) hF3
      |exact no _ (fun hm=>by have m:=hm.2.2.2.2.2.2.2.1;unfold okT at m;rw[SP (by omega)] at m;exact h32 m) hF3
      |exact no _ (fun hm=>by have m:=hm.2.2.2.2.2.2.2.1;unfold okT at m;rw[SQ h26] at m;exact h32 ⟨⟨by have:=S8.2 m.1;omega,by have:=m.2.1;omega⟩,m.2.2⟩) hF3
      |exact no _ (fun hm=>by rw[hm.2.1] at h36;cases h36) hF3
      |exact no _ (fun hm=>h42 hm.2.2.1) hF3
      |exact no _ (fun hm=>h47 hm.2.2.2.1) hF3
      |exact no _ (fun hm=>h52 hm.2.2.2.2.1) hF3
      |refine yes _ ?_ (hF3.trans hf6)
       have k2:okT p.2:=by
        unfold okT
        first
        |(rw[SP (by omega)];exact h32)
        |(rw[SQ h26];exact⟨fun e=>by have:=h32.1.1;have e0:=congrArg Tp e;have e1:([]:By).length=0:=rfl;omega,by have:=h32.1.2;omega,h32.2⟩)
       have k1:p.2.kind=2∨p.2.data=[]:=by
        first
        |exact .inl h20
        |exact .inr (S7.1 (by omega))
       exact⟨fun hm=>hm.2.2.2.2.2.2.2.2,fun hx=>⟨by omega,by simpa using h36,h42,h47,h52,k1,by omega,k2,hx⟩⟩
     rw[SU h47];refine Gz 16 ?_
     first
     |exact no _ (fun hm=>by have:=hm.1;omega) hF3
     |exact no _ (fun hm=>by have:=hm.2.2.2.2.2.2.1;omega) hF3
     |exact no _ (fun hm=>hm.2.2.2.2.2.1.elim (fun e=>by omega) (fun e=>h30 (by rw[e];rfl))) hF3
     |exact no _ (fun hm=>by have m:=hm.2.2.2.2.2.2.2.1;unfold okT at m;rw[SP (by omega)] at m;exact h32 m) hF3
     |exact no _ (fun hm=>by have m:=hm.2.2.2.2.2.2.2.1;unfold okT at m;rw[SQ h26] at m;exact h32 ⟨⟨by have:=S8.2 m.1;omega,by have:=m.2.1;omega⟩,m.2.2⟩) hF3
     |exact no _ (fun hm=>by rw[hm.2.1] at h36;cases h36) hF3
     |exact no _ (fun hm=>h42 hm.2.2.1) hF3
     |exact no _ (fun hm=>h47 hm.2.2.2.1) hF3
     |exact no _ (fun hm=>h52 hm.2.2.2.2.1) hF3
     |refine yes _ ?_ (hF3.trans hf6)
      have k2:okT p.2:=by
       unfold okT
       first
       |(rw[SP (by omega)];exact h32)
       |(rw[SQ h26];exact⟨fun e=>by have:=h32.1.1;have e0:=congrArg Tp e;have e1:([]:By).length=0:=rfl;omega,by have:=h32.1.2;omega,h32.2⟩)
      have k1:p.2.kind=2∨p.2.data=[]:=by
       first
       |exact .inl h20
       |exact .inr (S7.1 (by omega))
      exact⟨fun hm=>hm.2.2.2.2.2.2.2.2,fun hx=>⟨by omega,by simpa using h36,h42,h47,h52,k1,by omega,k2,hx⟩⟩
    rw[SU h42];refine Gz 21 ?_
    first
    |exact no _ (fun hm=>by have:=hm.1;omega) hF3
    |exact no _ (fun hm=>by have:=hm.2.2.2.2.2.2.1;omega) hF3
    |exact no _ (fun hm=>hm.2.2.2.2.2.1.elim (fun e=>by omega) (fun e=>h30 (by rw[e];rfl))) hF3
    |exact no _ (fun hm=>by have m:=hm.2.2.2.2.2.2.2.1;unfold okT at m;rw[SP (by omega)] at m;exact h32 m) hF3
    |exact no _ (fun hm=>by have m:=hm.2.2.2.2.2.2.2.1;unfold okT at m;rw[SQ h26] at m;exact h32 ⟨⟨by have:=S8.2 m.1;omega,by have:=m.2.1;omega⟩,m.2.2⟩) hF3
    |exact no _ (fun hm=>by rw[hm.2.1] at h36;cases h36) hF3
    |exact no _ (fun hm=>h42 hm.2.2.1) hF3
    |exact no _ (fun hm=>h47 hm.2.2.2.1) hF3
    |exact no _ (fun hm=>h52 hm.2.2.2.2.1) hF3
    |refine yes _ ?_ (hF3.trans hf6)
     have k2:okT p.2:=by
      unfold okT
      first
      |(rw[SP (by omega)];exact h32)
      |(rw[SQ h26];exact⟨fun e=>by have:=h32.1.1;have e0:=congrArg Tp e;have e1:([]:By).length=0:=rfl;omega,by have:=h32.1.2;omega,h32.2⟩)
     have k1:p.2.kind=2∨p.2.data=[]:=by
      first
      |exact .inl h20
      |exact .inr (S7.1 (by omega))
     exact⟨fun hm=>hm.2.2.2.2.2.2.2.2,fun hx=>⟨by omega,by simpa using h36,h42,h47,h52,k1,by omega,k2,hx⟩⟩
   rw[SU h32];refine Gz 31 ?_
   first
   |exact no _ (fun hm=>by have:=hm.1;omega) hF3
   |exact no _ (fun hm=>by have:=hm.2.2.2.2.2.2.1;omega) hF3
   |exact no _ (fun hm=>hm.2.2.2.2.2.1.elim (fun e=>by omega) (fun e=>h30 (by rw[e];rfl))) hF3
   |exact no _ (fun hm=>by have m:=hm.2.2.2.2.2.2.2.1;unfold okT at m;rw[SP (by omega)] at m;exact h32 m) hF3
   |exact no _ (fun hm=>by have m:=hm.2.2.2.2.2.2.2.1;unfold okT at m;rw[SQ h26] at m;exact h32 ⟨⟨by have:=S8.2 m.1;omega,by have:=m.2.1;omega⟩,m.2.2⟩) hF3
   |exact no _ (fun hm=>by rw[hm.2.1] at h36;cases h36) hF3
   |exact no _ (fun hm=>h42 hm.2.2.1) hF3
   |exact no _ (fun hm=>h47 hm.2.2.2.1) hF3
   |exact no _ (fun hm=>h52 hm.2.2.2.2.1) hF3
   |refine yes _ ?_ (hF3.trans hf6)
    have k2:okT p.2:=by
     unfold okT
     first
     |(rw[SP (by omega)];exact h32)
     |(rw[SQ h26];exact⟨fun e=>by have:=h32.1.1;have e0:=congrArg Tp e;have e1:([]:By).length=0:=rfl;omega,by have:=h32.1.2;omega,h32.2⟩)
    have k1:p.2.kind=2∨p.2.data=[]:=by
     first
     |exact .inl h20
     |exact .inr (S7.1 (by omega))
    exact⟨fun hm=>hm.2.2.2.2.2.2.2.2,fun hx=>⟨by omega,by simpa using h36,h42,h47,h52,k1,by omega,k2,hx⟩⟩
  rw[SU h30];refine Gz 33 ?_
  first
  |exact no _ (fun hm=>by have:=hm.1;omega) hF3
  |exact no _ (fun hm=>by have:=hm.2.2.2.2.2.2.1;omega) hF3
  |exact no _ (fun hm=>hm.2.2.2.2.2.1.elim (fun e=>by omega) (fun e=>h30 (by rw[e];rfl))) hF3
  |exact no _ (fun hm=>by have m:=hm.2.2.2.2.2.2.2.1;unfold okT at m;rw[SP (by omega)] at m;exact h32 m) hF3
  |exact no _ (fun hm=>by have m:=hm.2.2.2.2.2.2.2.1;unfold okT at m;rw[SQ h26] at m;exact h32 ⟨⟨by have:=S8.2 m.1;omega,by have:=m.2.1;omega⟩,m.2.2⟩) hF3
  |exact no _ (fun hm=>by rw[hm.2.1] at h36;cases h36) hF3
  |exact no _ (fun hm=>h42 hm.2.2.1) hF3
  |exact no _ (fun hm=>h47 hm.2.2.2.1) hF3
  |exact no _ (fun hm=>h52 hm.2.2.2.2.1) hF3
  |refine yes _ ?_ (hF3.trans hf6)
   have k2:okT p.2:=by
    unfold okT
    first
    |(rw[SP (by omega)];exact h32)
    |(rw[SQ h26];exact⟨fun e=>by have:=h32.1.1;have e0:=congrArg Tp e;have e1:([]:By).length=0:=rfl;omega,by have:=h32.1.2;omega,h32.2⟩)
   have k1:p.2.kind=2∨p.2.data=[]:=by
    first
    |exact .inl h20
    |exact .inr (S7.1 (by omega))
   exact⟨fun hm=>hm.2.2.2.2.2.2.2.2,fun hx=>⟨by omega,by simpa using h36,h42,h47,h52,k1,by omega,k2,hx⟩⟩
 refine Gz 13 ?_
 first
 |exact no _ (fun hm=>by have:=hm.1;omega) hF3
 |exact no _ (fun hm=>by have:=hm.2.2.2.2.2.2.1;omega) hF3
 |exact no _ (fun hm=>hm.2.2.2.2.2.1.elim (fun e=>by omega) (fun e=>h30 (by rw[e];rfl))) hF3
 |exact no _ (fun hm=>by have m:=hm.2.2.2.2.2.2.2.1;unfold okT at m;rw[SP (by omega)] at m;exact h32 m) hF3
 |exact no _ (fun hm=>by have m:=hm.2.2.2.2.2.2.2.1;unfold okT at m;rw[SQ h26] at m;exact h32 ⟨⟨by have:=S8.2 m.1;omega,by have:=m.2.1;omega⟩,m.2.2⟩) hF3
 |exact no _ (fun hm=>by rw[hm.2.1] at h36;cases h36) hF3
 |exact no _ (fun hm=>h42 hm.2.2.1) hF3
 |exact no _ (fun hm=>h47 hm.2.2.2.1) hF3
 |exact no _ (fun hm=>h52 hm.2.2.2.2.1) hF3
 |refine yes _ ?_ (hF3.trans hf6)
  have k2:okT p.2:=by
   unfold okT
   first
   |(rw[SP (by omega)];exact h32)
   |(rw[SQ h26];exact⟨fun e=>by have:=h32.1.1;have e0:=congrArg Tp e;have e1:([]:By).length=0:=rfl;omega,by have:=h32.1.2;omega,h32.2⟩)
  have k1:p.2.kind=2∨p.2.data=[]:=by
   first
   |exact .inl h20
   |exact .inr (S7.1 (by omega))
  exact⟨fun hm=>hm.2.2.2.2.2.2.2.2,fun hx=>⟨by omega,by simpa using h36,h42,h47,h52,k1,by omega,k2,hx⟩⟩
def Cr(ps:List (NdH×Nd))(R:NdH×Nd→Prop)[DecidablePred R]:Int:=match ps.findIdx? (fun p=>decide (R p)) with|some i=>i|none=>-1
section
variable {R:NdH×Nd→Prop}[DecidablePred R]
theorem Hq{ps:List (NdH×Nd)}{i:Nat}{p:NdH×Nd}(hp:ps[i]?=some p)(h1:R p)(h2:∀ (j:Nat) (q:NdH×Nd),j<i→ps[j]?=some q→¬ R q):Cr ps R=i:=by
 have hi:=(SV.1 hp).1;have:ps.findIdx? (fun p=>decide (R p))=some i:=by
  rw[T2];refine⟨hi,by rw[(SV.1 hp).2];exact SX h1,fun j hj=>?_⟩;have:=h2 j _ hj (SS (by omega));simpa using this
 unfold Cr;rw[this]
theorem wV{ps:List (NdH×Nd)}(h:∀ p∈ps,¬ R p):Cr ps R = -1:=by
 have:ps.findIdx? (fun p=>decide (R p))=none:=by
  rw[Uk];intro p hp;exact SU (h p hp)
 unfold Cr;rw[this]
theorem Ho{ps:List (NdH×Nd)}:0≤Cr ps R↔∃ p∈ps,R p:=by
 constructor
 · intro h
   apply S4;intro hn;rw[wV (fun p hp hr=>hn ⟨p,hp,hr⟩)] at h;omega
 · rintro⟨p,hp,hr⟩
   unfold Cr;cases hf:ps.findIdx? (fun p=>decide (R p)) with
  |some i=>exact Int.natCast_nonneg i
  |none=>
     rw[Uk] at hf;have:=hf p hp;simp[hr] at this
theorem yQ(f:FuncId)(cs:List Value)(hf:fnB Tryz.prog f=true)(lo:Option Addr)(lc:Nat)(ps:List (NdH×Nd))(W:World)(hv:aR D W.heap lo lc ps)
 (hc:∀ w p,p∈ps→aA nob W w→Calls Tryz.prog f ([Value.agg (aE p).toArray]++cs).toArray w (Ret fun v w'=>v=.bool (decide (R p))∧aA nob w w')) :
 CA 149 [.slice lo ps.length lc,.func (.func f) #[] cs.toArray] W fun v w'=>v=iV (Cr ps R)∧aA nob W w':=by
 have h63:=hv.1.SM;refine cS 19 [(0,_),(1,_)] Tryz.func149 ?_;refine Gz 14 ?_;refine Pb (β:=Nat) (fun i=>[(0,.slice lo ps.length lc),(1,.func (.func f) #[] cs.toArray),(7,iV ps.length),(8,iV i)]) (fun i w=>i≤ps.length∧(∀ (j:Nat) (q:NdH×Nd),j<i→ps[j]?=some q→¬ R q)∧aA nob W w) (fun i=>ps.length-i) 0 ⟨rfl,rfl,rfl,rfl,trivial⟩ ⟨S3 _,fun j q hj=>by omega,RY _ _⟩ ?_;rintro i w2 ⟨hi,hno,hF2⟩;refine fK 2 ?_ ?_<;>intro h9
 ·have hil:i<ps.length:=by omega
  obtain⟨p,hp⟩:∃ p,ps[i]?=some p:=⟨_,SS hil⟩
  have hpm:=S1 hp;have hv2:=hv.SN hF2;refine Gz 19 ?_;refine cL (Pa cC rfl rfl hv2.1.non (by omega)) ?_;refine cL (Pi (cs:=aE p) aV rfl (fun j v hj=>hv2.1.rowZ i rfl hp j v hj)) ?_;refine PO hf rfl rfl (hc w2 p hpm hF2) rfl ?_;intro v3 w3 hr3;obtain⟨rfl,hf3⟩:=hr3;by_cases h16:R p
  ·rw[SX h16];refine Gz 16 ?_;exact⟨_,rfl,by rw[Hq hp h16 hno],hF2.trans hf3⟩
  rw[SU h16];refine Gz 10 ?_;refine aG (i+1) ⟨by omega,fun j q hj hq=>?_,hF2.trans hf3⟩ (by show ps.length-(i+1)<ps.length-i;omega);by_cases e:j=i
  ·subst e;rw[hp] at hq;cases hq;exact h16
  ·exact hno j q (by omega) hq
 have hie:i=ps.length:=by omega
 subst hie;refine Gz 16 ?_;refine⟨_,rfl,?_,hF2⟩;rw[wV (fun q hq=>by obtain⟨j,hj⟩:=Te hq;exact hno j q (SV.1 hj).1 hj)]
theorem qV(f:FuncId)(cs:List Value)(hf:fnB Tryz.prog f=true)(lo:Option Addr)(lc:Nat)(ps:List (NdH×Nd))(W:World)(hv:aR D W.heap lo lc ps)
 (hc:∀ w p,p∈ps→aA nob W w→Calls Tryz.prog f ([Value.agg (aE p).toArray]++cs).toArray w (Ret fun v w'=>v=.bool (decide (R p))∧aA nob w w')) :
 CA 108 [.slice lo ps.length lc,.func (.func f) #[] cs.toArray] W fun v w'=>v=.bool (decide (∃ p∈ps,R p))∧aA nob W w':=by
 refine cS 9 [(0,_),(1,_)] Tryz.func108 ?_;refine cA 9 MC (yQ (R:=R) f cs hf lo lc ps W hv hc) ?_;rintro _ w2 ⟨rfl,hf2⟩;refine cL (Qi rfl rfl) ?_;refine Gz 5 ?_;exact⟨_,rfl,congrArg _ (decide_eq_decide.2 Ho),hf2⟩
end
theorem E6(p:NdH×Nd)(W:World)(hn:NdV D W.heap p)(hsm:smN p.2) :
 CA 109 [.agg (aE p).toArray] W fun v w'=>v=.bool (decide (¬ eM p.2))∧aA nob W w':=by
 refine cS 6 [(0,_)] Tryz.func109 ?_;refine Gz 2 ?_;refine Px rfl rfl ?_;intro w1 hg1 hs1 hf1;obtain⟨g,hg⟩:∃ g,g=W.heap.size:=⟨_,rfl⟩
 rw[←hg] at hg1 hs1 ⊢
 replace hg1:w1.heap[g]?=some (.cells (aE p).toArray 37 (0,0)):=hg1
 refine Gz 5 ?_;refine cL (Pi (cs:=aE p) aV rfl (bJ hg1 0 rfl)) ?_;refine cA 0 MQ (Ii p w1 (hn.SN hf1) hsm) ?_;rintro _ w2 ⟨rfl,hf2⟩;by_cases h4:eM p.2
 ·rw[SX h4];refine cL (Pp rfl) ?_;refine Gz 5 ?_
  first
  |exact⟨_,rfl,(congrArg Value.bool (SU (p:=¬ eM p.2) (fun h=>h h4))).symm,hf1.trans hf2⟩
  |exact⟨_,rfl,(congrArg Value.bool (SX (p:=¬ eM p.2) h4)).symm,hf1.trans hf2⟩
 rw[SU h4];refine cL (Pp rfl) ?_;refine Gz 5 ?_
 first
 |exact⟨_,rfl,(congrArg Value.bool (SU (p:=¬ eM p.2) (fun h=>h h4))).symm,hf1.trans hf2⟩
 |exact⟨_,rfl,(congrArg Value.bool (SX (p:=¬ eM p.2) h4)).symm,hf1.trans hf2⟩
end
section
theorem uK(ao bo:Option Addr)(ac bc:Nat)(xs ys:By)(W:World)(ha:Vw b8 W.heap ao ac xs)(hb:Vw b8 W.heap bo bc ys) :
 CA 195 [.slice ao xs.length ac,.slice bo ys.length bc] W fun v w'=>v=.bool (decide (xs=ys))∧w'=W:=by
 refine cS 10 [(0,_),(1,_)] Tryz.func195 ?_;refine Gz 8 ?_;refine cL (Qd aN ty5 ty9 rfl ha) ?_;refine Gz 1 ?_;refine cL (Qd aN ty5 ty9 rfl hb) ?_;refine cL (PU rfl rfl) ?_;refine Gz 5 ?_;exact⟨_,rfl,rfl,rfl⟩
variable {D:Nat→Prop}
theorem Fb(a b:Xa)(ah bh:Hd)(W:World)(ha:ByV D W.heap ah a.2)(hb:ByV D W.heap bh b.2) :
 CA 194 [.agg (dZ (a.1,ah)).toArray,.agg (dZ (b.1,bh)).toArray] W fun v w'=>v=.bool (decide (a=b))∧aA nob W w':=by
 refine cS 17 [(0,_),(1,_)] Tryz.func194 ?_;refine Gz 2 ?_;refine Px rfl rfl ?_;intro w1 hg1 hs1 hf1;obtain⟨g,hg⟩:∃ g,g=W.heap.size:=⟨_,rfl⟩
 rw[←hg] at hg1 hs1 ⊢
 replace hg1:w1.heap[g]?=some (.cells (dZ (a.1,ah)).toArray 123 (0,0)):=hg1
 refine Px rfl rfl ?_;intro w2 hg2 hs2 hf2;obtain⟨r,hr⟩:∃ r,r=w1.heap.size:=⟨_,rfl⟩
 rw[←hr] at hg2 hs2 ⊢;have hgq:w2.heap[r]?=some (.cells (dZ (b.1,bh)).toArray 123 (0,0)):=hg2;have hgp:=hf2.obj hg1 id;have hF2:=hf1.trans hf2;have ha2:=ha.SO hF2 (fun _ _=>id);have hb2:=hb.SO hF2 (fun _ _=>id);refine Gz 6 ?_;refine cL (O8 kN rfl (by first|exact aD hgp rfl|exact aD hgq rfl)) ?_;refine Gz 1 ?_;refine cL (O8 kN rfl (by first|exact aD hgp rfl|exact aD hgq rfl)) ?_;refine fK 0 ?_ ?_<;>intro h9
 ·refine Gz 2 ?_;refine cW (O7 (u:=.slice ah.a a.2.length ah.c) (O8 aO rfl (aD hgp rfl)) (by rw[←ha2.1];rfl)) ?_;refine Gz 1 ?_;refine cW (O7 (u:=.slice bh.a b.2.length bh.c) (O8 aO rfl (aD hgq rfl)) (by rw[←hb2.1];rfl)) ?_;refine Pd rfl rfl Kd rfl (uK _ _ _ _ _ _ w2 ha2.2.1 hb2.2.1) rfl ?_;rintro _ w3 ⟨rfl,hw3⟩;subst w3;refine Gz 6 ?_
  first
  |exact⟨_,rfl,congrArg _ (decide_eq_decide.2 ⟨fun e=>U3 h9 e,fun e=>by rw[e]⟩),hF2⟩
  |exact⟨_,rfl,by rw[SU (show ¬ a=b from fun e=>h9 (by rw[e]))],hF2⟩
 refine Gz 12 ?_
 first
 |exact⟨_,rfl,congrArg _ (decide_eq_decide.2 ⟨fun e=>U3 h9 e,fun e=>by rw[e]⟩),hF2⟩
 |exact⟨_,rfl,by rw[SU (show ¬ a=b from fun e=>h9 (by rw[e]))],hF2⟩
theorem yY(xh yh:Hd)(X Y:List Xa)(W:World)(hx:XsV D W.heap xh X)(hy:XsV D W.heap yh Y) :
 CA 196 [hd xh,hd yh,.func (.func 194) #[] #[]] W fun v w'=>v=.bool (decide (X=Y))∧aA nob W w':=by
 obtain⟨hxl,ys,hyv,hyl,hyd,hyx⟩:=hx;obtain⟨hwl,zs,hzv,hzl,hzd,hzx⟩:=hy;have hx63:=hyv.SM;refine cS 32 [(0,_),(1,_),(2,_)] Tryz.func196 ?_;refine Gz 10 ?_;rw[hxl];refine Gz 2 ?_;rw[hwl];refine fK 0 ?_ ?_<;>intro h14
 ·refine Gz 11 ?_
  first
  |exact⟨_,rfl,by rw[SU (show ¬ X=Y from fun e=>h14 (by rw[e]))],RY _ _⟩
  |exact⟨_,rfl,by rw[SU (show ¬ X=Y from fun e=>h29 (by rw[e,hbk] at hak;cases hak;rfl))],hF6.trans hf7⟩
  |exact⟨_,rfl,by rw[SX (show X=Y from yF hxe (by omega) hsame)],hF2⟩
 refine Gz 10 ?_;rw[hxl];refine Gz 4 ?_;have hxe:X.length=Y.length:=by omega
 refine Pb (β:=Nat) (fun k=>[(0,hd xh),(1,hd yh),(2,.func (.func 194) #[] #[]),(15,hd xh),(16,iV X.length),(17,iV k)]) (fun k w=>k≤X.length∧(∀ j:Nat,j<k→X[j]?=Y[j]?)∧aA nob W w) (fun k=>X.length-k) 0 ⟨rfl,rfl,rfl,rfl,rfl,rfl,trivial⟩ ⟨S3 _,fun j hj=>by omega,RY _ _⟩ ?_;rintro k w2 ⟨hk,hsame,hF2⟩;refine fK 2 ?_ ?_<;>intro h18
 ·have hkx:k<X.length:=by omega
  obtain⟨a,ah,hak,hyk,hva⟩:=XsV.at (D:=D) (H:=w2.heap) (h:=xh) hyl (fun i x y h1 h2=>⟨(hyx i x y h1 h2).1,(hyx i x y h1 h2).2.SO hF2 (fun _ _=>id)⟩) hkx;obtain⟨b,bh,hbk,hzk,hvb⟩:=XsV.at (D:=D) (H:=w2.heap) (h:=yh) hzl (fun i x y h1 h2=>⟨(hzx i x y h1 h2).1,(hzx i x y h1 h2).2.SO hF2 (fun _ _=>id)⟩) (by omega:k<Y.length);have hyv3:=hyv.keep' hF2 (fun _ _ _=>id);have hzv3:=hzv.keep' hF2 (fun _ _ _=>id);refine Gz 11 ?_;refine cL (Pa kA rfl rfl (by rw[hxl,←hyl];exact hyv3.non) (by omega)) ?_;refine cL (Pi (cs:=dZ (a.1,ah)) dT rfl (fun j v hj=>hyv3.rowZ k rfl hyk j v hj)) ?_;refine O9 rX rfl ?_;intro w3 hg3 hs3 hf3;obtain⟨q,hq⟩:∃ q,q=w2.heap.size:=⟨_,rfl⟩
  rw[←hq] at hg3 ⊢;refine Gz 1 ?_;refine Pf (vs:=dZ (a.1,ah)) dT rfl rfl (bQ (a.1,ah)).2 hg3 rfl ?_;intro w4 hg4 hs4 hf4;have hf24:aA nob w2 w4:=hf3.SJ hf4 (fun k e=>.inr (by have e:k=q:=e;omega));have hzv4:=hzv3.keep' hf24 (fun _ _ _=>id);refine Gz 6 ?_;refine cL (Pa kA rfl rfl (by rw[hwl,←hzl];exact hzv4.non) (by omega)) ?_;refine cL (Pi (cs:=dZ (b.1,bh)) dT rfl (fun j v hj=>hzv4.rowZ k rfl hzk j v hj)) ?_;refine O9 rX rfl ?_;intro w5 hg5 hs5 hf5;obtain⟨r,hr⟩:∃ r,r=w4.heap.size:=⟨_,rfl⟩
  rw[←hr] at hg5 ⊢;refine Pf (vs:=dZ (b.1,bh)) dT rfl rfl (bQ (b.1,bh)).2 hg5 rfl ?_;intro w6 hg6 hs6 hf6;have hf46:aA nob w4 w6:=hf5.SJ hf6 (fun k e=>.inr (by have e:k=r:=e;omega));have hg64:=hf46.obj hg4 id;have hf26:=hf24.trans hf46;have hF6:=hF2.trans hf26;refine Gz 5 ?_;refine cL (Pi (cs:=dZ (a.1,ah)) dT rfl (bJ hg64 0 rfl)) ?_;refine cL (Pi (cs:=dZ (b.1,bh)) dT rfl (bJ hg6 0 rfl)) ?_;refine P9 Mh rfl rfl (Fb a b ah bh w6 (hva.SO hf26 (fun _ _=>id)) (hvb.SO hf26 (fun _ _=>id))) rfl ?_;rintro _ w7 ⟨rfl,hf7⟩;by_cases h29:a=b
  ·rw[SX h29];refine cL (Pp rfl) ?_;refine Gz 10 ?_;refine aG (k+1) ⟨by omega,fun j hj=>?_,hF6.trans hf7⟩ (by show X.length-(k+1)<X.length-k;omega);by_cases e:j=k
   ·subst e;rw[hak,hbk,h29]
   ·exact hsame j (by omega)
  rw[SU h29];refine cL (Pp rfl) ?_;refine Gz 15 ?_
  first
  |exact⟨_,rfl,by rw[SU (show ¬ X=Y from fun e=>h14 (by rw[e]))],RY _ _⟩
  |exact⟨_,rfl,by rw[SU (show ¬ X=Y from fun e=>h29 (by rw[e,hbk] at hak;cases hak;rfl))],hF6.trans hf7⟩
  |exact⟨_,rfl,by rw[SX (show X=Y from yF hxe (by omega) hsame)],hF2⟩
 refine Gz 16 ?_
 first
 |exact⟨_,rfl,by rw[SU (show ¬ X=Y from fun e=>h14 (by rw[e]))],RY _ _⟩
 |exact⟨_,rfl,by rw[SU (show ¬ X=Y from fun e=>h29 (by rw[e,hbk] at hak;cases hak;rfl))],hF6.trans hf7⟩
 |exact⟨_,rfl,by rw[SX (show X=Y from yF hxe (by omega) hsame)],hF2⟩
theorem H6(p q:NdH×Nd)(W:World)(hp:NdV D W.heap p)(hq:NdV D W.heap q) :
 CA 153 [.agg (aE p).toArray,.agg (aE q).toArray] W fun v w'=>v=.bool (decide (Alk p.2 q.2))∧aA nob W w':=by
 have no:∀ w',¬ Alk p.2 q.2→aA nob W w'→Ret (fun v w'=>v=.bool (decide (Alk p.2 q.2))∧aA nob W w') (.returned (.bool false)) w':=fun w' h f=>⟨_,rfl,by rw[SU h],f⟩
 refine cS 47 [(0,_),(1,_)] Tryz.func153 ?_;refine Gz 2 ?_;refine Px rfl rfl ?_;intro w1 hg1 hs1 hf1;obtain⟨g,hg⟩:∃ g,g=W.heap.size:=⟨_,rfl⟩
 rw[←hg] at hg1 hs1 ⊢
 replace hg1:w1.heap[g]?=some (.cells (aE p).toArray 37 (0,0)):=hg1
 refine Px rfl rfl ?_;intro w2 hg2 hs2 hf2;obtain⟨r,hr⟩:∃ r,r=w1.heap.size:=⟨_,rfl⟩
 rw[←hr] at hg2 hs2 ⊢;have hgq:w2.heap[r]?=some (.cells (aE q).toArray 37 (0,0)):=hg2;have hgp:=hf2.obj hg1 id;have hF2:=hf1.trans hf2;have hp2:=hp.SN hF2;have hq2:=hq.SN hF2;refine Gz 11 ?_;refine cL (O8 aK rfl (by first|exact aD hgp rfl|exact aD hgq rfl)) ?_;refine Gz 1 ?_;refine cL (O8 aK rfl (by first|exact aD hgp rfl|exact aD hgq rfl)) ?_;refine fK 0 ?_ ?_<;>intro h10
 ·refine Gz 2 ?_;refine cW (Pi (cs:=JF p.2) DT rfl (bJ hgp 3 rfl)) ?_;refine Gz 1 ?_;refine cW (Pi (cs:=JF q.2) DT rfl (bJ hgq 3 rfl)) ?_;refine PB rfl rfl (Rw stA N8 N9 Oa (a:=p.2.md) (b:=p.2.ud) (c:=p.2.gd) (a':=q.2.md) (b':=q.2.ud) (c':=q.2.gd) rfl rfl) rfl (fun h16=>?_) (fun h16=>?_)
  ·refine Gz 3 ?_;refine cW (O8 kN rfl (by first|exact aD hgp rfl|exact aD hgq rfl)) ?_;refine Gz 1 ?_;refine cW (O8 kN rfl (by first|exact aD hgp rfl|exact aD hgq rfl)) ?_;refine fW 0 ?_ ?_<;>intro h23
   ·refine Gz 3 ?_;refine cW (O8 Ea rfl (by first|exact aD hgp rfl|exact aD hgq rfl)) ?_;refine Gz 1 ?_;refine cW (O8 Ea rfl (by first|exact aD hgp rfl|exact aD hgq rfl)) ?_;refine PB rfl rfl (Pv (P3 ty4 rfl rfl)) rfl (fun h30=>?_) (fun h30=>?_)
    ·refine Gz 3 ?_;refine cW (O7 (u:=.slice p.1.data.a p.2.data.length p.1.data.c) (O8 aO rfl (aD hgp rfl)) (by rw[←hp2.2.1.1];rfl)) ?_;refine Gz 1 ?_;refine cW (O7 (u:=.slice q.1.data.a q.2.data.length q.1.data.c) (O8 aO rfl (aD hgq rfl)) (by rw[←hq2.2.1.1];rfl)) ?_;refine Pd rfl rfl Kd rfl (uK _ _ _ _ _ _ w2 hp2.2.1.2.1 hq2.2.1.2.1) rfl ?_;rintro _ w3 ⟨rfl,hw3⟩;subst w3;by_cases h37:p.2.data=q.2.data
     ·rw[SX h37];refine Gz 3 ?_;refine cW (O8 cJ rfl (by first|exact aD hgp rfl|exact aD hgq rfl)) ?_;refine Gz 1 ?_;refine cW (O8 cJ rfl (by first|exact aD hgp rfl|exact aD hgq rfl)) ?_;refine Gz 1 ?_;refine Pd rfl rfl Mg rfl (yY p.1.xs q.1.xs p.2.xs q.2.xs _ hp2.2.2 hq2.2.2) rfl ?_;rintro _ w3 ⟨rfl,hf3⟩;refine Gz 6 ?_
      first
      |exact⟨_,rfl,congrArg _ (decide_eq_decide.2 ⟨fun e=>⟨h10,h16,h23,by simpa using h30,h37,e⟩,fun A=>A.2.2.2.2.2⟩),hF2.trans hf3⟩
      |exact no _ (fun A=>h10 A.1) hF2
      |exact no _ (fun A=>h16 A.2.1) hF2
      |exact no _ (fun A=>h23 A.2.2.1) hF2
      |exact no _ (fun A=>h30 (by rw[A.2.2.2.1];exact beq_self_eq_true _)) hF2
      |exact no _ (fun A=>h37 A.2.2.2.2.1) hF2
     rw[SU h37];refine Gz 14 ?_
     first
     |exact⟨_,rfl,congrArg _ (decide_eq_decide.2 ⟨fun e=>⟨h10,h16,h23,by simpa using h30,h37,e⟩,fun A=>A.2.2.2.2.2⟩),hF2.trans hf3⟩
     |exact no _ (fun A=>h10 A.1) hF2
     |exact no _ (fun A=>h16 A.2.1) hF2
     |exact no _ (fun A=>h23 A.2.2.1) hF2
     |exact no _ (fun A=>h30 (by rw[A.2.2.2.1];exact beq_self_eq_true _)) hF2
     |exact no _ (fun A=>h37 A.2.2.2.2.1) hF2
    refine Gz 21 ?_
    first
    |exact⟨_,rfl,congrArg _ (decide_eq_decide.2 ⟨fun e=>⟨h10,h16,h23,by simpa using h30,h37,e⟩,fun A=>A.2.2.2.2.2⟩),hF2.trans hf3⟩
    |exact no _ (fun A=>h10 A.1) hF2
    |exact no _ (fun A=>h16 A.2.1) hF2
    |exact no _ (fun A=>h23 A.2.2.1) hF2
    |exact no _ (fun A=>h30 (by rw[A.2.2.2.1];exact beq_self_eq_true _)) hF2
    |exact no _ (fun A=>h37 A.2.2.2.2.1) hF2
   refine Gz 28 ?_
   first
   |exact⟨_,rfl,congrArg _ (decide_eq_decide.2 ⟨fun e=>⟨h10,h16,h23,by simpa using h30,h37,e⟩,fun A=>A.2.2.2.2.2⟩),hF2.trans hf3⟩
   |exact no _ (fun A=>h10 A.1) hF2
   |exact no _ (fun A=>h16 A.2.1) hF2
   |exact no _ (fun A=>h23 A.2.2.1) hF2
   |exact no _ (fun A=>h30 (by rw[A.2.2.2.1];exact beq_self_eq_true _)) hF2
   |exact no _ (fun A=>h37 A.2.2.2.2.1) hF2
  refine Gz 35 ?_
  first
  |exact⟨_,rfl,congrArg _ (decide_eq_decide.2 ⟨fun e=>⟨h10,h16,h23,by simpa using h30,h37,e⟩,fun A=>A.2.2.2.2.2⟩),hF2.trans hf3⟩
  |exact no _ (fun A=>h10 A.1) hF2
  |exact no _ (fun A=>h16 A.2.1) hF2
  |exact no _ (fun A=>h23 A.2.2.1) hF2
  |exact no _ (fun A=>h30 (by rw[A.2.2.2.1];exact beq_self_eq_true _)) hF2
  |exact no _ (fun A=>h37 A.2.2.2.2.1) hF2
 refine Gz 41 ?_
 first
 |exact⟨_,rfl,congrArg _ (decide_eq_decide.2 ⟨fun e=>⟨h10,h16,h23,by simpa using h30,h37,e⟩,fun A=>A.2.2.2.2.2⟩),hF2.trans hf3⟩
 |exact no _ (fun A=>h10 A.1) hF2
 |exact no _ (fun A=>h16 A.2.1) hF2
 |exact no _ (fun A=>h23 A.2.2.1) hF2
 |exact no _ (fun A=>h30 (by rw[A.2.2.2.1];exact beq_self_eq_true _)) hF2
 |exact no _ (fun A=>h37 A.2.2.2.2.1) hF2
end
section
open Go Go.Proofs Go.Shelf
def Sn:Go.Shelf.Ren:=⟨fun|156=>148|165=>191|166=>192|169=>193|240=>219|241=>220|276=>232|277=>233|n=>n,fun|31=>32|9=>9|3=>3|4=>4|0=>0|20=>20|72=>243|76=>246|70=>241|37=>25|75=>245|127=>272|164=>282|5=>5|80=>248|n=>n,fun|n=>n⟩
theorem So:Go.Proofs.Lays.n156 Tryz.prog Sn where
 mixed:=by kernel_rfl
 f156:=Tryz.func148.trans (congrArg some (by kernel_rfl))
 f165:=Tryz.func191.trans (congrArg some (by kernel_rfl))
 f166:=Tryz.func192.trans (congrArg some (by kernel_rfl))
 f169:=Tryz.func193.trans (congrArg some (by kernel_rfl))
 f240:=Tryz.func219.trans (congrArg some (by kernel_rfl))
 f241:=Tryz.func220.trans (congrArg some (by kernel_rfl))
 f276:=Tryz.func232.trans (congrArg some (by kernel_rfl))
 f277:=Tryz.func233.trans (congrArg some (by kernel_rfl))
 t0:=Tryz.underlying0
 a0:=Tryz.isAgg0
 z0:=Tryz.sizeOf0
 v0:=Tryz.zeroValue0
 t3:=Tryz.underlying3
 a3:=Tryz.isAgg3
 z3:=Tryz.sizeOf3
 v3:=Tryz.zeroValue3
 t4:=Tryz.underlying4
 a4:=Tryz.isAgg4
 z4:=Tryz.sizeOf4
 v4:=Tryz.zeroValue4
 t9:=Tryz.underlying9
 a9:=Tryz.isAgg9
 z9:=Tryz.sizeOf9
 v9:=Tryz.zeroValue9
 t20:=Tryz.underlying20
 a20:=Tryz.isAgg20
 z20:=Tryz.sizeOf20
 v20:=Tryz.zeroValue20
 t31:=Tryz.underlying32
 a31:=Tryz.isAgg32
 z31:=Tryz.sizeOf32
 v31:=Tryz.zeroValue32
 t37:=Tryz.underlying25
 a37:=Tryz.isAgg25
 z37:=Tryz.sizeOf25
 v37:=Tryz.zeroValue25
 t70:=Tryz.underlying241
 a70:=Tryz.isAgg241
 z70:=Tryz.sizeOf241
 v70:=Tryz.zeroValue241
 t72:=Tryz.underlying243
 a72:=Tryz.isAgg243
 z72:=Tryz.sizeOf243
 v72:=Tryz.zeroValue243
 t75:=Tryz.underlying245
 a75:=Tryz.isAgg245
 z75:=Tryz.sizeOf245
 v75:=Tryz.zeroValue245
 t76:=Tryz.underlying246
 a76:=Tryz.isAgg246
 z76:=Tryz.sizeOf246
 v76:=Tryz.zeroValue246
 t127:=Tryz.underlying272
 a127:=Tryz.isAgg272
 z127:=Tryz.sizeOf272
 v127:=Tryz.zeroValue272
 t164:=Tryz.underlying282
 a164:=Tryz.isAgg282
 z164:=Tryz.sizeOf282
 v164:=Tryz.zeroValue282
end
theorem tO:Builder.Extra Tryz.prog Sn where
 sizeBuilder:=by kernel_rfl
 liesBuilder:=by kernel_rfl
 t5:=Tryz.underlying5
 a5:=Tryz.isAgg5
 z5:=Tryz.sizeOf5
 v5:=Tryz.zeroValue5
 infoByte:=by kernel_rfl
 cellsByte:=by kernel_rfl
 sizeByte:=by kernel_rfl
 neB5:=by decide
theorem BL(a:Option Addr)(c:Nat)(L:List By)(W:World)(hv:Vw jE W.heap a c L)(hl:L.length≤1000)(hs:∀ s∈L,s.length≤255) :
 CA 148 [.slice a L.length c,.string (bs [47])] W fun v w'=>v=.string (bs (Lib.join L [47]))∧aA nob W w':=by
 match L,hv,hl,hs with
|[],hv,_,_=>
   refine(Any.strings_Join_none So tO a c (bs [47]) W).mono ?_;rintro e w' ⟨rfl,rfl⟩;exact⟨_,rfl,rfl,RY _ _⟩
|x::L,hv,hl,hs=>
   cases a with
  |none=>exact absurd rfl (hv.non (by simp))
  |some ad=>
     obtain⟨bk,o,sp⟩:=ad;have h0:=hv.get 0 x rfl;have hsp:sp=none:=by
      unfold aU at h0
      split at h0
      · split at h0
        ·cases h0
        ·rename_i h;simpa[adr,Addr.add] using h
      ·cases h0
     subst hsp;have hlt:bk<W.heap.size:=by
      unfold aU at h0
      split at h0
      ·rename_i h;exact(SZ.1 h).1
      ·cases h0
     have hj:(Lib.join (((x::L).map bs).map (·.data.toList)) (bs [47]).data.toList)=Lib.join (x::L) [47]:=by
      congr 1;rw[List.map_map];conv=>rhs;rw[←List.map_id (x::L)]
      rfl
     have hc:=Any.strings_Join So tO bk o c ((x::L).map bs) (bs [47]) W (fun j y hy=>by
      rw[List.getElem?_map,Option.map_eq_some_iff] at hy;obtain⟨s,hs1,rfl⟩:=hy;have hg:=hv.get j s hs1;by_cases hj0:j=0<;>simpa[adr,Addr.add,cell?_eq,jE,hj0] using hg) hlt (by rw[Tb];omega) (by rw[Tb];exact hv.le) (by
       rw[hj];have:=tM hs;omega)
     rw[hj,Tb] at hc;refine hc.mono ?_;rintro e w' ⟨rfl,hb⟩;exact⟨_,rfl,rfl,hb.os,hb.tape,hb.output,hb.size,fun k hk _=>hb.block k hk⟩
theorem tG(a:Option Addr)(c:Nat)(L:List By)(W:World)(hv:Vw jE W.heap a c L)(hl:L.length≤1000)(hs:∀ s∈L,s.length≤255) :
 CA 107 [.slice a L.length c] W fun v w'=>v=.string (bs (dI L))∧aA nob W w':=by
 have hjl:=tM hs;refine cS 6 [(0,_)] Tryz.func107 ?_;refine cA 8 MD (BL a c L W hv hl hs) ?_;rintro _ w1 ⟨rfl,hf1⟩;refine cL (Rp (a:=[47]) rfl rfl (by simp;omega)) ?_;refine Gz 5 ?_;exact⟨_,rfl,rfl,hf1⟩
section
open Go Go.RowKit Go.Maps
def zNd:Value:=.agg (aE (uX,nd0)).toArray
theorem mpN:pX Tryz.prog 174 9 37 zNd:=⟨by kernel_rfl,by kernel_rfl⟩
def atN(qs:List (NdH×Nd))(s:List By):NdH×Nd:=(qs.find? (fun q=>decide (q.2.names=s))).getD (uX,nd0)
def yR(qs:List (NdH×Nd))(s:List By):Prop:=∃ q∈qs,q.2.names=s
instance (qs:List (NdH×Nd))(s:List By):Decidable (yR qs s):=by unfold yR;exact inferInstance
def pY(qs:List (NdH×Nd))(m:List (SK×Value)):Prop:=∀ (s:List By) (h:(dI s).length≤maxLen),iD s→bP m (⟨dI s,h⟩:SK)=(qs.find? (fun q=>decide (q.2.names=s))).map (fun q=>Value.agg (aE q).toArray)
section
variable {qs:List (NdH×Nd)}{m:List (SK×Value)}{s:List (List UInt8)}
theorem Sq:pY [] []:=fun s h hs=>rfl
theorem pY.z(h:pY qs m)(hs:iD s)(hl:(dI s).length≤maxLen):(bP m (⟨dI s,hl⟩:SK)).getD zNd=Value.agg (aE (atN qs s)).toArray:=by
 rw[h s hl hs];unfold atN;cases qs.find? (fun q=>decide (q.2.names=s))<;>rfl
theorem pY.is(h:pY qs m)(hs:iD s)(hl:(dI s).length≤maxLen):decide ((bP m (⟨dI s,hl⟩:SK)).isSome=true)=decide (yR qs s):=by
 apply decide_eq_decide.2;rw[h s hl hs,Option.isSome_map,Vf];simp[yR]
theorem pY.snoc(h:pY qs m){p:NdH×Nd}(hp:iD p.2.names)(hn:¬ yR qs p.2.names)(hl:(dI p.2.names).length≤maxLen):pY (qs++[p]) (bW m (⟨dI p.2.names,hl⟩:SK) (.agg (aE p).toArray)):=fun s hs ho=>by
 rw[gY,Vg];by_cases e:p.2.names=s
 · subst e
   have:qs.find? (fun q=>decide (q.2.names=p.2.names))=none:=find?_eq_none.2 (fun q hq=>by simpa using fun e=>hn ⟨q,hq,e⟩);rw[SQ rfl,this];simp
 · have:[p].find? (fun q=>decide (q.2.names=s))=none:=by simp[e]
   rw[SP (fun g=>e (Ep ho hp (congrArg Subtype.val g)).symm),h s hs ho,this,or_none]
end
theorem AG{l:List Nd}{n:Nd}(h:∀ s∈eB l,cP s=0)(hn:n∈l):iD n.names∧∀ s∈n.names,s.length≤255:=by
 have k:∀ s∈n.names,cP s=0:=fun s hs=>h s (List.mem_flatMap.2 ⟨n,hn,hs⟩);exact⟨fun s hs=>⟨(iP (k s hs)).2.1,(iP (k s hs)).2.2.2⟩,fun s hs=>(iP (k s hs)).1⟩
theorem tB{s:List By}(hl:s.length≤16)(h:∀ x∈s,x.length≤255):(dI s).length≤maxLen:=by
 have:=tM h;unfold dI maxLen;rw[Td];omega
theorem Fv{ps:List (NdH×Nd)}{i:Nat}{p:NdH×Nd}(hp:ps[i]?=some p)(h:yR (ps.take i) p.2.names):cM (nds ps):=by
 obtain⟨q,hq,e⟩:=h;obtain⟨j,hj⟩:=Te hq;rw[TC] at hj
 split at hj
 ·exact(fH ps).2 ⟨j,i,q,p,by assumption,hj,hp,e⟩
 ·cases hj
theorem B0{ps:List (NdH×Nd)}{i:Nat}{p:NdH×Nd}(hp:ps[i]?=some p)(h:¬ yR (ps.take i) p.2.names):¬ mN ps p.2.names<i:=by
 intro hlt;rcases tV ps p.2.names with⟨h1,h2⟩|⟨j,q,h1,h2,h3,h4⟩
 ·exact absurd rfl (h2 p (S1 hp))
 ·exact h ⟨q,S1 (i:=j) (by rw[TC,SQ (by omega)];exact h2),h3⟩
theorem oU{ps:List (NdH×Nd)}(ht:¬ cM (nds ps))(s:List By):(atN ps s).2.kind=1↔eY (nds ps) s:=by
 unfold atN;cases hf:ps.find? (fun q=>decide (q.2.names=s)) with
|none=>
   rw[find?_eq_none] at hf;constructor
   ·intro h;cases h
   · rintro⟨n,hn,h1,h2⟩
     obtain⟨q,hq,rfl⟩:=Tj.1 hn;exact absurd (SX h1) (hf q hq)
|some q=>
   have hq:=UC hf;have he:q.2.names=s:=by simpa using List.find?_some (p:=fun q:NdH×Nd=>decide (q.2.names=s)) hf
   constructor
   ·intro h;exact⟨q.2,Tj.2 ⟨q,hq,rfl⟩,he,h⟩
   · rintro⟨n,hn,h1,h2⟩
     obtain⟨r,hr,rfl⟩:=Tj.1 hn;obtain⟨i,hi⟩:=Te hq;obtain⟨j,hj⟩:=Te hr;have:i=j:=by
      apply S4;intro hne;rcases Nat.lt_or_gt_of_ne hne with hlt|hgt
      ·exact ht ((fH ps).2 ⟨i,j,q,r,hlt,hi,hj,he.trans h1.symm⟩)
      ·exact ht ((fH ps).2 ⟨j,i,r,q,hgt,hj,hi,h1.trans he.symm⟩)
     subst this;rw[hi] at hj;cases hj;exact h2
variable {D:Nat→Prop}
theorem Gy(lo:Option Addr)(lc:Nat)(ps:List (NdH×Nd))(W:World)(hv:aR D W.heap lo lc ps)(hsm:∀ p∈ps,smN p.2) :
 CA 106 [.slice lo ps.length lc] W fun v w'=>∃ z,z=nmd (nds ps)∧aA nob W w'∧((z≠0∧v=.tuple [.map none,iV z].toArray)∨(z=0∧∃ g m,v=.tuple [.map (some g),iV 0].toArray∧cG enS w'.heap g m∧pY ps m)):=by
 have h63:=hv.1.SM;refine cS 70 [(0,_)] Tryz.func106 ?_;refine Gz 15 ?_;refine Pb (β:=Nat) (fun i=>[(0,.slice lo ps.length lc),(17,.slice lo ps.length lc),(18,iV ps.length),(19,iV i)]) (fun i w=>i≤ps.length∧(∀ s∈eB ((nds ps).take i),cP s=0)∧aA nob W w) (fun i=>ps.length-i) 0 ⟨rfl,rfl,rfl,rfl,trivial⟩ ⟨S3 _,by simp[eB],RY _ _⟩ ?_;rintro i w2 ⟨hi,hok,hF2⟩;refine fK 2 ?_ ?_<;>intro h20
 ·have hil:i<ps.length:=by omega
  obtain⟨p,hp⟩:∃ p,ps[i]?=some p:=⟨_,SS hil⟩
  have hpm:=S1 hp;have hv2:=hv.SN hF2;refine Gz 10 ?_;refine cL (Pa cC rfl rfl hv2.1.non (by omega)) ?_;refine cL (Pi (cs:=aE p) aV rfl (fun j v hj=>hv2.1.rowZ i rfl hp j v hj)) ?_;refine O9 fF rfl ?_;intro w4 hg4 hs4 hf4;obtain⟨q,hq⟩:∃ q,q=w2.heap.size:=⟨_,rfl⟩
  rw[←hq] at hg4 ⊢;refine Pf (vs:=aE p) aV rfl rfl (aB p).2 hg4 rfl ?_;intro w5 hg5 hs5 hf5;have hF5:aA nob W w5:=hF2.trans (hf4.SJ hf5 (fun k e=>.inr (by have e:k=q:=e;omega)));have hn5:=((hv.SN hF5).2 p hpm).1;refine Gz 7 ?_;rw[hn5.1];refine Gz 4 ?_;refine Pb (β:=Nat) (fun k=>[(0,.slice lo ps.length lc),(17,.slice lo ps.length lc),(18,iV ps.length),(19,iV i),(24,hd p.1.names),(25,iV p.2.names.length),(26,iV k)]) (fun k w=>k≤p.2.names.length∧(∀ s∈p.2.names.take k,cP s=0)∧aA nob W w) (fun k=>p.2.names.length-k) 0 ⟨rfl,rfl,rfl,rfl,rfl,rfl,rfl,trivial⟩ ⟨S3 _,by simp,hF5⟩ ?_;rintro k w3 ⟨hk,hok2,hF3⟩;refine fK 2 ?_ ?_<;>intro h27
  ·have hkl:k<p.2.names.length:=by omega
   obtain⟨s,hs⟩:∃ s,p.2.names[k]?=some s:=⟨_,SS hkl⟩
   have hn3:=((hv.SN hF3).2 p hpm).1;have hl63:=hn3.2.1.SM;refine Gz 10 ?_;refine cL (O5 mD rfl rfl (by rw[hn3.1];exact hn3.2.1.non) (by have:=hn3.1;omega)) ?_;refine cL (O8 kN rfl (hn3.2.1.get k s hs)) ?_;refine cA 6 Ki (zR s w3 ((hsm p hpm).2.1 s (S1 hs))) ?_;rintro _ w6 ⟨rfl,hf6⟩;refine fK 6 ?_ ?_<;>intro h33
   ·refine Gz 21 ?_;have e:=Gw (dO hp) hs hok hok2 h33;exact⟨_,rfl,_,(show cP s=nmd (nds ps) by unfold nmd;rw[e,SQ h33]),hF3.trans hf6,.inl ⟨h33,rfl⟩⟩
   refine Gz 10 ?_;refine aG (k+1) ⟨by omega,fun t ht=>?_,hF3.trans hf6⟩ (by show p.2.names.length-(k+1)<p.2.names.length-k;omega);rw[tkL hs,Tx,Tv] at ht;rcases ht with ht|rfl
   ·exact hok2 t ht
   ·exact TJ.1 h33
  have hke:k=p.2.names.length:=by omega
  subst hke;rw[TB] at hok2;refine Gz 14 ?_;refine aG (i+1) ⟨by omega,fun s hs=>?_,hF3⟩ (by show ps.length-(i+1)<ps.length-i;omega);rw[tkN hp,CC,Tx] at hs;exact hs.elim (hok s) (hok2 s)
 have hie:i=ps.length:=by omega
 subst hie;rw[S9 (by simp)] at hok;have hz:fU (eB (nds ps))=0:=tF hok;refine Gz 18 ?_;refine Pb (β:=Nat) (fun i=>[(0,.slice lo ps.length lc),(37,.slice lo ps.length lc),(38,iV ps.length),(39,iV i)]) (fun i w=>i≤ps.length∧(∀ n∈(nds ps).take i,¬ 16<n.names.length)∧aA nob W w) (fun i=>ps.length-i) 0 ⟨rfl,rfl,rfl,rfl,trivial⟩ ⟨S3 _,by simp,hF2⟩ ?_;rintro i w2 ⟨hi,hdp,hF2⟩;refine fK 2 ?_ ?_<;>intro h40
 ·have hil:i<ps.length:=by omega
  obtain⟨p,hp⟩:∃ p,ps[i]?=some p:=⟨_,SS hil⟩
  have hpm:=S1 hp;have hv2:=hv.SN hF2;refine Gz 10 ?_;refine cL (Pa cC rfl rfl hv2.1.non (by omega)) ?_;refine cL (Pi (cs:=aE p) aV rfl (fun j v hj=>hv2.1.rowZ i rfl hp j v hj)) ?_;refine O9 fF rfl ?_;intro w4 hg4 hs4 hf4;obtain⟨q,hq⟩:∃ q,q=w2.heap.size:=⟨_,rfl⟩
  rw[←hq] at hg4 ⊢;refine Pf (vs:=aE p) aV rfl rfl (aB p).2 hg4 rfl ?_;intro w5 hg5 hs5 hf5;have hF5:aA nob W w5:=hF2.trans (hf4.SJ hf5 (fun k e=>.inr (by have e:k=q:=e;omega)));have hn5:=((hv.SN hF5).2 p hpm).1;refine Gz 7 ?_;rw[hn5.1];refine fK 0 ?_ ?_<;>intro h46
  ·refine Gz 16 ?_;exact⟨_,rfl,9,(by unfold nmd;rw[SP (fun h=>h hz),SQ ⟨p.2,S1 (dO hp),by omega⟩]),hF5,.inl ⟨by decide,rfl⟩⟩
  refine Gz 10 ?_;exact aG (i+1) ⟨by omega,OZ hp hdp (by omega),hF5⟩ (by show ps.length-(i+1)<ps.length-i;omega)
 have hie:i=ps.length:=by omega
 subst hie;rw[S9 (by simp)] at hdp;have hd:¬ ∃ n∈nds ps,16<n.names.length:=fun⟨n,hn,h⟩=>hdp n hn h;refine Gz 11 ?_;refine PF (enc:=enS) rfl ?_;intro w3 hm3 hs3 hf3;obtain⟨g,hg⟩:∃ g,g=w2.heap.size:=⟨_,rfl⟩
 rw[←hg] at hm3 ⊢;refine Gz 12 ?_;have hF3:=hF2.trans hf3;refine Pb (β:=Nat×List (SK×Value)) (fun⟨i,m⟩=>[(0,.slice lo ps.length lc),(11,.map (some g)),(49,.slice lo ps.length lc),(50,iV ps.length),(51,iV i)]) (fun⟨i,m⟩ w=>i≤ps.length∧cG enS w.heap g m∧pY (ps.take i) m∧(∀ (j:Nat) (q:NdH×Nd),j<i→ps[j]?=some q→¬ mN ps q.2.names<j)∧aA nob W w) (fun⟨i,m⟩=>ps.length-i) ⟨0,[]⟩ ⟨rfl,rfl,rfl,rfl,rfl,trivial⟩ ⟨S3 _,hm3,Sq,fun j q hj=>by omega,hF3⟩ ?_;rintro⟨i,m⟩ w4 ⟨hi,hm4,hMN,hno,hF4⟩;refine fK 2 ?_ ?_<;>intro h52
 ·have hil:i<ps.length:=by omega
  obtain⟨p,hp⟩:∃ p,ps[i]?=some p:=⟨_,SS hil⟩
  have hpm:=S1 hp;have hv4:=hv.SN hF4;have hnl:p.2.names.length≤16:=by have:¬ 16<p.2.names.length:=fun h=>hd ⟨p.2,S1 (dO hp),h⟩;omega
  obtain⟨hop,hsl⟩:=AG hok (S1 (dO hp));have hpl:=tB hnl hsl;refine Gz 10 ?_;refine cL (Pa cC rfl rfl hv4.1.non (by omega)) ?_;refine cL (Pi (cs:=aE p) aV rfl (fun j v hj=>hv4.1.rowZ i rfl hp j v hj)) ?_;refine O9 fF rfl ?_;intro w5 hg5 hs5 hf5;obtain⟨q,hq⟩:∃ q,q=w4.heap.size:=⟨_,rfl⟩
  rw[←hq] at hg5 ⊢;refine Pf (vs:=aE p) aV rfl rfl (aB p).2 hg5 rfl ?_;intro w6 hg6 hs6 hf6;have hf46:aA nob w4 w6:=hf5.SJ hf6 (fun k e=>.inr (by have e:k=q:=e;omega));have hF6:aA nob W w6:=hF4.trans hf46;have hn6:=((hv.SN hF6).2 p hpm).1;have hm6:=hm4.SO hf46 id;have hgq:g<q:=by rw[hq];exact hm4.obj
  refine Gz 1 ?_;refine aW [(0,_),(11,_),(13,_),(49,_),(50,_),(51,_),(52,_)] ?_;refine Gz 5 ?_;refine O6 Hh rfl ((by show Calls _ _ [Value.slice p.1.names.a p.1.names.n p.1.names.c].toArray _ _;rw[hn6.1];exact tG _ _ _ w6 hn6.2.1 (by omega) hsl)) rfl ?_;rintro _ w7 ⟨rfl,hf7⟩;have hm7:=hm6.SO hf7 id;have hg7:=hf7.obj hg6 id;refine Gz 8 ?_;refine cL (O7 (u:=.tuple [.agg (aE (atN (ps.take i) p.2.names)).toArray,.bool (decide (yR (ps.take i) p.2.names))].toArray) (PL mpN AO (a:=(⟨dI p.2.names,hpl⟩:SK)) rfl rfl (fun _ e=>by rw[e];exact hm7)) (by rw[hMN.z hop hpl,hMN.is hop hpl])) ?_;refine Gz 3 ?_;by_cases h63:yR (ps.take i) p.2.names
  ·rw[SX h63];refine O9 fF rfl ?_;intro w8 hg8 hs8 hf8;obtain⟨r,hr⟩:∃ r,r=w7.heap.size:=⟨_,rfl⟩
   rw[←hr] at hg8 ⊢;refine Pf (vs:=aE (atN (ps.take i) p.2.names)) aV rfl rfl (aB _).2 hg8 rfl ?_;intro w9 hg9 hs9 hf9;have hf79:aA nob w7 w9:=hf8.SJ hf9 (fun k e=>.inr (by have e:k=r:=e;omega));have hF9:aA nob W w9:=(hF6.trans hf7).trans hf79;have hm9:=hm7.SO hf79 id;have hgn:=hf79.obj hg7 id;refine Gz 23 ?_;exact⟨_,rfl,6,(by unfold nmd;rw[SP (fun h=>h hz),SP hd,SQ (Fv hp h63)]),hF9,.inl ⟨by decide,rfl⟩⟩
  rw[SU h63];refine O9 fF rfl ?_;intro w8 hg8 hs8 hf8;obtain⟨r,hr⟩:∃ r,r=w7.heap.size:=⟨_,rfl⟩
  rw[←hr] at hg8 ⊢;refine Pf (vs:=aE (atN (ps.take i) p.2.names)) aV rfl rfl (aB _).2 hg8 rfl ?_;intro w9 hg9 hs9 hf9;have hf79:aA nob w7 w9:=hf8.SJ hf9 (fun k e=>.inr (by have e:k=r:=e;omega));have hF9:aA nob W w9:=(hF6.trans hf7).trans hf79;have hm9:=hm7.SO hf79 id;have hgn:=hf79.obj hg7 id;refine Gz 14 ?_;refine cL (Pi (cs:=aE p) aV rfl (bJ hgn 0 rfl)) ?_;refine Py mpN AO (a:=(⟨dI p.2.names,hpl⟩:SK)) rfl rfl rfl hm9 ?_;intro w10 hm10 hs10 hf10;have hF10:aA nob W w10:=hF9.SJ hf10 (fun k e=>.inr (by have e:k=g:=e;have:=hF2.size;omega));refine Gz 7 ?_;refine aG ⟨i+1,_⟩ ⟨by omega,hm10,?_,fun j q hj hq=>?_,hF10⟩ (by show ps.length-(i+1)<ps.length-i;omega)
  ·rw[tkL hp];exact hMN.snoc hop h63 hpl
  · by_cases e:j=i
    ·subst e;rw[hp] at hq;cases hq;exact B0 hp h63
    ·exact hno j q (by omega) hq
 have hie:i=ps.length:=by omega
 subst hie;rw[TB] at hMN;refine Gz 15 ?_;refine aW [(0,_),(2,_),(3,_),(11,_),(49,_),(50,_),(51,_),(52,_)] ?_;refine Gz 3 ?_;exact⟨_,rfl,0,(by unfold nmd;rw[SP (fun h=>h hz),SP hd,SP (D2 fun i p h=>hno i p (SV.1 h).1 h)]),hF4,.inr ⟨rfl,g,m,rfl,hm4,hMN⟩⟩
end
section
open Go Go.RowKit Go.Maps
def Lk(P:Program)(s f o:Nat):Bool:=match P.underlying s with
|some (.struct fs)=>(match fs[f]? with|some x=>decide (x.offset=o) && eK P x.type|none=>false)
|_=>false
section
variable {P:Program}{N:Nt}{l:SF}{ty:TypeId}{pos:String}{aft:Array Edge}{dd:Option Nat}{g:Option (Nat×Bool)}{CH:Array Obj→Prop}{x:Operand}{v:Value}
theorem Qy{cs:List Value}{s f o:Nat}(hs:Lk P s f o=true)(hx:evL l x=some (.agg cs.toArray))(hv:cs[o]?=some v):Cm P N CH l ⟨dd,.field s x f,ty,pos,aft,g⟩ v:=fun a w ha _=>by
 unfold Lk at hs
 split at hs
 · rename_i fs hu
   split at hs
   · rename_i y hy
     simp only[Tl,decide_eq_true_eq] at hs;obtain⟨h1,h2⟩:=hs;simp[execOp,ha.ev hx,Instr.field,run_underlying hu,hy,part,C9 h2,h1,asAgg,hv]
   ·cases hs
 ·cases hs
end
theorem G5:Lk Tryz.prog 37 2 2=true:=by kernel_rfl
theorem mpI:pX Tryz.prog 217 3 37 zNd:=⟨by kernel_rfl,by kernel_rfl⟩
def atK(qs:List (NdH×Nd))(z:Int):NdH×Nd:=(qs.find? (fun q=>decide (q.2.ino=z))).getD (uX,nd0)
def pJ(qs:List (NdH×Nd))(z:Int):Prop:=∃ q∈qs,q.2.ino=z
instance (qs:List (NdH×Nd))(z:Int):Decidable (pJ qs z):=by unfold pJ;exact inferInstance
def oV(qs:List (NdH×Nd))(m:List (I6×Value)):Prop:=∀ z:I6,bP m z=(qs.find? (fun q=>decide (q.2.ino=z.1))).map (fun q=>Value.agg (aE q).toArray)
section
variable {qs:List (NdH×Nd)}{m:List (I6×Value)}
theorem Sr:oV [] []:=fun z=>rfl
theorem oV.z(h:oV qs m)(z:I6):(bP m z).getD zNd=Value.agg (aE (atK qs z.1)).toArray:=by
 rw[h z];unfold atK;cases qs.find? (fun q=>decide (q.2.ino=z.1))<;>rfl
theorem oV.is(h:oV qs m)(z:I6):decide ((bP m z).isSome=true)=decide (pJ qs z.1):=by
 apply decide_eq_decide.2;rw[h z,Option.isSome_map,Vf];simp[pJ]
theorem oV.new(h:oV qs m){p:NdH×Nd}(z:I6)(hz:z.1=p.2.ino)(hn:¬ pJ qs p.2.ino):oV (qs++[p]) (bW m z (.agg (aE p).toArray)):=fun y=>by
 rw[gY,Vg];by_cases e:y=z
 · subst e
   have:qs.find? (fun q=>decide (q.2.ino=y.1))=none:=find?_eq_none.2 (fun q hq=>by simpa using fun e=>hn ⟨q,hq,by rw[e,hz]⟩);rw[SQ rfl,this];simp[hz]
 · have:[p].find? (fun q=>decide (q.2.ino=y.1))=none:=by
    have:¬ p.2.ino=y.1:=fun g=>e (Subtype.ext (by rw[←g,hz]));simp[this]
   rw[SP e,h y,this,or_none]
theorem oV.old(h:oV qs m){p:NdH×Nd}(hn:pJ qs p.2.ino):oV (qs++[p]) m:=fun y=>by
 rw[Vg,h y];by_cases e:y.1=p.2.ino
 · obtain⟨q,hq,hi⟩:=hn
   have:(qs.find? (fun q=>decide (q.2.ino=y.1))).isSome=true:=by
    rw[Vf];exact⟨q,hq,by simp[hi,e]⟩
   obtain⟨r,hr⟩:=Vh.1 this;rw[hr];rfl
 · have:[p].find? (fun q=>decide (q.2.ino=y.1))=none:=by
    have:¬ p.2.ino=y.1:=fun g=>e g.symm;simp[this]
   rw[this,or_none]
theorem rV{z:Int}(h:pJ qs z):atK qs z∈qs∧(atK qs z).2.ino=z:=by
 obtain⟨q,hq,hi⟩:=h;have:(qs.find? (fun q=>decide (q.2.ino=z))).isSome=true:=by
  rw[Vf];exact⟨q,hq,by simp[hi]⟩
 obtain⟨r,hr⟩:=Vh.1 this;unfold atK;rw[hr];exact⟨UC hr,by simpa using List.find?_some (p:=fun q:NdH×Nd=>decide (q.2.ino=z)) hr⟩
end
theorem Jc{l:List Nd}(h:l.Pairwise gO){b q:Nd}(hb:b∈l)(hq:q∈l)(e:b.ino=q.ino):Alk b q:=by
 obtain⟨i,h1,rfl⟩:=TG hb;obtain⟨j,h2,rfl⟩:=TG hq;rcases TW i j with hlt|heq|hgt
 ·exact(TA.1 h i j h1 h2 hlt e.symm).2.symm
 ·subst heq;exact Sm _
 ·exact(TA.1 h j i h2 h1 hgt e).2
theorem Fy{ps:List (NdH×Nd)}{i:Nat}{q:NdH×Nd}(h:q∈ps.take i):q.2∈(nds ps).take i:=by
 rw[←AF];exact Tj.2 ⟨q,h,rfl⟩
theorem AI{ps:List (NdH×Nd)}{i:Nat}{p:NdH×Nd}(hp:ps[i]?=some p)(h:((nds ps).take i).Pairwise gO)(hb:∀ b∈(nds ps).take i,gO b p.2):((nds ps).take (i+1)).Pairwise gO:=by
 rw[tkN hp];exact List.pairwise_append.2 ⟨h,by simp,fun b hb' a ha=>by rw[Tv] at ha;subst ha;exact hb b hb'⟩
theorem Dt{ps:List (NdH×Nd)}{i:Nat}{p:NdH×Nd}(hp:ps[i]?=some p)(h:((nds ps).take i).Pairwise gO)(ho:pJ (ps.take i) p.2.ino)(hk:p.2.kind≠1)(ha:Alk p.2 (atK (ps.take i) p.2.ino).2):((nds ps).take (i+1)).Pairwise gO:=
 AI hp h fun b hb e=>⟨hk,ha.trans (Jc h (Fy (rV ho).1) hb ((rV ho).2.trans e))⟩
theorem Du{ps:List (NdH×Nd)}{i:Nat}{p:NdH×Nd}(hp:ps[i]?=some p)(h:((nds ps).take i).Pairwise gO)(ho:¬ pJ (ps.take i) p.2.ino):((nds ps).take (i+1)).Pairwise gO:=
 AI hp h fun b hb e=>absurd (show pJ (ps.take i) p.2.ino by
  rw[←AF] at hb;obtain⟨q,hq,rfl⟩:=Tj.1 hb;exact⟨q,hq,e.symm⟩) ho
theorem lQ{ps:List (NdH×Nd)}{i:Nat}{p:NdH×Nd}(hp:ps[i]?=some p)(ho:pJ (ps.take i) p.2.ino)(hb:¬ (p.2.kind≠1∧Alk p.2 (atK (ps.take i) p.2.ino).2)):¬ (nds ps).Pairwise gO:=by
 intro h;obtain⟨h1,h2⟩:=rV ho;obtain⟨j,hj⟩:=Te h1;rw[TC] at hj
 split at hj
 ·exact hb (K1 h (by assumption) hj hp h2.symm)
 ·cases hj
variable {D:Nat→Prop}
theorem EI(lo:Option Addr)(lc:Nat)(ps:List (NdH×Nd))(W:World)(hv:aR D W.heap lo lc ps)(hok:∀ p∈ps,okN p.2) :
 CA 111 [.slice lo ps.length lc] W fun v w'=>v=iV (if (nds ps).Pairwise gO then 0 else 8)∧aA nob W w':=by
 have h63:=hv.1.SM;refine cS 41 [(0,_)] Tryz.func111 ?_;refine Gz 7 ?_;refine PF (enc:=enI) rfl ?_;intro w1 hm1 hs1 hf1;obtain⟨g,hg⟩:∃ g,g=W.heap.size:=⟨_,rfl⟩
 rw[←hg] at hm1 ⊢;refine Gz 12 ?_;refine Pb (β:=Nat×List (I6×Value)) (fun⟨i,m⟩=>[(0,.slice lo ps.length lc),(3,.map (some g)),(9,.slice lo ps.length lc),(10,iV ps.length),(11,iV i)]) (fun⟨i,m⟩ w=>i≤ps.length∧cG enI w.heap g m∧oV (ps.take i) m∧((nds ps).take i).Pairwise gO∧aA nob W w) (fun⟨i,m⟩=>ps.length-i) ⟨0,[]⟩ ⟨rfl,rfl,rfl,rfl,rfl,trivial⟩ ⟨S3 _,hm1,Sr,by simp,hf1⟩ ?_;rintro⟨i,m⟩ w4 ⟨hi,hm4,hMK,hlk,hF4⟩;refine fK 2 ?_ ?_<;>intro h12
 ·have hil:i<ps.length:=by omega
  obtain⟨p,hp⟩:∃ p,ps[i]?=some p:=⟨_,SS hil⟩
  have hpm:=S1 hp;have hv4:=hv.SN hF4;have hzi:=hok p hpm p.2.ino (by simp);refine Gz 10 ?_;refine cL (Pa cC rfl rfl hv4.1.non (by omega)) ?_;refine cL (Pi (cs:=aE p) aV rfl (fun j v hj=>hv4.1.rowZ i rfl hp j v hj)) ?_;refine O9 fF rfl ?_;intro w5 hg5 hs5 hf5;obtain⟨q,hq⟩:∃ q,q=w4.heap.size:=⟨_,rfl⟩
  rw[←hq] at hg5 ⊢;refine Pf (vs:=aE p) aV rfl rfl (aB p).2 hg5 rfl ?_;intro w6 hg6 hs6 hf6;have hf46:aA nob w4 w6:=hf5.SJ hf6 (fun k e=>.inr (by have e:k=q:=e;omega));have hF6:aA nob W w6:=hF4.trans hf46;have hm6:=hm4.SO hf46 id;have hgq:g<q:=by rw[hq];exact hm4.obj
  refine Gz 1 ?_;refine aW [(0,_),(3,_),(5,_),(9,_),(10,_),(11,_),(12,_)] ?_;refine Gz 6 ?_;refine cL (O7 (u:=.tuple [.agg (aE (atK (ps.take i) p.2.ino)).toArray,.bool (decide (pJ (ps.take i) p.2.ino))].toArray) (PL mpI qU (a:=(⟨p.2.ino,hzi⟩:I6)) rfl rfl (fun _ e=>by rw[e];exact hm6)) (by rw[hMK.z,hMK.is])) ?_;refine Gz 3 ?_;by_cases h21:pJ (ps.take i) p.2.ino
  ·rw[SX h21];refine O9 fF rfl ?_;intro w8 hg8 hs8 hf8;obtain⟨r,hr⟩:∃ r,r=w6.heap.size:=⟨_,rfl⟩
   rw[←hr] at hg8 ⊢;refine Pf (vs:=aE (atK (ps.take i) p.2.ino)) aV rfl rfl (aB _).2 hg8 rfl ?_;intro w9 hg9 hs9 hf9;have hf69:aA nob w6 w9:=hf8.SJ hf9 (fun k e=>.inr (by have e:k=r:=e;omega));have hF9:aA nob W w9:=hF6.trans hf69;have hm9:=hm6.SO hf69 id;have hgn:=hf69.obj hg6 id;have hv9:=hv.SN hF9;refine fW 10 ?_ ?_<;>intro h26
   ·refine Gz 23 ?_
    first
    |exact⟨_,rfl,by rw[SP (lQ hp h21 (fun h=>h.1 h26))],hF9⟩
    |exact⟨_,rfl,by rw[SP (lQ hp h21 (fun h=>h30 h.2))],hF9.trans hf10⟩
    |exact⟨_,rfl,by rw[SQ hlk],hF4⟩
   refine Gz 1 ?_;refine cW (Pi (cs:=aE p) aV rfl (bJ hgn 0 rfl)) ?_;refine cW (Pi (cs:=aE (atK (ps.take i) p.2.ino)) aV rfl (bJ hg9 0 rfl)) ?_;refine Pd rfl rfl MB rfl (H6 p (atK (ps.take i) p.2.ino) w9 (hv9.2 p hpm) (hv9.2 _ (TR (rV h21).1))) rfl ?_;rintro _ w10 ⟨rfl,hf10⟩;by_cases h30:Alk p.2 (atK (ps.take i) p.2.ino).2
   ·rw[SX h30];refine cW (Pp rfl) ?_;refine Gz 10 ?_;refine cL (Pp rfl) ?_;refine Gz 10 ?_
    first
    |exact aG ⟨i+1,m⟩ ⟨by omega,hm9.SO hf10 id,by rw[tkL hp];exact hMK.old h21,Dt hp hlk h21 h26 h30,hF9.trans hf10⟩ (by show ps.length-(i+1)<ps.length-i;omega)
    |exact aG ⟨i+1,_⟩ ⟨by omega,hm11,by rw[tkL hp];exact hMK.new _ rfl h21,Du hp hlk h21,hF11⟩ (by show ps.length-(i+1)<ps.length-i;omega)
   rw[SU h30];refine cW (Pp rfl) ?_;refine Gz 18 ?_
   first
   |exact⟨_,rfl,by rw[SP (lQ hp h21 (fun h=>h.1 h26))],hF9⟩
   |exact⟨_,rfl,by rw[SP (lQ hp h21 (fun h=>h30 h.2))],hF9.trans hf10⟩
   |exact⟨_,rfl,by rw[SQ hlk],hF4⟩
  rw[SU h21];refine O9 fF rfl ?_;intro w8 hg8 hs8 hf8;obtain⟨r,hr⟩:∃ r,r=w6.heap.size:=⟨_,rfl⟩
  rw[←hr] at hg8 ⊢;refine Pf (vs:=aE (atK (ps.take i) p.2.ino)) aV rfl rfl (aB _).2 hg8 rfl ?_;intro w9 hg9 hs9 hf9;have hf69:aA nob w6 w9:=hf8.SJ hf9 (fun k e=>.inr (by have e:k=r:=e;omega));have hF9:aA nob W w9:=hF6.trans hf69;have hm9:=hm6.SO hf69 id;have hgn:=hf69.obj hg6 id;have hv9:=hv.SN hF9;refine Gz 26 ?_;refine cL (Pp rfl) ?_;refine Gz 7 ?_;refine cL (Pi (cs:=aE p) aV rfl (bJ hgn 0 rfl)) ?_;refine Py mpI qU (a:=(⟨p.2.ino,hzi⟩:I6)) rfl rfl rfl hm9 ?_;intro w11 hm11 hs11 hf11;have hF11:aA nob W w11:=hF9.SJ hf11 (fun k e=>.inr (by have e:k=g:=e;omega));refine Gz 7 ?_
  first
  |exact aG ⟨i+1,m⟩ ⟨by omega,hm9.SO hf10 id,by rw[tkL hp];exact hMK.old h21,Dt hp hlk h21 h26 h30,hF9.trans hf10⟩ (by show ps.length-(i+1)<ps.length-i;omega)
  |exact aG ⟨i+1,_⟩ ⟨by omega,hm11,by rw[tkL hp];exact hMK.new _ rfl h21,Du hp hlk h21,hF11⟩ (by show ps.length-(i+1)<ps.length-i;omega)
 have hie:i=ps.length:=by omega
 subst hie;rw[S9 (by simp)] at hlk;refine Gz 16 ?_
 first
 |exact⟨_,rfl,by rw[SP (lQ hp h21 (fun h=>h.1 h26))],hF9⟩
 |exact⟨_,rfl,by rw[SP (lQ hp h21 (fun h=>h30 h.2))],hF9.trans hf10⟩
 |exact⟨_,rfl,by rw[SQ hlk],hF4⟩
theorem Gg{ps:List (NdH×Nd)}(hl:¬ (1024:Int)<ps.length)(hz:nmd (nds ps)=0)(hr:¬ (atN ps []).2.kind=1):plc (nds ps)=4:=by
 have hll:(nds ps).length=ps.length:=by simp
 unfold plc;rw[SP (by omega),SP (fun h=>h hz),SQ (fun h=>hr ((oU (iE hz).2.2 _).2 h))]
theorem IN{ps:List (NdH×Nd)}(hl:¬ (1024:Int)<ps.length)(hz:nmd (nds ps)=0)(hr:(atN ps []).2.kind=1){p:NdH×Nd}(hp:p∈ps)(hne:p.2.names≠[])(hb:¬ (atN ps p.2.names.dropLast).2.kind=1):plc (nds ps)=5:=by
 have hll:(nds ps).length=ps.length:=by simp
 have ht:=(iE hz).2.2;unfold plc;rw[SP (by omega),SP (fun h=>h hz),SP (fun h=>h ((oU ht _).1 hr)),SQ ⟨p.2,Tj.2 ⟨p,hp,rfl⟩,hne,fun h=>hb ((oU ht _).2 h)⟩]
theorem Gf{ps:List (NdH×Nd)}(hl:¬ (1024:Int)<ps.length)(hz:nmd (nds ps)=0)(hr:(atN ps []).2.kind=1)(hb:∀ p∈ps,p.2.names≠[]→(atN ps p.2.names.dropLast).2.kind=1):plc (nds ps)=0:=by
 have hll:(nds ps).length=ps.length:=by simp
 have ht:=(iE hz).2.2;unfold plc;rw[SP (by omega),SP (fun h=>h hz),SP (fun h=>h ((oU ht _).1 hr)),SP];rintro⟨n,hn,h1,h2⟩;obtain⟨p,hp,rfl⟩:=Tj.1 hn;exact h2 ((oU ht _).1 (hb p hp h1))
theorem gD{ps:List (NdH×Nd)}{R:Nd→Prop}:(∃ n∈nds ps,R n)↔∃ p∈ps,R p.2:=
 ⟨fun⟨n,hn,h⟩=>by obtain⟨p,hp,rfl⟩:=Tj.1 hn;exact⟨p,hp,h⟩,fun⟨p,hp,h⟩=>⟨p.2,Tj.2 ⟨p,hp,rfl⟩,h⟩⟩
theorem EE(lo:Option Addr)(lc:Nat)(ps:List (NdH×Nd))(W:World)(hv:aR D W.heap lo lc ps)(hsm:∀ p∈ps,smN p.2) :
 CA 106 [.slice lo ps.length lc] W fun v w'=>∃ og,v=.tuple [.map og,iV (nmd (nds ps))].toArray∧aA nob W w'∧(nmd (nds ps)=0→∃ g m,og=some g∧cG enS w'.heap g m∧pY ps m):=by
 refine(Gy lo lc ps W hv hsm).mono ?_;rintro e w' ⟨v,rfl,z,rfl,hf,⟨h1,rfl⟩|⟨h1,g,m,rfl,h2,h3⟩⟩
 ·exact⟨_,rfl,none,rfl,hf,fun h=>absurd h h1⟩
 ·exact⟨_,rfl,some g,by rw[h1],hf,fun _=>⟨g,m,rfl,h2,h3⟩⟩
theorem HO(lo:Option Addr)(lc:Nat)(ps:List (NdH×Nd))(W:World)(hv:aR D W.heap lo lc ps)(hsm:∀ p∈ps,smN p.2)(hok:∀ p∈ps,okN p.2) :
 CA 55 [.slice lo ps.length lc] W fun v w'=>v=iV (chk (nds ps))∧aA nob W w':=by
 have h63:=hv.1.SM;have hll:(nds ps).length=ps.length:=by simp
 have hp0:(dI []).length≤maxLen:=tB (by simp) (by simp);have ho0:iD []:=fun s hs=>by cases hs
 refine cS 55 [(0,_)] Tryz.func55 ?_;refine fK 10 ?_ ?_<;>intro h10
 ·have hc:plc (nds ps)=3:=by unfold plc;rw[SQ (by omega)]
  refine Gz 11 ?_
  first
  |exact⟨_,rfl,by rw[aI,hc,SQ (by decide)],RY _ _⟩
  |exact⟨_,rfl,by rw[aI,hc,SQ h18],hf2⟩
  |exact⟨_,rfl,by rw[aI,hc,SQ (by decide)],hF6.trans hf7⟩
  |exact⟨_,rfl,by rw[aI,hc,SQ (by decide)],hf2.trans hf3⟩
  |exact⟨_,rfl,by rw[aI,SP (fun h=>h hpz),SQ (gD.2 h51)],hF4.trans hf5⟩
  |exact⟨_,rfl,by rw[aI,hpz,SP (show ¬ ((0:Int)≠0) from fun h=>h rfl),SP (fun h:∃ n∈nds ps,¬ eM n=>h51 (gD.1 h))],(hF4.trans hf5).trans hf6⟩
 refine cA 8 MT (EE lo lc ps W hv hsm) ?_;rintro _ w2 ⟨og,rfl,hf2,hmn⟩;refine fK 12 ?_ ?_<;>intro h18
 ·have hc:plc (nds ps)=nmd (nds ps):=by unfold plc;rw[SP (by omega),SQ h18]
  refine Gz 14 ?_
  first
  |exact⟨_,rfl,by rw[aI,hc,SQ (by decide)],RY _ _⟩
  |exact⟨_,rfl,by rw[aI,hc,SQ h18],hf2⟩
  |exact⟨_,rfl,by rw[aI,hc,SQ (by decide)],hF6.trans hf7⟩
  |exact⟨_,rfl,by rw[aI,hc,SQ (by decide)],hf2.trans hf3⟩
  |exact⟨_,rfl,by rw[aI,SP (fun h=>h hpz),SQ (gD.2 h51)],hF4.trans hf5⟩
  |exact⟨_,rfl,by rw[aI,hpz,SP (show ¬ ((0:Int)≠0) from fun h=>h rfl),SP (fun h:∃ n∈nds ps,¬ eM n=>h51 (gD.1 h))],(hF4.trans hf5).trans hf6⟩
 have hz:nmd (nds ps)=0:=TJ.1 h18;obtain⟨g,m,rfl,hm2,hMN⟩:=hmn hz;obtain⟨hvn,hnl,ht⟩:=iE hz;refine Gz 7 ?_;refine O6 Hh rfl (tG none 0 [] w2 (R7 0 (S3 _)) (by simp) (by simp)) rfl ?_;rintro _ w3 ⟨rfl,hf3⟩;have hm3:=hm2.SO hf3 id;refine cL (O7 (u:=.agg (aE (atN ps [])).toArray) (Qa mpN AO (a:=(⟨dI [],hp0⟩:SK)) rfl rfl (fun _ e=>by rw[e];exact hm3)) (hMN.z ho0 hp0)) ?_;refine cL (Qy G5 (cs:=aE (atN ps [])) rfl rfl) ?_;refine fK 0 ?_ ?_<;>intro h25
 ·have hc:=Gg h10 hz h25;refine Gz 13 ?_
  first
  |exact⟨_,rfl,by rw[aI,hc,SQ (by decide)],RY _ _⟩
  |exact⟨_,rfl,by rw[aI,hc,SQ h18],hf2⟩
  |exact⟨_,rfl,by rw[aI,hc,SQ (by decide)],hF6.trans hf7⟩
  |exact⟨_,rfl,by rw[aI,hc,SQ (by decide)],hf2.trans hf3⟩
  |exact⟨_,rfl,by rw[aI,SP (fun h=>h hpz),SQ (gD.2 h51)],hF4.trans hf5⟩
  |exact⟨_,rfl,by rw[aI,hpz,SP (show ¬ ((0:Int)≠0) from fun h=>h rfl),SP (fun h:∃ n∈nds ps,¬ eM n=>h51 (gD.1 h))],(hF4.trans hf5).trans hf6⟩
 have hr:(atN ps []).2.kind=1:=TJ.1 h25;refine Gz 16 ?_;refine Pb (β:=Nat) (fun i=>[(0,.slice lo ps.length lc),(3,.map (some g)),(26,.slice lo ps.length lc),(27,iV ps.length),(28,iV i)]) (fun i w=>i≤ps.length∧cG enS w.heap g m∧(∀ (j:Nat) (p:NdH×Nd),j<i→ps[j]?=some p→p.2.names≠[]→(atN ps p.2.names.dropLast).2.kind=1)∧aA nob W w) (fun i=>ps.length-i) 0 ⟨rfl,rfl,rfl,rfl,rfl,trivial⟩ ⟨S3 _,hm3,fun j p hj=>by omega,hf2.trans hf3⟩ ?_;rintro i w4 ⟨hi,hm4,hpar,hF4⟩;refine fK 2 ?_ ?_<;>intro h29
 ·have hil:i<ps.length:=by omega
  obtain⟨p,hp⟩:∃ p,ps[i]?=some p:=⟨_,SS hil⟩
  have hpm:=S1 hp;have hv4:=hv.SN hF4;have hnm:=S1 (dO hp);obtain⟨hop,hsl⟩:=AG hvn hnm;have hn16:=hnl _ hnm;refine Gz 10 ?_;refine cL (Pa cC rfl rfl hv4.1.non (by omega)) ?_;refine cL (Pi (cs:=aE p) aV rfl (fun j v hj=>hv4.1.rowZ i rfl hp j v hj)) ?_;refine O9 fF rfl ?_;intro w5 hg5 hs5 hf5;obtain⟨q,hq⟩:∃ q,q=w4.heap.size:=⟨_,rfl⟩
  rw[←hq] at hg5 ⊢;refine Pf (vs:=aE p) aV rfl rfl (aB p).2 hg5 rfl ?_;intro w6 hg6 hs6 hf6;have hf46:aA nob w4 w6:=hf5.SJ hf6 (fun k e=>.inr (by have e:k=q:=e;omega));have hF6:aA nob W w6:=hF4.trans hf46;have hn6:=((hv.SN hF6).2 p hpm).1;have hm6:=hm4.SO hf46 id;refine Gz 7 ?_;rw[hn6.1];refine fK 7 ?_ ?_<;>intro h37
  ·refine Gz 5 ?_;refine cW (O7 (u:=.slice p.1.names.a p.2.names.dropLast.length p.1.names.c) (Pr mD rfl rfl (by have:=hn6.2.1.le;omega)) (by rw[aS,Uz];congr 1;omega)) ?_;refine Pd rfl rfl Hh rfl (tG p.1.names.a p.1.names.c p.2.names.dropLast w6 (by rw[drop_take];exact hn6.2.1.take _) (by rw[Uz];omega) (fun s hs=>hsl s (List.dropLast_subset _ hs))) rfl ?_;rintro _ w7 ⟨rfl,hf7⟩;have hm7:=hm6.SO hf7 id;have hdo:iD p.2.names.dropLast:=fun s hs=>hop s (List.dropLast_subset _ hs);have hdl:(dI p.2.names.dropLast).length≤maxLen:=tB (by rw[Uz];omega) (fun s hs=>hsl s (List.dropLast_subset _ hs));refine cW (O7 (u:=.agg (aE (atN ps p.2.names.dropLast)).toArray) (Qa mpN AO (a:=(⟨dI p.2.names.dropLast,hdl⟩:SK)) rfl rfl (fun _ e=>by rw[e];exact hm7)) (hMN.z hdo hdl)) ?_;refine cW (Qy G5 (cs:=aE (atN ps p.2.names.dropLast)) rfl rfl) ?_;refine fW 0 ?_ ?_<;>intro h47
   ·have hc:=IN h10 hz hr hpm (fun e=>by rw[e] at h37;simp at h37) h47;refine Gz 16 ?_
    first
    |exact⟨_,rfl,by rw[aI,hc,SQ (by decide)],RY _ _⟩
    |exact⟨_,rfl,by rw[aI,hc,SQ h18],hf2⟩
    |exact⟨_,rfl,by rw[aI,hc,SQ (by decide)],hF6.trans hf7⟩
    |exact⟨_,rfl,by rw[aI,hc,SQ (by decide)],hf2.trans hf3⟩
    |exact⟨_,rfl,by rw[aI,SP (fun h=>h hpz),SQ (gD.2 h51)],hF4.trans hf5⟩
    |exact⟨_,rfl,by rw[aI,hpz,SP (show ¬ ((0:Int)≠0) from fun h=>h rfl),SP (fun h:∃ n∈nds ps,¬ eM n=>h51 (gD.1 h))],(hF4.trans hf5).trans hf6⟩
   refine Gz 11 ?_
   first
   |(refine aG (i+1) ⟨by omega,hm7,fun j q hj hq hne=>?_,hF6.trans hf7⟩ (by show ps.length-(i+1)<ps.length-i;omega)
     by_cases e:j=i
     ·subst e;rw[hp] at hq;cases hq;exact TJ.1 h47
     ·exact hpar j q (by omega) hq hne)
   |(refine aG (i+1) ⟨by omega,hm6,fun j q hj hq hne=>?_,hF6⟩ (by show ps.length-(i+1)<ps.length-i;omega)
     by_cases e:j=i
     ·subst e;rw[hp] at hq;cases hq;exact absurd (S7.1 (by omega)) hne
     ·exact hpar j q (by omega) hq hne)
  refine Gz 21 ?_
  first
  |(refine aG (i+1) ⟨by omega,hm7,fun j q hj hq hne=>?_,hF6.trans hf7⟩ (by show ps.length-(i+1)<ps.length-i;omega)
    by_cases e:j=i
    ·subst e;rw[hp] at hq;cases hq;exact TJ.1 h47
    ·exact hpar j q (by omega) hq hne)
  |(refine aG (i+1) ⟨by omega,hm6,fun j q hj hq hne=>?_,hF6⟩ (by show ps.length-(i+1)<ps.length-i;omega)
    by_cases e:j=i
    ·subst e;rw[hp] at hq;cases hq;exact absurd (S7.1 (by omega)) hne
    ·exact hpar j q (by omega) hq hne)
 have hie:i=ps.length:=by omega
 subst hie;have hpz:=Gf h10 hz hr (fun p hp hne=>by obtain⟨j,hj⟩:=Te hp;exact hpar j p (SV.1 hj).1 hj hne);refine cA 13 MS (qV (R:=fun p:NdH×Nd=>¬ eM p.2) 109 [] MR lo lc ps w4 (hv.SN hF4) (fun w p hp hf=>E6 p w (((hv.SN hF4).2 p hp).SN hf) (hsm p hp))) ?_;rintro _ w5 ⟨rfl,hf5⟩;by_cases h51:∃ p∈ps,¬ eM p.2
 ·rw[SX h51];refine cL (Pp rfl) ?_;refine Gz 12 ?_
  first
  |exact⟨_,rfl,by rw[aI,hc,SQ (by decide)],RY _ _⟩
  |exact⟨_,rfl,by rw[aI,hc,SQ h18],hf2⟩
  |exact⟨_,rfl,by rw[aI,hc,SQ (by decide)],hF6.trans hf7⟩
  |exact⟨_,rfl,by rw[aI,hc,SQ (by decide)],hf2.trans hf3⟩
  |exact⟨_,rfl,by rw[aI,SP (fun h=>h hpz),SQ (gD.2 h51)],hF4.trans hf5⟩
  |exact⟨_,rfl,by rw[aI,hpz,SP (show ¬ ((0:Int)≠0) from fun h=>h rfl),SP (fun h:∃ n∈nds ps,¬ eM n=>h51 (gD.1 h))],(hF4.trans hf5).trans hf6⟩
 rw[SU h51];refine cL (Pp rfl) ?_;refine cA 6 MP (EI lo lc ps w5 ((hv.SN hF4).SN hf5) hok) ?_;rintro _ w6 ⟨rfl,hf6⟩;refine Gz 6 ?_
 first
 |exact⟨_,rfl,by rw[aI,hc,SQ (by decide)],RY _ _⟩
 |exact⟨_,rfl,by rw[aI,hc,SQ h18],hf2⟩
 |exact⟨_,rfl,by rw[aI,hc,SQ (by decide)],hF6.trans hf7⟩
 |exact⟨_,rfl,by rw[aI,hc,SQ (by decide)],hf2.trans hf3⟩
 |exact⟨_,rfl,by rw[aI,SP (fun h=>h hpz),SQ (gD.2 h51)],hF4.trans hf5⟩
 |exact⟨_,rfl,by rw[aI,hpz,SP (show ¬ ((0:Int)≠0) from fun h=>h rfl),SP (fun h:∃ n∈nds ps,¬ eM n=>h51 (gD.1 h))],(hF4.trans hf5).trans hf6⟩
end
section
open Go Go.RowKit Go.Maps
section
variable {P:Program}{N:Nt}{Q:Exit→Act→World→Prop}{l:SF}{w:World}{ops:Array Oper}{rest:List Oper}{op:Op}{ty:TypeId}{pos:String}{aft:Array Edge}{d:Nat}
theorem Rh{j s:Nat}{b:Bool}(hj:(ops[j]?).bind (·.dst)=some s)(hs:lk l s=some (.bool b))(h:Sl P N ops Q (⟨some d,op,ty,pos,aft,none⟩::rest) l w) :
 Sl P N ops Q (⟨some d,op,ty,pos,aft,some (j,b)⟩::rest) l w:=fun a ha=>by
 have h1:=h a ha;unfold wpList at h1 ⊢;rw[SQ (by simp[Region.wanted])] at h1;rw[SQ (by simp[Region.wanted,fG ha hj hs])];exact h1
end
theorem fL{B n:Nat}{o o':Option Addr}(h:Fr B o)(hr:∀ a,o'=some a→o=some a∨n≤a.block)(hn:B≤n):Fr B o':=fun a ha=>by
 rcases hr a ha with h1|h1
 ·exact h a h1
 ·omega
def fE(h:Hd)(n:Nat):Hd:=if n<h.n then ⟨h.a,n,h.c⟩ else h
theorem cZ{h:Hd}{n:Nat}(k:n<h.n):fE h n=⟨h.a,n,h.c⟩:=SQ k
theorem eA{h:Hd}{n:Nat}(k:¬ n<h.n):fE h n=h:=SP k
variable {D:Nat→Prop}
theorem xT{α:Type}{l:List α}{n:Nat}(h:l.take n≠[]):l≠[]:=fun e=>h (by rw[e];exact List.take_nil)
theorem NmV.cut{H:Array Obj}{h:Hd}{l:List By}(v:NmV D H h l)(n:Nat):NmV D H (fE h n) (l.take n):=by
 by_cases k:n<h.n
 · rw[cZ k]
   exact⟨by have:=v.1;rw[S2];show n=_;omega,v.2.1.take n,fun hne=>v.2.2 (xT hne)⟩
 ·rw[eA k,S9 (by have:=v.1;omega)];exact v
theorem ByV.cut{H:Array Obj}{h:Hd}{l:By}(v:ByV D H h l)(n:Nat):ByV D H (fE h n) (l.take n):=by
 by_cases k:n<h.n
 · rw[cZ k]
   exact⟨by have:=v.1;rw[S2];show n=_;omega,v.2.1.take n,fun hne=>v.2.2 (xT hne)⟩
 ·rw[eA k,S9 (by have:=v.1;omega)];exact v
theorem XsV.cut{H:Array Obj}{h:Hd}{X:List Xa}(v:XsV D H h X)(n:Nat):XsV D H (fE h n) (X.take n):=by
 by_cases k:n<h.n
 · rw[cZ k]
   obtain⟨h1,ys,h2,h3,h4,h5⟩:=v;refine⟨by rw[S2];show n=_;omega,ys.take n,h2.take n,by simp[h3],fun hne=>h4 (xT hne),fun i x y hx hy=>?_⟩;rw[TC] at hx hy;by_cases hi:i<n
   ·rw[SQ hi] at hx hy;exact h5 i x y hx hy
   ·rw[SP hi] at hx;cases hx
 ·rw[eA k,S9 (by have:=v.1;omega)];exact v
def bD:NdH×Nd:=(uX,{ nd0 with ino:=1,kind:=1 })
theorem Br:chk (nds [bD])=0:=by decide +kernel
theorem ID:smN bD.2:=⟨S3 _,by simp[bD,nd0],by simp[bD,nd0]⟩
theorem IE:okN bD.2:=by simp[okN,bD,nd0]
end
section
open Go Go.RowKit Go.Maps
theorem jW:∀ a:By,Ti a a=false
|[]=>rfl
|x::a=>by
   have ih:=jW a;have h:¬ x<x:=by rw[T7];omega
   simp[Ti,h,ih]
theorem uM:∀ {a b c:By},Ti a b=true→Ti b c=true→Ti a c=true
|_,[],_,h,_=>by simp[Ti] at h
|_,_::_,[],_,h=>by simp[Ti] at h
|[],_::_,_::_,_,_=>by simp[Ti]
|x::a,y::b,z::c,h1,h2=>by
   simp only[Ti,Ud,decide_eq_true_eq,Tl,beq_iff_eq] at h1 h2 ⊢;rcases h1 with h1|⟨rfl,h1⟩
   · rcases h2 with h2|⟨rfl,h2⟩
     ·left;rw[T7] at *;omega
     ·exact .inl h1
   · rcases h2 with h2|⟨rfl,h2⟩
     ·exact .inl h2
     ·exact .inr ⟨rfl,uM h1 h2⟩
theorem H1{a b:By}(h:Ti a b=true):Ti b a=false:=by
 cases h2:Ti b a with
|false=>rfl
|true=>have:=uM h h2;rw[jW] at this;cases this
theorem Lu{a b:By}(hne:a≠b)(h:Ti a b=false):Ti b a=true:=by
 have:=fX a b;rw[h] at this;have hb:(a == b)=false:=by simpa using hne
 rw[hb] at this
 revert this;cases Ti b a<;>simp
def bZ:List By→List By→Int
|[],[]=>0
|[],_::_=>-1
|_::_,[]=>1
|x::a,y::b=>if x=y then bZ a b else if Ti x y=true then -1 else 1
theorem lY:∀ a,bZ a a=0
|[]=>rfl
|x::a=>by unfold bZ;rw[SQ rfl];exact lY a
theorem jU:∀ {a b:List By},bZ a b=0→a=b
|[],[],_=>rfl
|[],_::_,h=>by simp[bZ] at h
|_::_,[],h=>by simp[bZ] at h
|x::a,y::b,h=>by
   unfold bZ at h
   split at h
   ·rename_i e;rw[e,jU h]
   ·split at h<;>simp at h
theorem uG:∀ a b:List By,bZ b a = - bZ a b
|[],[]=>rfl
|[],_::_=>rfl
|_::_,[]=>rfl
|x::a,y::b=>by
   unfold bZ;by_cases e:x=y
   ·rw[SQ e,SQ e.symm];exact uG a b
   · rw[SP e,SP (fun h=>e h.symm)]
     by_cases h:Ti x y=true
     ·rw[SQ h,SP (by rw[H1 h];decide)];rfl
     ·rw[SP h,SQ (Lu e (by simpa using h))]
theorem nC:∀ {a b c:List By},bZ a b<0→bZ b c<0→bZ a c<0
|_,_::_,[],_,h=>by simp[bZ] at h
|[],_::_,_::_,_,_=>by simp[bZ]
|[],[],_,h,_=>by simp[bZ] at h
|_::_,[],_,h,_=>by simp[bZ] at h
|x::a,y::b,z::c,h1,h2=>by
   unfold bZ at h1 h2 ⊢;by_cases e1:x=y
   · subst e1
     rw[SQ rfl] at h1;by_cases e2:x=z
     · subst e2
       rw[SQ rfl] at h2 ⊢;exact nC h1 h2
     ·rw[SP e2] at h2 ⊢;exact h2
   · rw[SP e1] at h1
     have l1:Ti x y=true:=by
      by_cases h:Ti x y=true
      ·exact h
      ·rw[SP h] at h1;simp at h1
     by_cases e2:y=z
     ·subst e2;rw[SP e1,SQ l1];decide
     · rw[SP e2] at h2
       have l2:Ti y z=true:=by
        by_cases h:Ti y z=true
        ·exact h
        ·rw[SP h] at h2;simp at h2
       have l3:=uM l1 l2;rw[SP (fun e=>by subst e;rw[jW] at l3;cases l3),SQ l3];decide
theorem uH:∀ (p a b:List By),bZ (p++a) (p++b)=bZ a b
|[],a,b=>rfl
|x::p,a,b=>by
   show (if x=x then bZ (p++a) (p++b) else if Ti x x=true then -1 else 1)=_;rw[SQ rfl];exact uH p a b
theorem rR{α:Type}{l:List α}{k:Nat}{x:α}(h:l[k]?=some x):l.drop k=x::l.drop (k+1):=by
 rw[TV (SV.1 h).1,(SV.1 h).2]
theorem nD{a b:List By}{k:Nat}(h:a.take k=b.take k):bZ a b=bZ (a.drop k) (b.drop k):=by
 conv=>lhs;rw[←Tn k a,←Tn k b,h]
 exact uH _ _ _
theorem JQ{a b:List By}{k:Nat}{x y:By}(h:a.take k=b.take k)(hx:a[k]?=some x)(hy:b[k]?=some y)(hne:x≠y):bZ a b=if Ti x y=true then -1 else 1:=by
 rw[nD h,rR hx,rR hy];unfold bZ;rw[SP hne]
theorem E1{a b:List By}{k:Nat}{x:By}(h:a.take k=b.take k)(hx:a[k]?=some x)(hy:b.length≤k):bZ a b=1:=by
 rw[nD h,rR hx,Uu hy];rfl
theorem Bo{a b:List By}{k:Nat}(h:a.take k=b.take k)(hx:a.length≤k):bZ a b=if a.length<b.length then -1 else 0:=by
 rw[nD h,Uu hx];by_cases hl:a.length<b.length
 · rw[SQ hl]
   have h2:(b.take k).length=a.length:=by rw[←h,S2];omega
   cases hd:b.drop k with
  |nil=>have:=congrArg Tp hd;rw[S2] at h2;simp at this;omega
  |cons y r=>rfl
 ·rw[SP hl,Uu (by have:=congrArg Tp h;simp only[S2] at this;omega)];rfl
theorem BF{a b:List By}{k:Nat}{x:By}(h:a.take k=b.take k)(hx:a[k]?=some x)(hy:b[k]?=some x):a.take (k+1)=b.take (k+1):=by rw[tkL hx,tkL hy,h]
theorem AP(x:By)(W:World):CA 164 [.string (bs x)] W fun v w'=>v=.bool false∧w'=W:=by
 refine cS 6 [(0,_)] Tryz.func164 ?_;refine fK 9 ?_ ?_<;>intro h5
 ·exact absurd rfl h5
 refine Gz 5 ?_;exact⟨_,rfl,rfl,rfl⟩
def qW(x y:By):Int:=if Ti x y=true then -1 else if x=y then 0 else 1
theorem E2{x y:By}(h:qW x y=0):x=y:=by
 unfold qW at h
 split at h
 ·cases h
 · split at h
   ·assumption
   ·cases h
theorem JP(x y:By)(W:World):CA 114 [.string (bs x),.string (bs y)] W fun v w'=>v=iV (qW x y)∧w'=W:=by
 refine cS 20 [(0,_),(1,_)] Tryz.func114 ?_;refine cA 8 Kg (AP x W) ?_;rintro _ w1 ⟨rfl,hw1⟩;subst w1;refine cA 6 Kg (AP y W) ?_;rintro _ w1 ⟨rfl,hw1⟩;subst w1;refine Gz 26 ?_;refine PD (Pv (Ro (a:=x) (b:=y) rfl rfl)) rfl (fun h16=>?_) (fun h16=>?_)
 ·refine Gz 11 ?_;exact⟨_,rfl,by unfold qW;rw[SQ h16],rfl⟩
 refine Gz 10 ?_;refine PD (Pv (QI (a:=x) (b:=y) rfl rfl)) rfl (fun h19=>?_) (fun h19=>?_)
 ·refine Gz 11 ?_;exact⟨_,rfl,by unfold qW;rw[SP h16,SP (fun e=>by subst e;simp at h19)],rfl⟩
 refine Gz 12 ?_;exact⟨_,rfl,by unfold qW;rw[SP h16,SQ (by simpa[h16] using h19)],rfl⟩
theorem uF(ao bo:Option Addr)(ac bc:Nat)(a b:List By)(W:World)(ha:Vw jE W.heap ao ac a)(hb:Vw jE W.heap bo bc b) :
 CA 59 [.slice ao a.length ac,.slice bo b.length bc] W fun v w'=>v=iV (bZ a b)∧w'=W:=by
 have h63:=ha.SM;refine cS 36 [(0,_),(1,_)] Tryz.func59 ?_;refine Gz 14 ?_;refine Pb (β:=Nat) (fun k=>[(0,.slice ao a.length ac),(1,.slice bo b.length bc),(9,.slice ao a.length ac),(10,iV a.length),(11,iV k)]) (fun k w=>k≤a.length∧a.take k=b.take k∧w=W) (fun k=>a.length-k) 0 ⟨rfl,rfl,rfl,rfl,rfl,trivial⟩ ⟨S3 _,by simp,rfl⟩ ?_;rintro k w ⟨hk,hsm,rfl⟩;refine fK 2 ?_ ?_<;>intro h12
 ·have hka:k<a.length:=by omega
  obtain⟨x,hx⟩:∃ x,a[k]?=some x:=⟨_,SS hka⟩
  refine Gz 11 ?_;refine cL (O5 mD rfl rfl ha.non (by omega)) ?_;refine cL (O8 kN rfl (ha.get k x hx)) ?_;refine fK 10 ?_ ?_<;>intro h19
  ·refine Gz 16 ?_;exact⟨_,rfl,by rw[E1 hsm hx (by omega)],rfl⟩
  obtain⟨y,hy⟩:∃ y,b[k]?=some y:=⟨_,SS (by omega)⟩
  refine Gz 9 ?_;refine cL (O5 mD rfl rfl hb.non (by omega)) ?_;refine cL (O8 kN rfl (hb.get k y hy)) ?_;refine cA 7 MO (JP x y w) ?_;rintro _ w1 ⟨rfl,hw1⟩;subst w1;refine fK 6 ?_ ?_<;>intro h28
  ·refine Gz 16 ?_;refine⟨_,rfl,?_,rfl⟩;have hne:x≠y:=fun e=>h28 (by unfold qW;rw[SP (by rw[e,jW];decide),SQ e]);rw[JQ hsm hx hy hne];unfold qW;rw[SP hne]
  have hxy:x=y:=E2 (TJ.1 h28);refine Gz 10 ?_;exact aG (k+1) ⟨by omega,BF hsm hx (hxy ▸ hy),rfl⟩ (by show a.length-(k+1)<a.length-k;omega)
 refine fK 16 ?_ ?_<;>intro h35
 ·refine Gz 11 ?_;exact⟨_,rfl,by rw[Bo hsm (by omega),SQ (by omega)],rfl⟩
 refine Gz 12 ?_;exact⟨_,rfl,by rw[Bo hsm (by omega),SP (by omega)],rfl⟩
def cX(a b:List By):Bool:=decide (bZ a b<0)
end
inductive OT where
|fin:OT
|stop:OT
|alt (i:Nat) (pre:List Nat) (t u:OT):OT
def OT.heads:OT→List Nat
|.alt i _ _ u=>i::u.heads
|_=>[]
def OT.dep:OT→Nat
|.alt _ pre t u=>Nat.max (pre.length+t.dep+1) u.dep
|_=>0
section
open Go Go.RowKit Go.Maps
variable {D D':Nat→Prop}
theorem pH(a:List By):cX a a=false:=by unfold cX;rw[lY];rfl
theorem jM{a b:List By}:cX a b=false↔a=b∨cX b a=true:=by
 unfold cX;rw[uG a b];constructor
 · intro h
   by_cases e:bZ a b=0
   ·exact .inl (jU e)
   ·right;simp at h ⊢;omega
 · rintro(rfl|h)
   ·rw[lY];rfl
   ·simp at h ⊢;omega
theorem mW{a b:List By}(h:cX a b=true):cX b a=false:=jM.2 (.inr h)
theorem qI{a b c:List By}(h1:cX a b=true)(h2:cX b c=true):cX a c=true:=by
 unfold cX at *;simp at *;exact nC h1 h2
theorem AJ{a b c:List By}(h1:cX a b=false)(h2:cX b c=false):cX a c=false:=by
 rcases jM.1 h1 with rfl|h1
 ·exact h2
 · rcases jM.1 h2 with rfl|h2
   ·exact mW h1
   ·exact mW (qI h2 h1)
def Ev(p q:NdH×Nd):Prop:=cX q.2.names p.2.names=false
def fQ(ps:List (NdH×Nd)):List (NdH×Nd):=ps.mergeSort (fun p q=>!cX q.2.names p.2.names)
theorem jF(ps:List (NdH×Nd)):(fQ ps).Perm ps:=List.mergeSort_perm _ _
theorem C5(ps:List (NdH×Nd)):(fQ ps).Pairwise Ev:=by
 have h:=List.pairwise_mergeSort (le:=fun p q:NdH×Nd=>!cX q.2.names p.2.names) (fun a b c h1 h2=>by
  simp only[UR] at *;exact AJ h2 h1) (fun a b=>by
  simp only[Ud,UR];cases h:cX b.2.names a.2.names with
 |false=>exact .inl rfl
 |true=>exact .inr (mW h)) ps
 exact h.imp (fun h=>by simpa[Ev] using h)
theorem ED{ps:List (NdH×Nd)}(ht:¬ cM (nds ps)){p q:NdH×Nd}(hp:p∈ps)(hq:q∈ps)(e:p.2.names=q.2.names):p=q:=by
 obtain⟨i,hi⟩:=Te hp;obtain⟨j,hj⟩:=Te hq;rcases TW i j with h|h|h
 ·exact absurd ((fH ps).2 ⟨i,j,p,q,h,hi,hj,e⟩) ht
 ·subst h;rw[hi] at hj;exact Option.some.inj hj
 ·exact absurd ((fH ps).2 ⟨j,i,q,p,h,hj,hi,e.symm⟩) ht
theorem FK{ps qs:List (NdH×Nd)}(ht:¬ cM (nds ps))(hp:qs.Perm ps)(hs:qs.Pairwise Ev):qs=fQ ps:=
 List.Perm.eq_of_pairwise (le:=Ev) (fun a b ha hb h1 h2=>by
  have ha':=hp.mem_iff.1 ha;have hb':=(jF ps).mem_iff.1 hb;refine ED ht ha' hb' ?_;rcases jM.1 h2 with e|h2
  ·exact e
  ·unfold Ev at h1;rw[h1] at h2;cases h2) hs (C5 ps) (hp.trans (jF ps).symm)
end
section
open Go Go.RowKit Go.Maps
def nE(s:List Int)(z:Int):List Int:=if z∈s then s else s++[z]
def bT(zs:List Int):List Int:=zs.foldl nE []
def jJ(zs:List Int)(z:Int):Int:=((bT zs).idxOf z:Nat)+1
theorem H7{s:List Int}{z x:Int}:x∈nE s z↔x∈s∨x=z:=by
 unfold nE
 split
 ·rename_i h;exact⟨.inl,fun g=>g.elim id (fun e=>e ▸ h)⟩
 ·simp
theorem AW:∀ (zs s:List Int) (x:Int),x∈zs.foldl nE s↔x∈s∨x∈zs
|[],s,x=>by simp
|z::zs,s,x=>by
   rw[TY,AW zs,H7,Tm];exact or_assoc
theorem gZ{zs:List Int}{x:Int}:x∈bT zs↔x∈zs:=by unfold bT;rw[AW];simp
theorem AX:∀ (zs s:List Int),∃ r,zs.foldl nE s=s++r
|[],s=>⟨[],by simp⟩
|z::zs,s=>by
   obtain⟨r,h⟩:=AX zs (nE s z);rw[TY,h];unfold nE
   split
   ·exact⟨r,rfl⟩
   ·exact⟨z::r,by simp⟩
theorem Af(a b:List Int):∃ r,bT (a++b)=bT a++r:=by
 unfold bT;rw[TX];exact AX _ _
theorem pE(a:List Int)(z:Int):bT (a++[z])=nE (bT a) z:=by unfold bT;rw[TX];rfl
theorem Ay{a b:List Int}{z:Int}(h:z∉a):jJ (a++z::b) z=((bT a).length:Nat)+1:=by
 obtain⟨r,hr⟩:=Af (a++[z]) b;have e:a++z::b=(a++[z])++b:=by simp
 have hs:z∉bT a:=fun g=>h (gZ.1 g);unfold jJ;rw[e,hr,pE];unfold nE;rw[SP hs,To,List.idxOf_append,SP hs];show ((List.idxOf z (z::r)+(bT a).length:Nat):Int)+1=_;rw[List.idxOf_cons_self,TI]
theorem nN{a:List Int}{z:Int}(h:z∉a):(bT (a++[z])).length=(bT a).length+1:=by
 rw[pE];unfold nE;rw[SP (fun g=>h (gZ.1 g))];simp
theorem nM{a:List Int}{z:Int}(h:z∈a):(bT (a++[z])).length=(bT a).length:=by
 rw[pE];unfold nE;rw[SQ (gZ.2 h)]
theorem J0(s:List Int)(z:Int):(nE s z).length≤s.length+1:=by unfold nE;split<;>simp
theorem C8(zs:List Int):(bT zs).length≤zs.length:=by
 have:∀ (zs s:List Int),(zs.foldl nE s).length≤s.length+zs.length:=fun zs=>by
  induction zs with
 |nil=>intro s;simp
 |cons z zs ih=>intro s;rw[TY,Td];have:=ih (nE s z);have:=J0 s z;omega
 have:=this zs [];simpa[bT] using this
def aP(ps:List (NdH×Nd)):List Int:=ps.map (·.2.ino)
def dV(zs:List Int)(p:NdH×Nd):NdH×Nd:=(p.1,{ p.2 with ino:=jJ zs p.2.ino })
def BZ(ps:List (NdH×Nd)):List (NdH×Nd):=ps.map (dV (aP ps))
theorem mY{ps:List (NdH×Nd)}{i:Nat}{p:NdH×Nd}(hp:ps[i]?=some p):aP ps=aP (ps.take i)++p.2.ino::aP (ps.drop (i+1)):=by
 conv=>lhs;rw[←Tn i ps,rR hp]
 simp[aP]
theorem oE{ps:List (NdH×Nd)}{i:Nat}{p:NdH×Nd}(hp:ps[i]?=some p):aP (ps.take (i+1))=aP (ps.take i)++[p.2.ino]:=by rw[tkL hp];simp[aP]
theorem Gr(zs:List Int)(z:Int):1≤jJ zs z:=by unfold jJ;omega
variable {D:Nat→Prop}
def cQ(ps:List (NdH×Nd)):List (NdH×Nd):=BZ (fQ ps)
theorem DQ{l:List Nd}(h:chk l=0):l.length≤1024:=by
 unfold chk at h;by_cases h1:1024<l.length
 ·rw[SQ h1] at h;cases h
 ·omega
theorem oR{l:List Nd}(h:chk l=0):plc l=0:=by
 rw[aI] at h;by_cases h1:plc l=0
 ·exact h1
 ·rw[SQ h1] at h;exact absurd h h1
theorem sY{l:List Nd}(h:plc l=0):nmd l=0:=by
 unfold plc at h;by_cases h0:1024<l.length
 ·rw[SQ h0] at h;cases h
 · rw[SP h0] at h
   by_cases h1:nmd l=0
   ·exact h1
   ·rw[SQ h1] at h;exact absurd h h1
theorem xH{l:List Nd}(h:chk l=0):¬ cM l:=(iE (sY (oR h))).2.2
end
section
open Go Go.RowKit Go.Maps
theorem qL{α:Type}{K j:Nat}{enc:α→List Value}(hk:∀ x,(enc x).length=K)(hj:j<K){v:Value}{x':α}:∀ (xs:List α) (i:Nat) (y:α),xs[i]?=some y→enc x'=(enc y).set j v→(xs.set i x').flatMap enc=(xs.flatMap enc).set (i*K+j) v
|[],i,y,h,_=>by simp at h
|z::r,0,y,h,he=>by
   simp at h;subst h;rw[List.set_cons_zero,TN,TN,he,List.set_append,SQ (by rw[hk];omega),Nat.zero_mul,TI]
|z::r,i+1,y,h,he=>by
   have ih:=qL hk hj r i y (by simpa using h) he;have e1:(i+1)*K+j=K+(i*K+j):=by rw[TK];omega
   rw[List.set_cons_succ,TN,TN,ih,List.set_append,SP (by rw[hk];omega),hk,e1,Nat.add_sub_cancel_left]
section
variable {P:Program}{N:Nt}{Q:Exit→Act→World→Prop}{l:SF}{w:World}{ops:Array Oper}{rest:List Oper}{ty:TypeId}{pos:String}{aft:Array Edge}{x y:Operand}{t:TypeId}{v:Value}
theorem PH{α:Type}{K:Nat}{enc:α→List Value}(henc:jD K enc){T:TypeId}{ao:Option Addr}{cap:Nat}{xs:List α}{i j:Nat}{x' x0:α}{ad:Addr}(hi:xs[i]?=some x0)(hj:j<K)(he:enc x'=(enc x0).set j v)
 (ht:eK P t=true)(hx:evL l x=some (.pointer (some ad)))(had:ad=(adr ao (i*K)).add j)(hy:evL l y=some v)(h1:v.oneCell'=true)(ho:bS K enc T w.heap ao cap xs)
 (h:∀ w',bS K enc T w'.heap ao cap (xs.set i x')→w'.heap.size=w.heap.size→aA (blk ao) w w'→Sl P N ops Q rest l w') :
 Sl P N ops Q (⟨none,.store t x y,ty,pos,aft,none⟩::rest) l w:=by
 have hil:=(SV.1 hi).1;rcases ho with⟨rfl,rfl,rfl⟩|⟨g,cur,rfl,hg,g1,g2,g3,g4⟩
 ·simp at hil
 · have hK:xs.length*K≤cap*K:=Tu K g1
   have hiK:(i+1)*K≤xs.length*K:=Tu K (by omega);have hlt:i*K+j<cur.toList.length:=by rw[Array.length_toList,g3];rw[TK,Nat.one_mul] at hiK;omega
   have hadr:ad=⟨g,i*K+j,none⟩:=by
    rw[had];show ((⟨g,0,none⟩:Addr).add (i*K)).add j=_;rw[Addr.add_add,Addr.add_lit,TI]
   subst hadr;refine Pg (cur:=cur.toList) ht hx hy h1 (by simpa using hg) (by simpa[T8] using hlt) (fun w' q1 q2 q3=>h w' ?_ q2 ?_)
   · refine .inr ⟨g,_,rfl,q1,by simpa using g1,g2,by simpa using g3,?_⟩
     rw[TL,qL (fun x=>(henc x).1) hj xs i x0 hi he,←g4];simp only[List.take_set]
   ·exact q3.mono (fun k e=>⟨⟨g,0,none⟩,rfl,e.symm⟩)
end
theorem lB(n:Nat):Fr n (some ⟨n,0,none⟩):=fun a ha=>by cases ha;exact SY _
theorem xE(ao:Option Addr)(c:Nat)(L:List By)(W:World)(hv:Vw jE W.heap ao c L)(hl:L.length≤1024) :
 CA 60 [.slice ao L.length c] W fun v w'=>∃ o c',v=.slice o L.length c'∧Own jE 9 w'.heap o c' L∧Fr W.heap.size o∧aA nob W w':=by
 refine cS 8 [(0,_)] Tryz.func60 ?_;refine Gz 9 ?_;refine PD (Pv (Pz mD rfl rfl)) rfl (fun h4=>?_) (fun h4=>?_)
 ·refine Gz 11 ?_;obtain rfl:L=[]:=by
   apply S4;intro hne;have h0:ao=none:=by simpa using h4
   exact hv.non (by have:=S8.2 hne;omega) h0
  exact⟨_,rfl,none,0,rfl,.inl ⟨rfl,rfl,rfl⟩,R6,RY _ _⟩
 refine Gz 7 ?_;refine Qf jE mD rfl ?_;intro w1 ho1 hs1 hf1;refine Gz 1 ?_;refine Pm FH mD rfl rfl ho1 (hv.SN hf1) (by simp only[Tr];omega) (by simp only[Tr];unfold maxLen;omega) rfl ?_;intro o2 c2 w2 ho2 hf2 hr2 hn2;rw[TH] at ho2 ⊢;refine Gz 5 ?_;exact⟨_,rfl,o2,c2,rfl,ho2,fL (lB _) hr2 hf1.size,hf1.SJ hf2 (lB _).step⟩
theorem lZ(ao:Option Addr)(c:Nat)(L:By)(W:World)(hv:Vw b8 W.heap ao c L)(hl:L.length≤10000) :
 CA 61 [.slice ao L.length c] W fun v w'=>∃ o c',v=.slice o L.length c'∧Own b8 5 w'.heap o c' L∧Fr W.heap.size o∧aA nob W w':=by
 refine cS 8 [(0,_)] Tryz.func61 ?_;refine Gz 9 ?_;refine PD (Pv (Pz aN rfl rfl)) rfl (fun h4=>?_) (fun h4=>?_)
 ·refine Gz 11 ?_;obtain rfl:L=[]:=by
   apply S4;intro hne;have h0:ao=none:=by simpa using h4
   exact hv.non (by have:=S8.2 hne;omega) h0
  exact⟨_,rfl,none,0,rfl,.inl ⟨rfl,rfl,rfl⟩,R6,RY _ _⟩
 refine Gz 7 ?_;refine Qf b8 aN rfl ?_;intro w1 ho1 hs1 hf1;refine Gz 1 ?_;refine Pm cU aN rfl rfl ho1 (hv.SN hf1) (by simp only[Tr];omega) (by simp only[Tr];unfold maxLen;omega) rfl ?_;intro o2 c2 w2 ho2 hf2 hr2 hn2;rw[TH] at ho2 ⊢;refine Gz 5 ?_;exact⟨_,rfl,o2,c2,rfl,ho2,fL (lB _) hr2 hf1.size,hf1.SJ hf2 (lB _).step⟩
theorem xD(ao:Option Addr)(c:Nat)(L:List (By×Hd))(W:World)(hv:VwM 2 dZ W.heap ao c L)(hl:L.length≤10000) :
 CA 62 [.slice ao L.length c] W fun v w'=>∃ o c',v=.slice o L.length c'∧bS 2 dZ 123 w'.heap o c' L∧Fr W.heap.size o∧aA nob W w':=by
 refine cS 8 [(0,_)] Tryz.func62 ?_;refine Gz 9 ?_;refine PD (Pv (Pz kA rfl rfl)) rfl (fun h4=>?_) (fun h4=>?_)
 ·refine Gz 11 ?_;obtain rfl:L=[]:=by
   apply S4;intro hne;have h0:ao=none:=by simpa using h4
   exact hv.non (by have:=S8.2 hne;omega) h0
  exact⟨_,rfl,none,0,rfl,.inl ⟨rfl,rfl,rfl⟩,R6,RY _ _⟩
 refine Gz 7 ?_;refine Qr bQ kA rfl ?_;intro w1 ho1 hs1 hf1;refine Gz 1 ?_;refine Pu bQ rfl kA rfl rfl ho1 (hv.keep' hf1 (fun _ _ _=>id)) (by simp only[Tr];omega) (by simp only[Tr];unfold maxLen;omega) rfl ?_;intro o2 c2 w2 ho2 hf2 hr2 hn2;rw[TH] at ho2 ⊢;refine Gz 5 ?_;exact⟨_,rfl,o2,c2,rfl,ho2,fL (lB _) hr2 hf1.size,hf1.SJ hf2 (lB _).step⟩
theorem E4(ao:Option Addr)(c:Nat)(L:List (NdH×Nd))(W:World)(hv:VwM 10 aE W.heap ao c L)(hl:L.length≤1024) :
 CA 56 [.slice ao L.length c] W fun v w'=>∃ o c',v=.slice o L.length c'∧bS 10 aE 37 w'.heap o c' L∧Fr W.heap.size o∧aA nob W w':=by
 refine cS 8 [(0,_)] Tryz.func56 ?_;refine Gz 9 ?_;refine PD (Pv (Pz cC rfl rfl)) rfl (fun h4=>?_) (fun h4=>?_)
 ·refine Gz 11 ?_;obtain rfl:L=[]:=by
   apply S4;intro hne;have h0:ao=none:=by simpa using h4
   exact hv.non (by have:=S8.2 hne;omega) h0
  exact⟨_,rfl,none,0,rfl,.inl ⟨rfl,rfl,rfl⟩,R6,RY _ _⟩
 refine Gz 7 ?_;refine Qr aB cC rfl ?_;intro w1 ho1 hs1 hf1;refine Gz 1 ?_;refine Pu aB rfl cC rfl rfl ho1 (hv.keep' hf1 (fun _ _ _=>id)) (by simp only[Tr];omega) (by simp only[Tr];unfold maxLen;omega) rfl ?_;intro o2 c2 w2 ho2 hf2 hr2 hn2;rw[TH] at ho2 ⊢;refine Gz 5 ?_;exact⟨_,rfl,o2,c2,rfl,ho2,fL (lB _) hr2 hf1.size,hf1.SJ hf2 (lB _).step⟩
end
section
variable {P:Program}{ops:Array Oper}{CH:Array Obj→Prop}{N:Nt}{n:Nat}{R effs:List Nat}{K0:Act→World→Prop}{Q:Exit→Act→World→Prop}{l:SF}{w:World}
theorem Co{i:Nat}{oi:Oper}{v:Value}(hi:ops[i]?=some oi)(hsel:∀ (j:Nat) (o:Oper) cs b,ops[j]?=some o→o.op≠.select cs b)(hin:i≠n) :
 ∀ (fuel:Nat) (listed:Array Bool) (a:Act) (w:World),(listed.getD n false=false→CH w.heap) →
  (∀ j oj,ops[j]?=some oj→j≠i→listed.getD j true=false→(∀ e∈oj.after,Region.binds .any e=true→e.on≠i)→oi.apart ops oj=true) →
  i∈Region.ready .any ops listed→YC P ops (fun _=>True) oi v a →
  bI P .any ops n CH K0 fuel (listed.setIfInBounds i true) (a.put oi.dst v) w→bI P .any ops n CH K0 (fuel+1) listed a w:=by
 intro fuel
 induction fuel with
|zero=>
   intro listed a w hc _ hr hy H;refine⟨hc,fun h=>(by rw[h] at hr;cases hr),fun j hj=>?_⟩;by_cases hji:j=i
   ·subst hji;exact hy.wpOp hi trivial H
   · have:=ready_mono hj hji
     rw[H.2.1] at this;cases this
|succ fuel ih=>
   intro listed a w hc hfree hr hy H;refine⟨hc,fun h=>(by rw[h] at hr;cases hr),fun j hj=>?_⟩;by_cases hji:j=i
   ·subst hji;exact hy.wpOp hi trivial H
   · have h1:=H.2.2 j (ready_mono hj hji)
     obtain⟨hjun,oj,hoj,hall⟩:=mem_ready.1 hj;have hnot:∀ e∈oj.after,Region.binds .any e=true→e.on≠i:=fun e he hb heq=>by
      have h1:=hall e he hb;have h0:=(mem_ready.1 hr).1;rw[heq] at h1;rcases Us i listed.size with h'|h'
      ·simp[h'] at h0 h1;rw[h0] at h1;cases h1
      ·simp[US h'] at h1
     have h2:=oZ hoj (hfree j oj hoj hji hjun hnot) (fun cs b=>hsel i oi cs b hi) (fun cs b=>hsel j oj cs b hoj) hy h1;have hfree':∀ k ok,ops[k]?=some ok→k≠i→(listed.setIfInBounds j true).getD k true=false →
      (∀ e∈ok.after,Region.binds .any e=true→e.on≠i)→oi.apart ops ok=true:=fun k ok hk hki hun hno=>by
      refine hfree k ok hk hki ?_ hno;by_cases hjk:j=k
      ·subst hjk;exact hjun
      ·rw[getD_set_ne true hjk] at hun;exact hun
     have ch2:(listed.setIfInBounds j true).getD n false=false→((listed.setIfInBounds i true).setIfInBounds j true).getD n false=false:=fun h4=>by
      rw[UG _ _ (fun e=>hji e.symm),getD_set_ne false hin];exact h4
     refine wpOp_mono (fun a' w' h3=>ih (listed.setIfInBounds j true) a' w' (fun h4=>h3.2.ch (ch2 h4)) hfree' (ready_mono hr (Ne.symm hji)) h3.1 ?_) h2;rw[UG _ _ hji];exact h3.2
theorem Cn{i:Nat}{oi on:Oper}{v:Value}(hi:ops[i]?=some oi)(hsel:∀ (j:Nat) (o:Oper) cs b,ops[j]?=some o→o.op≠.select cs b)(hin:i≠n)(hon:ops[n]?=some on)(hw:∃ e∈on.after,Region.binds .any e=true∧e.on=i) :
 ∀ (fuel:Nat) (listed:Array Bool) (a:Act) (w:World),listed.getD n false=false→CH w.heap →
  (∀ j oj,ops[j]?=some oj→j≠i→listed.getD j true=false→(∀ e∈oj.after,Region.binds .any e=true→e.on≠i)→oi.apart ops oj=true) →
  i∈Region.ready .any ops listed→YC P ops CH oi v a →
  bI P .any ops n CH K0 fuel (listed.setIfInBounds i true) (a.put oi.dst v) w→bI P .any ops n CH K0 (fuel+1) listed a w:=by
 intro fuel
 induction fuel with
|zero=>
   intro listed a w hun hc _ hr hy H;refine⟨fun _=>hc,fun h=>(by rw[h] at hr;cases hr),fun j hj=>?_⟩;by_cases hji:j=i
   ·subst hji;exact hy.wpOp hi hc H
   · have:=ready_mono hj hji
     rw[H.2.1] at this;cases this
|succ fuel ih=>
   intro listed a w hun hc hfree hr hy H;refine⟨fun _=>hc,fun h=>(by rw[h] at hr;cases hr),fun j hj=>?_⟩;by_cases hji:j=i
   ·subst hji;exact hy.wpOp hi hc H
   · have h1:=H.2.2 j (ready_mono hj hji)
     obtain⟨hjun,oj,hoj,hall⟩:=mem_ready.1 hj;have hnot:∀ e∈oj.after,Region.binds .any e=true→e.on≠i:=fun e he hb heq=>by
      have h1:=hall e he hb;have h0:=(mem_ready.1 hr).1;rw[heq] at h1;rcases Us i listed.size with h'|h'
      ·simp[h'] at h0 h1;rw[h0] at h1;cases h1
      ·simp[US h'] at h1
     have hjn:j≠n:=fun e=>by
      subst e;obtain⟨e,he,hb,hei⟩:=hw;rw[hoj] at hon;cases hon;exact hnot e he hb hei
     have h2:=oZ hoj (hfree j oj hoj hji hjun hnot) (fun cs b=>hsel i oi cs b hi) (fun cs b=>hsel j oj cs b hoj) hy h1;have hfree':∀ k ok,ops[k]?=some ok→k≠i→(listed.setIfInBounds j true).getD k true=false →
      (∀ e∈ok.after,Region.binds .any e=true→e.on≠i)→oi.apart ops ok=true:=fun k ok hk hki hun hno=>by
      refine hfree k ok hk hki ?_ hno;by_cases hjk:j=k
      ·subst hjk;exact hjun
      ·rw[getD_set_ne true hjk] at hun;exact hun
     have hun':(listed.setIfInBounds j true).getD n false=false:=by rw[getD_set_ne false hjn];exact hun
     have ch2:((listed.setIfInBounds i true).setIfInBounds j true).getD n false=false:=by rw[getD_set_ne false hjn,getD_set_ne false hin];exact hun
     refine wpOp_mono (fun a' w' h3=>ih (listed.setIfInBounds j true) a' w' hun' (h3.2.ch ch2) hfree' (ready_mono hr (Ne.symm hji)) h3.1 ?_) h2;rw[UG _ _ hji];exact h3.2
def CHr(R:List Nat)(CH:Array Obj→Prop)(i:Nat):Array Obj→Prop:=bif R.contains i then CH else fun _=>True
def Sz(P:Program)(N:Nt)(ops:Array Oper)(n:Nat)(R:List Nat)(CH:Array Obj→Prop)(effs:List Nat)(K0:Act→World→Prop):Bool→List Nat→SF→World→Prop
|_,[],l,w=>∀ a,bV N l a→K0 a w
|fr,i::r,l,w=>∃ o,ops[i]?=some o ∧
   (bif effs.contains i then Sl P N ops (lF fun a w=>∃ l',bV N l' a∧((fr && !Uf i n)=true→CH w.heap)∧Sz P N ops n R CH effs K0 (fr && !Uf i n) r l' w) [o] l w
    else ∃ v,(∀ a,bV N l a→YC P ops (CHr R CH i) o v a)∧∃ l',(∀ a,bV N l a→bV N l' (a.put o.dst v))∧Sz P N ops n R CH effs K0 fr r l' w)
def KZ(P:Program)(N:Nt)(ops:Array Oper)(n:Nat)(R:List Nat)(CH:Array Obj→Prop)(effs:List Nat)(K0:Act→World→Prop):Bool→OT→Act→World→Prop
|_,.fin,a,w=>K0 a w
|_,.stop,_,_=>True
|fr,.alt i pre t u,a,w=>(∃ l',bV N l' a∧Sz P N ops n R CH effs (KZ P N ops n R CH effs K0 (fr && !Uf i n) t) fr (i::pre) l' w)∧KZ P N ops n R CH effs K0 fr u a w
def CV(ops:Array Oper)(n k:Nat):Bool:=match ops[n]? with|some o=>o.after.toList.any (fun e=>Region.binds .any e && Uf e.on k)|none=>false
def pF(ops:Array Oper)(n:Nat)(R effs:List Nat):List Nat→Array Bool→Option (Array Bool)
|[],L=>some L
|k::r,L=>bif (!effs.contains k) && (Region.ready .any ops L).contains k && Region.free .any ops L k && !Uf k n && (!R.contains k || (CV ops n k && !L.getD n false)) then pF ops n R effs r (L.setIfInBounds k true) else none
def okZ(ops:Array Oper)(n:Nat)(R effs:List Nat):Bool→Bool→OT→Array Bool→Bool
|_,_,.fin,L=>(Region.ready .any ops L).isEmpty
|_,top,.stop,_=>!top
|fr,top,.alt i pre t u,L=>(!top || (Region.ready .any ops L).all (i::u.heads).contains) && effs.contains i && (Region.ready .any ops L).contains i && (fr == !L.getD n false) && Tq i L.size &&
   (match pF ops n R effs pre (L.setIfInBounds i true) with|some L'=>okZ ops n R effs (fr && !Uf i n) true t L'|none=>false) && okZ ops n R effs fr false u L
theorem Gb{k:Nat}:∀ (pre:List Nat) (L L':Array Bool),pF ops n R effs pre L=some L'→L'.getD n false=L.getD n false
|[],L,L',h=>by simp only[pF,Option.some.injEq] at h;rw[h]
|k::r,L,L',h=>by
   cases hb:((!effs.contains k) && (Region.ready .any ops L).contains k && Region.free .any ops L k && !Uf k n && (!R.contains k || (CV ops n k && !L.getD n false))) with
  |false=>simp only[pF,hb,cond_false] at h;cases h
  |true=>
     simp only[pF,hb,cond_true] at h;simp only[Tl,UR] at hb;have hkn:k≠n:=fun e=>by have:=hb.1.2;rw[e,Nat.beq_refl] at this;cases this
     rw[Gb (k:=k) r _ _ h,getD_set_ne false hkn]
theorem sV(hsel:Region.noSelect ops=true){K:Act→World→Prop}{L':Array Bool}{m:Nat}{fr:Bool}
 (hK:∀ (f:Nat) (a:Act) (w:World),m≤f→(fr=true→CH w.heap)→K a w→bI P .any ops n CH K0 f L' a w) :
 ∀ (pre:List Nat) (f:Nat) (L:Array Bool) (l:SF) (a:Act) (w:World),pre.length+m≤f→pF ops n R effs pre L=some L'→(L.getD n false=false→fr=true)→bV N l a→(fr=true→CH w.heap)→Sz P N ops n R CH effs K fr pre l w→bI P .any ops n CH K0 f L a w
|[],f,L,l,a,w,hf,hp,hfr,ha,hc,h=>by
   simp only[pF,Option.some.injEq] at hp;subst hp;exact hK f a w (by simpa using hf) hc (h a ha)
|k::r,0,L,l,a,w,hf,hp,hfr,ha,hc,h=>by simp at hf
|k::r,f+1,L,l,a,w,hf,hp,hfr,ha,hc,h=>by
   obtain⟨o,ho,h⟩:=h;cases hb:((!effs.contains k) && (Region.ready .any ops L).contains k && Region.free .any ops L k && !Uf k n && (!R.contains k || (CV ops n k && !L.getD n false))) with
  |false=>simp only[pF,hb,cond_false] at hp;cases hp
  |true=>
     simp only[pF,hb,cond_true] at hp;simp only[Tl,UR,Ud] at hb;obtain⟨⟨⟨⟨he,m1⟩,m2⟩,m3⟩,m4⟩:=hb;have hkn:k≠n:=fun e=>by rw[e,Nat.beq_refl] at m3;cases m3
     rw[he] at h;simp only[cond_false] at h;obtain⟨v,hy,l',hl',hs⟩:=h;have hir:k∈Region.ready .any ops L:=by simpa using m1
     have hrec:=sV hsel hK r f _ l' _ w (by simp at hf;omega) hp (fun h0=>hfr (by rw[getD_set_ne false hkn] at h0;exact h0)) (hl' a ha) hc hs;cases hR:R.contains k with
    |false=>
       have hy2:YC P ops (fun _=>True) o v a:=by have:=hy a ha;unfold CHr at this;rw[hR] at this;exact this
       exact Co ho (Region.noSelect_spec hsel) hkn f L a w (fun h0=>hc (hfr h0)) (Region.free_spec ho m2) hir hy2 hrec
    |true=>
       have hy2:YC P ops CH o v a:=by have:=hy a ha;unfold CHr at this;rw[hR] at this;exact this
       obtain⟨m5,m6⟩:=m4.resolve_left (by rw[hR];decide);unfold CV at m5;cases hon:ops[n]? with
      |none=>rw[hon] at m5;cases m5
      |some on=>
         rw[hon] at m5;obtain⟨e,he1,he2⟩:=List.any_eq_true.1 m5;simp only[Tl,Nat.beq_eq] at he2;exact Cn ho (Region.noSelect_spec hsel) hkn hon ⟨e,by simpa using he1,he2.1,he2.2⟩ f L a w m6 (hc (hfr m6)) (Region.free_spec ho m2) hir hy2 hrec
theorem Ik{i:Nat}{pre:List Nat}{K:Act→World→Prop}{f:Nat}{L:Array Bool}{a:Act}{fr:Bool}(he:effs.contains i=true)(ha:bV N l a)
 (key:∀ l' a' w',bV N l' a'→((fr && !Uf i n)=true→CH w'.heap)→Sz P N ops n R CH effs K (fr && !Uf i n) pre l' w'→bI P .any ops n CH K0 f (L.setIfInBounds i true) a' w')
 (h:Sz P N ops n R CH effs K fr (i::pre) l w):wpOp P ops (lF K0) i (bI P .any ops n CH K0 f (L.setIfInBounds i true)) a w:=by
 obtain⟨o,ho,h⟩:=h;rw[he] at h;simp only[cond_true] at h;have h1:=h a ha;unfold wpList at h1;unfold wpOp;simp only[ho];have key2:∀ a' w',wpList P ops (lF fun a w=>∃ l',bV N l' a∧((fr && !Uf i n)=true→CH w.heap)∧Sz P N ops n R CH effs K (fr && !Uf i n) pre l' w) [] a' w'→bI P .any ops n CH K0 f (L.setIfInBounds i true) a' w':=by
  intro a' w' h2;obtain⟨l',h3,h4,h5⟩:=h2;exact key l' a' w' h3 h4 h5
 split
 · rename_i hw
   rw[SQ hw] at h1;rcases h1 with h1|⟨_,_,_,h1⟩
   ·exact .inl (R9 key2 h1)
   ·exact h1.elim
 · rename_i hw
   rw[SP hw] at h1;exact key2 _ _ h1
theorem kU(hsel:Region.noSelect ops=true):∀ (t:OT) (fr top:Bool) (f:Nat) (L:Array Bool) (a:Act) (w:World),t.dep≤f→okZ ops n R effs fr top t L=true→(L.getD n false=false→fr=true)→(fr=true→CH w.heap)→KZ P N ops n R CH effs K0 fr t a w →
 (top=true→bI P .any ops n CH K0 f L a w)∧∀ k∈t.heads,∃ f',f=f'+1∧wpOp P ops (lF K0) k (bI P .any ops n CH K0 f' (L.setIfInBounds k true)) a w
|.fin,fr,top,f,L,a,w,hf,hm,hfr,hc,h=>by
   have hr:Region.ready .any ops L=[]:=by simpa[okZ] using hm
   refine⟨fun _=>?_,fun k hk=>by cases hk⟩;cases f with
  |zero=>exact⟨fun h0=>hc (hfr h0),hr,h⟩
  |succ f=>exact⟨fun h0=>hc (hfr h0),fun _=>h,by rw[hr];simp⟩
|.stop,fr,top,f,L,a,w,hf,hm,hfr,hc,h=>by
   refine⟨fun e=>by subst e;simp[okZ] at hm,fun k hk=>by cases hk⟩
|.alt i pre t u,fr,top,f,L,a,w,hf,hm,hfr,hc,h=>by
   simp only[okZ,Tl] at hm;obtain⟨⟨⟨⟨⟨⟨m1,m2⟩,m3⟩,m4⟩,m5⟩,m6⟩,m7⟩:=hm;have hf1:pre.length+t.dep+1≤f:=Tt (Nat.le_max_left _ _) hf;have hf2:u.dep≤f:=Tt (Nat.le_max_right _ _) hf;obtain⟨f',rfl⟩:∃ f',f=f'+1:=⟨f-1,by omega⟩
   obtain⟨⟨l',ha,h1⟩,h2⟩:=h;have hi:i<L.size:=by simpa[T8] using m5
   have hr:i∈Region.ready .any ops L:=by simpa using m3
   have hu:=kU hsel u fr false (f'+1) L a w hf2 m7 hfr hc h2;have hfr2:(L.setIfInBounds i true).getD n false=false→(fr && !Uf i n)=true:=fun h0=>by
    by_cases hin:i=n
    ·subst hin;simp[hi] at h0
    · rw[getD_set_ne false hin] at h0
      rw[hfr h0];have:Uf i n=false:=by cases hb:Uf i n with|false=>rfl|true=>exact absurd (Nat.eq_of_beq_eq_true hb) hin
      rw[this];rfl
   have hhead:∀ k∈i::u.heads,∃ f'',f'+1=f''+1∧wpOp P ops (lF K0) k (bI P .any ops n CH K0 f'' (L.setIfInBounds k true)) a w:=by
    intro k hk;rcases Tm.1 hk with rfl|hk
    · refine⟨f',rfl,Ik m2 ha (fun l2 a2 w2 hl2 hc2 hs2=>?_) h1⟩
      cases hp:pF ops n R effs pre (L.setIfInBounds k true) with
     |none=>rw[hp] at m6;cases m6
     |some L'=>
        rw[hp] at m6;have hn':=Gb (k:=k) pre _ _ hp;exact sV hsel (m:=t.dep) (fun f3 a3 w3 hf3 hc3 hk3=>(kU hsel t _ true f3 L' a3 w3 hf3 m6 (fun h0=>hfr2 (by rw[←hn'];exact h0)) hc3 hk3).1 rfl) pre f' _ l2 a2 w2 (by omega) hp hfr2 hl2 hc2 hs2
    ·exact hu.2 k hk
   refine⟨fun e=>?_,hhead⟩;subst e;refine⟨fun h0=>hc (hfr h0),fun h0=>(by rw[h0] at hr;cases hr),fun k hk=>?_⟩;simp only[Bool.not_true,Bool.false_or,List.all_eq_true] at m1;obtain⟨f'',e1,hw⟩:=hhead k (by simpa using m1 k hk);obtain rfl:f'=f'':=by omega
   exact hw
theorem PW{id:Nat}{lops:List Oper}(n:Nat)(R:List Nat)(CH:Array Obj→Prop)(effs pre:List Nat)(t:OT)(hm:P.follows .mixedOrders=true)(hs:(Region.noSelect lops.toArray &&
 (match pF lops.toArray n R effs pre (UI lops.length false) with|some L'=>okZ lops.toArray n R effs true true t L'|none=>false) && Nat.ble (pre.length+t.dep) lops.length)=true)(hc:CH w.heap)
 (h:Sz P N lops.toArray n R CH effs (KZ P N lops.toArray n R CH effs (fun a w=>Q .normal a w) true t) true pre l (w.drewN 1)):Sc P N (.region id lops.toArray true) Q l w:=fun a ha=>by
 simp only[Tl] at hs;obtain⟨⟨hs,hok⟩,hlen⟩:=hs;have h1:bI P .any lops.toArray n CH (fun a w=>Q .normal a w) lops.length (UI lops.length false) a (w.drewN 1):=by
  cases hp:pF lops.toArray n R effs pre (UI lops.length false) with
 |none=>rw[hp] at hok;cases hok
 |some L'=>
    rw[hp] at hok;exact sV hs (m:=t.dep) (fr:=true) (fun f3 a3 w3 hf3 hc3 hk3=>(kU hs t true true f3 L' a3 w3 hf3 hok (fun _=>rfl) hc3 hk3).1 rfl) pre lops.length _ l a _ (by simpa[U6] using hlen) hp (fun _=>rfl) ha (fun _=>hc) h
 have h2:=wp_region_any (P:=P) (id:=id) (ops:=lops.toArray) (Q:=lF fun a w=>Q .normal a w) (a:=a) (w:=w) hm (by
  have:=h1.any;simpa[World.drewN] using this)
 refine wp_mono h2 ?_;intro e a' w' hq;cases e<;>first|exact hq|exact hq.elim
variable {r:List Nat}{i:Nat}{op:Op}{ty:TypeId}{pos:String}{aft:Array Edge}{d:Nat}{v:Value}{t u:OT}{fr:Bool}
theorem Sz.calm(hi:ops[i]?=some ⟨some d,op,ty,pos,aft,none⟩)(he:effs.contains i=false)(hv:Cm P N (CHr R CH i) l ⟨some d,op,ty,pos,aft,none⟩ v)(hd:Tq d N.n=true)
 (h:Sz P N ops n R CH effs K0 fr r ((d,v)::l) w):Sz P N ops n R CH effs K0 fr (i::r) l w:=
 ⟨_,hi,by rw[he];exact⟨v,fun a ha=>.inl ⟨by simp[Region.wanted],fun w hw=>hv a w ha hw⟩,_,fun a ha=>ha.put hd v,h⟩⟩
def KW(P:Program)(N:Nt)(ops:Array Oper)(n:Nat)(R:List Nat)(CH:Array Obj→Prop)(effs:List Nat)(K0:Act→World→Prop)(fr:Bool)(r:List Nat):Exit→Act→World→Prop:=lF fun a w=>∃ l',bV N l' a∧(fr=true→CH w.heap)∧Sz P N ops n R CH effs K0 fr r l' w
theorem Ss{o:Oper}(hi:ops[i]?=some o)(he:effs.contains i=true)(h:Sl P N ops (KW P N ops n R CH effs K0 (fr && !Uf i n) r) [o] l w):Sz P N ops n R CH effs K0 fr (i::r) l w:=
 ⟨_,hi,by rw[he];exact h⟩
theorem Sz.on(hc:CH w.heap)(h:Sz P N ops n R CH effs K0 fr r l w):Sl P N ops (KW P N ops n R CH effs K0 fr r) [] l w:=fun _ ha=>⟨l,ha,fun _=>hc,h⟩
theorem Sz.off(hf:fr=false)(h:Sz P N ops n R CH effs K0 fr r l w):Sl P N ops (KW P N ops n R CH effs K0 fr r) [] l w:=fun _ ha=>⟨l,ha,fun e=>absurd (hf.symm.trans e) (by decide),h⟩
theorem St(h:At N .normal Q l w):Sz P N ops n R CH effs (KZ P N ops n R CH effs (fun a w=>Q .normal a w) fr .fin) fr [] l w:=fun a ha=>h a ha
theorem Sz.alt{pre:List Nat}(h1:Sz P N ops n R CH effs (KZ P N ops n R CH effs K0 (fr && !Uf i n) t) fr (i::pre) l w)(h2:Sz P N ops n R CH effs (KZ P N ops n R CH effs K0 fr u) fr [] l w):Sz P N ops n R CH effs (KZ P N ops n R CH effs K0 fr (.alt i pre t u)) fr [] l w:=fun a ha=>⟨⟨l,ha,h1⟩,h2 a ha⟩
theorem Sz.stop:Sz P N ops n R CH effs (KZ P N ops n R CH effs K0 fr .stop) fr [] l w:=fun _ _=>trivial
end
theorem G2{xs:List Int}{i k:Nat}{u:Int}(hi:i<xs.length):(xs.set i u).getD k 0=if k=i then u else xs.getD k 0:=by
 by_cases h:k=i
 ·subst h;rw[SQ rfl,S6,List.getElem?_set_self hi];rfl
 ·rw[SP h,S6,List.getElem?_set_ne (fun e=>h e.symm)];rfl
def wx(i j k:Nat):Nat:=if k=j then i else if k=i then j else k
def gX(xs:List Int)(i j:Nat):List Int:=(xs.set i (xs.getD j 0)).set j (xs.getD i 0)
theorem kX(xs:List Int)(i j:Nat):(gX xs i j).length=xs.length:=by simp[gX]
theorem lU{xs:List Int}{i j k:Nat}(hi:i<xs.length)(hj:j<xs.length):(gX xs i j).getD k 0=xs.getD (wx i j k) 0:=by
 unfold gX wx;rw[G2 (by simpa using hj),G2 hi];by_cases h1:k=j
 ·rw[SQ h1,SQ h1]
 · rw[SP h1,SP h1]
   by_cases h2:k=i
   ·rw[SQ h2,SQ h2]
   ·rw[SP h2,SP h2]
theorem swap_perm{xs:List Int}{i j:Nat}(hi:i<xs.length)(hj:j<xs.length):(gX xs i j).Perm xs:=by
 have h:=Array.swap_perm (xs:=xs.toArray) (i:=i) (j:=j) (by simpa using hi) (by simpa using hj);have e1:xs.getD j 0=xs[j]:=by simp[S6,hj]
 have e2:xs.getD i 0=xs[i]:=by simp[S6,hi]
 have e:(xs.toArray.swap i j (by simpa using hi) (by simpa using hj)).toList=gX xs i j:=by
  unfold gX;rw[e1,e2];simp[Array.swap]
 have h2:=Array.perm_iff_toList_perm.1 h;rw[e] at h2;exact h2
def sx(a b n k:Nat):Nat:=if a≤k∧k<a+n then k-a+b else if b≤k∧k<b+n then k-b+a else k
theorem lI(a b n k:Nat):(a≤k∧k<a+n∧sx a b n k=k-a+b)∨(¬ (a≤k∧k<a+n)∧b≤k∧k<b+n∧sx a b n k=k-b+a)∨(¬ (a≤k∧k<a+n)∧¬ (b≤k∧k<b+n)∧sx a b n k=k):=by
 unfold sx;by_cases h1:a≤k∧k<a+n
 ·rw[SQ h1];exact .inl ⟨h1.1,h1.2,rfl⟩
 · rw[SP h1]
   by_cases h2:b≤k∧k<b+n
   ·rw[SQ h2];exact .inr (.inl ⟨h1,h2.1,h2.2,rfl⟩)
   ·rw[SP h2];exact .inr (.inr ⟨h1,h2,rfl⟩)
theorem Il(a b k:Nat):sx a b 0 k=k:=by have:=lI a b 0 k;omega
theorem eO(i j k:Nat):(k=j∧wx i j k=i)∨(k≠j∧k=i∧wx i j k=j)∨(k≠j∧k≠i∧wx i j k=k):=by
 unfold wx;by_cases h1:k=j
 ·rw[SQ h1];exact .inl ⟨h1,rfl⟩
 · rw[SP h1]
   by_cases h2:k=i
   ·rw[SQ h2];exact .inr (.inl ⟨h1,h2,rfl⟩)
   ·rw[SP h2];exact .inr (.inr ⟨h1,h2,rfl⟩)
theorem Im{a b i k:Nat}(h:a+i<b):sx a b i (wx (a+i) (b+i) k)=sx a b (i+1) k:=by
 have h1:=eO (a+i) (b+i) k;have h2:=lI a b i (wx (a+i) (b+i) k);have h3:=lI a b (i+1) k;omega
def rx(a m b k:Nat):Nat:=if a≤k∧k<a+(b-m) then k-a+m else if a+(b-m)≤k∧k<b then k-(b-m) else k
theorem dM(a m b k:Nat):(a≤k∧k<a+(b-m)∧rx a m b k=k-a+m)∨(¬ (a≤k∧k<a+(b-m))∧a+(b-m)≤k∧k<b∧rx a m b k=k-(b-m))∨(¬ (a≤k∧k<a+(b-m))∧¬ (a+(b-m)≤k∧k<b)∧rx a m b k=k):=by
 unfold rx;by_cases h1:a≤k∧k<a+(b-m)
 ·rw[SQ h1];exact .inl ⟨h1.1,h1.2,rfl⟩
 · rw[SP h1]
   by_cases h2:a+(b-m)≤k∧k<b
   ·rw[SQ h2];exact .inr (.inl ⟨h1,h2.1,h2.2,rfl⟩)
   ·rw[SP h2];exact .inr (.inr ⟨h1,h2,rfl⟩)
theorem J7{m i j k:Nat}(h:j<i)(hj:0<j)(him:i≤m):sx (m-i) m j (rx (m-(i-j)) m (m+j) k)=rx (m-i) m (m+j) k:=by
 have h1:=dM (m-(i-j)) m (m+j) k;have h2:=lI (m-i) m j (rx (m-(i-j)) m (m+j) k);have h3:=dM (m-i) m (m+j) k;omega
theorem J6{m i j k:Nat}(h:i<j)(hi:0<i)(him:i≤m):sx (m-i) (m+(j-i)) i (rx (m-i) m (m+(j-i)) k)=rx (m-i) m (m+j) k:=by
 have h1:=dM (m-i) m (m+(j-i)) k;have h2:=lI (m-i) (m+(j-i)) i (rx (m-i) m (m+(j-i)) k);have h3:=dM (m-i) m (m+j) k;omega
theorem LM{m i k:Nat}(him:i≤m):sx (m-i) m i k=rx (m-i) m (m+i) k:=by
 have h2:=lI (m-i) m i k;have h3:=dM (m-i) m (m+i) k;omega
theorem dY(x:Int):(i64 x).oneCell'=true:=rfl
def StI(W0:World)(o:Option Addr)(c n:Nat)(xs:List Int)(w:World):Prop:=Own i64 3 w.heap o c xs∧xs.length=n∧aA (blk o) W0 w
theorem StI.draws{W0:World}{o:Option Addr}{c n:Nat}{xs:List Int}{w:World}(h:StI W0 o c n xs w)(k:Nat):StI W0 o c n xs (w.drewN k):=⟨h.1,h.2.1,h.2.2.draws k⟩
theorem StI.SN{W0:World}{o:Option Addr}{c n:Nat}{xs:List Int}{w w':World}(h:StI W0 o c n xs w)(f:aA nob w w'):StI W0 o c n xs w':=⟨h.1.SN f,h.2.1,h.2.2.trans (f.mono (fun _ h=>h.elim))⟩
theorem sG(W0:World)(o:Option Addr)(c n a b m:Nat)(fv:Value)(xs:List Int)(W:World)(h:StI W0 o c n xs W)(hab:a+m≤b)(hbm:b+m≤n)(hn:n≤1000000) :
 CA 237 [.slice o n c,iV a,iV b,iV m,fv] W fun v w'=>v=.tuple #[]∧∃ ys,StI W0 o c n ys w'∧ys.Perm xs∧∀ k,ys.getD k 0=xs.getD (sx a b m k) 0:=by
 refine cS 38 [(0,_),(1,_),(2,_),(3,_),(4,_)] Tryz.func237 ?_;refine Gz 6 ?_;refine Pb (β:=Nat×List Int) (fun⟨i,ys⟩=>[(0,.slice o n c),(1,iV a),(2,iV b),(3,iV m),(10,iV i)]) (fun⟨i,ys⟩ w=>i≤m∧StI W0 o c n ys w∧ys.Perm xs∧∀ k,ys.getD k 0=xs.getD (sx a b i k) 0) (fun⟨i,ys⟩=>m-i) ⟨0,xs⟩ ⟨rfl,rfl,rfl,rfl,rfl,trivial⟩ ⟨S3 _,h,List.Perm.refl _,fun k=>by rw[Il]⟩ ?_;rintro⟨i,ys⟩ w2 ⟨hi,hy,hp,hk⟩;refine fK 5 ?_ ?_<;>intro h13
 ·have him:i<m:=by omega
  refine Gz 7 ?_;have hyl:=hy.2.1;refine PW 21 [13,19] (fun H=>Vw i64 H o c ys) [21,23] [0,1,2,3,4,5,6,7,8,9,10,11,12,13,14,15,16,17,18,19,20] (.alt 21 [22] (.alt 23 [] .fin .stop) .stop) aJ (by kernel_rfl) (hy.1.vw) ?_;refine Sz.calm rfl rfl (Pc rfl) rfl ?_;refine Sz.calm rfl rfl (Pc rfl) rfl ?_;refine Sz.calm rfl rfl (Pc rfl) rfl ?_;refine Sz.calm rfl rfl (PR rfl rfl (by omega)) rfl ?_;refine Sz.calm rfl rfl (Pc rfl) rfl ?_;refine Sz.calm rfl rfl (Pc rfl) rfl ?_;refine Sz.calm rfl rfl (Pc rfl) rfl ?_;refine Sz.calm rfl rfl (PR rfl rfl (by omega)) rfl ?_;refine Sz.calm rfl rfl (Pc rfl) rfl ?_;refine Sz.calm rfl rfl (Pc rfl) rfl ?_;refine Sz.calm rfl rfl (Pc rfl) rfl ?_;refine Sz.calm rfl rfl (PR rfl rfl (by omega)) rfl ?_;refine Sz.calm rfl rfl (O5 bR rfl rfl (by rw[←hy.2.1];exact hy.1.vw.non) (by omega)) rfl ?_;refine Sz.calm rfl rfl (Pe aK rfl (fun H (hH:Vw i64 H o c ys)=>hH.gz 0 (b+i) (by omega) (by omega))) rfl ?_;refine Sz.calm rfl rfl (Pc rfl) rfl ?_;refine Sz.calm rfl rfl (Pc rfl) rfl ?_;refine Sz.calm rfl rfl (Pc rfl) rfl ?_;refine Sz.calm rfl rfl (PR rfl rfl (by omega)) rfl ?_;refine Sz.calm rfl rfl (O5 bR rfl rfl (by rw[←hy.2.1];exact hy.1.vw.non) (by omega)) rfl ?_;refine Sz.calm rfl rfl (Pe aK rfl (fun H (hH:Vw i64 H o c ys)=>hH.gz 0 (a+i) (by omega) (by omega))) rfl ?_;refine Sz.calm rfl rfl (O5 bR rfl rfl (by rw[←hy.2.1];exact hy.1.vw.non) (by omega)) rfl ?_;refine Sz.alt ?_ ?_
  ·refine Ss rfl rfl (PE dY aK (z:=(a:Int)+i) (u:=ys.getD (b+i) 0) rfl rfl (hy.draws 1).1 (by omega) ?_);intro w3 ho3 hs3 hf3;refine Sz.off rfl ?_;refine Sz.calm rfl rfl (O5 bR rfl rfl (by rw[←hy.2.1];exact hy.1.vw.non) (by omega)) rfl ?_;refine Sz.alt ?_ ?_
   ·refine Ss rfl rfl (PE dY aK (z:=(b:Int)+i) (u:=ys.getD (a+i) 0) rfl rfl ho3 (by rw[TL];omega) ?_);intro w4 ho4 hs4 hf4;have e1:((a:Int)+i).toNat=a+i:=by omega
    have e2:((b:Int)+i).toNat=b+i:=by omega
    rw[e1,e2] at ho4;refine Sz.off rfl ?_;refine St ?_;refine Gz 7 ?_;refine aG ⟨i+1,gX ys (a+i) (b+i)⟩ ⟨by omega,⟨ho4,by rw[kX];exact hyl,((hy.2.2.draws 1).trans hf3).trans hf4⟩,(swap_perm (by omega) (by omega)).trans hp,fun k=>?_⟩ (by show m-(i+1)<m-i;omega);rw[lU (by omega) (by omega),hk,Im (by omega)]
   exact Sz.stop
  exact Sz.stop
 have hie:i=m:=by omega
 subst hie;refine Gz 7 ?_;refine Pw rfl ?_;exact⟨_,rfl,rfl,ys,hy,hp,hk⟩
theorem Ed(W0:World)(o:Option Addr)(c n a m b:Nat)(fv:Value)(xs:List Int)(W:World)(h:StI W0 o c n xs W)(ham:a<m)(hmb:m<b)(hbn:b≤n)(hn:n≤1000000) :
 CA 236 [.slice o n c,iV a,iV m,iV b,fv] W fun v w'=>v=.tuple #[]∧∃ ys,StI W0 o c n ys w'∧ys.Perm xs∧∀ k,ys.getD k 0=xs.getD (rx a m b k) 0:=by
 refine cS 58 [(0,_),(1,_),(2,_),(3,_),(4,_)] Tryz.func236 ?_;refine Gz 18 ?_;refine Pb (β:=Nat×Nat×List Int) (fun⟨i,j,ys⟩=>[(0,.slice o n c),(2,iV m),(4,fv),(10,iV i),(11,iV j)]) (fun⟨i,j,ys⟩ w=>(0<i∧0<j∧i≤m∧m+j≤n)∧StI W0 o c n ys w∧ys.Perm xs∧∀ k,xs.getD (rx a m b k) 0=ys.getD (rx (m-i) m (m+j) k) 0) (fun⟨i,j,ys⟩=>i+j) ⟨m-a,b-m,xs⟩ ⟨rfl,rfl,rfl,(congrArg (fun z:Int=>some (Value.int .i64 z)) (by omega)),(congrArg (fun z:Int=>some (Value.int .i64 z)) (by omega)),trivial⟩ ⟨⟨by omega,by omega,by omega,by omega⟩,h,List.Perm.refl _,fun k=>by rw[show m-(m-a)=a by omega,show m+(b-m)=b by omega]⟩ ?_;rintro⟨i,j,ys⟩ w2 ⟨⟨hi0,hj0,him,hjn⟩,hy,hp,hk⟩;refine fK 5 ?_ ?_<;>intro h20
 ·refine fK 10 ?_ ?_<;>intro h23
  ·refine Gz 12 ?_;obtain⟨a1,ha1⟩:∃ a1:Nat,a1=m-i:=⟨_,rfl⟩
   refine O6 Hc rfl ((by rw[show ((m:Int)-i)=((m-i:Nat):Int) by omega];exact sG W0 o c n (m-i) m j fv ys w2 hy (by omega) (by omega) hn)) rfl ?_;rintro _ w3 ⟨rfl,zs,hz,hzp,hzk⟩;refine Gz 9 ?_
   first
   |exact Po ⟨i-j,j,zs⟩ ⟨rfl,rfl,rfl,congrArg (fun z:Int=>some (Value.int .i64 z)) (by omega),rfl,trivial⟩ ⟨⟨by omega,by omega,by omega,by omega⟩,hz,hzp.trans hp,fun k=>by rw[hk,hzk,J7 (by omega) hj0 him]⟩ (by show i-j+j<i+j;omega)
   |exact Po ⟨i,j-i,zs⟩ ⟨rfl,rfl,rfl,rfl,congrArg (fun z:Int=>some (Value.int .i64 z)) (by omega),trivial⟩ ⟨⟨by omega,by omega,by omega,by omega⟩,hz,hzp.trans hp,fun k=>by rw[hk,hzk,J6 (by omega) hi0 him]⟩ (by show i+(j-i)<i+j;omega)
  refine Gz 16 ?_;refine O6 Hc rfl ((by rw[show ((m:Int)-i)=((m-i:Nat):Int) by omega,show ((m:Int)+j-i)=((m+(j-i):Nat):Int) by omega];exact sG W0 o c n (m-i) (m+(j-i)) i fv ys w2 hy (by omega) (by omega) hn)) rfl ?_;rintro _ w3 ⟨rfl,zs,hz,hzp,hzk⟩;refine Gz 9 ?_
  first
  |exact Po ⟨i-j,j,zs⟩ ⟨rfl,rfl,rfl,congrArg (fun z:Int=>some (Value.int .i64 z)) (by omega),rfl,trivial⟩ ⟨⟨by omega,by omega,by omega,by omega⟩,hz,hzp.trans hp,fun k=>by rw[hk,hzk,J7 (by omega) hj0 him]⟩ (by show i-j+j<i+j;omega)
  |exact Po ⟨i,j-i,zs⟩ ⟨rfl,rfl,rfl,rfl,congrArg (fun z:Int=>some (Value.int .i64 z)) (by omega),trivial⟩ ⟨⟨by omega,by omega,by omega,by omega⟩,hz,hzp.trans hp,fun k=>by rw[hk,hzk,J6 (by omega) hi0 him]⟩ (by show i+(j-i)<i+j;omega)
 have hij:i=j:=by omega
 subst hij;refine Gz 16 ?_;refine O6 Hc rfl ((by rw[show ((m:Int)-i)=((m-i:Nat):Int) by omega];exact sG W0 o c n (m-i) m i fv ys w2 hy (by omega) (by omega) hn)) rfl ?_;rintro _ w3 ⟨rfl,zs,hz,hzp,hzk⟩;refine Gz 1 ?_;refine Pw rfl ?_;exact⟨_,rfl,rfl,zs,hz,hzp.trans hp,fun k=>by rw[hk,hzk,LM him]⟩
section
variable {K:Int→List (List UInt8)}
def ltS(K:Int→List By)(x y:Int):Prop:=bZ (K x) (K y)<0∨(bZ (K x) (K y)=0∧x<y)
theorem lP{x y z:Int}(h1:ltS K x y)(h2:ltS K y z):ltS K x z:=by
 rcases h1 with h1|⟨h1,g1⟩
 · rcases h2 with h2|⟨h2,g2⟩
   ·exact .inl (nC h1 h2)
   ·rw[jU h2] at h1;exact .inl h1
 · rcases h2 with h2|⟨h2,g2⟩
   ·rw[←jU h1] at h2;exact .inl h2
   ·exact .inr ⟨by rw[jU h1,h2],by omega⟩
theorem lO{x y:Int}(h:bZ (K y) (K x)<0):ltS K y x:=.inl h
theorem mU{x y:Int}(hxy:x<y)(h:¬ bZ (K y) (K x)<0):ltS K x y:=by
 have:=uG (K y) (K x);by_cases e:bZ (K x) (K y)=0
 ·exact .inr ⟨e,hxy⟩
 ·exact .inl (by omega)
end
def Srt(K:Int→List By)(xs:List Int)(a b:Nat):Prop:=∀ i j:Nat,a≤i→i<j→j<b→ltS K (xs.getD i 0) (xs.getD j 0)
def Inc(xs:List Int)(a b:Nat):Prop:=∀ i j:Nat,a≤i→i<j→j<b→xs.getD i 0<xs.getD j 0
def StB(xs:List Int)(a m b:Nat):Prop:=∀ i j:Nat,a≤i→i<m→m≤j→j<b→xs.getD i 0<xs.getD j 0
def Seg(xs ys:List Int)(a b:Nat):Prop:=ys.length=xs.length∧ys.Perm xs∧(∀ k:Nat,(k<a∨b≤k)→ys.getD k 0=xs.getD k 0)∧∀ k:Nat,a≤k→k<b→∃ k':Nat,a≤k'∧k'<b∧ys.getD k 0=xs.getD k' 0
theorem Su(xs:List Int)(a b:Nat):Seg xs xs a b:=⟨rfl,List.Perm.refl _,fun _ _=>rfl,fun k h1 h2=>⟨k,h1,h2,rfl⟩⟩
theorem Seg.trans{xs ys zs:List Int}{a b:Nat}(h:Seg xs ys a b)(g:Seg ys zs a b):Seg xs zs a b:=
 ⟨g.1.trans h.1,g.2.1.trans h.2.1,fun k hk=>(g.2.2.1 k hk).trans (h.2.2.1 k hk),fun k h1 h2=>by
  obtain⟨k',a1,a2,a3⟩:=g.2.2.2 k h1 h2;obtain⟨k'',b1,b2,b3⟩:=h.2.2.2 k' a1 a2;exact⟨k'',b1,b2,a3.trans b3⟩⟩
theorem Seg.wide{xs ys:List Int}{a b a' b':Nat}(h:Seg xs ys a b)(ha:a'≤a)(hb:b≤b'):Seg xs ys a' b':=
 ⟨h.1,h.2.1,fun k hk=>h.2.2.1 k (by omega),fun k h1 h2=>by
  by_cases hk:a≤k∧k<b
  · obtain⟨k',a1,a2,a3⟩:=h.2.2.2 k hk.1 hk.2
    exact⟨k',by omega,by omega,a3⟩
  ·exact⟨k,h1,h2,h.2.2.1 k (by omega)⟩⟩
theorem Seg.swap{xs ys:List Int}{a b i j:Nat}(h:Seg xs ys a b)(hi:a≤i∧i<b)(hj:a≤j∧j<b)(hb:b≤ys.length):Seg xs (gX ys i j) a b:=by
 refine h.trans ⟨kX _ _ _,swap_perm (by omega) (by omega),fun k hk=>?_,fun k h1 h2=>⟨wx i j k,?_,?_,lU (by omega) (by omega)⟩⟩
 · rw[lU (by omega) (by omega)]
   have:=eO i j k;rw[show wx i j k=k by omega]
 ·have:=eO i j k;omega
 ·have:=eO i j k;omega
theorem G3{xs:List Int}{k:Nat}(h:k<xs.length):xs.getD k 0∈xs:=by
 have:xs.getD k 0=xs[k]:=by simp[S6,h]
 rw[this];exact List.getElem_mem h
structure J4 (W0:World)(o:Option Addr)(f:FuncId)(cs:List Value)(V:Int→Prop)(K:Int→List By):Prop where
 fn:fnB Tryz.prog f=true
 call:∀ (w:World) (x y:Int),aA (blk o) W0 w→V x→V y→Calls Tryz.prog f ([Value.int .i64 x,Value.int .i64 y]++cs).toArray w (Ret fun v w'=>v=iV (bZ (K x) (K y))∧aA nob w w')
def Fh(K:Int→List By)(ys:List Int)(a i j:Nat):Prop:=(∀ p q:Nat,a≤p→p<q→q≤i→p≠j→q≠j→ltS K (ys.getD p 0) (ys.getD q 0))∧(∀ q:Nat,j<q→q≤i→ltS K (ys.getD j 0) (ys.getD q 0))∧∀ p:Nat,a≤p→p≤i→p≠j→ys.getD p 0<ys.getD j 0
theorem Fh.step{K:Int→List By}{ys:List Int}{a i j:Nat}(h:Fh K ys a i j)(haj:a<j)(hji:j≤i)(hi:i<ys.length)(hl:bZ (K (ys.getD j 0)) (K (ys.getD (j-1) 0))<0):Fh K (gX ys j (j-1)) a i (j-1):=by
 obtain⟨h1,h2,h3⟩:=h;have g:∀ k,(gX ys j (j-1)).getD k 0=ys.getD (wx j (j-1) k) 0:=fun k=>lU (by omega) (by omega);have gj:(gX ys j (j-1)).getD (j-1) 0=ys.getD j 0:=by rw[g];have:=eO j (j-1) (j-1);rw[show wx j (j-1) (j-1)=j by omega]
 refine⟨fun p q hp hpq hq n1 n2=>?_,fun q hq hqi=>?_,fun p hp hpi hne=>?_⟩
 · rw[g,g]
   have s1:=eO j (j-1) p;have s2:=eO j (j-1) q;exact h1 _ _ (by omega) (by omega) (by omega) (by omega) (by omega)
 · rw[gj,g]
   have s2:=eO j (j-1) q;by_cases e:q=j
   ·rw[show wx j (j-1) q=j-1 by omega];exact .inl hl
   ·rw[show wx j (j-1) q=q by omega];exact h2 q (by omega) hqi
 · rw[gj,g]
   have s2:=eO j (j-1) p;exact h3 _ (by omega) (by omega) (by omega)
theorem Fh.done{K:Int→List By}{ys:List Int}{a i j:Nat}(h:Fh K ys a i j)(haj:a≤j)(hji:j≤i)(hs:a<j→¬ bZ (K (ys.getD j 0)) (K (ys.getD (j-1) 0))<0):Srt K ys a (i+1):=by
 obtain⟨h1,h2,h3⟩:=h;have hl:∀ p,a≤p→p<j→ltS K (ys.getD p 0) (ys.getD j 0):=fun p hp hpj=>by
  have h4:=mU (h3 (j-1) (by omega) (by omega) (by omega)) (hs (by omega));by_cases e:p=j-1
  ·rw[e];exact h4
  ·exact lP (h1 p (j-1) hp (by omega) (by omega) (by omega) (by omega)) h4
 intro p q hp hpq hq;by_cases e1:p=j
 ·subst e1;exact h2 q hpq (by omega)
 · by_cases e2:q=j
   ·subst e2;exact hl p hp hpq
   ·exact h1 p q hp hpq (by omega) e1 e2
theorem tP{K:Int→List By}{V:Int→Prop}{f:FuncId}{cs:List Value}(W0:World)(o:Option Addr)(hC:J4 W0 o f cs V K)(c n a b:Nat)(xs:List Int)(W:World)(h:StI W0 o c n xs W)(hV:∀ z∈xs,V z)(hab:a≤b)(hbn:b≤n)(hn:n≤1000000)(hinc:Inc xs a b) :
 CA 229 [.slice o n c,iV a,iV b,.func (.func f) #[] cs.toArray] W fun v w'=>v=.tuple #[]∧∃ ys,StI W0 o c n ys w'∧Seg xs ys a b∧Srt K ys a b:=by
 refine cS 53 [(0,_),(1,_),(2,_),(3,_)] Tryz.func229 ?_;refine Gz 8 ?_;refine Pb (β:=Nat×List Int) (fun⟨i,ys⟩=>[(0,.slice o n c),(1,iV a),(2,iV b),(3,.func (.func f) #[] cs.toArray),(8,iV i)]) (fun⟨i,ys⟩ w=>(a<i∧(i≤b∨i=a+1))∧StI W0 o c n ys w∧Seg xs ys a (min i b)∧Srt K ys a i) (fun⟨i,ys⟩=>b-i) ⟨a+1,xs⟩ ⟨rfl,rfl,rfl,rfl,rfl,trivial⟩ ⟨⟨by omega,.inr rfl⟩,h,Su _ _ _,fun p q h1 h2 h3=>by omega⟩ ?_;rintro⟨i,ys⟩ w2 ⟨⟨hai,hib0⟩,hy,hs1,ht1⟩;refine fK 5 ?_ ?_<;>intro h14
 ·have hib:i<b:=by omega
  have hyl:=hy.2.1;refine Gz 5 ?_;refine PI (β:=List Int) (fun vs=>[(0,.slice o n c),(1,iV a),(2,iV b),(3,.func (.func f) #[] cs.toArray),(8,iV i)]) (fun vs w=>StI W0 o c n vs w∧Seg xs vs a (i+1)∧Srt K vs a (i+1)) ?_ ?_
  ·refine Gz 8 ?_;refine Pb (β:=Nat×List Int) (fun⟨j,zs⟩=>[(0,.slice o n c),(1,iV a),(2,iV b),(3,.func (.func f) #[] cs.toArray),(8,iV i),(9,iV j)]) (fun⟨j,zs⟩ w=>a≤j∧j≤i∧StI W0 o c n zs w∧Seg xs zs a (i+1)∧Fh K zs a i j) (fun⟨j,zs⟩=>j) ⟨i,ys⟩ ⟨rfl,rfl,rfl,rfl,rfl,rfl,trivial⟩ ⟨by omega,SY _,hy,by rw[T6 (by omega)] at hs1;exact hs1.wide (SY _) (by omega),⟨fun p q h1 h2 h3 h4 h5=>ht1 p q h1 h2 (by omega),fun q h1 h2=>by omega,fun p h1 h2 h3=>by rw[T6 (by omega)] at hs1;obtain⟨k,k1,k2,k3⟩:=hs1.2.2.2 p h1 (by omega);rw[k3,hs1.2.2.1 i (.inr (SY _))];exact hinc k i k1 k2 hib⟩⟩ ?_;rintro⟨j,zs⟩ w4 ⟨haj,hji,hz,hs2,hI⟩;refine Gz 2 ?_;refine Pk 17 (fun H=>Vw i64 H o c zs) [14] [0,1,2,3,4,5,6,7,8,9,10,11,12,13,14,15,16] aJ (by kernel_rfl) (hz.1.vw) ?_;refine xK 2 ?_ ?_<;>intro h20
   ·have hzl:=hz.2.1;have hVz:∀ k:Nat,k<n→V (zs.getD k 0):=fun k hk=>hV _ (hs2.2.1.mem_iff.1 (G3 (by omega)));refine Gz 4 ?_;refine xV rfl (O5 bR rfl rfl (by rw[←hz.2.1];exact hz.1.vw.non) (by omega)) ?_;refine xV rfl (Pe aK rfl (fun H (hH:Vw i64 H o c zs)=>hH.gz 0 j rfl (by omega))) ?_;refine Gz 3 ?_;refine xV rfl (O5 bR rfl rfl (by rw[←hz.2.1];exact hz.1.vw.non) (by omega)) ?_;refine xV rfl (Pe aK rfl (fun H (hH:Vw i64 H o c zs)=>hH.gz 0 (j-1) (by omega) (by omega))) ?_;refine Ph rfl rfl (Rh rfl rfl <| PO hC.fn rfl rfl (hC.call _ (zs.getD j 0) (zs.getD (j-1) 0) (hz.draws 1).2.2 (hVz j (by omega)) (hVz (j-1) (by omega))) rfl ?_);intro v5 w5 hr5;obtain⟨rfl,hf5⟩:=hr5;have hz5:StI W0 o c n zs w5:=(hz.draws 1).SN hf5;refine Pn (by exact hz5.1.vw) ?_;refine xW 0 ?_ ?_<;>intro h33
    ·refine Gz 8 ?_;refine PW 15 [9,13] (fun H=>Vw i64 H o c zs) [15,17] [0,1,2,3,4,5,6,7,8,9,10,11,12,13,14] (.alt 15 [16] (.alt 17 [] .fin .stop) .stop) aJ (by kernel_rfl) (hz5.1.vw) ?_;refine Sz.calm rfl rfl (Pc rfl) rfl ?_;refine Sz.calm rfl rfl (Pc rfl) rfl ?_;refine Sz.calm rfl rfl (Pc rfl) rfl ?_;refine Sz.calm rfl rfl (Pc rfl) rfl ?_;refine Sz.calm rfl rfl (PY rfl rfl (by omega)) rfl ?_;refine Sz.calm rfl rfl (Pc rfl) rfl ?_;refine Sz.calm rfl rfl (Pc rfl) rfl ?_;refine Sz.calm rfl rfl (PY rfl rfl (by omega)) rfl ?_;refine Sz.calm rfl rfl (O5 bR rfl rfl (by rw[←hz.2.1];exact hz.1.vw.non) (by omega)) rfl ?_;refine Sz.calm rfl rfl (Pe aK rfl (fun H (hH:Vw i64 H o c zs)=>hH.gz 0 (j-1) (by omega) (by omega))) rfl ?_;refine Sz.calm rfl rfl (Pc rfl) rfl ?_;refine Sz.calm rfl rfl (Pc rfl) rfl ?_;refine Sz.calm rfl rfl (O5 bR rfl rfl (by rw[←hz.2.1];exact hz.1.vw.non) (by omega)) rfl ?_;refine Sz.calm rfl rfl (Pe aK rfl (fun H (hH:Vw i64 H o c zs)=>hH.gz 0 j rfl (by omega))) rfl ?_;refine Sz.calm rfl rfl (O5 bR rfl rfl (by rw[←hz.2.1];exact hz.1.vw.non) (by omega)) rfl ?_;refine Sz.alt ?_ ?_
     ·refine Ss rfl rfl (PE dY aK (z:=(j:Int)) (u:=zs.getD (j-1) 0) rfl rfl (hz5.draws 1).1 (by omega) ?_);intro w6 ho6 hs6 hf6;refine Sz.off rfl ?_;refine Sz.calm rfl rfl (O5 bR rfl rfl (by rw[←hz.2.1];exact hz.1.vw.non) (by omega)) rfl ?_;refine Sz.alt ?_ ?_
      ·refine Ss rfl rfl (PE dY aK (z:=(j:Int)-1) (u:=zs.getD j 0) rfl rfl ho6 (by rw[TL];omega) ?_);intro w7 ho7 hs7 hf7;have e2:((j:Int)-1).toNat=j-1:=by omega
       rw[e2] at ho7;refine Sz.off rfl ?_;refine St ?_;refine Gz 7 ?_;exact Po ⟨j-1,gX zs j (j-1)⟩ ⟨rfl,rfl,rfl,rfl,rfl,congrArg (fun z:Int=>some (Value.int .i64 z)) (by omega),trivial⟩ ⟨by omega,by omega,⟨ho7,by rw[kX];exact hzl,((hz5.2.2.draws 1).trans hf6).trans hf7⟩,hs2.swap ⟨by omega,by omega⟩ ⟨by omega,by omega⟩ (by omega),hI.step (by omega) hji (by omega) h33⟩ (by show j-1<j;omega)
      exact Sz.stop
     exact Sz.stop
    have hstop:a<j→¬ bZ (K (zs.getD j 0)) (K (zs.getD (j-1) 0))<0:=fun _=>h33;refine Gz 9 ?_
    first
    |exact aC zs ⟨hz5,hs2,hI.done haj hji hstop⟩
    |exact aC zs ⟨hz.draws 1,hs2,hI.done haj hji hstop⟩
   have hstop:a<j→¬ bZ (K (zs.getD j 0)) (K (zs.getD (j-1) 0))<0:=fun h=>by omega
   refine Gz 11 ?_;refine Ph rfl rfl (Q0 rfl rfl rfl rfl ?_);refine Pn (by exact hz.1.vw) ?_;refine Gz 10 ?_
   first
   |exact aC zs ⟨hz5,hs2,hI.done haj hji hstop⟩
   |exact aC zs ⟨hz.draws 1,hs2,hI.done haj hji hstop⟩
  rintro vs w8 ⟨hv8,hs8,ht8⟩;refine Gz 5 ?_;exact aG ⟨i+1,vs⟩ ⟨⟨by omega,.inl (by omega)⟩,hv8,by rw[T6 (by omega)];exact hs8,ht8⟩ (by show b-(i+1)<b-i;omega)
 have hbi:b≤i:=by omega
 refine Gz 7 ?_;refine Pw rfl ?_;refine⟨_,rfl,rfl,ys,hy,by rw[Nat.min_eq_right hbi] at hs1;exact hs1,fun p q h1 h2 h3=>ht1 p q h1 h2 (by omega)⟩
section
variable {P:Program}{N:Nt}{l:SF}{ty t':TypeId}{pos:String}{aft:Array Edge}{dd:Option Nat}{g:Option (Nat×Bool)}{CH:Array Obj→Prop}{x y:Operand}{t:TypeId}{m n:Int}{k':IntKind}
theorem Qh(hx:evL l x=some (.int .u64 m))(hy:evL l y=some (.int k' n))(hn:0≤n∧n≤64):Cm P N CH l ⟨dd,.binOp .shr t x y t',ty,pos,aft,g⟩ (.int .u64 (m/2 ^ n.toNat)):=fun a w ha _=>by
 have h1:¬ (n<0):=by omega
 have h2:min n.toNat 64=n.toNat:=by omega
 have h3:m.fdiv (2 ^ n.toNat)=m/2 ^ n.toNat:=Int.fdiv_eq_ediv_of_nonneg _ (Int.pow_nonneg (by decide));have h4:(Op.shift .shr .u64 m k' n).run P w=.ok (.int .u64 (m/2 ^ n.toNat)) w:=by
  unfold Op.shift;rw[SP h1];show (pure (Value.int .u64 (m.fdiv (2 ^ min n.toNat 64))):Sem Value).run P w=_;rw[h2,h3];rfl
 simp only[execOp,ha.ev hx,ha.ev hy,eqGuard,binOp,Sem.run_bind];simp
end
theorem zO{z:Int}(h:0≤z∧z<18446744073709551616):IntKind.u64.wrap z=z:=by
 unfold IntKind.wrap;simp[IntKind.bits,IntKind.signed];omega
theorem AR{i j:Nat}(h:i+j<4611686018427387904):IntKind.i64.wrap (((i:Int)+j)/2 ^ (1:Int).toNat)=(((i+j)/2:Nat):Int):=by
 have e:(2:Int) ^ (1:Int).toNat=2:=rfl;rw[e,cD (by omega)];omega
section
variable {K:Int→List (List UInt8)}{xs ys:List Int}
theorem xU{a b i j:Nat}{z:Int}(h:Srt K xs a b)(hi:a≤i)(hij:i≤j)(hj:j<b)(hz:ltS K (xs.getD j 0) z):ltS K (xs.getD i 0) z:=by
 by_cases e:i=j
 ·rw[e];exact hz
 ·exact lP (h i j hi (by omega) hj) hz
theorem xX{a b i j:Nat}{z:Int}(h:Srt K xs a b)(hi:a≤i)(hij:i≤j)(hj:j<b)(hz:ltS K z (xs.getD i 0)):ltS K z (xs.getD j 0):=by
 by_cases e:i=j
 ·rw[←e];exact hz
 ·exact lP hz (h i j hi (by omega) hj)
def ux(a k p:Nat):Nat:=if a≤p∧p<k then p+1 else if p=k then a else p
theorem jX(a k p:Nat):(a≤p∧p<k∧ux a k p=p+1)∨(¬ (a≤p∧p<k)∧p=k∧ux a k p=a)∨(¬ (a≤p∧p<k)∧p≠k∧ux a k p=p):=by
 unfold ux;by_cases h1:a≤p∧p<k
 ·rw[SQ h1];exact .inl ⟨h1.1,h1.2,rfl⟩
 · rw[SP h1]
   by_cases h2:p=k
   ·rw[SQ h2];exact .inr (.inl ⟨h1,h2,rfl⟩)
   ·rw[SP h2];exact .inr (.inr ⟨h1,h2,rfl⟩)
theorem If(a p:Nat):ux a a p=p:=by have:=jX a a p;omega
theorem Ig{a k p:Nat}(h:a≤k):ux a k (wx k (k+1) p)=ux a (k+1) p:=by
 have h1:=eO k (k+1) p;have h2:=jX a k (wx k (k+1) p);have h3:=jX a (k+1) p;omega
def dx(k m p:Nat):Nat:=if p=k then m else if k<p∧p≤m then p-1 else p
theorem kG(k m p:Nat):(p=k∧dx k m p=m)∨(p≠k∧k<p∧p≤m∧dx k m p=p-1)∨(p≠k∧¬ (k<p∧p≤m)∧dx k m p=p):=by
 unfold dx;by_cases h1:p=k
 ·rw[SQ h1];exact .inl ⟨h1,rfl⟩
 · rw[SP h1]
   by_cases h2:k<p∧p≤m
   ·rw[SQ h2];exact .inr (.inl ⟨h1,h2.1,h2.2,rfl⟩)
   ·rw[SP h2];exact .inr (.inr ⟨h1,h2,rfl⟩)
theorem JH(m p:Nat):dx m m p=p:=by have:=kG m m p;omega
theorem JI{k m p:Nat}(h:k<m):dx (k+1) m (wx (k+1) k p)=dx k m p:=by
 have h1:=eO (k+1) k p;have h2:=kG (k+1) m (wx (k+1) k p);have h3:=kG k m p;omega
theorem sK{a b:Nat}{s:Nat→Nat}(hp:ys.Perm xs)(hk:∀ k,ys.getD k 0=xs.getD (s k) 0)(h1:∀ k,(k<a∨b≤k)→s k=k)(h2:∀ k,a≤k→k<b→a≤s k∧s k<b):Seg xs ys a b:=
 ⟨hp.length_eq,hp,fun k h=>by rw[hk,h1 k h],fun k ha hb=>⟨s k,(h2 k ha hb).1,(h2 k ha hb).2,hk k⟩⟩
theorem Ku{a b i:Nat}(h:Srt K xs (a+1) b)(hai:a+1≤i)(hib:i≤b)(h1:a+1<i→ltS K (xs.getD (i-1) 0) (xs.getD a 0))(h2:i<b→ltS K (xs.getD a 0) (xs.getD i 0))(hk:∀ k,ys.getD k 0=xs.getD (ux a (i-1) k) 0):Srt K ys a b:=by
 have l1:∀ k,a+1≤k→k<i→ltS K (xs.getD k 0) (xs.getD a 0):=fun k p1 p2=>xU h p1 (show k≤i-1 by omega) (by omega) (h1 (by omega));have l2:∀ k,i≤k→k<b→ltS K (xs.getD a 0) (xs.getD k 0):=fun k p1 p2=>xX h (show a+1≤i by omega) p1 p2 (h2 (by omega));intro p q hp hpq hq;rw[hk,hk];rcases jX a (i-1) p with⟨_,s1,s2⟩|⟨s0,s1,s2⟩|⟨s0,s1,s2⟩<;>rcases jX a (i-1) q with⟨_,t1,t2⟩|⟨t0,t1,t2⟩|⟨t0,t1,t2⟩<;>rw[s2,t2]<;>first|(exfalso;omega)|exact h _ _ (by omega) (by omega) (by omega)|exact l1 _ (by omega) (by omega)|exact l2 _ (by omega) (by omega)
theorem Lm{a m i:Nat}(h:Srt K xs a m)(hai:a≤i)(him:i≤m)(h1:a<i→ltS K (xs.getD (i-1) 0) (xs.getD m 0))(h2:i<m→ltS K (xs.getD m 0) (xs.getD i 0))(hk:∀ k,ys.getD k 0=xs.getD (dx i m k) 0):Srt K ys a (m+1):=by
 have l1:∀ k,a≤k→k<i→ltS K (xs.getD k 0) (xs.getD m 0):=fun k p1 p2=>xU h p1 (show k≤i-1 by omega) (by omega) (h1 (by omega));have l2:∀ k,i≤k→k<m→ltS K (xs.getD m 0) (xs.getD k 0):=fun k p1 p2=>xX h hai p1 p2 (h2 (by omega));intro p q hp hpq hq;rw[hk,hk];rcases kG i m p with⟨s1,s2⟩|⟨s0,s1,s3,s2⟩|⟨s0,s1,s2⟩<;>rcases kG i m q with⟨t1,t2⟩|⟨t0,t1,t3,t2⟩|⟨t0,t1,t2⟩<;>rw[s2,t2]<;>first|(exfalso;omega)|exact h _ _ (by omega) (by omega) (by omega)|exact l1 _ (by omega) (by omega)|exact l2 _ (by omega) (by omega)
structure Cut (K:Int→List By)(xs:List Int)(a m b s e md:Nat):Prop where
 has:a≤s
 hsm:s≤m
 hme:m≤e
 heb:e≤b
 hmd:s+(e-m)=md
 x1:∀ i j:Nat,a≤i→i<s→e≤j→j<b→ltS K (xs.getD i 0) (xs.getD j 0)
 x2:∀ i j:Nat,s≤i→i<m→m≤j→j<e→ltS K (xs.getD j 0) (xs.getD i 0)
theorem FV{s m e k:Nat}(hs:s≤m)(he:m≤e)(h:¬ (s<m∧m<e)):rx s m e k=k:=by
 have:=dM s m e k;omega
theorem Cut.halves{a m b s e md:Nat}(c:Cut K xs a m b s e md)(h1:Srt K xs a m)(h2:Srt K xs m b)(h3:StB xs a m b)(hk:∀ k,ys.getD k 0=xs.getD (rx s m e k) 0) :
 Srt K ys a s∧Srt K ys s md∧StB ys a s md∧Srt K ys md e∧Srt K ys e b∧StB ys md e b∧∀ i j:Nat,a≤i→i<md→md≤j→j<b→ltS K (ys.getD i 0) (ys.getD j 0):=by
 obtain⟨c1,c2,c3,c4,c5,x1,x2⟩:=c;have r:∀ k,(s≤k∧k<md∧rx s m e k=k-s+m)∨(md≤k∧k<e∧rx s m e k=k-md+s)∨((k<s∨e≤k)∧rx s m e k=k):=fun k=>by have:=dM s m e k;omega
 refine⟨fun i j p1 p2 p3=>?_,fun i j p1 p2 p3=>?_,fun i j p1 p2 p3 p4=>?_,fun i j p1 p2 p3=>?_,fun i j p1 p2 p3=>?_,fun i j p1 p2 p3 p4=>?_,fun i j p1 p2 p3 p4=>?_⟩<;>rw[hk,hk]<;>rcases r i with⟨s1,s2,s3⟩|⟨s1,s2,s3⟩|⟨s1,s3⟩<;>rcases r j with⟨t1,t2,t3⟩|⟨t1,t2,t3⟩|⟨t1,t3⟩<;>rw[s3,t3] <;>
  first|(exfalso;omega)|exact h1 _ _ (by omega) (by omega) (by omega)|exact h2 _ _ (by omega) (by omega) (by omega)|exact h3 _ _ (by omega) (by omega) (by omega) (by omega)|exact x1 _ _ (by omega) (by omega) (by omega) (by omega)|exact x2 _ _ (by omega) (by omega) (by omega) (by omega)
theorem Lo{a m b md s:Nat}(ham:a<m)(hmb:m<b)(hmd:md=(a+b)/2)(h1:Srt K xs a m)(h2:Srt K xs m b){S0 R0:Nat}(hSR:(md<m∧S0=md+m-b∧R0=md)∨(¬ md<m∧S0=a∧R0=m))(hs0:S0≤s)(hsR:s≤R0)
 (g1:S0<s→ltS K (xs.getD (s-1) 0) (xs.getD (md+m-s) 0))(g2:s<R0→ltS K (xs.getD (md+m-1-s) 0) (xs.getD s 0)):Cut K xs a m b s (md+m-s) md:=by
 refine⟨by omega,by omega,by omega,by omega,by omega,fun i j p1 p2 p3 p4=>?_,fun i j p1 p2 p3 p4=>?_⟩
 · have hlt:=g1 (by omega)
   exact xU h1 p1 (show i≤s-1 by omega) (by omega) (xX h2 (show m≤md+m-s by omega) p3 p4 hlt)
 · have hlt:=g2 (by omega)
   exact xU h2 p3 (show j≤md+m-1-s by omega) (by omega) (xX h1 (show a≤s by omega) p1 p2 hlt)
theorem dH{a b:Nat}(h:Srt K ys a b)(hk:∀ k,a≤k→k<b→xs.getD k 0=ys.getD k 0):Srt K xs a b:=fun i j p1 p2 p3=>by rw[hk i p1 (by omega),hk j (by omega) p3];exact h i j p1 p2 p3
theorem FJ{a m b:Nat}(h:StB ys a m b)(hmb:m≤b)(hk:∀ k,a≤k→k<b→xs.getD k 0=ys.getD k 0):StB xs a m b:=fun i j p1 p2 p3 p4=>by rw[hk i p1 (by omega),hk j (by omega) p4];exact h i j p1 p2 p3 p4
theorem jP{zs us:List Int}{a md b:Nat}(h1:a≤md)(h2:md≤b)(g1:Seg ys zs a md)(g2:Seg zs us md b)(s1:Srt K zs a md)(s2:Srt K us md b)(hlr:∀ i j:Nat,a≤i→i<md→md≤j→j<b→ltS K (ys.getD i 0) (ys.getD j 0)):Srt K us a b:=by
 intro i j p1 p2 p3;by_cases hj:j<md
 ·rw[g2.2.2.1 i (.inl (by omega)),g2.2.2.1 j (.inl hj)];exact s1 i j p1 p2 hj
 · by_cases hi:md≤i
   ·exact s2 i j hi p2 p3
   · rw[g2.2.2.1 i (.inl (by omega))]
     obtain⟨i',a1,a2,a3⟩:=g1.2.2.2 i p1 (by omega);obtain⟨j',b1,b2,b3⟩:=g2.2.2.2 j (by omega) p3;rw[a3,b3,g1.2.2.1 j' (.inr b1)];exact hlr i' j' a1 a2 b1 b2
end
theorem CY{K:Int→List By}{V:Int→Prop}{f:FuncId}{cs:List Value}(W0:World)(o:Option Addr)(hC:J4 W0 o f cs V K)(c n:Nat)(hn:n≤1000000):∀ (d a m b:Nat) (xs:List Int) (W:World),b-a≤d→StI W0 o c n xs W→(∀ z∈xs,V z)→a<m→m<b→b≤n→Srt K xs a m→Srt K xs m b→StB xs a m b →
 CA 230 [.slice o n c,iV a,iV m,iV b,.func (.func f) #[] cs.toArray] W fun v w'=>v=.tuple #[]∧∃ ys,StI W0 o c n ys w'∧Seg xs ys a b∧Srt K ys a b:=by
 intro d
 induction d with
|zero=>intro a m b xs W hd h hV ham hmb;omega
|succ d ih=>
   intro a m b xs W hd h hV ham hmb hbn h1 h2 h3;have hxl:=h.2.1;have hVx:∀ k:Nat,k<n→V (xs.getD k 0):=fun k hk=>hV _ (G3 (by omega));refine cS 220 [(0,_),(1,_),(2,_),(3,_),(4,_)] Tryz.func230 ?_;refine fK 6 ?_ ?_<;>intro h28
   ·refine Gz 17 ?_;refine Pb (β:=Nat×Nat) (fun⟨i,j⟩=>[(0,.slice o n c),(1,iV a),(4,.func (.func f) #[] cs.toArray),(10,iV i),(11,iV j)]) (fun⟨i,j⟩ w=>(m≤i∧i≤j∧j≤b)∧StI W0 o c n xs w∧(m<i→ltS K (xs.getD (i-1) 0) (xs.getD a 0))∧(j<b→ltS K (xs.getD a 0) (xs.getD j 0))) (fun⟨i,j⟩=>j-i) ⟨m,b⟩ ⟨rfl,rfl,rfl,rfl,rfl,trivial⟩ ⟨⟨by omega,by omega,by omega⟩,h,fun h=>by omega,fun h=>by omega⟩ ?_;rintro⟨i,j⟩ w4 ⟨⟨i1,i2,i3⟩,hz,g1,g2⟩;refine fK 5 ?_ ?_<;>intro h33
    ·have hij:i<j:=by omega
     refine Gz 1 ?_;refine aW [(0,_),(1,_),(4,_),(10,_),(11,_),(33,_)] ?_;refine Gz 10 ?_;refine cL (Pj (n:=((i:Int)+j)) is3 Fs rfl (zO (by omega))) ?_;refine cL (Qh rfl rfl (by decide)) ?_;refine cL (Pj (n:=(((i+j)/2:Nat):Int)) GT ty3 rfl (AR (by omega))) ?_;obtain⟨q,hq⟩:∃ q:Nat,q=(i+j)/2:=⟨_,rfl⟩
     rw[←hq];refine Gz 4 ?_;refine Pk 11 (fun H=>Vw i64 H o c xs) [9] [0,1,2,3,4,5,6,7,8,9,10] aJ (by kernel_rfl) (hz.1.vw) ?_;refine Gz 3 ?_;refine xC rfl (O5 bR rfl rfl (by rw[←hxl];exact hz.1.vw.non) (by omega)) ?_;refine xC rfl (Pe aK rfl (fun H (hH:Vw i64 H o c xs)=>hH.gz 0 q rfl (by omega))) ?_;refine Gz 2 ?_;refine xC rfl (O5 bR rfl rfl (by rw[←hxl];exact hz.1.vw.non) (by omega)) ?_;refine xC rfl (Pe aK rfl (fun H (hH:Vw i64 H o c xs)=>hH.gz 0 a rfl (by omega))) ?_;refine Ph rfl rfl (PO hC.fn rfl rfl (hC.call _ (xs.getD q 0) (xs.getD a 0) (hz.draws 1).2.2 (hVx q (by omega)) (hVx a (by omega))) rfl ?_);intro v5 w5 hr5;obtain⟨rfl,hf5⟩:=hr5;have hz5:StI W0 o c n xs w5:=(hz.draws 1).SN hf5;refine Pn (by exact hz5.1.vw) ?_;refine xK 0 ?_ ?_<;>intro h50
     ·refine Gz 9 ?_
      first
      |exact aG ⟨q+1,j⟩ ⟨⟨by omega,by omega,by omega⟩,hz5,fun _=>lO h50,g2⟩ (by show j-(q+1)<j-i;omega)
      |exact aG ⟨i,q⟩ ⟨⟨by omega,by omega,by omega⟩,hz5,g1,fun _=>mU (h3 a q (SY _) ham (by omega) (by omega)) h50⟩ (by show q-i<j-i;omega)
     refine Gz 8 ?_
     first
     |exact aG ⟨q+1,j⟩ ⟨⟨by omega,by omega,by omega⟩,hz5,fun _=>lO h50,g2⟩ (by show j-(q+1)<j-i;omega)
     |exact aG ⟨i,q⟩ ⟨⟨by omega,by omega,by omega⟩,hz5,g1,fun _=>mU (h3 a q (SY _) ham (by omega) (by omega)) h50⟩ (by show q-i<j-i;omega)
    have hije:i=j:=by omega
    subst hije;refine Gz 1 ?_;refine aW [(0,_),(1,_),(4,_),(10,_),(11,_),(33,_)] ?_;refine Gz 15 ?_;refine Pb (β:=Nat×List Int) (fun⟨k,ys⟩=>[(0,.slice o n c),(10,iV i),(13,iV k)]) (fun⟨k,ys⟩ w=>(a≤k∧k≤i-1)∧StI W0 o c n ys w∧ys.Perm xs∧∀ p,ys.getD p 0=xs.getD (ux a k p) 0) (fun⟨k,ys⟩=>i-1-k) ⟨a,xs⟩ ⟨rfl,rfl,rfl,trivial⟩ ⟨⟨SY _,by omega⟩,hz,List.Perm.refl _,fun p=>by rw[If]⟩ ?_;rintro⟨k,ys⟩ w4 ⟨⟨k1,k2⟩,hy,hyp,hyk⟩;refine fK 6 ?_ ?_<;>intro h58
    ·have hyl:=hy.2.1;refine Gz 1 ?_;refine aW [(0,_),(10,_),(13,_),(58,_)] ?_;refine Gz 6 ?_;refine PW 15 [9,13] (fun H=>Vw i64 H o c ys) [15,17] [0,1,2,3,4,5,6,7,8,9,10,11,12,13,14] (.alt 15 [16] (.alt 17 [] .fin .stop) .stop) aJ (by kernel_rfl) (hy.1.vw) ?_;refine Sz.calm rfl rfl (Pc rfl) rfl ?_;refine Sz.calm rfl rfl (Pc rfl) rfl ?_;refine Sz.calm rfl rfl (Pc rfl) rfl ?_;refine Sz.calm rfl rfl (Pc rfl) rfl ?_;refine Sz.calm rfl rfl (PR rfl rfl (by omega)) rfl ?_;refine Sz.calm rfl rfl (Pc rfl) rfl ?_;refine Sz.calm rfl rfl (Pc rfl) rfl ?_;refine Sz.calm rfl rfl (PR rfl rfl (by omega)) rfl ?_;refine Sz.calm rfl rfl (O5 bR rfl rfl (by rw[←hy.2.1];exact hy.1.vw.non) (by omega)) rfl ?_;refine Sz.calm rfl rfl (Pe aK rfl (fun H (hH:Vw i64 H o c ys)=>hH.gz 0 (k+1) (by omega) (by omega))) rfl ?_;refine Sz.calm rfl rfl (Pc rfl) rfl ?_;refine Sz.calm rfl rfl (Pc rfl) rfl ?_;refine Sz.calm rfl rfl (O5 bR rfl rfl (by rw[←hy.2.1];exact hy.1.vw.non) (by omega)) rfl ?_;refine Sz.calm rfl rfl (Pe aK rfl (fun H (hH:Vw i64 H o c ys)=>hH.gz 0 k rfl (by omega))) rfl ?_;refine Sz.calm rfl rfl (O5 bR rfl rfl (by rw[←hy.2.1];exact hy.1.vw.non) (by omega)) rfl ?_;refine Sz.alt ?_ ?_
     ·refine Ss rfl rfl (PE dY aK (z:=(k:Int)) (u:=ys.getD (k+1) 0) rfl rfl (hy.draws 1).1 (by omega) ?_);intro w6 ho6 hs6 hf6;refine Sz.off rfl ?_;refine Sz.calm rfl rfl (O5 bR rfl rfl (by rw[←hy.2.1];exact hy.1.vw.non) (by omega)) rfl ?_;refine Sz.alt ?_ ?_
      ·refine Ss rfl rfl (PE dY aK (z:=(k:Int)+1) (u:=ys.getD k 0) rfl rfl ho6 (by rw[TL];omega) ?_);intro w7 ho7 hs7 hf7;have e2:((k:Int)+1).toNat=k+1:=by omega
       rw[e2] at ho7;refine Sz.off rfl ?_;refine St ?_;refine Gz 7 ?_;exact aG ⟨k+1,gX ys k (k+1)⟩ ⟨⟨by omega,by omega⟩,⟨ho7,by rw[kX];exact hyl,((hy.2.2.draws 1).trans hf6).trans hf7⟩,(swap_perm (by omega) (by omega)).trans hyp,fun p=>by rw[lU (by omega) (by omega),hyk,Ig k1]⟩ (by show i-1-(k+1)<i-1-k;omega)
      exact Sz.stop
     exact Sz.stop
    have hke:k=i-1:=by omega
    refine Gz 1 ?_;refine aW [(0,_),(10,_),(13,_),(58,_)] ?_;refine Gz 10 ?_;have hma:m=a+1:=by omega
    rw[hke] at hyk;refine⟨_,rfl,rfl,ys,hy,sK hyp hyk (fun p hp=>by have:=jX a (i-1) p;omega) (fun p p1 p2=>by have:=jX a (i-1) p;omega),?_⟩;rw[hma] at h2 g1 i1;exact Ku h2 i1 i3 g1 g2 hyk
   refine fK 11 ?_ ?_<;>intro h80
   ·refine Gz 17 ?_;refine Pb (β:=Nat×Nat) (fun⟨i,j⟩=>[(0,.slice o n c),(2,iV m),(4,.func (.func f) #[] cs.toArray),(14,iV i),(15,iV j)]) (fun⟨i,j⟩ w=>(a≤i∧i≤j∧j≤m)∧StI W0 o c n xs w∧(a<i→ltS K (xs.getD (i-1) 0) (xs.getD m 0))∧(j<m→ltS K (xs.getD m 0) (xs.getD j 0))) (fun⟨i,j⟩=>j-i) ⟨a,m⟩ ⟨rfl,rfl,rfl,rfl,rfl,trivial⟩ ⟨⟨by omega,by omega,by omega⟩,h,fun h=>by omega,fun h=>by omega⟩ ?_;rintro⟨i,j⟩ w4 ⟨⟨i1,i2,i3⟩,hz,g1,g2⟩;refine fK 5 ?_ ?_<;>intro h85
    ·have hij:i<j:=by omega
     refine Gz 1 ?_;refine aW [(0,_),(2,_),(4,_),(14,_),(15,_),(85,_)] ?_;refine Gz 10 ?_;refine cL (Pj (n:=((i:Int)+j)) is3 Fs rfl (zO (by omega))) ?_;refine cL (Qh rfl rfl (by decide)) ?_;refine cL (Pj (n:=(((i+j)/2:Nat):Int)) GT ty3 rfl (AR (by omega))) ?_;obtain⟨q,hq⟩:∃ q:Nat,q=(i+j)/2:=⟨_,rfl⟩
     rw[←hq];refine Gz 4 ?_;refine Pk 12 (fun H=>Vw i64 H o c xs) [9] [0,1,2,3,4,5,6,7,8,9,10,11] aJ (by kernel_rfl) (hz.1.vw) ?_;refine Gz 3 ?_;refine xC rfl (O5 bR rfl rfl (by rw[←hxl];exact hz.1.vw.non) (by omega)) ?_;refine xC rfl (Pe aK rfl (fun H (hH:Vw i64 H o c xs)=>hH.gz 0 m rfl (by omega))) ?_;refine Gz 2 ?_;refine xC rfl (O5 bR rfl rfl (by rw[←hxl];exact hz.1.vw.non) (by omega)) ?_;refine xC rfl (Pe aK rfl (fun H (hH:Vw i64 H o c xs)=>hH.gz 0 q rfl (by omega))) ?_;refine Ph rfl rfl (PO hC.fn rfl rfl (hC.call _ (xs.getD m 0) (xs.getD q 0) (hz.draws 1).2.2 (hVx m (by omega)) (hVx q (by omega))) rfl ?_);intro v5 w5 hr5;obtain⟨rfl,hf5⟩:=hr5;have hz5:StI W0 o c n xs w5:=(hz.draws 1).SN hf5;refine Pn (by exact hz5.1.vw) ?_;refine xK 0 ?_ ?_<;>intro h102
     ·refine xC rfl (Pp rfl) ?_;refine Gz 8 ?_
      first
      |exact aG ⟨i,q⟩ ⟨⟨by omega,by omega,by omega⟩,hz5,g1,fun _=>lO h102⟩ (by show q-i<j-i;omega)
      |exact aG ⟨q+1,j⟩ ⟨⟨by omega,by omega,by omega⟩,hz5,fun _=>mU (h3 q m (by omega) (by omega) (SY _) hmb) h102,g2⟩ (by show j-(q+1)<j-i;omega)
     refine xC rfl (Pp rfl) ?_;refine Gz 9 ?_
     first
     |exact aG ⟨i,q⟩ ⟨⟨by omega,by omega,by omega⟩,hz5,g1,fun _=>lO h102⟩ (by show q-i<j-i;omega)
     |exact aG ⟨q+1,j⟩ ⟨⟨by omega,by omega,by omega⟩,hz5,fun _=>mU (h3 q m (by omega) (by omega) (SY _) hmb) h102,g2⟩ (by show j-(q+1)<j-i;omega)
    have hije:i=j:=by omega
    subst hije;refine Gz 1 ?_;refine aW [(0,_),(2,_),(4,_),(14,_),(15,_),(85,_)] ?_;refine Gz 15 ?_;refine Pb (β:=Nat×List Int) (fun⟨k,ys⟩=>[(0,.slice o n c),(14,iV i),(17,iV k)]) (fun⟨k,ys⟩ w=>(i≤k∧k≤m)∧StI W0 o c n ys w∧ys.Perm xs∧∀ p,ys.getD p 0=xs.getD (dx k m p) 0) (fun⟨k,ys⟩=>k) ⟨m,xs⟩ ⟨rfl,rfl,rfl,trivial⟩ ⟨⟨by omega,SY _⟩,hz,List.Perm.refl _,fun p=>by rw[JH]⟩ ?_;rintro⟨k,ys⟩ w4 ⟨⟨k1,k2⟩,hy,hyp,hyk⟩;refine fK 5 ?_ ?_<;>intro h110
    ·have hyl:=hy.2.1;refine Gz 1 ?_;refine aW [(0,_),(14,_),(17,_),(110,_)] ?_;refine Gz 6 ?_;refine PW 15 [9,13] (fun H=>Vw i64 H o c ys) [15,17] [0,1,2,3,4,5,6,7,8,9,10,11,12,13,14] (.alt 15 [16] (.alt 17 [] .fin .stop) .stop) aJ (by kernel_rfl) (hy.1.vw) ?_;refine Sz.calm rfl rfl (Pc rfl) rfl ?_;refine Sz.calm rfl rfl (Pc rfl) rfl ?_;refine Sz.calm rfl rfl (Pc rfl) rfl ?_;refine Sz.calm rfl rfl (Pc rfl) rfl ?_;refine Sz.calm rfl rfl (PY rfl rfl (by omega)) rfl ?_;refine Sz.calm rfl rfl (Pc rfl) rfl ?_;refine Sz.calm rfl rfl (Pc rfl) rfl ?_;refine Sz.calm rfl rfl (PY rfl rfl (by omega)) rfl ?_;refine Sz.calm rfl rfl (O5 bR rfl rfl (by rw[←hy.2.1];exact hy.1.vw.non) (by omega)) rfl ?_;refine Sz.calm rfl rfl (Pe aK rfl (fun H (hH:Vw i64 H o c ys)=>hH.gz 0 (k-1) (by omega) (by omega))) rfl ?_;refine Sz.calm rfl rfl (Pc rfl) rfl ?_;refine Sz.calm rfl rfl (Pc rfl) rfl ?_;refine Sz.calm rfl rfl (O5 bR rfl rfl (by rw[←hy.2.1];exact hy.1.vw.non) (by omega)) rfl ?_;refine Sz.calm rfl rfl (Pe aK rfl (fun H (hH:Vw i64 H o c ys)=>hH.gz 0 k rfl (by omega))) rfl ?_;refine Sz.calm rfl rfl (O5 bR rfl rfl (by rw[←hy.2.1];exact hy.1.vw.non) (by omega)) rfl ?_;refine Sz.alt ?_ ?_
     ·refine Ss rfl rfl (PE dY aK (z:=(k:Int)) (u:=ys.getD (k-1) 0) rfl rfl (hy.draws 1).1 (by omega) ?_);intro w6 ho6 hs6 hf6;refine Sz.off rfl ?_;refine Sz.calm rfl rfl (O5 bR rfl rfl (by rw[←hy.2.1];exact hy.1.vw.non) (by omega)) rfl ?_;refine Sz.alt ?_ ?_
      ·refine Ss rfl rfl (PE dY aK (z:=(k:Int)-1) (u:=ys.getD k 0) rfl rfl ho6 (by rw[TL];omega) ?_);intro w7 ho7 hs7 hf7;have e2:((k:Int)-1).toNat=k-1:=by omega
       rw[e2] at ho7;refine Sz.off rfl ?_;refine St ?_;refine Gz 7 ?_;exact Po ⟨k-1,gX ys k (k-1)⟩ ⟨rfl,rfl,congrArg (fun z:Int=>some (Value.int .i64 z)) (by omega),trivial⟩ ⟨⟨by omega,by omega⟩,⟨ho7,by rw[kX];exact hyl,((hy.2.2.draws 1).trans hf6).trans hf7⟩,(swap_perm (by omega) (by omega)).trans hyp,fun p=>by have e:=JI (k:=k-1) (m:=m) (p:=p) (by omega);rw[show k-1+1=k by omega] at e;rw[lU (by omega) (by omega),hyk,e]⟩ (by show k-1<k;omega)
      exact Sz.stop
     exact Sz.stop
    have hke:k=i:=by omega
    refine Gz 1 ?_;refine aW [(0,_),(14,_),(17,_),(110,_)] ?_;refine Gz 10 ?_;have hbm:b=m+1:=by omega
    rw[hke] at hyk;refine⟨_,rfl,rfl,ys,hy,sK hyp hyk (fun p hp=>by have:=kG i m p;omega) (fun p p1 p2=>by have:=kG i m p;omega),?_⟩;rw[hbm];exact Lm h1 i1 i3 g1 g2 hyk
   refine Gz 10 ?_;refine cL (Pj (n:=((a:Int)+b)) is3 Fs rfl (zO (by omega))) ?_;refine cL (Qh rfl rfl (by decide)) ?_;refine cL (Pj (n:=(((a+b)/2:Nat):Int)) GT ty3 rfl (AR (by omega))) ?_;obtain⟨md,hmd⟩:∃ md:Nat,md=(a+b)/2:=⟨_,rfl⟩
   rw[←hmd];refine Gz 17 ?_;refine PI (β:=Nat×Nat) (fun⟨S0,R0⟩=>[(0,.slice o n c),(1,iV a),(2,iV m),(3,iV b),(4,.func (.func f) #[] cs.toArray),(18,iV md),(19,iV ((md:Int)+m)),(20,iV S0),(21,iV R0)]) (fun⟨S0,R0⟩ w=>((md<m∧S0=md+m-b∧R0=md)∨(¬ md<m∧S0=a∧R0=m))∧w=W) ?_ ?_
   ·refine fK 4 ?_ ?_<;>intro h140
    ·refine Gz 15 ?_
     first
     |exact PJ ⟨md+m-b,md⟩ ⟨rfl,rfl,rfl,rfl,rfl,rfl,rfl,congrArg (fun z:Int=>some (Value.int .i64 z)) (by omega),rfl,trivial⟩ ⟨.inl ⟨by omega,rfl,rfl⟩,rfl⟩
     |exact aC ⟨a,m⟩ ⟨.inr ⟨by omega,rfl,rfl⟩,rfl⟩
    refine Gz 13 ?_
    first
    |exact PJ ⟨md+m-b,md⟩ ⟨rfl,rfl,rfl,rfl,rfl,rfl,rfl,congrArg (fun z:Int=>some (Value.int .i64 z)) (by omega),rfl,trivial⟩ ⟨.inl ⟨by omega,rfl,rfl⟩,rfl⟩
    |exact aC ⟨a,m⟩ ⟨.inr ⟨by omega,rfl,rfl⟩,rfl⟩
   rintro⟨S0,R0⟩ wq ⟨hSR,hwq⟩;subst wq;refine Gz 9 ?_;refine Pb (β:=Nat×Nat) (fun⟨s,r⟩=>[(0,.slice o n c),(1,iV a),(2,iV m),(3,iV b),(4,.func (.func f) #[] cs.toArray),(18,iV md),(19,iV ((md:Int)+m)),(20,iV s),(21,iV r),(22,iV ((md:Int)+m-1))]) (fun⟨s,r⟩ w=>S0≤s∧s≤r∧r≤R0∧StI W0 o c n xs w∧(S0<s→ltS K (xs.getD (s-1) 0) (xs.getD (md+m-s) 0))∧(r<R0→ltS K (xs.getD (md+m-1-r) 0) (xs.getD r 0))) (fun⟨s,r⟩=>r-s) ⟨S0,R0⟩ ⟨rfl,rfl,rfl,rfl,rfl,rfl,rfl,rfl,rfl,rfl,trivial⟩ ⟨SY _,by omega,SY _,h,fun h=>by omega,fun h=>by omega⟩ ?_;rintro⟨s,r⟩ w4 ⟨hs0,hsr0,hrR,hz,g1,g2⟩;refine fK 5 ?_ ?_<;>intro h151
   ·have hsr:s<r:=by omega
    refine Gz 1 ?_;refine aW [(0,_),(1,_),(2,_),(3,_),(4,_),(18,_),(19,_),(20,_),(21,_),(22,_),(151,_)] ?_;refine Gz 10 ?_;refine cL (Pj (n:=((s:Int)+r)) is3 Fs rfl (zO (by omega))) ?_;refine cL (Qh rfl rfl (by decide)) ?_;refine cL (Pj (n:=(((s+r)/2:Nat):Int)) GT ty3 rfl (AR (by omega))) ?_;obtain⟨q,hq⟩:∃ q:Nat,q=(s+r)/2:=⟨_,rfl⟩
    rw[←hq];have hqa:a≤q∧q<m∧m≤md+m-1-q∧md+m-1-q<b∧q≤md+m-1:=by omega
    refine Gz 4 ?_;refine Pk 14 (fun H=>Vw i64 H o c xs) [11] [0,1,2,3,4,5,6,7,8,9,10,11,12,13] aJ (by kernel_rfl) (hz.1.vw) ?_;refine Gz 5 ?_;refine xC rfl (O5 bR rfl rfl (by rw[←hxl];exact hz.1.vw.non) (by omega)) ?_;refine xC rfl (Pe aK rfl (fun H (hH:Vw i64 H o c xs)=>hH.gz 0 (md+m-1-q) (by omega) (by omega))) ?_;refine Gz 2 ?_;refine xC rfl (O5 bR rfl rfl (by rw[←hxl];exact hz.1.vw.non) (by omega)) ?_;refine xC rfl (Pe aK rfl (fun H (hH:Vw i64 H o c xs)=>hH.gz 0 q rfl (by omega))) ?_;refine Ph rfl rfl (PO hC.fn rfl rfl (hC.call _ (xs.getD (md+m-1-q) 0) (xs.getD q 0) (hz.draws 1).2.2 (hVx _ (by omega)) (hVx q (by omega))) rfl ?_);intro v5 w5 hr5;obtain⟨rfl,hf5⟩:=hr5;have hz5:StI W0 o c n xs w5:=(hz.draws 1).SN hf5;refine Pn (by exact hz5.1.vw) ?_;refine xK 0 ?_ ?_<;>intro h170
    ·refine xC rfl (Pp rfl) ?_;refine Gz 8 ?_
     first
     |exact aG ⟨s,q⟩ ⟨hs0,by omega,by omega,hz5,g1,fun _=>lO h170⟩ (by show q-s<r-s;omega)
     |exact aG ⟨q+1,r⟩ ⟨by omega,by omega,hrR,hz5,fun _=>by rw[show md+m-(q+1)=md+m-1-q by omega,U7];exact mU (h3 q (md+m-1-q) (by omega) (by omega) (by omega) (by omega)) h170,g2⟩ (by show r-(q+1)<r-s;omega)
    refine xC rfl (Pp rfl) ?_;refine Gz 9 ?_
    first
    |exact aG ⟨s,q⟩ ⟨hs0,by omega,by omega,hz5,g1,fun _=>lO h170⟩ (by show q-s<r-s;omega)
    |exact aG ⟨q+1,r⟩ ⟨by omega,by omega,hrR,hz5,fun _=>by rw[show md+m-(q+1)=md+m-1-q by omega,U7];exact mU (h3 q (md+m-1-q) (by omega) (by omega) (by omega) (by omega)) h170,g2⟩ (by show r-(q+1)<r-s;omega)
   have hsre:s=r:=by omega
   subst hsre;have hcut:=Lo ham hmb hmd h1 h2 hSR hs0 hrR g1 g2;obtain⟨e,he⟩:∃ e:Nat,e=md+m-s:=⟨_,rfl⟩
   rw[←he] at hcut;refine Gz 1 ?_;refine aW [(0,_),(1,_),(2,_),(3,_),(4,_),(18,_),(19,_),(20,_),(21,_),(22,_),(151,_)] ?_;refine Gz 8 ?_;obtain⟨wz,hwz⟩:∃ wz,wz=w4:=⟨_,rfl⟩
   rw[←hwz] at hz ⊢;refine Gz 3 ?_;refine cL (O7 (u:=iV (e:Nat)) (PY rfl rfl (by omega)) (by congr 1;omega)) ?_;refine Gz 3 ?_;refine PI (β:=List Int) (fun ys=>[(0,.slice o n c),(1,iV a),(3,iV b),(4,.func (.func f) #[] cs.toArray),(18,iV md),(20,iV s),(24,iV e)]) (fun ys w=>StI W0 o c n ys w∧ys.Perm xs∧∀ k,ys.getD k 0=xs.getD (rx s m e k) 0) ?_ ?_
   ·refine fK 4 ?_ ?_<;>intro h180
    ·refine fW 3 ?_ ?_<;>intro h184
     ·refine Gz 10 ?_;refine O6 L7 rfl (Ed W0 o c n s m e _ xs wz hz (by omega) (by omega) (by omega) hn) rfl ?_;rintro _ w6 ⟨rfl,ys,hy,hyp,hyk⟩;refine Gz 1 ?_
      first
      |exact aC ys ⟨hy,hyp,hyk⟩
      |exact aC xs ⟨hz,List.Perm.refl _,fun k=>by rw[FV hcut.hsm hcut.hme (by omega)]⟩
     refine Gz 5 ?_
     first
     |exact aC ys ⟨hy,hyp,hyk⟩
     |exact aC xs ⟨hz,List.Perm.refl _,fun k=>by rw[FV hcut.hsm hcut.hme (by omega)]⟩
    refine Gz 9 ?_
    first
    |exact aC ys ⟨hy,hyp,hyk⟩
    |exact aC xs ⟨hz,List.Perm.refl _,fun k=>by rw[FV hcut.hsm hcut.hme (by omega)]⟩
   rintro ys w7 ⟨hy,hyp,hyk⟩;obtain⟨q1,q2,q3,q4,q5,q6,q7⟩:=hcut.halves h1 h2 h3 hyk;have c1:=hcut.has;have c2:=hcut.hsm;have c3:=hcut.hme;have c4:=hcut.heb;have c5:=hcut.hmd;refine PI (β:=List Int) (fun zs=>[(0,.slice o n c),(3,iV b),(4,.func (.func f) #[] cs.toArray),(18,iV md),(24,iV e)]) (fun zs w=>StI W0 o c n zs w∧Seg ys zs a md∧Srt K zs a md) ?_ ?_
   ·refine fK 4 ?_ ?_<;>intro h194
    ·refine fW 3 ?_ ?_<;>intro h198
     ·refine Gz 10 ?_;refine O6 DI rfl (ih a s md ys w7 (by omega) hy (fun z hz=>hV z (hyp.mem_iff.1 hz)) (by omega) (by omega) (by omega) q1 q2 q3) rfl ?_;rintro _ w8 ⟨rfl,zs,hz,hzg,hzs⟩;refine Gz 1 ?_
      first
      |exact aC zs ⟨hz,hzg,hzs⟩
      |exact aC ys ⟨hy,Su _ _ _,by rw[show s=a by omega] at q2;exact q2⟩
      |exact aC ys ⟨hy,Su _ _ _,by rw[show s=md by omega] at q1;exact q1⟩
     refine Gz 5 ?_
     first
     |exact aC zs ⟨hz,hzg,hzs⟩
     |exact aC ys ⟨hy,Su _ _ _,by rw[show s=a by omega] at q2;exact q2⟩
     |exact aC ys ⟨hy,Su _ _ _,by rw[show s=md by omega] at q1;exact q1⟩
    refine Gz 9 ?_
    first
    |exact aC zs ⟨hz,hzg,hzs⟩
    |exact aC ys ⟨hy,Su _ _ _,by rw[show s=a by omega] at q2;exact q2⟩
    |exact aC ys ⟨hy,Su _ _ _,by rw[show s=md by omega] at q1;exact q1⟩
   rintro zs w9 ⟨hz,hzg,hzs⟩;refine fK 4 ?_ ?_<;>intro h208
   ·refine fW 3 ?_ ?_<;>intro h212
    ·refine Gz 10 ?_;refine O6 DI rfl (ih md e b zs w9 (by omega) hz (fun z hz=>hV z (hyp.mem_iff.1 (hzg.2.1.mem_iff.1 hz))) (by omega) (by omega) (by omega) (dH q4 (fun k k1 k2=>hzg.2.2.1 k (.inr (by omega)))) (dH q5 (fun k k1 k2=>hzg.2.2.1 k (.inr (by omega)))) (FJ q6 (by omega) (fun k k1 k2=>hzg.2.2.1 k (.inr (by omega))))) rfl ?_;rintro _ w10 ⟨rfl,us,hu,hug,hus⟩;refine Gz 1 ?_;refine Pw rfl ?_;have hmdb:a≤md∧md≤b:=by omega
     have hsy:Seg xs ys a b:=sK hyp hyk (fun p hp=>by have:=dM s m e p;omega) (fun p p1 p2=>by have:=dM s m e p;omega)
     first
     |exact⟨_,rfl,rfl,us,hu,(hsy.trans (hzg.wide (SY _) hmdb.2)).trans (hug.wide hmdb.1 (SY _)),jP hmdb.1 hmdb.2 hzg hug hzs hus q7⟩
     |exact⟨_,rfl,rfl,zs,hz,hsy.trans (hzg.wide (SY _) hmdb.2),jP hmdb.1 hmdb.2 hzg (Su _ _ _) hzs (dH (ys:=ys) (by first|(rw[show e=md by omega] at q5;exact q5)|(rw[show e=b by omega] at q4;exact q4)) (fun k k1 k2=>hzg.2.2.1 k (.inr k1))) q7⟩
    refine Gz 5 ?_;refine Pw rfl ?_;have hmdb:a≤md∧md≤b:=by omega
    have hsy:Seg xs ys a b:=sK hyp hyk (fun p hp=>by have:=dM s m e p;omega) (fun p p1 p2=>by have:=dM s m e p;omega)
    first
    |exact⟨_,rfl,rfl,us,hu,(hsy.trans (hzg.wide (SY _) hmdb.2)).trans (hug.wide hmdb.1 (SY _)),jP hmdb.1 hmdb.2 hzg hug hzs hus q7⟩
    |exact⟨_,rfl,rfl,zs,hz,hsy.trans (hzg.wide (SY _) hmdb.2),jP hmdb.1 hmdb.2 hzg (Su _ _ _) hzs (dH (ys:=ys) (by first|(rw[show e=md by omega] at q5;exact q5)|(rw[show e=b by omega] at q4;exact q4)) (fun k k1 k2=>hzg.2.2.1 k (.inr k1))) q7⟩
   refine Gz 9 ?_;refine Pw rfl ?_;have hmdb:a≤md∧md≤b:=by omega
   have hsy:Seg xs ys a b:=sK hyp hyk (fun p hp=>by have:=dM s m e p;omega) (fun p p1 p2=>by have:=dM s m e p;omega)
   first
   |exact⟨_,rfl,rfl,us,hu,(hsy.trans (hzg.wide (SY _) hmdb.2)).trans (hug.wide hmdb.1 (SY _)),jP hmdb.1 hmdb.2 hzg hug hzs hus q7⟩
   |exact⟨_,rfl,rfl,zs,hz,hsy.trans (hzg.wide (SY _) hmdb.2),jP hmdb.1 hmdb.2 hzg (Su _ _ _) hzs (dH (ys:=ys) (by first|(rw[show e=md by omega] at q5;exact q5)|(rw[show e=b by omega] at q4;exact q4)) (fun k k1 k2=>hzg.2.2.1 k (.inr k1))) q7⟩
end Go.Proofs.YthmmmagklhiiiaaGreatDoor
