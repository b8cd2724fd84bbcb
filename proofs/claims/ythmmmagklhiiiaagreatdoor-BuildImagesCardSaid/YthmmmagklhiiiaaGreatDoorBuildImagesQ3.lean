/- lamella: what the law needs. No condition beyond the bounds that each states. -/
import Derived.Shelf.Strings.OnBuilder
import Derived.Test.YthmmmagklhiiiaaGreatDoorChecked
import Derived.Shelf.SlIterI.Sorted
import Derived.Shelf.SortM.Plain
import Derived.Shelf.SortM.SortNone
import Derived.Test.YthmmmagklhiiiaaGreatDoorBuildImagesQ2
namespace Go.Proofs.YthmmmagklhiiiaaGreatDoor
open Go Go.RowKit
set_option linter.unusedVariables false
set_option linter.unusedSectionVars false
set_option maxHeartbeats 64000000
open List (append_inj)
open Option (or_none)
open List renaming getElem?_eq_getElem → WK, length_append → WM, getElem?_eq_some_iff → WN, length_singleton → WP, mem_of_getElem? → WQ, length_take → WR, getD → WW, length_drop → WX, take_of_length_le → WY, length_nil → WZ, length_map → W2, length_eq_zero_iff → W3, length_pos_iff → W5, length_cons → W7, getElem?_of_mem → W8, append_assoc → W9, take_succ_eq_append_getElem → Xb, replicate → Xe, mem_singleton → Xg, nil_append → Xi, mem_append → Xj, take_length → Xl, take_append_drop → Xn, mem_cons → Xo, length → Xp, mem_map → Xq, getElem?_take → Xr, length_replicate → Xt, pairwise_iff_getElem → Xu, getElem?_map → Xv, getElem?_eq_none → Xy, cons_append → XA, getElem?_append_left → XC, not_mem_nil → XD, getElem_mem → XE, getElem_of_mem → XF, length_set → XH, drop_eq_getElem_cons → XI, mem_of_mem_take → XL, flatMap_cons → XM, ext_getElem? → XR, drop_of_length_le → XU, range → XV, foldl_append → XY, foldl_cons → XZ, getElem?_drop → X1, mem_cons_of_mem → X3, pairwise_append → Yc, length_dropLast → Yd, take_take → Yk, pairwise_cons → Yl, mem_range → Ys, drop_left' → Yx, drop_drop → YG, map_map → YJ, mem_of_find?_eq_some → YK, take_left' → YP, set_append_right → YX, all_eq_true → Y4, take_drop → Zd, find?_eq_none → Zg, find?_isSome → Zl, find?_append → Zm
open _root_.Nat renaming le_refl → WT, zero_le → WU, le_trans → Xf, blt → Xs, mul_le_mul_right → Xw, lt_of_lt_of_le → Xz, zero_add → XJ, add_mul → XK, min_eq_left → XT, one_mul → XW, lt_trichotomy → XX, blt_eq → X0, succ_eq_add_one → X5, eq_zero_or_pos → Ya, beq → Yh, add_sub_cancel → Yj, mul_comm → Yn, lt_or_ge → Yu, mul_assoc → YM, ble_eq → Y2, zero_mul → Za
open Classical renaming byContradiction → WV, not_not → Xk
open UInt8 renaming ofNat → W4, lt_iff_toNat_lt → X9
open _root_.Option renaming map_eq_some_iff → Xc, isSome_iff_exists → Zn
open Go.Op renaming bytesLess → Xd
open _root_.Bool renaming and_eq_true → Xh, or_eq_true → Yf, not_eq_true' → YD
open _root_.Int renaming toNat_natCast → Xm, natCast_nonneg → Yv
open Decidable renaming not_not → X4
open _root_.Array renaming replicate → Yg, setIfInBounds_comm → YO, getElem?_eq_none → YW
open Prod renaming ext → YU
section
theorem yP(ao bo:Option Addr)(ac bc:Nat)(xs ys:By)(W:World)(ha:Vw b8 W.heap ao ac xs)(hb:Vw b8 W.heap bo bc ys) :
 CA 195 [.slice ao xs.length ac,.slice bo ys.length bc] W fun v w'=>v=.bool (decide (xs=ys))∧w'=W:=by
 refine cS 10 [(0,_),(1,_)] Tryz.func195 ?_;refine Gz 8 ?_;refine cL (TM aH ty5 ty9 rfl ha) ?_;refine Gz 1 ?_;refine cL (TM aH ty5 ty9 rfl hb) ?_;refine cL (TW rfl rfl) ?_;refine Gz 5 ?_;exact⟨_,rfl,rfl,rfl⟩
variable {D:Nat→Prop}
theorem HL(a b:Xa)(ah bh:Hd)(W:World)(ha:ByV D W.heap ah a.2)(hb:ByV D W.heap bh b.2) :
 CA 194 [.agg (fY (a.1,ah)).toArray,.agg (fY (b.1,bh)).toArray] W fun v w'=>v=.bool (decide (a=b))∧aA nob W w':=by
 refine cS 17 [(0,_),(1,_)] Tryz.func194 ?_;refine Gz 2 ?_;refine To rfl rfl ?_;intro w1 hg1 hs1 hf1;obtain⟨g,hg⟩:∃ g,g=W.heap.size:=⟨_,rfl⟩
 rw[←hg] at hg1 hs1 ⊢
 replace hg1:w1.heap[g]?=some (.cells (fY (a.1,ah)).toArray 123 (0,0)):=hg1
 refine To rfl rfl ?_;intro w2 hg2 hs2 hf2;obtain⟨r,hr⟩:∃ r,r=w1.heap.size:=⟨_,rfl⟩
 rw[←hr] at hg2 hs2 ⊢;have hgq:w2.heap[r]?=some (.cells (fY (b.1,bh)).toArray 123 (0,0)):=hg2;have hgp:=hf2.obj hg1 id;have hF2:=hf1.trans hf2;have ha2:=ha.WH hF2 (fun _ _=>id);have hb2:=hb.WH hF2 (fun _ _=>id);refine Gz 6 ?_;refine cL (S2 eG rfl (by first|exact aD hgp rfl|exact aD hgq rfl)) ?_;refine Gz 1 ?_;refine cL (S2 eG rfl (by first|exact aD hgp rfl|exact aD hgq rfl)) ?_;refine fK 0 ?_ ?_<;>intro h9
 ·refine Gz 2 ?_;refine cW (S3 (u:=.slice ah.a a.2.length ah.c) (S2 aL rfl (aD hgp rfl)) (by rw[←ha2.1];rfl)) ?_;refine Gz 1 ?_;refine cW (S3 (u:=.slice bh.a b.2.length bh.c) (S2 aL rfl (aD hgq rfl)) (by rw[←hb2.1];rfl)) ?_;refine Tb rfl rfl MW rfl (yP _ _ _ _ _ _ w2 ha2.2.1 hb2.2.1) rfl ?_;rintro _ w3 ⟨rfl,hw3⟩;subst w3;refine Gz 6 ?_
  first
  |exact⟨_,rfl,congrArg _ (decide_eq_decide.2 ⟨fun e=>YU h9 e,fun e=>by rw[e]⟩),hF2⟩
  |exact⟨_,rfl,by rw[WL (show ¬ a=b from fun e=>h9 (by rw[e]))],hF2⟩
 refine Gz 12 ?_
 first
 |exact⟨_,rfl,congrArg _ (decide_eq_decide.2 ⟨fun e=>YU h9 e,fun e=>by rw[e]⟩),hF2⟩
 |exact⟨_,rfl,by rw[WL (show ¬ a=b from fun e=>h9 (by rw[e]))],hF2⟩
theorem B7(xh yh:Hd)(X Y:List Xa)(W:World)(hx:XsV D W.heap xh X)(hy:XsV D W.heap yh Y) :
 CA 196 [hd xh,hd yh,.func (.func 194) #[] #[]] W fun v w'=>v=.bool (decide (X=Y))∧aA nob W w':=by
 obtain⟨hxl,ys,hyv,hyl,hyd,hyx⟩:=hx;obtain⟨hwl,zs,hzv,hzl,hzd,hzx⟩:=hy;have hx63:=hyv.WF;refine cS 32 [(0,_),(1,_),(2,_)] Tryz.func196 ?_;refine Gz 10 ?_;rw[hxl];refine Gz 2 ?_;rw[hwl];refine fK 0 ?_ ?_<;>intro h14
 ·refine Gz 11 ?_
  first
  |exact⟨_,rfl,by rw[WL (show ¬ X=Y from fun e=>h14 (by rw[e]))],VZ _ _⟩
  |exact⟨_,rfl,by rw[WL (show ¬ X=Y from fun e=>h29 (by rw[e,hbk] at hak;cases hak;rfl))],hF6.trans hf7⟩
  |exact⟨_,rfl,by rw[WO (show X=Y from jQ hxe (by omega) hsame)],hF2⟩
 refine Gz 10 ?_;rw[hxl];refine Gz 4 ?_;have hxe:X.length=Y.length:=by omega
 refine S4 (β:=Nat) (fun k=>[(0,hd xh),(1,hd yh),(2,.func (.func 194) #[] #[]),(15,hd xh),(16,iV X.length),(17,iV k)]) (fun k w=>k≤X.length∧(∀ j:Nat,j<k→X[j]?=Y[j]?)∧aA nob W w) (fun k=>X.length-k) 0 ⟨rfl,rfl,rfl,rfl,rfl,rfl,trivial⟩ ⟨WU _,fun j hj=>by omega,VZ _ _⟩ ?_;rintro k w2 ⟨hk,hsame,hF2⟩;refine fK 2 ?_ ?_<;>intro h18
 ·have hkx:k<X.length:=by omega
  obtain⟨a,ah,hak,hyk,hva⟩:=XsV.at (D:=D) (H:=w2.heap) (h:=xh) hyl (fun i x y h1 h2=>⟨(hyx i x y h1 h2).1,(hyx i x y h1 h2).2.WH hF2 (fun _ _=>id)⟩) hkx;obtain⟨b,bh,hbk,hzk,hvb⟩:=XsV.at (D:=D) (H:=w2.heap) (h:=yh) hzl (fun i x y h1 h2=>⟨(hzx i x y h1 h2).1,(hzx i x y h1 h2).2.WH hF2 (fun _ _=>id)⟩) (by omega:k<Y.length);have hyv3:=hyv.keep' hF2 (fun _ _ _=>id);have hzv3:=hzv.keep' hF2 (fun _ _ _=>id);refine Gz 11 ?_;refine cL (S1 gZ rfl rfl (by rw[hxl,←hyl];exact hyv3.non) (by omega)) ?_;refine cL (Tf (cs:=fY (a.1,ah)) eK rfl (fun j v hj=>hyv3.rowZ k rfl hyk j v hj)) ?_;refine S5 tY rfl ?_;intro w3 hg3 hs3 hf3;obtain⟨q,hq⟩:∃ q,q=w2.heap.size:=⟨_,rfl⟩
  rw[←hq] at hg3 ⊢;refine Gz 1 ?_;refine Te (vs:=fY (a.1,ah)) eK rfl rfl (cR (a.1,ah)).2 hg3 rfl ?_;intro w4 hg4 hs4 hf4;have hf24:aA nob w2 w4:=hf3.WD hf4 (fun k e=>.inr (by have e:k=q:=e;omega));have hzv4:=hzv3.keep' hf24 (fun _ _ _=>id);refine Gz 6 ?_;refine cL (S1 gZ rfl rfl (by rw[hwl,←hzl];exact hzv4.non) (by omega)) ?_;refine cL (Tf (cs:=fY (b.1,bh)) eK rfl (fun j v hj=>hzv4.rowZ k rfl hzk j v hj)) ?_;refine S5 tY rfl ?_;intro w5 hg5 hs5 hf5;obtain⟨r,hr⟩:∃ r,r=w4.heap.size:=⟨_,rfl⟩
  rw[←hr] at hg5 ⊢;refine Te (vs:=fY (b.1,bh)) eK rfl rfl (cR (b.1,bh)).2 hg5 rfl ?_;intro w6 hg6 hs6 hf6;have hf46:aA nob w4 w6:=hf5.WD hf6 (fun k e=>.inr (by have e:k=r:=e;omega));have hg64:=hf46.obj hg4 id;have hf26:=hf24.trans hf46;have hF6:=hF2.trans hf26;refine Gz 5 ?_;refine cL (Tf (cs:=fY (a.1,ah)) eK rfl (bI hg64 0 rfl)) ?_;refine cL (Tf (cs:=fY (b.1,bh)) eK rfl (bI hg6 0 rfl)) ?_;refine Uh Ph rfl rfl (HL a b ah bh w6 (hva.WH hf26 (fun _ _=>id)) (hvb.WH hf26 (fun _ _=>id))) rfl ?_;rintro _ w7 ⟨rfl,hf7⟩;by_cases h29:a=b
  ·rw[WO h29];refine cL (Tj rfl) ?_;refine Gz 10 ?_;refine aG (k+1) ⟨by omega,fun j hj=>?_,hF6.trans hf7⟩ (by show X.length-(k+1)<X.length-k;omega);by_cases e:j=k
   ·subst e;rw[hak,hbk,h29]
   ·exact hsame j (by omega)
  rw[WL h29];refine cL (Tj rfl) ?_;refine Gz 15 ?_
  first
  |exact⟨_,rfl,by rw[WL (show ¬ X=Y from fun e=>h14 (by rw[e]))],VZ _ _⟩
  |exact⟨_,rfl,by rw[WL (show ¬ X=Y from fun e=>h29 (by rw[e,hbk] at hak;cases hak;rfl))],hF6.trans hf7⟩
  |exact⟨_,rfl,by rw[WO (show X=Y from jQ hxe (by omega) hsame)],hF2⟩
 refine Gz 16 ?_
 first
 |exact⟨_,rfl,by rw[WL (show ¬ X=Y from fun e=>h14 (by rw[e]))],VZ _ _⟩
 |exact⟨_,rfl,by rw[WL (show ¬ X=Y from fun e=>h29 (by rw[e,hbk] at hak;cases hak;rfl))],hF6.trans hf7⟩
 |exact⟨_,rfl,by rw[WO (show X=Y from jQ hxe (by omega) hsame)],hF2⟩
theorem KG(p q:NdH×Nd)(W:World)(hp:NdV D W.heap p)(hq:NdV D W.heap q) :
 CA 153 [.agg (aE p).toArray,.agg (aE q).toArray] W fun v w'=>v=.bool (decide (Alk p.2 q.2))∧aA nob W w':=by
 have no:∀ w',¬ Alk p.2 q.2→aA nob W w'→Ret (fun v w'=>v=.bool (decide (Alk p.2 q.2))∧aA nob W w') (.returned (.bool false)) w':=fun w' h f=>⟨_,rfl,by rw[WL h],f⟩
 refine cS 47 [(0,_),(1,_)] Tryz.func153 ?_;refine Gz 2 ?_;refine To rfl rfl ?_;intro w1 hg1 hs1 hf1;obtain⟨g,hg⟩:∃ g,g=W.heap.size:=⟨_,rfl⟩
 rw[←hg] at hg1 hs1 ⊢
 replace hg1:w1.heap[g]?=some (.cells (aE p).toArray 37 (0,0)):=hg1
 refine To rfl rfl ?_;intro w2 hg2 hs2 hf2;obtain⟨r,hr⟩:∃ r,r=w1.heap.size:=⟨_,rfl⟩
 rw[←hr] at hg2 hs2 ⊢;have hgq:w2.heap[r]?=some (.cells (aE q).toArray 37 (0,0)):=hg2;have hgp:=hf2.obj hg1 id;have hF2:=hf1.trans hf2;have hp2:=hp.WG hF2;have hq2:=hq.WG hF2;refine Gz 11 ?_;refine cL (S2 aF rfl (by first|exact aD hgp rfl|exact aD hgq rfl)) ?_;refine Gz 1 ?_;refine cL (S2 aF rfl (by first|exact aD hgp rfl|exact aD hgq rfl)) ?_;refine fK 0 ?_ ?_<;>intro h10
 ·refine Gz 2 ?_;refine cW (Tf (cs:=DK p.2) uN rfl (bI hgp 3 rfl)) ?_;refine Gz 1 ?_;refine cW (Tf (cs:=DK q.2) uN rfl (bI hgq 3 rfl)) ?_;refine Tz rfl rfl (Vz stA Ox Oy Oz (a:=p.2.md) (b:=p.2.ud) (c:=p.2.gd) (a':=q.2.md) (b':=q.2.ud) (c':=q.2.gd) rfl rfl) rfl (fun h16=>?_) (fun h16=>?_)
  ·refine Gz 3 ?_;refine cW (S2 eG rfl (by first|exact aD hgp rfl|exact aD hgq rfl)) ?_;refine Gz 1 ?_;refine cW (S2 eG rfl (by first|exact aD hgp rfl|exact aD hgq rfl)) ?_;refine fW 0 ?_ ?_<;>intro h23
   ·refine Gz 3 ?_;refine cW (S2 Bv rfl (by first|exact aD hgp rfl|exact aD hgq rfl)) ?_;refine Gz 1 ?_;refine cW (S2 Bv rfl (by first|exact aD hgp rfl|exact aD hgq rfl)) ?_;refine Tz rfl rfl (Tm (T6 ty4 rfl rfl)) rfl (fun h30=>?_) (fun h30=>?_)
    ·refine Gz 3 ?_;refine cW (S3 (u:=.slice p.1.data.a p.2.data.length p.1.data.c) (S2 aL rfl (aD hgp rfl)) (by rw[←hp2.2.1.1];rfl)) ?_;refine Gz 1 ?_;refine cW (S3 (u:=.slice q.1.data.a q.2.data.length q.1.data.c) (S2 aL rfl (aD hgq rfl)) (by rw[←hq2.2.1.1];rfl)) ?_;refine Tb rfl rfl MW rfl (yP _ _ _ _ _ _ w2 hp2.2.1.2.1 hq2.2.1.2.1) rfl ?_;rintro _ w3 ⟨rfl,hw3⟩;subst w3;by_cases h37:p.2.data=q.2.data
     ·rw[WO h37];refine Gz 3 ?_;refine cW (S2 cK rfl (by first|exact aD hgp rfl|exact aD hgq rfl)) ?_;refine Gz 1 ?_;refine cW (S2 cK rfl (by first|exact aD hgp rfl|exact aD hgq rfl)) ?_;refine Gz 1 ?_;refine Tb rfl rfl Pg rfl (B7 p.1.xs q.1.xs p.2.xs q.2.xs _ hp2.2.2 hq2.2.2) rfl ?_;rintro _ w3 ⟨rfl,hf3⟩;refine Gz 6 ?_
      first
      |exact⟨_,rfl,congrArg _ (decide_eq_decide.2 ⟨fun e=>⟨h10,h16,h23,by simpa using h30,h37,e⟩,fun A=>A.2.2.2.2.2⟩),hF2.trans hf3⟩
      |exact no _ (fun A=>h10 A.1) hF2
      |exact no _ (fun A=>h16 A.2.1) hF2
      |exact no _ (fun A=>h23 A.2.2.1) hF2
      |exact no _ (fun A=>h30 (by rw[A.2.2.2.1];exact beq_self_eq_true _)) hF2
      |exact no _ (fun A=>h37 A.2.2.2.2.1) hF2
     rw[WL h37];refine Gz 14 ?_
     first
     |exact⟨_,rfl,congrArg _ (decide_eq_decide.2 ⟨fun e=>⟨h10,h16,h23,by simpa using h30,h37,e⟩,fun A=>A.2.2.2.2.2⟩),hF2.trans hf3⟩
     |exact no _ (fun A=>h10 A.1) hF2
     |exact no _ (fun A=>h16 A.2.1) hF2
     |exact no _ (fun A=>h23 A.2.2.1) hF2
     |exact no _ (fun A=>h30 (by rw[A.2.2.2.1];exact beq_self_eq_true _)) hF2
     |exact no _ (fun A=>h37 A.2.2.2.2.1) hF2
    refine Gz 21 ?_
    first
    |exact⟨_,rfl,congrArg _ (decide_eq_decide.2 ⟨fun e=>⟨h10,h16,h23,by simpa using h30,h37,e⟩,fun A=>A.2.2.2.2.2⟩),hF2.trans hf3⟩
    |exact no _ (fun A=>h10 A.1) hF2
    |exact no _ (fun A=>h16 A.2.1) hF2
    |exact no _ (fun A=>h23 A.2.2.1) hF2
    |exact no _ (fun A=>h30 (by rw[A.2.2.2.1];exact beq_self_eq_true _)) hF2
    |exact no _ (fun A=>h37 A.2.2.2.2.1) hF2
   refine Gz 28 ?_
   first
   |exact⟨_,rfl,congrArg _ (decide_eq_decide.2 ⟨fun e=>⟨h10,h16,h23,by simpa using h30,h37,e⟩,fun A=>A.2.2.2.2.2⟩),hF2.trans hf3⟩
   |exact no _ (fun A=>h10 A.1) hF2
   |exact no _ (fun A=>h16 A.2.1) hF2
   |exact no _ (fun A=>h23 A.2.2.1) hF2
   |exact no _ (fun A=>h30 (by rw[A.2.2.2.1];exact beq_self_eq_true _)) hF2
   |exact no _ (fun A=>h37 A.2.2.2.2.1) hF2
  refine Gz 35 ?_
  first
  |exact⟨_,rfl,congrArg _ (decide_eq_decide.2 ⟨fun e=>⟨h10,h16,h23,by simpa using h30,h37,e⟩,fun A=>A.2.2.2.2.2⟩),hF2.trans hf3⟩
  |exact no _ (fun A=>h10 A.1) hF2
  |exact no _ (fun A=>h16 A.2.1) hF2
  |exact no _ (fun A=>h23 A.2.2.1) hF2
  |exact no _ (fun A=>h30 (by rw[A.2.2.2.1];exact beq_self_eq_true _)) hF2
  |exact no _ (fun A=>h37 A.2.2.2.2.1) hF2
 refine Gz 41 ?_
 first
 |exact⟨_,rfl,congrArg _ (decide_eq_decide.2 ⟨fun e=>⟨h10,h16,h23,by simpa using h30,h37,e⟩,fun A=>A.2.2.2.2.2⟩),hF2.trans hf3⟩
 |exact no _ (fun A=>h10 A.1) hF2
 |exact no _ (fun A=>h16 A.2.1) hF2
 |exact no _ (fun A=>h23 A.2.2.1) hF2
 |exact no _ (fun A=>h30 (by rw[A.2.2.2.1];exact beq_self_eq_true _)) hF2
 |exact no _ (fun A=>h37 A.2.2.2.2.1) hF2
end
section
open Go Go.Proofs Go.Shelf
def Wl:Go.Shelf.Ren:=⟨fun|156=>148|165=>191|166=>192|169=>193|240=>219|241=>220|276=>232|277=>233|n=>n,fun|31=>32|9=>9|3=>3|4=>4|0=>0|20=>20|72=>243|76=>246|70=>241|37=>25|75=>245|127=>272|164=>282|5=>5|80=>248|n=>n,fun|n=>n⟩
theorem Wm:Go.Proofs.Lays.n156 Tryz.prog Wl where
 mixed:=by kernel_rfl
 f156:=Tryz.func148.trans (congrArg some (by kernel_rfl))
 f165:=Tryz.func191.trans (congrArg some (by kernel_rfl))
 f166:=Tryz.func192.trans (congrArg some (by kernel_rfl))
 f169:=Tryz.func193.trans (congrArg some (by kernel_rfl))
 f240:=Tryz.func219.trans (congrArg some (by kernel_rfl))
 f241:=Tryz.func220.trans (congrArg some (by kernel_rfl))
 f276:=Tryz.func232.trans (congrArg some (by kernel_rfl))
 f277:=Tryz.func233.trans (congrArg some (by kernel_rfl))
 t0:=Tryz.underlying0
 a0:=Tryz.isAgg0
 z0:=Tryz.sizeOf0
 v0:=Tryz.zeroValue0
 t3:=Tryz.underlying3
 a3:=Tryz.isAgg3
 z3:=Tryz.sizeOf3
 v3:=Tryz.zeroValue3
 t4:=Tryz.underlying4
 a4:=Tryz.isAgg4
 z4:=Tryz.sizeOf4
 v4:=Tryz.zeroValue4
 t9:=Tryz.underlying9
 a9:=Tryz.isAgg9
 z9:=Tryz.sizeOf9
 v9:=Tryz.zeroValue9
 t20:=Tryz.underlying20
 a20:=Tryz.isAgg20
 z20:=Tryz.sizeOf20
 v20:=Tryz.zeroValue20
 t31:=Tryz.underlying32
 a31:=Tryz.isAgg32
 z31:=Tryz.sizeOf32
 v31:=Tryz.zeroValue32
 t37:=Tryz.underlying25
 a37:=Tryz.isAgg25
 z37:=Tryz.sizeOf25
 v37:=Tryz.zeroValue25
 t70:=Tryz.underlying241
 a70:=Tryz.isAgg241
 z70:=Tryz.sizeOf241
 v70:=Tryz.zeroValue241
 t72:=Tryz.underlying243
 a72:=Tryz.isAgg243
 z72:=Tryz.sizeOf243
 v72:=Tryz.zeroValue243
 t75:=Tryz.underlying245
 a75:=Tryz.isAgg245
 z75:=Tryz.sizeOf245
 v75:=Tryz.zeroValue245
 t76:=Tryz.underlying246
 a76:=Tryz.isAgg246
 z76:=Tryz.sizeOf246
 v76:=Tryz.zeroValue246
 t127:=Tryz.underlying272
 a127:=Tryz.isAgg272
 z127:=Tryz.sizeOf272
 v127:=Tryz.zeroValue272
 t164:=Tryz.underlying282
 a164:=Tryz.isAgg282
 z164:=Tryz.sizeOf282
 v164:=Tryz.zeroValue282
end
theorem xX:Builder.Extra Tryz.prog Wl where
 sizeBuilder:=by kernel_rfl
 liesBuilder:=by kernel_rfl
 t5:=Tryz.underlying5
 a5:=Tryz.isAgg5
 z5:=Tryz.sizeOf5
 v5:=Tryz.zeroValue5
 infoByte:=by kernel_rfl
 cellsByte:=by kernel_rfl
 sizeByte:=by kernel_rfl
 neB5:=by decide
theorem Eh(a:Option Addr)(c:Nat)(L:List By)(W:World)(hv:Vw gY W.heap a c L)(hl:L.length≤1000)(hs:∀ s∈L,s.length≤255) :
 CA 148 [.slice a L.length c,.string (bs [47])] W fun v w'=>v=.string (bs (Lib.join L [47]))∧aA nob W w':=by
 match L,hv,hl,hs with
|[],hv,_,_=>
   refine(Any.strings_Join_none Wm xX a c (bs [47]) W).mono ?_;rintro e w' ⟨rfl,rfl⟩;exact⟨_,rfl,rfl,VZ _ _⟩
|x::L,hv,hl,hs=>
   cases a with
  |none=>exact absurd rfl (hv.non (by simp))
  |some ad=>
     obtain⟨bk,o,sp⟩:=ad;have h0:=hv.get 0 x rfl;have hsp:sp=none:=by
      unfold bD at h0
      split at h0
      · split at h0
        ·cases h0
        ·rename_i h;simpa[adr,Addr.add] using h
      ·cases h0
     subst hsp;have hlt:bk<W.heap.size:=by
      unfold bD at h0
      split at h0
      ·rename_i h;exact(Array.getElem?_eq_some_iff.1 h).1
      ·cases h0
     have hj:(Lib.join (((x::L).map bs).map (·.data.toList)) (bs [47]).data.toList)=Lib.join (x::L) [47]:=by
      congr 1;rw[YJ];conv=>rhs;rw[←List.map_id (x::L)]
      rfl
     have hc:=Any.strings_Join Wm xX bk o c ((x::L).map bs) (bs [47]) W (fun j y hy=>by
      rw[Xv,Xc] at hy;obtain⟨s,hs1,rfl⟩:=hy;have hg:=hv.get j s hs1;by_cases hj0:j=0<;>simpa[adr,Addr.add,cell?_eq,gY,hj0] using hg) hlt (by rw[W2];omega) (by rw[W2];exact hv.le) (by
       rw[hj];have:=xU hs;omega)
     rw[hj,W2] at hc;refine hc.mono ?_;rintro e w' ⟨rfl,hb⟩;exact⟨_,rfl,rfl,hb.os,hb.tape,hb.output,hb.size,fun k hk _=>hb.block k hk⟩
theorem xM(a:Option Addr)(c:Nat)(L:List By)(W:World)(hv:Vw gY W.heap a c L)(hl:L.length≤1000)(hs:∀ s∈L,s.length≤255) :
 CA 107 [.slice a L.length c] W fun v w'=>v=.string (bs (eV L))∧aA nob W w':=by
 have hjl:=xU hs;refine cS 6 [(0,_)] Tryz.func107 ?_;refine cA 8 PF (Eh a c L W hv hl hs) ?_;rintro _ w1 ⟨rfl,hf1⟩;refine cL (Vr (a:=[47]) rfl rfl (by simp;omega)) ?_;refine Gz 5 ?_;exact⟨_,rfl,rfl,hf1⟩
section
open Go Go.RowKit Go.Maps
def zNd:Value:=.agg (aE (tD,nd0)).toArray
theorem mpN:tW Tryz.prog 174 9 37 zNd:=⟨by kernel_rfl,by kernel_rfl⟩
def atN(qs:List (NdH×Nd))(s:List By):NdH×Nd:=(qs.find? (fun q=>decide (q.2.names=s))).getD (tD,nd0)
def BV(qs:List (NdH×Nd))(s:List By):Prop:=∃ q∈qs,q.2.names=s
instance (qs:List (NdH×Nd))(s:List By):Decidable (BV qs s):=by unfold BV;exact inferInstance
def tX(qs:List (NdH×Nd))(m:List (SK×Value)):Prop:=∀ (s:List By) (h:(eV s).length≤maxLen),kK s→cQ m (⟨eV s,h⟩:SK)=(qs.find? (fun q=>decide (q.2.names=s))).map (fun q=>Value.agg (aE q).toArray)
section
variable {qs:List (NdH×Nd)}{m:List (SK×Value)}{s:List (List UInt8)}
theorem Wn:tX [] []:=fun s h hs=>rfl
theorem tX.z(h:tX qs m)(hs:kK s)(hl:(eV s).length≤maxLen):(cQ m (⟨eV s,hl⟩:SK)).getD zNd=Value.agg (aE (atN qs s)).toArray:=by
 rw[h s hl hs];unfold atN;cases qs.find? (fun q=>decide (q.2.names=s))<;>rfl
theorem tX.is(h:tX qs m)(hs:kK s)(hl:(eV s).length≤maxLen):decide ((cQ m (⟨eV s,hl⟩:SK)).isSome=true)=decide (BV qs s):=by
 apply decide_eq_decide.2;rw[h s hl hs,Option.isSome_map,Zl];simp[BV]
theorem tX.snoc(h:tX qs m){p:NdH×Nd}(hp:kK p.2.names)(hn:¬ BV qs p.2.names)(hl:(eV p.2.names).length≤maxLen):tX (qs++[p]) (cX m (⟨eV p.2.names,hl⟩:SK) (.agg (aE p).toArray)):=fun s hs ho=>by
 rw[kF,Zm];by_cases e:p.2.names=s
 · subst e
   have:qs.find? (fun q=>decide (q.2.names=p.2.names))=none:=Zg.2 (fun q hq=>by simpa using fun e=>hn ⟨q,hq,e⟩);rw[WJ rfl,this];simp
 · have:[p].find? (fun q=>decide (q.2.names=s))=none:=by simp[e]
   rw[WI (fun g=>e (G0 ho hp (congrArg Subtype.val g)).symm),h s hs ho,this,or_none]
end
theorem Db{l:List Nd}{n:Nd}(h:∀ s∈eO l,dN s=0)(hn:n∈l):kK n.names∧∀ s∈n.names,s.length≤255:=by
 have k:∀ s∈n.names,dN s=0:=fun s hs=>h s (List.mem_flatMap.2 ⟨n,hn,hs⟩);exact⟨fun s hs=>⟨(jM (k s hs)).2.1,(jM (k s hs)).2.2.2⟩,fun s hs=>(jM (k s hs)).1⟩
theorem xE{s:List By}(hl:s.length≤16)(h:∀ x∈s,x.length≤255):(eV s).length≤maxLen:=by
 have:=xU h;unfold eV maxLen;rw[W7];omega
theorem HY{ps:List (NdH×Nd)}{i:Nat}{p:NdH×Nd}(hp:ps[i]?=some p)(h:BV (ps.take i) p.2.names):dE (nds ps):=by
 obtain⟨q,hq,e⟩:=h;obtain⟨j,hj⟩:=W8 hq;rw[Xr] at hj
 split at hj
 ·exact(eZ ps).2 ⟨j,i,q,p,by assumption,hj,hp,e⟩
 ·cases hj
theorem EE{ps:List (NdH×Nd)}{i:Nat}{p:NdH×Nd}(hp:ps[i]?=some p)(h:¬ BV (ps.take i) p.2.names):¬ gP ps p.2.names<i:=by
 intro hlt;rcases gI ps p.2.names with⟨h1,h2⟩|⟨j,q,h1,h2,h3,h4⟩
 ·exact absurd rfl (h2 p (WQ hp))
 ·exact h ⟨q,WQ (i:=j) (by rw[Xr,WJ (by omega)];exact h2),h3⟩
theorem sM{ps:List (NdH×Nd)}(ht:¬ dE (nds ps))(s:List By):(atN ps s).2.kind=1↔fZ (nds ps) s:=by
 unfold atN;cases hf:ps.find? (fun q=>decide (q.2.names=s)) with
|none=>
   rw[Zg] at hf;constructor
   ·intro h;cases h
   · rintro⟨n,hn,h1,h2⟩
     obtain⟨q,hq,rfl⟩:=Xq.1 hn;exact absurd (WO h1) (hf q hq)
|some q=>
   have hq:=YK hf;have he:q.2.names=s:=by simpa using List.find?_some (p:=fun q:NdH×Nd=>decide (q.2.names=s)) hf
   constructor
   ·intro h;exact⟨q.2,Xq.2 ⟨q,hq,rfl⟩,he,h⟩
   · rintro⟨n,hn,h1,h2⟩
     obtain⟨r,hr,rfl⟩:=Xq.1 hn;obtain⟨i,hi⟩:=W8 hq;obtain⟨j,hj⟩:=W8 hr;have:i=j:=by
      apply WV;intro hne;rcases Nat.lt_or_gt_of_ne hne with hlt|hgt
      ·exact ht ((eZ ps).2 ⟨i,j,q,r,hlt,hi,hj,he.trans h1.symm⟩)
      ·exact ht ((eZ ps).2 ⟨j,i,r,q,hgt,hj,hi,h1.trans he.symm⟩)
     subst this;rw[hi] at hj;cases hj;exact h2
variable {D:Nat→Prop}
theorem Ja(lo:Option Addr)(lc:Nat)(ps:List (NdH×Nd))(W:World)(hv:aO D W.heap lo lc ps)(hsm:∀ p∈ps,smN p.2) :
 CA 106 [.slice lo ps.length lc] W fun v w'=>∃ z,z=nmd (nds ps)∧aA nob W w'∧((z≠0∧v=.tuple [.map none,iV z].toArray)∨(z=0∧∃ g m,v=.tuple [.map (some g),iV 0].toArray∧dM enS w'.heap g m∧tX ps m)):=by
 have h63:=hv.1.WF;refine cS 70 [(0,_)] Tryz.func106 ?_;refine Gz 15 ?_;refine S4 (β:=Nat) (fun i=>[(0,.slice lo ps.length lc),(17,.slice lo ps.length lc),(18,iV ps.length),(19,iV i)]) (fun i w=>i≤ps.length∧(∀ s∈eO ((nds ps).take i),dN s=0)∧aA nob W w) (fun i=>ps.length-i) 0 ⟨rfl,rfl,rfl,rfl,trivial⟩ ⟨WU _,by simp[eO],VZ _ _⟩ ?_;rintro i w2 ⟨hi,hok,hF2⟩;refine fK 2 ?_ ?_<;>intro h20
 ·have hil:i<ps.length:=by omega
  obtain⟨p,hp⟩:∃ p,ps[i]?=some p:=⟨_,WK hil⟩
  have hpm:=WQ hp;have hv2:=hv.WG hF2;refine Gz 10 ?_;refine cL (S1 aQ rfl rfl hv2.1.non (by omega)) ?_;refine cL (Tf (cs:=aE p) aZ rfl (fun j v hj=>hv2.1.rowZ i rfl hp j v hj)) ?_;refine S5 eY rfl ?_;intro w4 hg4 hs4 hf4;obtain⟨q,hq⟩:∃ q,q=w2.heap.size:=⟨_,rfl⟩
  rw[←hq] at hg4 ⊢;refine Te (vs:=aE p) aZ rfl rfl (aB p).2 hg4 rfl ?_;intro w5 hg5 hs5 hf5;have hF5:aA nob W w5:=hF2.trans (hf4.WD hf5 (fun k e=>.inr (by have e:k=q:=e;omega)));have hn5:=((hv.WG hF5).2 p hpm).1;refine Gz 7 ?_;rw[hn5.1];refine Gz 4 ?_;refine S4 (β:=Nat) (fun k=>[(0,.slice lo ps.length lc),(17,.slice lo ps.length lc),(18,iV ps.length),(19,iV i),(24,hd p.1.names),(25,iV p.2.names.length),(26,iV k)]) (fun k w=>k≤p.2.names.length∧(∀ s∈p.2.names.take k,dN s=0)∧aA nob W w) (fun k=>p.2.names.length-k) 0 ⟨rfl,rfl,rfl,rfl,rfl,rfl,rfl,trivial⟩ ⟨WU _,by simp,hF5⟩ ?_;rintro k w3 ⟨hk,hok2,hF3⟩;refine fK 2 ?_ ?_<;>intro h27
  ·have hkl:k<p.2.names.length:=by omega
   obtain⟨s,hs⟩:∃ s,p.2.names[k]?=some s:=⟨_,WK hkl⟩
   have hn3:=((hv.WG hF3).2 p hpm).1;have hl63:=hn3.2.1.WF;refine Gz 10 ?_;refine cL (SY jH rfl rfl (by rw[hn3.1];exact hn3.2.1.non) (by have:=hn3.1;omega)) ?_;refine cL (S2 eG rfl (hn3.2.1.get k s hs)) ?_;refine cA 6 M3 (Cq s w3 ((hsm p hpm).2.1 s (WQ hs))) ?_;rintro _ w6 ⟨rfl,hf6⟩;refine fK 6 ?_ ?_<;>intro h33
   ·refine Gz 21 ?_;have e:=C9 (bE hp) hs hok hok2 h33;exact⟨_,rfl,_,(show dN s=nmd (nds ps) by unfold nmd;rw[e,WJ h33]),hF3.trans hf6,.inl ⟨h33,rfl⟩⟩
   refine Gz 10 ?_;refine aG (k+1) ⟨by omega,fun t ht=>?_,hF3.trans hf6⟩ (by show p.2.names.length-(k+1)<p.2.names.length-k;omega);rw[tkL hs,Xj,Xg] at ht;rcases ht with ht|rfl
   ·exact hok2 t ht
   ·exact Xk.1 h33
  have hke:k=p.2.names.length:=by omega
  subst hke;rw[Xl] at hok2;refine Gz 14 ?_;refine aG (i+1) ⟨by omega,fun s hs=>?_,hF3⟩ (by show ps.length-(i+1)<ps.length-i;omega);rw[tkN hp,yT,Xj] at hs;exact hs.elim (hok s) (hok2 s)
 have hie:i=ps.length:=by omega
 subst hie;rw[WY (by simp)] at hok;have hz:iJ (eO (nds ps))=0:=pR hok;refine Gz 18 ?_;refine S4 (β:=Nat) (fun i=>[(0,.slice lo ps.length lc),(37,.slice lo ps.length lc),(38,iV ps.length),(39,iV i)]) (fun i w=>i≤ps.length∧(∀ n∈(nds ps).take i,¬ 16<n.names.length)∧aA nob W w) (fun i=>ps.length-i) 0 ⟨rfl,rfl,rfl,rfl,trivial⟩ ⟨WU _,by simp,hF2⟩ ?_;rintro i w2 ⟨hi,hdp,hF2⟩;refine fK 2 ?_ ?_<;>intro h40
 ·have hil:i<ps.length:=by omega
  obtain⟨p,hp⟩:∃ p,ps[i]?=some p:=⟨_,WK hil⟩
  have hpm:=WQ hp;have hv2:=hv.WG hF2;refine Gz 10 ?_;refine cL (S1 aQ rfl rfl hv2.1.non (by omega)) ?_;refine cL (Tf (cs:=aE p) aZ rfl (fun j v hj=>hv2.1.rowZ i rfl hp j v hj)) ?_;refine S5 eY rfl ?_;intro w4 hg4 hs4 hf4;obtain⟨q,hq⟩:∃ q,q=w2.heap.size:=⟨_,rfl⟩
  rw[←hq] at hg4 ⊢;refine Te (vs:=aE p) aZ rfl rfl (aB p).2 hg4 rfl ?_;intro w5 hg5 hs5 hf5;have hF5:aA nob W w5:=hF2.trans (hf4.WD hf5 (fun k e=>.inr (by have e:k=q:=e;omega)));have hn5:=((hv.WG hF5).2 p hpm).1;refine Gz 7 ?_;rw[hn5.1];refine fK 0 ?_ ?_<;>intro h46
  ·refine Gz 16 ?_;exact⟨_,rfl,9,(by unfold nmd;rw[WI (fun h=>h hz),WJ ⟨p.2,WQ (bE hp),by omega⟩]),hF5,.inl ⟨by decide,rfl⟩⟩
  refine Gz 10 ?_;exact aG (i+1) ⟨by omega,HK hp hdp (by omega),hF5⟩ (by show ps.length-(i+1)<ps.length-i;omega)
 have hie:i=ps.length:=by omega
 subst hie;rw[WY (by simp)] at hdp;have hd:¬ ∃ n∈nds ps,16<n.names.length:=fun⟨n,hn,h⟩=>hdp n hn h;refine Gz 11 ?_;refine TN (enc:=enS) rfl ?_;intro w3 hm3 hs3 hf3;obtain⟨g,hg⟩:∃ g,g=w2.heap.size:=⟨_,rfl⟩
 rw[←hg] at hm3 ⊢;refine Gz 12 ?_;have hF3:=hF2.trans hf3;refine S4 (β:=Nat×List (SK×Value)) (fun⟨i,m⟩=>[(0,.slice lo ps.length lc),(11,.map (some g)),(49,.slice lo ps.length lc),(50,iV ps.length),(51,iV i)]) (fun⟨i,m⟩ w=>i≤ps.length∧dM enS w.heap g m∧tX (ps.take i) m∧(∀ (j:Nat) (q:NdH×Nd),j<i→ps[j]?=some q→¬ gP ps q.2.names<j)∧aA nob W w) (fun⟨i,m⟩=>ps.length-i) ⟨0,[]⟩ ⟨rfl,rfl,rfl,rfl,rfl,trivial⟩ ⟨WU _,hm3,Wn,fun j q hj=>by omega,hF3⟩ ?_;rintro⟨i,m⟩ w4 ⟨hi,hm4,hMN,hno,hF4⟩;refine fK 2 ?_ ?_<;>intro h52
 ·have hil:i<ps.length:=by omega
  obtain⟨p,hp⟩:∃ p,ps[i]?=some p:=⟨_,WK hil⟩
  have hpm:=WQ hp;have hv4:=hv.WG hF4;have hnl:p.2.names.length≤16:=by have:¬ 16<p.2.names.length:=fun h=>hd ⟨p.2,WQ (bE hp),h⟩;omega
  obtain⟨hop,hsl⟩:=Db hok (WQ (bE hp));have hpl:=xE hnl hsl;refine Gz 10 ?_;refine cL (S1 aQ rfl rfl hv4.1.non (by omega)) ?_;refine cL (Tf (cs:=aE p) aZ rfl (fun j v hj=>hv4.1.rowZ i rfl hp j v hj)) ?_;refine S5 eY rfl ?_;intro w5 hg5 hs5 hf5;obtain⟨q,hq⟩:∃ q,q=w4.heap.size:=⟨_,rfl⟩
  rw[←hq] at hg5 ⊢;refine Te (vs:=aE p) aZ rfl rfl (aB p).2 hg5 rfl ?_;intro w6 hg6 hs6 hf6;have hf46:aA nob w4 w6:=hf5.WD hf6 (fun k e=>.inr (by have e:k=q:=e;omega));have hF6:aA nob W w6:=hF4.trans hf46;have hn6:=((hv.WG hF6).2 p hpm).1;have hm6:=hm4.WH hf46 id;have hgq:g<q:=by rw[hq];exact hm4.obj
  refine Gz 1 ?_;refine aW [(0,_),(11,_),(13,_),(49,_),(50,_),(51,_),(52,_)] ?_;refine Gz 5 ?_;refine SZ JT rfl ((by show Calls _ _ [Value.slice p.1.names.a p.1.names.n p.1.names.c].toArray _ _;rw[hn6.1];exact xM _ _ _ w6 hn6.2.1 (by omega) hsl)) rfl ?_;rintro _ w7 ⟨rfl,hf7⟩;have hm7:=hm6.WH hf7 id;have hg7:=hf7.obj hg6 id;refine Gz 8 ?_;refine cL (S3 (u:=.tuple [.agg (aE (atN (ps.take i) p.2.names)).toArray,.bool (decide (BV (ps.take i) p.2.names))].toArray) (TR mpN Dk (a:=(⟨eV p.2.names,hpl⟩:SK)) rfl rfl (fun _ e=>by rw[e];exact hm7)) (by rw[hMN.z hop hpl,hMN.is hop hpl])) ?_;refine Gz 3 ?_;by_cases h63:BV (ps.take i) p.2.names
  ·rw[WO h63];refine S5 eY rfl ?_;intro w8 hg8 hs8 hf8;obtain⟨r,hr⟩:∃ r,r=w7.heap.size:=⟨_,rfl⟩
   rw[←hr] at hg8 ⊢;refine Te (vs:=aE (atN (ps.take i) p.2.names)) aZ rfl rfl (aB _).2 hg8 rfl ?_;intro w9 hg9 hs9 hf9;have hf79:aA nob w7 w9:=hf8.WD hf9 (fun k e=>.inr (by have e:k=r:=e;omega));have hF9:aA nob W w9:=(hF6.trans hf7).trans hf79;have hm9:=hm7.WH hf79 id;have hgn:=hf79.obj hg7 id;refine Gz 23 ?_;exact⟨_,rfl,6,(by unfold nmd;rw[WI (fun h=>h hz),WI hd,WJ (HY hp h63)]),hF9,.inl ⟨by decide,rfl⟩⟩
  rw[WL h63];refine S5 eY rfl ?_;intro w8 hg8 hs8 hf8;obtain⟨r,hr⟩:∃ r,r=w7.heap.size:=⟨_,rfl⟩
  rw[←hr] at hg8 ⊢;refine Te (vs:=aE (atN (ps.take i) p.2.names)) aZ rfl rfl (aB _).2 hg8 rfl ?_;intro w9 hg9 hs9 hf9;have hf79:aA nob w7 w9:=hf8.WD hf9 (fun k e=>.inr (by have e:k=r:=e;omega));have hF9:aA nob W w9:=(hF6.trans hf7).trans hf79;have hm9:=hm7.WH hf79 id;have hgn:=hf79.obj hg7 id;refine Gz 14 ?_;refine cL (Tf (cs:=aE p) aZ rfl (bI hgn 0 rfl)) ?_;refine TH mpN Dk (a:=(⟨eV p.2.names,hpl⟩:SK)) rfl rfl rfl hm9 ?_;intro w10 hm10 hs10 hf10;have hF10:aA nob W w10:=hF9.WD hf10 (fun k e=>.inr (by have e:k=g:=e;have:=hF2.size;omega));refine Gz 7 ?_;refine aG ⟨i+1,_⟩ ⟨by omega,hm10,?_,fun j q hj hq=>?_,hF10⟩ (by show ps.length-(i+1)<ps.length-i;omega)
  ·rw[tkL hp];exact hMN.snoc hop h63 hpl
  · by_cases e:j=i
    ·subst e;rw[hp] at hq;cases hq;exact EE hp h63
    ·exact hno j q (by omega) hq
 have hie:i=ps.length:=by omega
 subst hie;rw[Xl] at hMN;refine Gz 15 ?_;refine aW [(0,_),(2,_),(3,_),(11,_),(49,_),(50,_),(51,_),(52,_)] ?_;refine Gz 3 ?_;exact⟨_,rfl,0,(by unfold nmd;rw[WI (fun h=>h hz),WI hd,WI (zZ fun i p h=>hno i p (WN.1 h).1 h)]),hF4,.inr ⟨rfl,g,m,rfl,hm4,hMN⟩⟩
end
section
open Go Go.RowKit Go.Maps
def N5(P:Program)(s f o:Nat):Bool:=match P.underlying s with
|some (.struct fs)=>(match fs[f]? with|some x=>decide (x.offset=o) && fC P x.type|none=>false)
|_=>false
section
variable {P:Program}{N:Nt}{l:SF}{ty:TypeId}{pos:String}{aft:Array Edge}{dd:Option Nat}{g:Option (Nat×Bool)}{CH:Array Obj→Prop}{x:Operand}{v:Value}
theorem UJ{cs:List Value}{s f o:Nat}(hs:N5 P s f o=true)(hx:evL l x=some (.agg cs.toArray))(hv:cs[o]?=some v):Cm P N CH l ⟨dd,.field s x f,ty,pos,aft,g⟩ v:=fun a w ha _=>by
 unfold N5 at hs
 split at hs
 · rename_i fs hu
   split at hs
   · rename_i y hy
     simp only[Xh,decide_eq_true_eq] at hs;obtain⟨h1,h2⟩:=hs;simp[execOp,ha.ev hx,Instr.field,run_underlying hu,hy,part,FA h2,h1,asAgg,hv]
   ·cases hs
 ·cases hs
end
theorem JB:N5 Tryz.prog 37 2 2=true:=by kernel_rfl
theorem mpI:tW Tryz.prog 217 3 37 zNd:=⟨by kernel_rfl,by kernel_rfl⟩
def atK(qs:List (NdH×Nd))(z:Int):NdH×Nd:=(qs.find? (fun q=>decide (q.2.ino=z))).getD (tD,nd0)
def tI(qs:List (NdH×Nd))(z:Int):Prop:=∃ q∈qs,q.2.ino=z
instance (qs:List (NdH×Nd))(z:Int):Decidable (tI qs z):=by unfold tI;exact inferInstance
def sQ(qs:List (NdH×Nd))(m:List (I6×Value)):Prop:=∀ z:I6,cQ m z=(qs.find? (fun q=>decide (q.2.ino=z.1))).map (fun q=>Value.agg (aE q).toArray)
section
variable {qs:List (NdH×Nd)}{m:List (I6×Value)}
theorem Wo:sQ [] []:=fun z=>rfl
theorem sQ.z(h:sQ qs m)(z:I6):(cQ m z).getD zNd=Value.agg (aE (atK qs z.1)).toArray:=by
 rw[h z];unfold atK;cases qs.find? (fun q=>decide (q.2.ino=z.1))<;>rfl
theorem sQ.is(h:sQ qs m)(z:I6):decide ((cQ m z).isSome=true)=decide (tI qs z.1):=by
 apply decide_eq_decide.2;rw[h z,Option.isSome_map,Zl];simp[tI]
theorem sQ.new(h:sQ qs m){p:NdH×Nd}(z:I6)(hz:z.1=p.2.ino)(hn:¬ tI qs p.2.ino):sQ (qs++[p]) (cX m z (.agg (aE p).toArray)):=fun y=>by
 rw[kF,Zm];by_cases e:y=z
 · subst e
   have:qs.find? (fun q=>decide (q.2.ino=y.1))=none:=Zg.2 (fun q hq=>by simpa using fun e=>hn ⟨q,hq,by rw[e,hz]⟩);rw[WJ rfl,this];simp[hz]
 · have:[p].find? (fun q=>decide (q.2.ino=y.1))=none:=by
    have:¬ p.2.ino=y.1:=fun g=>e (Subtype.ext (by rw[←g,hz]));simp[this]
   rw[WI e,h y,this,or_none]
theorem sQ.old(h:sQ qs m){p:NdH×Nd}(hn:tI qs p.2.ino):sQ (qs++[p]) m:=fun y=>by
 rw[Zm,h y];by_cases e:y.1=p.2.ino
 · obtain⟨q,hq,hi⟩:=hn
   have:(qs.find? (fun q=>decide (q.2.ino=y.1))).isSome=true:=by
    rw[Zl];exact⟨q,hq,by simp[hi,e]⟩
   obtain⟨r,hr⟩:=Zn.1 this;rw[hr];rfl
 · have:[p].find? (fun q=>decide (q.2.ino=y.1))=none:=by
    have:¬ p.2.ino=y.1:=fun g=>e g.symm;simp[this]
   rw[this,or_none]
theorem vV{z:Int}(h:tI qs z):atK qs z∈qs∧(atK qs z).2.ino=z:=by
 obtain⟨q,hq,hi⟩:=h;have:(qs.find? (fun q=>decide (q.2.ino=z))).isSome=true:=by
  rw[Zl];exact⟨q,hq,by simp[hi]⟩
 obtain⟨r,hr⟩:=Zn.1 this;unfold atK;rw[hr];exact⟨YK hr,by simpa using List.find?_some (p:=fun q:NdH×Nd=>decide (q.2.ino=z)) hr⟩
end
theorem LT{l:List Nd}(h:l.Pairwise iG){b q:Nd}(hb:b∈l)(hq:q∈l)(e:b.ino=q.ino):Alk b q:=by
 obtain⟨i,h1,rfl⟩:=XF hb;obtain⟨j,h2,rfl⟩:=XF hq;rcases XX i j with hlt|heq|hgt
 ·exact(Xu.1 h i j h1 h2 hlt e.symm).2.symm
 ·subst heq;exact Wk _
 ·exact(Xu.1 h j i h2 h1 hgt e).2
theorem H1{ps:List (NdH×Nd)}{i:Nat}{q:NdH×Nd}(h:q∈ps.take i):q.2∈(nds ps).take i:=by
 rw[←Da];exact Xq.2 ⟨q,h,rfl⟩
theorem Df{ps:List (NdH×Nd)}{i:Nat}{p:NdH×Nd}(hp:ps[i]?=some p)(h:((nds ps).take i).Pairwise iG)(hb:∀ b∈(nds ps).take i,iG b p.2):((nds ps).take (i+1)).Pairwise iG:=by
 rw[tkN hp];exact Yc.2 ⟨h,by simp,fun b hb' a ha=>by rw[Xg] at ha;subst ha;exact hb b hb'⟩
theorem FW{ps:List (NdH×Nd)}{i:Nat}{p:NdH×Nd}(hp:ps[i]?=some p)(h:((nds ps).take i).Pairwise iG)(ho:tI (ps.take i) p.2.ino)(hk:p.2.kind≠1)(ha:Alk p.2 (atK (ps.take i) p.2.ino).2):((nds ps).take (i+1)).Pairwise iG:=
 Df hp h fun b hb e=>⟨hk,ha.trans (LT h (H1 (vV ho).1) hb ((vV ho).2.trans e))⟩
theorem FX{ps:List (NdH×Nd)}{i:Nat}{p:NdH×Nd}(hp:ps[i]?=some p)(h:((nds ps).take i).Pairwise iG)(ho:¬ tI (ps.take i) p.2.ino):((nds ps).take (i+1)).Pairwise iG:=
 Df hp h fun b hb e=>absurd (show tI (ps.take i) p.2.ino by
  rw[←Da] at hb;obtain⟨q,hq,rfl⟩:=Xq.1 hb;exact⟨q,hq,e.symm⟩) ho
theorem oL{ps:List (NdH×Nd)}{i:Nat}{p:NdH×Nd}(hp:ps[i]?=some p)(ho:tI (ps.take i) p.2.ino)(hb:¬ (p.2.kind≠1∧Alk p.2 (atK (ps.take i) p.2.ino).2)):¬ (nds ps).Pairwise iG:=by
 intro h;obtain⟨h1,h2⟩:=vV ho;obtain⟨j,hj⟩:=W8 h1;rw[Xr] at hj
 split at hj
 ·exact hb (EF h (by assumption) hj hp h2.symm)
 ·cases hj
variable {D:Nat→Prop}
theorem He(lo:Option Addr)(lc:Nat)(ps:List (NdH×Nd))(W:World)(hv:aO D W.heap lo lc ps)(hok:∀ p∈ps,okN p.2) :
 CA 111 [.slice lo ps.length lc] W fun v w'=>v=iV (if (nds ps).Pairwise iG then 0 else 8)∧aA nob W w':=by
 have h63:=hv.1.WF;refine cS 41 [(0,_)] Tryz.func111 ?_;refine Gz 7 ?_;refine TN (enc:=enI) rfl ?_;intro w1 hm1 hs1 hf1;obtain⟨g,hg⟩:∃ g,g=W.heap.size:=⟨_,rfl⟩
 rw[←hg] at hm1 ⊢;refine Gz 12 ?_;refine S4 (β:=Nat×List (I6×Value)) (fun⟨i,m⟩=>[(0,.slice lo ps.length lc),(3,.map (some g)),(9,.slice lo ps.length lc),(10,iV ps.length),(11,iV i)]) (fun⟨i,m⟩ w=>i≤ps.length∧dM enI w.heap g m∧sQ (ps.take i) m∧((nds ps).take i).Pairwise iG∧aA nob W w) (fun⟨i,m⟩=>ps.length-i) ⟨0,[]⟩ ⟨rfl,rfl,rfl,rfl,rfl,trivial⟩ ⟨WU _,hm1,Wo,by simp,hf1⟩ ?_;rintro⟨i,m⟩ w4 ⟨hi,hm4,hMK,hlk,hF4⟩;refine fK 2 ?_ ?_<;>intro h12
 ·have hil:i<ps.length:=by omega
  obtain⟨p,hp⟩:∃ p,ps[i]?=some p:=⟨_,WK hil⟩
  have hpm:=WQ hp;have hv4:=hv.WG hF4;have hzi:=hok p hpm p.2.ino (by simp);refine Gz 10 ?_;refine cL (S1 aQ rfl rfl hv4.1.non (by omega)) ?_;refine cL (Tf (cs:=aE p) aZ rfl (fun j v hj=>hv4.1.rowZ i rfl hp j v hj)) ?_;refine S5 eY rfl ?_;intro w5 hg5 hs5 hf5;obtain⟨q,hq⟩:∃ q,q=w4.heap.size:=⟨_,rfl⟩
  rw[←hq] at hg5 ⊢;refine Te (vs:=aE p) aZ rfl rfl (aB p).2 hg5 rfl ?_;intro w6 hg6 hs6 hf6;have hf46:aA nob w4 w6:=hf5.WD hf6 (fun k e=>.inr (by have e:k=q:=e;omega));have hF6:aA nob W w6:=hF4.trans hf46;have hm6:=hm4.WH hf46 id;have hgq:g<q:=by rw[hq];exact hm4.obj
  refine Gz 1 ?_;refine aW [(0,_),(3,_),(5,_),(9,_),(10,_),(11,_),(12,_)] ?_;refine Gz 6 ?_;refine cL (S3 (u:=.tuple [.agg (aE (atK (ps.take i) p.2.ino)).toArray,.bool (decide (tI (ps.take i) p.2.ino))].toArray) (TR mpI uU (a:=(⟨p.2.ino,hzi⟩:I6)) rfl rfl (fun _ e=>by rw[e];exact hm6)) (by rw[hMK.z,hMK.is])) ?_;refine Gz 3 ?_;by_cases h21:tI (ps.take i) p.2.ino
  ·rw[WO h21];refine S5 eY rfl ?_;intro w8 hg8 hs8 hf8;obtain⟨r,hr⟩:∃ r,r=w6.heap.size:=⟨_,rfl⟩
   rw[←hr] at hg8 ⊢;refine Te (vs:=aE (atK (ps.take i) p.2.ino)) aZ rfl rfl (aB _).2 hg8 rfl ?_;intro w9 hg9 hs9 hf9;have hf69:aA nob w6 w9:=hf8.WD hf9 (fun k e=>.inr (by have e:k=r:=e;omega));have hF9:aA nob W w9:=hF6.trans hf69;have hm9:=hm6.WH hf69 id;have hgn:=hf69.obj hg6 id;have hv9:=hv.WG hF9;refine fW 10 ?_ ?_<;>intro h26
   ·refine Gz 23 ?_
    first
    |exact⟨_,rfl,by rw[WI (oL hp h21 (fun h=>h.1 h26))],hF9⟩
    |exact⟨_,rfl,by rw[WI (oL hp h21 (fun h=>h30 h.2))],hF9.trans hf10⟩
    |exact⟨_,rfl,by rw[WJ hlk],hF4⟩
   refine Gz 1 ?_;refine cW (Tf (cs:=aE p) aZ rfl (bI hgn 0 rfl)) ?_;refine cW (Tf (cs:=aE (atK (ps.take i) p.2.ino)) aZ rfl (bI hg9 0 rfl)) ?_;refine Tb rfl rfl PD rfl (KG p (atK (ps.take i) p.2.ino) w9 (hv9.2 p hpm) (hv9.2 _ (XL (vV h21).1))) rfl ?_;rintro _ w10 ⟨rfl,hf10⟩;by_cases h30:Alk p.2 (atK (ps.take i) p.2.ino).2
   ·rw[WO h30];refine cW (Tj rfl) ?_;refine Gz 10 ?_;refine cL (Tj rfl) ?_;refine Gz 10 ?_
    first
    |exact aG ⟨i+1,m⟩ ⟨by omega,hm9.WH hf10 id,by rw[tkL hp];exact hMK.old h21,FW hp hlk h21 h26 h30,hF9.trans hf10⟩ (by show ps.length-(i+1)<ps.length-i;omega)
    |exact aG ⟨i+1,_⟩ ⟨by omega,hm11,by rw[tkL hp];exact hMK.new _ rfl h21,FX hp hlk h21,hF11⟩ (by show ps.length-(i+1)<ps.length-i;omega)
   rw[WL h30];refine cW (Tj rfl) ?_;refine Gz 18 ?_
   first
   |exact⟨_,rfl,by rw[WI (oL hp h21 (fun h=>h.1 h26))],hF9⟩
   |exact⟨_,rfl,by rw[WI (oL hp h21 (fun h=>h30 h.2))],hF9.trans hf10⟩
   |exact⟨_,rfl,by rw[WJ hlk],hF4⟩
  rw[WL h21];refine S5 eY rfl ?_;intro w8 hg8 hs8 hf8;obtain⟨r,hr⟩:∃ r,r=w6.heap.size:=⟨_,rfl⟩
  rw[←hr] at hg8 ⊢;refine Te (vs:=aE (atK (ps.take i) p.2.ino)) aZ rfl rfl (aB _).2 hg8 rfl ?_;intro w9 hg9 hs9 hf9;have hf69:aA nob w6 w9:=hf8.WD hf9 (fun k e=>.inr (by have e:k=r:=e;omega));have hF9:aA nob W w9:=hF6.trans hf69;have hm9:=hm6.WH hf69 id;have hgn:=hf69.obj hg6 id;have hv9:=hv.WG hF9;refine Gz 26 ?_;refine cL (Tj rfl) ?_;refine Gz 7 ?_;refine cL (Tf (cs:=aE p) aZ rfl (bI hgn 0 rfl)) ?_;refine TH mpI uU (a:=(⟨p.2.ino,hzi⟩:I6)) rfl rfl rfl hm9 ?_;intro w11 hm11 hs11 hf11;have hF11:aA nob W w11:=hF9.WD hf11 (fun k e=>.inr (by have e:k=g:=e;omega));refine Gz 7 ?_
  first
  |exact aG ⟨i+1,m⟩ ⟨by omega,hm9.WH hf10 id,by rw[tkL hp];exact hMK.old h21,FW hp hlk h21 h26 h30,hF9.trans hf10⟩ (by show ps.length-(i+1)<ps.length-i;omega)
  |exact aG ⟨i+1,_⟩ ⟨by omega,hm11,by rw[tkL hp];exact hMK.new _ rfl h21,FX hp hlk h21,hF11⟩ (by show ps.length-(i+1)<ps.length-i;omega)
 have hie:i=ps.length:=by omega
 subst hie;rw[WY (by simp)] at hlk;refine Gz 16 ?_
 first
 |exact⟨_,rfl,by rw[WI (oL hp h21 (fun h=>h.1 h26))],hF9⟩
 |exact⟨_,rfl,by rw[WI (oL hp h21 (fun h=>h30 h.2))],hF9.trans hf10⟩
 |exact⟨_,rfl,by rw[WJ hlk],hF4⟩
theorem IT{ps:List (NdH×Nd)}(hl:¬ (1024:Int)<ps.length)(hz:nmd (nds ps)=0)(hr:¬ (atN ps []).2.kind=1):plc (nds ps)=4:=by
 have hll:(nds ps).length=ps.length:=by simp
 unfold plc;rw[WI (by omega),WI (fun h=>h hz),WJ (fun h=>hr ((sM (jA hz).2.2 _).2 h))]
theorem Lz{ps:List (NdH×Nd)}(hl:¬ (1024:Int)<ps.length)(hz:nmd (nds ps)=0)(hr:(atN ps []).2.kind=1){p:NdH×Nd}(hp:p∈ps)(hne:p.2.names≠[])(hb:¬ (atN ps p.2.names.dropLast).2.kind=1):plc (nds ps)=5:=by
 have hll:(nds ps).length=ps.length:=by simp
 have ht:=(jA hz).2.2;unfold plc;rw[WI (by omega),WI (fun h=>h hz),WI (fun h=>h ((sM ht _).1 hr)),WJ ⟨p.2,Xq.2 ⟨p,hp,rfl⟩,hne,fun h=>hb ((sM ht _).2 h)⟩]
theorem IS{ps:List (NdH×Nd)}(hl:¬ (1024:Int)<ps.length)(hz:nmd (nds ps)=0)(hr:(atN ps []).2.kind=1)(hb:∀ p∈ps,p.2.names≠[]→(atN ps p.2.names.dropLast).2.kind=1):plc (nds ps)=0:=by
 have hll:(nds ps).length=ps.length:=by simp
 have ht:=(jA hz).2.2;unfold plc;rw[WI (by omega),WI (fun h=>h hz),WI (fun h=>h ((sM ht _).1 hr)),WI];rintro⟨n,hn,h1,h2⟩;obtain⟨p,hp,rfl⟩:=Xq.1 hn;exact h2 ((sM ht _).1 (hb p hp h1))
theorem jJ{ps:List (NdH×Nd)}{R:Nd→Prop}:(∃ n∈nds ps,R n)↔∃ p∈ps,R p.2:=
 ⟨fun⟨n,hn,h⟩=>by obtain⟨p,hp,rfl⟩:=Xq.1 hn;exact⟨p,hp,h⟩,fun⟨p,hp,h⟩=>⟨p.2,Xq.2 ⟨p,hp,rfl⟩,h⟩⟩
theorem Hb(lo:Option Addr)(lc:Nat)(ps:List (NdH×Nd))(W:World)(hv:aO D W.heap lo lc ps)(hsm:∀ p∈ps,smN p.2) :
 CA 106 [.slice lo ps.length lc] W fun v w'=>∃ og,v=.tuple [.map og,iV (nmd (nds ps))].toArray∧aA nob W w'∧(nmd (nds ps)=0→∃ g m,og=some g∧dM enS w'.heap g m∧tX ps m):=by
 refine(Ja lo lc ps W hv hsm).mono ?_;rintro e w' ⟨v,rfl,z,rfl,hf,⟨h1,rfl⟩|⟨h1,g,m,rfl,h2,h3⟩⟩
 ·exact⟨_,rfl,none,rfl,hf,fun h=>absurd h h1⟩
 ·exact⟨_,rfl,some g,by rw[h1],hf,fun _=>⟨g,m,rfl,h2,h3⟩⟩
theorem Ko(lo:Option Addr)(lc:Nat)(ps:List (NdH×Nd))(W:World)(hv:aO D W.heap lo lc ps)(hsm:∀ p∈ps,smN p.2)(hok:∀ p∈ps,okN p.2) :
 CA 55 [.slice lo ps.length lc] W fun v w'=>v=iV (chk (nds ps))∧aA nob W w':=by
 have h63:=hv.1.WF;have hll:(nds ps).length=ps.length:=by simp
 have hp0:(eV []).length≤maxLen:=xE (by simp) (by simp);have ho0:kK []:=fun s hs=>by cases hs
 refine cS 55 [(0,_)] Tryz.func55 ?_;refine fK 10 ?_ ?_<;>intro h10
 ·have hc:plc (nds ps)=3:=by unfold plc;rw[WJ (by omega)]
  refine Gz 11 ?_
  first
  |exact⟨_,rfl,by rw[aM,hc,WJ (by decide)],VZ _ _⟩
  |exact⟨_,rfl,by rw[aM,hc,WJ h18],hf2⟩
  |exact⟨_,rfl,by rw[aM,hc,WJ (by decide)],hF6.trans hf7⟩
  |exact⟨_,rfl,by rw[aM,hc,WJ (by decide)],hf2.trans hf3⟩
  |exact⟨_,rfl,by rw[aM,WI (fun h=>h hpz),WJ (jJ.2 h51)],hF4.trans hf5⟩
  |exact⟨_,rfl,by rw[aM,hpz,WI (show ¬ ((0:Int)≠0) from fun h=>h rfl),WI (fun h:∃ n∈nds ps,¬ dY n=>h51 (jJ.1 h))],(hF4.trans hf5).trans hf6⟩
 refine cA 8 P4 (Hb lo lc ps W hv hsm) ?_;rintro _ w2 ⟨og,rfl,hf2,hmn⟩;refine fK 12 ?_ ?_<;>intro h18
 ·have hc:plc (nds ps)=nmd (nds ps):=by unfold plc;rw[WI (by omega),WJ h18]
  refine Gz 14 ?_
  first
  |exact⟨_,rfl,by rw[aM,hc,WJ (by decide)],VZ _ _⟩
  |exact⟨_,rfl,by rw[aM,hc,WJ h18],hf2⟩
  |exact⟨_,rfl,by rw[aM,hc,WJ (by decide)],hF6.trans hf7⟩
  |exact⟨_,rfl,by rw[aM,hc,WJ (by decide)],hf2.trans hf3⟩
  |exact⟨_,rfl,by rw[aM,WI (fun h=>h hpz),WJ (jJ.2 h51)],hF4.trans hf5⟩
  |exact⟨_,rfl,by rw[aM,hpz,WI (show ¬ ((0:Int)≠0) from fun h=>h rfl),WI (fun h:∃ n∈nds ps,¬ dY n=>h51 (jJ.1 h))],(hF4.trans hf5).trans hf6⟩
 have hz:nmd (nds ps)=0:=Xk.1 h18;obtain⟨g,m,rfl,hm2,hMN⟩:=hmn hz;obtain⟨hvn,hnl,ht⟩:=jA hz;refine Gz 7 ?_;refine SZ JT rfl (xM none 0 [] w2 (V7 0 (WU _)) (by simp) (by simp)) rfl ?_;rintro _ w3 ⟨rfl,hf3⟩;have hm3:=hm2.WH hf3 id;refine cL (S3 (u:=.agg (aE (atN ps [])).toArray) (Uk mpN Dk (a:=(⟨eV [],hp0⟩:SK)) rfl rfl (fun _ e=>by rw[e];exact hm3)) (hMN.z ho0 hp0)) ?_;refine cL (UJ JB (cs:=aE (atN ps [])) rfl rfl) ?_;refine fK 0 ?_ ?_<;>intro h25
 ·have hc:=IT h10 hz h25;refine Gz 13 ?_
  first
  |exact⟨_,rfl,by rw[aM,hc,WJ (by decide)],VZ _ _⟩
  |exact⟨_,rfl,by rw[aM,hc,WJ h18],hf2⟩
  |exact⟨_,rfl,by rw[aM,hc,WJ (by decide)],hF6.trans hf7⟩
  |exact⟨_,rfl,by rw[aM,hc,WJ (by decide)],hf2.trans hf3⟩
  |exact⟨_,rfl,by rw[aM,WI (fun h=>h hpz),WJ (jJ.2 h51)],hF4.trans hf5⟩
  |exact⟨_,rfl,by rw[aM,hpz,WI (show ¬ ((0:Int)≠0) from fun h=>h rfl),WI (fun h:∃ n∈nds ps,¬ dY n=>h51 (jJ.1 h))],(hF4.trans hf5).trans hf6⟩
 have hr:(atN ps []).2.kind=1:=Xk.1 h25;refine Gz 16 ?_;refine S4 (β:=Nat) (fun i=>[(0,.slice lo ps.length lc),(3,.map (some g)),(26,.slice lo ps.length lc),(27,iV ps.length),(28,iV i)]) (fun i w=>i≤ps.length∧dM enS w.heap g m∧(∀ (j:Nat) (p:NdH×Nd),j<i→ps[j]?=some p→p.2.names≠[]→(atN ps p.2.names.dropLast).2.kind=1)∧aA nob W w) (fun i=>ps.length-i) 0 ⟨rfl,rfl,rfl,rfl,rfl,trivial⟩ ⟨WU _,hm3,fun j p hj=>by omega,hf2.trans hf3⟩ ?_;rintro i w4 ⟨hi,hm4,hpar,hF4⟩;refine fK 2 ?_ ?_<;>intro h29
 ·have hil:i<ps.length:=by omega
  obtain⟨p,hp⟩:∃ p,ps[i]?=some p:=⟨_,WK hil⟩
  have hpm:=WQ hp;have hv4:=hv.WG hF4;have hnm:=WQ (bE hp);obtain⟨hop,hsl⟩:=Db hvn hnm;have hn16:=hnl _ hnm;refine Gz 10 ?_;refine cL (S1 aQ rfl rfl hv4.1.non (by omega)) ?_;refine cL (Tf (cs:=aE p) aZ rfl (fun j v hj=>hv4.1.rowZ i rfl hp j v hj)) ?_;refine S5 eY rfl ?_;intro w5 hg5 hs5 hf5;obtain⟨q,hq⟩:∃ q,q=w4.heap.size:=⟨_,rfl⟩
  rw[←hq] at hg5 ⊢;refine Te (vs:=aE p) aZ rfl rfl (aB p).2 hg5 rfl ?_;intro w6 hg6 hs6 hf6;have hf46:aA nob w4 w6:=hf5.WD hf6 (fun k e=>.inr (by have e:k=q:=e;omega));have hF6:aA nob W w6:=hF4.trans hf46;have hn6:=((hv.WG hF6).2 p hpm).1;have hm6:=hm4.WH hf46 id;refine Gz 7 ?_;rw[hn6.1];refine fK 7 ?_ ?_<;>intro h37
  ·refine Gz 5 ?_;refine cW (S3 (u:=.slice p.1.names.a p.2.names.dropLast.length p.1.names.c) (Tl jH rfl rfl (by have:=hn6.2.1.le;omega)) (by rw[aV,Yd];congr 1;omega)) ?_;refine Tb rfl rfl JT rfl (xM p.1.names.a p.1.names.c p.2.names.dropLast w6 (by rw[drop_take];exact hn6.2.1.take _) (by rw[Yd];omega) (fun s hs=>hsl s (List.dropLast_subset _ hs))) rfl ?_;rintro _ w7 ⟨rfl,hf7⟩;have hm7:=hm6.WH hf7 id;have hdo:kK p.2.names.dropLast:=fun s hs=>hop s (List.dropLast_subset _ hs);have hdl:(eV p.2.names.dropLast).length≤maxLen:=xE (by rw[Yd];omega) (fun s hs=>hsl s (List.dropLast_subset _ hs));refine cW (S3 (u:=.agg (aE (atN ps p.2.names.dropLast)).toArray) (Uk mpN Dk (a:=(⟨eV p.2.names.dropLast,hdl⟩:SK)) rfl rfl (fun _ e=>by rw[e];exact hm7)) (hMN.z hdo hdl)) ?_;refine cW (UJ JB (cs:=aE (atN ps p.2.names.dropLast)) rfl rfl) ?_;refine fW 0 ?_ ?_<;>intro h47
   ·have hc:=Lz h10 hz hr hpm (fun e=>by rw[e] at h37;simp at h37) h47;refine Gz 16 ?_
    first
    |exact⟨_,rfl,by rw[aM,hc,WJ (by decide)],VZ _ _⟩
    |exact⟨_,rfl,by rw[aM,hc,WJ h18],hf2⟩
    |exact⟨_,rfl,by rw[aM,hc,WJ (by decide)],hF6.trans hf7⟩
    |exact⟨_,rfl,by rw[aM,hc,WJ (by decide)],hf2.trans hf3⟩
    |exact⟨_,rfl,by rw[aM,WI (fun h=>h hpz),WJ (jJ.2 h51)],hF4.trans hf5⟩
    |exact⟨_,rfl,by rw[aM,hpz,WI (show ¬ ((0:Int)≠0) from fun h=>h rfl),WI (fun h:∃ n∈nds ps,¬ dY n=>h51 (jJ.1 h))],(hF4.trans hf5).trans hf6⟩
   refine Gz 11 ?_
   first
   |(refine aG (i+1) ⟨by omega,hm7,fun j q hj hq hne=>?_,hF6.trans hf7⟩ (by show ps.length-(i+1)<ps.length-i;omega)
     by_cases e:j=i
     ·subst e;rw[hp] at hq;cases hq;exact Xk.1 h47
     ·exact hpar j q (by omega) hq hne)
   |(refine aG (i+1) ⟨by omega,hm6,fun j q hj hq hne=>?_,hF6⟩ (by show ps.length-(i+1)<ps.length-i;omega)
     by_cases e:j=i
     ·subst e;rw[hp] at hq;cases hq;exact absurd (W3.1 (by omega)) hne
     ·exact hpar j q (by omega) hq hne)
  refine Gz 21 ?_
  first
  |(refine aG (i+1) ⟨by omega,hm7,fun j q hj hq hne=>?_,hF6.trans hf7⟩ (by show ps.length-(i+1)<ps.length-i;omega)
    by_cases e:j=i
    ·subst e;rw[hp] at hq;cases hq;exact Xk.1 h47
    ·exact hpar j q (by omega) hq hne)
  |(refine aG (i+1) ⟨by omega,hm6,fun j q hj hq hne=>?_,hF6⟩ (by show ps.length-(i+1)<ps.length-i;omega)
    by_cases e:j=i
    ·subst e;rw[hp] at hq;cases hq;exact absurd (W3.1 (by omega)) hne
    ·exact hpar j q (by omega) hq hne)
 have hie:i=ps.length:=by omega
 subst hie;have hpz:=IS h10 hz hr (fun p hp hne=>by obtain⟨j,hj⟩:=W8 hp;exact hpar j p (WN.1 hj).1 hj hne);refine cA 13 P3 (uW (R:=fun p:NdH×Nd=>¬ dY p.2) 109 [] P2 lo lc ps w4 (hv.WG hF4) (fun w p hp hf=>HC p w (((hv.WG hF4).2 p hp).WG hf) (hsm p hp))) ?_;rintro _ w5 ⟨rfl,hf5⟩;by_cases h51:∃ p∈ps,¬ dY p.2
 ·rw[WO h51];refine cL (Tj rfl) ?_;refine Gz 12 ?_
  first
  |exact⟨_,rfl,by rw[aM,hc,WJ (by decide)],VZ _ _⟩
  |exact⟨_,rfl,by rw[aM,hc,WJ h18],hf2⟩
  |exact⟨_,rfl,by rw[aM,hc,WJ (by decide)],hF6.trans hf7⟩
  |exact⟨_,rfl,by rw[aM,hc,WJ (by decide)],hf2.trans hf3⟩
  |exact⟨_,rfl,by rw[aM,WI (fun h=>h hpz),WJ (jJ.2 h51)],hF4.trans hf5⟩
  |exact⟨_,rfl,by rw[aM,hpz,WI (show ¬ ((0:Int)≠0) from fun h=>h rfl),WI (fun h:∃ n∈nds ps,¬ dY n=>h51 (jJ.1 h))],(hF4.trans hf5).trans hf6⟩
 rw[WL h51];refine cL (Tj rfl) ?_;refine cA 6 PY (He lo lc ps w5 ((hv.WG hF4).WG hf5) hok) ?_;rintro _ w6 ⟨rfl,hf6⟩;refine Gz 6 ?_
 first
 |exact⟨_,rfl,by rw[aM,hc,WJ (by decide)],VZ _ _⟩
 |exact⟨_,rfl,by rw[aM,hc,WJ h18],hf2⟩
 |exact⟨_,rfl,by rw[aM,hc,WJ (by decide)],hF6.trans hf7⟩
 |exact⟨_,rfl,by rw[aM,hc,WJ (by decide)],hf2.trans hf3⟩
 |exact⟨_,rfl,by rw[aM,WI (fun h=>h hpz),WJ (jJ.2 h51)],hF4.trans hf5⟩
 |exact⟨_,rfl,by rw[aM,hpz,WI (show ¬ ((0:Int)≠0) from fun h=>h rfl),WI (fun h:∃ n∈nds ps,¬ dY n=>h51 (jJ.1 h))],(hF4.trans hf5).trans hf6⟩
end
section
open Go Go.RowKit Go.Maps
section
variable {P:Program}{N:Nt}{Q:Exit→Act→World→Prop}{l:SF}{w:World}{ops:Array Oper}{rest:List Oper}{op:Op}{ty:TypeId}{pos:String}{aft:Array Edge}{d:Nat}
theorem Vl{j s:Nat}{b:Bool}(hj:(ops[j]?).bind (·.dst)=some s)(hs:lk l s=some (.bool b))(h:Sl P N ops Q (⟨some d,op,ty,pos,aft,none⟩::rest) l w) :
 Sl P N ops Q (⟨some d,op,ty,pos,aft,some (j,b)⟩::rest) l w:=fun a ha=>by
 have h1:=h a ha;unfold wpList at h1 ⊢;rw[WJ (by simp[Region.wanted])] at h1;rw[WJ (by simp[Region.wanted,iL ha hj hs])];exact h1
end
theorem cU{B n:Nat}{o o':Option Addr}(h:Fr B o)(hr:∀ a,o'=some a→o=some a∨n≤a.block)(hn:B≤n):Fr B o':=fun a ha=>by
 rcases hr a ha with h1|h1
 ·exact h a h1
 ·omega
def iK(h:Hd)(n:Nat):Hd:=if n<h.n then ⟨h.a,n,h.c⟩ else h
theorem eD{h:Hd}{n:Nat}(k:n<h.n):iK h n=⟨h.a,n,h.c⟩:=WJ k
theorem gC{h:Hd}{n:Nat}(k:¬ n<h.n):iK h n=h:=WI k
variable {D:Nat→Prop}
theorem Bn{α:Type}{l:List α}{n:Nat}(h:l.take n≠[]):l≠[]:=fun e=>h (by rw[e];exact List.take_nil)
theorem NmV.cut{H:Array Obj}{h:Hd}{l:List By}(v:NmV D H h l)(n:Nat):NmV D H (iK h n) (l.take n):=by
 by_cases k:n<h.n
 · rw[eD k]
   exact⟨by have:=v.1;rw[WR];show n=_;omega,v.2.1.take n,fun hne=>v.2.2 (Bn hne)⟩
 ·rw[gC k,WY (by have:=v.1;omega)];exact v
theorem ByV.cut{H:Array Obj}{h:Hd}{l:By}(v:ByV D H h l)(n:Nat):ByV D H (iK h n) (l.take n):=by
 by_cases k:n<h.n
 · rw[eD k]
   exact⟨by have:=v.1;rw[WR];show n=_;omega,v.2.1.take n,fun hne=>v.2.2 (Bn hne)⟩
 ·rw[gC k,WY (by have:=v.1;omega)];exact v
theorem XsV.cut{H:Array Obj}{h:Hd}{X:List Xa}(v:XsV D H h X)(n:Nat):XsV D H (iK h n) (X.take n):=by
 by_cases k:n<h.n
 · rw[eD k]
   obtain⟨h1,ys,h2,h3,h4,h5⟩:=v;refine⟨by rw[WR];show n=_;omega,ys.take n,h2.take n,by simp[h3],fun hne=>h4 (Bn hne),fun i x y hx hy=>?_⟩;rw[Xr] at hx hy;by_cases hi:i<n
   ·rw[WJ hi] at hx hy;exact h5 i x y hx hy
   ·rw[WI hi] at hx;cases hx
 ·rw[gC k,WY (by have:=v.1;omega)];exact v
def bY:NdH×Nd:=(tD,{ nd0 with ino:=1,kind:=1 })
theorem DR:chk (nds [bY])=0:=by decide +kernel
theorem Ln:smN bY.2:=⟨WU _,by simp[bY,nd0],by simp[bY,nd0]⟩
theorem Lo:okN bY.2:=by simp[okN,bY,nd0]
end
section
open Go Go.RowKit Go.Maps
theorem mD:∀ a:By,Xd a a=false
|[]=>rfl
|x::a=>by
   have ih:=mD a;have h:¬ x<x:=by rw[X9];omega
   simp[Xd,h,ih]
theorem yS:∀ {a b c:By},Xd a b=true→Xd b c=true→Xd a c=true
|_,[],_,h,_=>by simp[Xd] at h
|_,_::_,[],_,h=>by simp[Xd] at h
|[],_::_,_::_,_,_=>by simp[Xd]
|x::a,y::b,z::c,h1,h2=>by
   simp only[Xd,Yf,decide_eq_true_eq,Xh,beq_iff_eq] at h1 h2 ⊢;rcases h1 with h1|⟨rfl,h1⟩
   · rcases h2 with h2|⟨rfl,h2⟩
     ·left;rw[X9] at *;omega
     ·exact .inl h1
   · rcases h2 with h2|⟨rfl,h2⟩
     ·exact .inl h2
     ·exact .inr ⟨rfl,yS h1 h2⟩
theorem KA{a b:By}(h:Xd a b=true):Xd b a=false:=by
 cases h2:Xd b a with
|false=>rfl
|true=>have:=yS h h2;rw[mD] at this;cases this
theorem Og{a b:By}(hne:a≠b)(h:Xd a b=false):Xd b a=true:=by
 have:=fT a b;rw[h] at this;have hb:(a == b)=false:=by simpa using hne
 rw[hb] at this
 revert this;cases Xd b a<;>simp
def cV:List By→List By→Int
|[],[]=>0
|[],_::_=>-1
|_::_,[]=>1
|x::a,y::b=>if x=y then cV a b else if Xd x y=true then -1 else 1
theorem oT:∀ a,cV a a=0
|[]=>rfl
|x::a=>by unfold cV;rw[WJ rfl];exact oT a
theorem mC:∀ {a b:List By},cV a b=0→a=b
|[],[],_=>rfl
|[],_::_,h=>by simp[cV] at h
|_::_,[],h=>by simp[cV] at h
|x::a,y::b,h=>by
   unfold cV at h
   split at h
   ·rename_i e;rw[e,mC h]
   ·split at h<;>simp at h
theorem yM:∀ a b:List By,cV b a = - cV a b
|[],[]=>rfl
|[],_::_=>rfl
|_::_,[]=>rfl
|x::a,y::b=>by
   unfold cV;by_cases e:x=y
   ·rw[WJ e,WJ e.symm];exact yM a b
   · rw[WI e,WI (fun h=>e h.symm)]
     by_cases h:Xd x y=true
     ·rw[WJ h,WI (by rw[KA h];decide)];rfl
     ·rw[WI h,WJ (Og e (by simpa using h))]
theorem qD:∀ {a b c:List By},cV a b<0→cV b c<0→cV a c<0
|_,_::_,[],_,h=>by simp[cV] at h
|[],_::_,_::_,_,_=>by simp[cV]
|[],[],_,h,_=>by simp[cV] at h
|_::_,[],_,h,_=>by simp[cV] at h
|x::a,y::b,z::c,h1,h2=>by
   unfold cV at h1 h2 ⊢;by_cases e1:x=y
   · subst e1
     rw[WJ rfl] at h1;by_cases e2:x=z
     · subst e2
       rw[WJ rfl] at h2 ⊢;exact qD h1 h2
     ·rw[WI e2] at h2 ⊢;exact h2
   · rw[WI e1] at h1
     have l1:Xd x y=true:=by
      by_cases h:Xd x y=true
      ·exact h
      ·rw[WI h] at h1;simp at h1
     by_cases e2:y=z
     ·subst e2;rw[WI e1,WJ l1];decide
     · rw[WI e2] at h2
       have l2:Xd y z=true:=by
        by_cases h:Xd y z=true
        ·exact h
        ·rw[WI h] at h2;simp at h2
       have l3:=yS l1 l2;rw[WI (fun e=>by subst e;rw[mD] at l3;cases l3),WJ l3];decide
theorem yN:∀ (p a b:List By),cV (p++a) (p++b)=cV a b
|[],a,b=>rfl
|x::p,a,b=>by
   show (if x=x then cV (p++a) (p++b) else if Xd x x=true then -1 else 1)=_;rw[WJ rfl];exact yN p a b
theorem sD{α:Type}{l:List α}{k:Nat}{x:α}(h:l[k]?=some x):l.drop k=x::l.drop (k+1):=by
 rw[XI (WN.1 h).1,(WN.1 h).2]
theorem qE{a b:List By}{k:Nat}(h:a.take k=b.take k):cV a b=cV (a.drop k) (b.drop k):=by
 conv=>lhs;rw[←Xn k a,←Xn k b,h]
 exact yN _ _ _
theorem Gs{a b:List By}{k:Nat}{x y:By}(h:a.take k=b.take k)(hx:a[k]?=some x)(hy:b[k]?=some y)(hne:x≠y):cV a b=if Xd x y=true then -1 else 1:=by
 rw[qE h,sD hx,sD hy];unfold cV;rw[WI hne]
theorem tQ{a b:List By}{k:Nat}{x:By}(h:a.take k=b.take k)(hx:a[k]?=some x)(hy:b.length≤k):cV a b=1:=by
 rw[qE h,sD hx,XU hy];rfl
theorem sI{a b:List By}{k:Nat}(h:a.take k=b.take k)(hx:a.length≤k):cV a b=if a.length<b.length then -1 else 0:=by
 rw[qE h,XU hx];by_cases hl:a.length<b.length
 · rw[WJ hl]
   have h2:(b.take k).length=a.length:=by rw[←h,WR];omega
   cases hd:b.drop k with
  |nil=>have:=congrArg Xp hd;rw[WR] at h2;simp at this;omega
  |cons y r=>rfl
 ·rw[WI hl,XU (by have:=congrArg Xp h;simp only[WR] at this;omega)];rfl
theorem wF{a b:List By}{k:Nat}{x:By}(h:a.take k=b.take k)(hx:a[k]?=some x)(hy:b[k]?=some x):a.take (k+1)=b.take (k+1):=by rw[tkL hx,tkL hy,h]
theorem Dl(x:By)(W:World):CA 164 [.string (bs x)] W fun v w'=>v=.bool false∧w'=W:=by
 refine cS 6 [(0,_)] Tryz.func164 ?_;refine fK 9 ?_ ?_<;>intro h5
 ·exact absurd rfl h5
 refine Gz 5 ?_;exact⟨_,rfl,rfl,rfl⟩
def uX(x y:By):Int:=if Xd x y=true then -1 else if x=y then 0 else 1
theorem Hz{x y:By}(h:uX x y=0):x=y:=by
 unfold uX at h
 split at h
 ·cases h
 · split at h
   ·assumption
   ·cases h
theorem Mr(x y:By)(W:World):CA 114 [.string (bs x),.string (bs y)] W fun v w'=>v=iV (uX x y)∧w'=W:=by
 refine cS 20 [(0,_),(1,_)] Tryz.func114 ?_;refine cA 8 M1 (Dl x W) ?_;rintro _ w1 ⟨rfl,hw1⟩;subst w1;refine cA 6 M1 (Dl y W) ?_;rintro _ w1 ⟨rfl,hw1⟩;subst w1;refine Gz 26 ?_;refine TE (Tm (UV (a:=x) (b:=y) rfl rfl)) rfl (fun h16=>?_) (fun h16=>?_)
 ·refine Gz 11 ?_;exact⟨_,rfl,by unfold uX;rw[WJ h16],rfl⟩
 refine Gz 10 ?_;refine TE (Tm (UA (a:=x) (b:=y) rfl rfl)) rfl (fun h19=>?_) (fun h19=>?_)
 ·refine Gz 11 ?_;exact⟨_,rfl,by unfold uX;rw[WI h16,WI (fun e=>by subst e;simp at h19)],rfl⟩
 refine Gz 12 ?_;exact⟨_,rfl,by unfold uX;rw[WI h16,WJ (by simpa[h16] using h19)],rfl⟩
theorem yL(ao bo:Option Addr)(ac bc:Nat)(a b:List By)(W:World)(ha:Vw gY W.heap ao ac a)(hb:Vw gY W.heap bo bc b) :
 CA 59 [.slice ao a.length ac,.slice bo b.length bc] W fun v w'=>v=iV (cV a b)∧w'=W:=by
 have h63:=ha.WF;refine cS 36 [(0,_),(1,_)] Tryz.func59 ?_;refine Gz 14 ?_;refine S4 (β:=Nat) (fun k=>[(0,.slice ao a.length ac),(1,.slice bo b.length bc),(9,.slice ao a.length ac),(10,iV a.length),(11,iV k)]) (fun k w=>k≤a.length∧a.take k=b.take k∧w=W) (fun k=>a.length-k) 0 ⟨rfl,rfl,rfl,rfl,rfl,trivial⟩ ⟨WU _,by simp,rfl⟩ ?_;rintro k w ⟨hk,hsm,rfl⟩;refine fK 2 ?_ ?_<;>intro h12
 ·have hka:k<a.length:=by omega
  obtain⟨x,hx⟩:∃ x,a[k]?=some x:=⟨_,WK hka⟩
  refine Gz 11 ?_;refine cL (SY jH rfl rfl ha.non (by omega)) ?_;refine cL (S2 eG rfl (ha.get k x hx)) ?_;refine fK 10 ?_ ?_<;>intro h19
  ·refine Gz 16 ?_;exact⟨_,rfl,by rw[tQ hsm hx (by omega)],rfl⟩
  obtain⟨y,hy⟩:∃ y,b[k]?=some y:=⟨_,WK (by omega)⟩
  refine Gz 9 ?_;refine cL (SY jH rfl rfl hb.non (by omega)) ?_;refine cL (S2 eG rfl (hb.get k y hy)) ?_;refine cA 7 PX (Mr x y w) ?_;rintro _ w1 ⟨rfl,hw1⟩;subst w1;refine fK 6 ?_ ?_<;>intro h28
  ·refine Gz 16 ?_;refine⟨_,rfl,?_,rfl⟩;have hne:x≠y:=fun e=>h28 (by unfold uX;rw[WI (by rw[e,mD];decide),WJ e]);rw[Gs hsm hx hy hne];unfold uX;rw[WI hne]
  have hxy:x=y:=Hz (Xk.1 h28);refine Gz 10 ?_;exact aG (k+1) ⟨by omega,wF hsm hx (hxy ▸ hy),rfl⟩ (by show a.length-(k+1)<a.length-k;omega)
 refine fK 16 ?_ ?_<;>intro h35
 ·refine Gz 11 ?_;exact⟨_,rfl,by rw[sI hsm (by omega),WJ (by omega)],rfl⟩
 refine Gz 12 ?_;exact⟨_,rfl,by rw[sI hsm (by omega),WI (by omega)],rfl⟩
def cC(a b:List By):Bool:=decide (cV a b<0)
theorem IA(ao bo:Option Addr)(ac bc:Nat)(a b:List By)(W:World)(ha:Vw gY W.heap ao ac a)(hb:Vw gY W.heap bo bc b) :
 CA 105 [.slice ao a.length ac,.slice bo b.length bc] W fun v w'=>v=.bool (cC a b)∧aA nob W w':=by
 have h63:=ha.WF;refine cS 41 [(0,_),(1,_)] Tryz.func105 ?_;refine Gz 12 ?_;refine S4 (β:=Nat) (fun k=>[(0,.slice ao a.length ac),(1,.slice bo b.length bc),(5,iV k)]) (fun k w=>k≤a.length∧k≤b.length∧a.take k=b.take k∧aA nob W w) (fun k=>a.length-k) 0 ⟨rfl,rfl,rfl,trivial⟩ ⟨WU _,WU _,by simp,VZ _ _⟩ ?_;rintro k w2 ⟨hk,hkb,hsm,hF2⟩;refine fK 6 ?_ ?_<;>intro h9
 ·refine fW 4 ?_ ?_<;>intro h14
  ·have hka:k<a.length:=by omega
   have hkb:k<b.length:=by omega
   have ha2:=ha.WG hF2;have hb2:=hb.WG hF2;obtain⟨x,hx⟩:∃ x,a[k]?=some x:=⟨_,WK hka⟩
   obtain⟨y,hy⟩:∃ y,b[k]?=some y:=⟨_,WK hkb⟩
   refine Gz 9 ?_;refine Tk 9 [0,1,2,3,4,5,6,7,8] aI (by kernel_rfl) ?_;refine Gz 2 ?_;refine xC rfl (SY jH rfl rfl ha2.non (by omega)) ?_;refine xC rfl (S2 eG rfl (ha2.get k x hx)) ?_;refine Gz 2 ?_;refine xC rfl (SY jH rfl rfl hb2.non (by omega)) ?_;refine xC rfl (S2 eG rfl (hb2.get k y hy)) ?_;refine xK 0 ?_ ?_<;>intro h26
   ·refine Gz 4 ?_;refine Tk 10 [0,1,2,3,4,5,6,7,8,9] aI (by kernel_rfl) ?_;refine Gz 2 ?_;refine xC rfl (SY jH rfl rfl ha2.non (by omega)) ?_;refine xC rfl (S2 eG rfl (ha2.get k x hx)) ?_;refine Gz 2 ?_;refine xC rfl (SY jH rfl rfl hb2.non (by omega)) ?_;refine xC rfl (S2 eG rfl (hb2.get k y hy)) ?_;refine xC rfl (UV (a:=x) (b:=y) rfl rfl) ?_;refine Gz 10 ?_;refine⟨_,rfl,?_,(hF2.draws 1).draws 1⟩;unfold cC;rw[Gs hsm hx hy h26];cases hl:Xd x y<;>simp
   refine Gz 11 ?_;exact aG (k+1) ⟨by omega,by omega,wF hsm hx (by rw[Xk.1 h26];exact hy),hF2.draws 1⟩ (by show a.length-(k+1)<a.length-k;omega)
  refine Gz 15 ?_;refine cL (T1 rfl rfl) ?_;refine Gz 5 ?_;refine⟨_,rfl,?_,hF2⟩;unfold cC;by_cases hka:a.length≤k
  · rw[sI hsm hka];by_cases hl:a.length<b.length
    ·rw[WJ hl];simp;omega
    ·rw[WI hl];simp;omega
  · obtain⟨x,hx⟩:∃ x,a[k]?=some x:=⟨_,WK (by omega)⟩
    rw[tQ hsm hx (by omega)];simp;omega
 refine Gz 20 ?_;refine cL (T1 rfl rfl) ?_;refine Gz 5 ?_;refine⟨_,rfl,?_,hF2⟩;unfold cC;by_cases hka:a.length≤k
 · rw[sI hsm hka];by_cases hl:a.length<b.length
   ·rw[WJ hl];simp;omega
   ·rw[WI hl];simp;omega
 · obtain⟨x,hx⟩:∃ x,a[k]?=some x:=⟨_,WK (by omega)⟩
   rw[tQ hsm hx (by omega)];simp;omega
end
inductive OT where
|fin:OT
|stop:OT
|alt (i:Nat) (pre:List Nat) (t u:OT):OT
def OT.heads:OT→List Nat
|.alt i _ _ u=>i::u.heads
|_=>[]
def OT.dep:OT→Nat
|.alt _ pre t u=>Nat.max (pre.length+t.dep+1) u.dep
|_=>0
section
variable {P:Program}{ops:Array Oper}{CH:Array Obj→Prop}{N:Nt}{effs:List Nat}{K0:Act→World→Prop}{Q:Exit→Act→World→Prop}{l:SF}{w:World}
def Sy(P:Program)(N:Nt)(ops:Array Oper)(CH:Array Obj→Prop)(effs:List Nat)(K0:Act→World→Prop):List Nat→SF→World→Prop
|[],l,w=>∀ a,bW N l a→K0 a w
|i::r,l,w=>∃ o,ops[i]?=some o ∧
   (bif effs.contains i then Sl P N ops (jW fun a w=>∃ l',bW N l' a∧CH w.heap∧Sy P N ops CH effs K0 r l' w) [o] l w
    else ∃ v,(∀ a,bW N l a→YC P ops CH o v a)∧∃ l',(∀ a,bW N l a→bW N l' (a.put o.dst v))∧Sy P N ops CH effs K0 r l' w)
def KT(P:Program)(N:Nt)(ops:Array Oper)(CH:Array Obj→Prop)(effs:List Nat)(K0:Act→World→Prop):OT→Act→World→Prop
|.fin,a,w=>K0 a w
|.stop,_,_=>True
|.alt i pre t u,a,w=>(∃ l',bW N l' a∧Sy P N ops CH effs (KT P N ops CH effs K0 t) (i::pre) l' w)∧KT P N ops CH effs K0 u a w
def BE(ops:Array Oper)(effs:List Nat):List Nat→Array Bool→Option (Array Bool)
|[],L=>some L
|k::r,L=>bif (!effs.contains k) && (Region.ready .any ops L).contains k && Region.free .any ops L k && Xs k ops.size then BE ops effs r (L.setIfInBounds k true) else none
def okO(ops:Array Oper)(effs:List Nat):Bool→OT→Array Bool→Bool
|_,.fin,L=>(Region.ready .any ops L).isEmpty
|top,.stop,_=>!top
|top,.alt i pre t u,L=>(!top || (Region.ready .any ops L).all (i::u.heads).contains) && effs.contains i && (Region.ready .any ops L).contains i && Xs i ops.size &&
   (match BE ops effs pre (L.setIfInBounds i true) with|some L'=>okO ops effs true t L'|none=>false) && okO ops effs false u L
theorem SR(ops:Array Oper):zP ops ops.size=true:=by simp[zP]
theorem BD(hsel:Region.noSelect ops=true){K:Act→World→Prop}{L':Array Bool}{m:Nat}
 (hK:∀ (f:Nat) (a:Act) (w:World),m≤f→HeadInv .any ops ops.size L'→CH w.heap→K a w→bG P .any ops ops.size CH K0 f L' a w) :
 ∀ (pre:List Nat) (f:Nat) (L:Array Bool) (l:SF) (a:Act) (w:World),pre.length+m≤f→BE ops effs pre L=some L'→bW N l a→HeadInv .any ops ops.size L→CH w.heap→Sy P N ops CH effs K pre l w→bG P .any ops ops.size CH K0 f L a w
|[],f,L,l,a,w,hf,hp,ha,inv,hc,h=>by
   simp only[BE,Option.some.injEq] at hp;subst hp;exact hK f a w (by simpa using hf) inv hc (h a ha)
|k::r,0,L,l,a,w,hf,hp,ha,inv,hc,h=>by simp at hf
|k::r,f+1,L,l,a,w,hf,hp,ha,inv,hc,h=>by
   obtain⟨o,ho,h⟩:=h;cases hb:((!effs.contains k) && (Region.ready .any ops L).contains k && Region.free .any ops L k && Xs k ops.size) with
  |false=>simp only[BE,hb,cond_false] at hp;cases hp
  |true=>
     simp only[BE,hb,cond_true] at hp;simp only[Xh,YD] at hb;obtain⟨⟨⟨he,m1⟩,m2⟩,m3⟩:=hb;rw[he] at h;simp only[cond_false] at h;obtain⟨v,hy,l',hl',hs⟩:=h;have hin:k<ops.size:=by simpa[X0] using m3
     have hir:k∈Region.ready .any ops L:=by simpa using m1
     exact qK ho (Region.noSelect_spec hsel) (SR ops) hin f L a w inv hc (Region.free_spec ho m2) hir (hy a ha) (BD hsel hK r f _ l' _ w (by simp at hf;omega) hp (hl' a ha) (inv.set hir hin) hc hs)
theorem K5{i:Nat}{pre:List Nat}{K:Act→World→Prop}{f:Nat}{L:Array Bool}{a:Act}(he:effs.contains i=true)(ha:bW N l a)
 (key:∀ l' a' w',bW N l' a'→CH w'.heap→Sy P N ops CH effs K pre l' w'→bG P .any ops ops.size CH K0 f (L.setIfInBounds i true) a' w')
 (h:Sy P N ops CH effs K (i::pre) l w):wpOp P ops (jW K0) i (bG P .any ops ops.size CH K0 f (L.setIfInBounds i true)) a w:=by
 obtain⟨o,ho,h⟩:=h;rw[he] at h;simp only[cond_true] at h;have h1:=h a ha;unfold wpList at h1;unfold wpOp;simp only[ho];have key2:∀ a' w',wpList P ops (jW fun a w=>∃ l',bW N l' a∧CH w.heap∧Sy P N ops CH effs K pre l' w) [] a' w'→bG P .any ops ops.size CH K0 f (L.setIfInBounds i true) a' w':=by
  intro a' w' h2;obtain⟨l',h3,h4,h5⟩:=h2;exact key l' a' w' h3 h4 h5
 split
 · rename_i hw
   rw[WJ hw] at h1;rcases h1 with h1|⟨_,_,_,h1⟩
   ·exact .inl (V9 key2 h1)
   ·exact h1.elim
 · rename_i hw
   rw[WI hw] at h1;exact key2 _ _ h1
theorem pJ(hsel:Region.noSelect ops=true):∀ (t:OT) (top:Bool) (f:Nat) (L:Array Bool) (a:Act) (w:World),t.dep≤f→okO ops effs top t L=true→HeadInv .any ops ops.size L→CH w.heap→KT P N ops CH effs K0 t a w →
 (top=true→bG P .any ops ops.size CH K0 f L a w)∧∀ k∈t.heads,∃ f',f=f'+1∧wpOp P ops (jW K0) k (bG P .any ops ops.size CH K0 f' (L.setIfInBounds k true)) a w
|.fin,top,f,L,a,w,hf,hm,inv,hc,h=>by
   have hr:Region.ready .any ops L=[]:=by simpa[okO] using hm
   refine⟨fun _=>?_,fun k hk=>by cases hk⟩;cases f with
  |zero=>exact⟨fun _=>hc,hr,h⟩
  |succ f=>exact⟨fun _=>hc,fun _=>h,by rw[hr];simp⟩
|.stop,top,f,L,a,w,hf,hm,inv,hc,h=>by
   refine⟨fun e=>by subst e;simp[okO] at hm,fun k hk=>by cases hk⟩
|.alt i pre t u,top,f,L,a,w,hf,hm,inv,hc,h=>by
   simp only[okO,Xh] at hm;obtain⟨⟨⟨⟨⟨m1,m2⟩,m3⟩,m4⟩,m5⟩,m6⟩:=hm;have hf1:pre.length+t.dep+1≤f:=Xf (Nat.le_max_left _ _) hf;have hf2:u.dep≤f:=Xf (Nat.le_max_right _ _) hf;obtain⟨f',rfl⟩:∃ f',f=f'+1:=⟨f-1,by omega⟩
   obtain⟨⟨l',ha,h1⟩,h2⟩:=h;have hi:i<ops.size:=by simpa[X0] using m4
   have hr:i∈Region.ready .any ops L:=by simpa using m3
   have hu:=pJ hsel u false (f'+1) L a w hf2 m6 inv hc h2
   have hhead:∀ k∈i::u.heads,∃ f'',f'+1=f''+1∧wpOp P ops (jW K0) k (bG P .any ops ops.size CH K0 f'' (L.setIfInBounds k true)) a w:=by
    intro k hk;rcases Xo.1 hk with rfl|hk
    · refine⟨f',rfl,K5 m2 ha (fun l2 a2 w2 hl2 hc2 hs2=>?_) h1⟩
      cases hp:BE ops effs pre (L.setIfInBounds k true) with
     |none=>rw[hp] at m5;cases m5
     |some L'=>
        rw[hp] at m5;exact BD hsel (m:=t.dep) (fun f3 a3 w3 hf3 inv3 hc3 hk3=>(pJ hsel t true f3 L' a3 w3 hf3 m5 inv3 hc3 hk3).1 rfl) pre f' _ l2 a2 w2 (by omega) hp hl2 (inv.set hr hi) hc2 hs2
    ·exact hu.2 k hk
   refine⟨fun e=>?_,hhead⟩;subst e;refine⟨fun _=>hc,fun h0=>(by rw[h0] at hr;cases hr),fun k hk=>?_⟩;simp only[Bool.not_true,Bool.false_or,Y4] at m1;obtain⟨f'',e1,hw⟩:=hhead k (by simpa using m1 k hk);obtain rfl:f'=f'':=by omega
   exact hw
theorem U6{id:Nat}{lops:List Oper}(CH:Array Obj→Prop)(effs pre:List Nat)(t:OT)(hm:P.follows .mixedOrders=true)(hs:(Region.noSelect lops.toArray &&
 (match BE lops.toArray effs pre (Yg lops.length false) with|some L'=>okO lops.toArray effs true t L'|none=>false) && Nat.ble (pre.length+t.dep) lops.length)=true)(hc:CH w.heap)
 (h:Sy P N lops.toArray CH effs (KT P N lops.toArray CH effs (fun a w=>Q .normal a w) t) pre l (w.drewN 1)):Sc P N (.region id lops.toArray true) Q l w:=fun a ha=>by
 simp only[Xh] at hs;obtain⟨⟨hs,hok⟩,hlen⟩:=hs
 have h1:bG P .any lops.toArray lops.toArray.size CH (fun a w=>Q .normal a w) lops.length (Yg lops.length false) a (w.drewN 1):=by
  cases hp:BE lops.toArray effs pre (Yg lops.length false) with
 |none=>rw[hp] at hok;cases hok
 |some L'=>
    rw[hp] at hok;exact BD hs (m:=t.dep) (fun f3 a3 w3 hf3 inv3 hc3 hk3=>(pJ hs t true f3 L' a3 w3 hf3 hok inv3 hc3 hk3).1 rfl) pre lops.length _ l a _ (by simpa[Y2] using hlen) hp ha
     (by have:=Do (ops:=lops.toArray) (n:=lops.toArray.size);simpa using this) hc h
 have h2:=wp_region_any (P:=P) (id:=id) (ops:=lops.toArray) (Q:=jW fun a w=>Q .normal a w) (a:=a) (w:=w) hm (by
  have:=h1.any;simpa[World.drewN] using this)
 refine wp_mono h2 ?_;intro e a' w' hq;cases e<;>first|exact hq|exact hq.elim
variable {r:List Nat}{i:Nat}{op:Op}{ty:TypeId}{pos:String}{aft:Array Edge}{d:Nat}{v:Value}{t u:OT}
theorem Tn(hi:ops[i]?=some ⟨some d,op,ty,pos,aft,none⟩)(he:effs.contains i=false)(hv:Cm P N CH l ⟨some d,op,ty,pos,aft,none⟩ v)(hd:Xs d N.n=true)
 (h:Sy P N ops CH effs K0 r ((d,v)::l) w):Sy P N ops CH effs K0 (i::r) l w:=
 ⟨_,hi,by rw[he];exact⟨v,fun a ha=>.inl ⟨by simp[Region.wanted],fun w hw=>hv a w ha hw⟩,_,fun a ha=>ha.put hd v,h⟩⟩
def KY(P:Program)(N:Nt)(ops:Array Oper)(CH:Array Obj→Prop)(effs:List Nat)(K0:Act→World→Prop)(r:List Nat):Exit→Act→World→Prop:=jW fun a w=>∃ l',bW N l' a∧CH w.heap∧Sy P N ops CH effs K0 r l' w
theorem Ts{o:Oper}(hi:ops[i]?=some o)(he:effs.contains i=true)(h:Sl P N ops (KY P N ops CH effs K0 r) [o] l w):Sy P N ops CH effs K0 (i::r) l w:=
 ⟨_,hi,by rw[he];exact h⟩
theorem TD(hc:CH w.heap)(h:Sy P N ops CH effs K0 r l w):Sl P N ops (KY P N ops CH effs K0 r) [] l w:=fun _ ha=>⟨l,ha,hc,h⟩
theorem Ue(h:At N .normal Q l w):Sy P N ops CH effs (KT P N ops CH effs (fun a w=>Q .normal a w) .fin) [] l w:=fun a ha=>h a ha
theorem Tt{pre:List Nat}(h1:Sy P N ops CH effs (KT P N ops CH effs K0 t) (i::pre) l w)(h2:Sy P N ops CH effs (KT P N ops CH effs K0 u) [] l w):Sy P N ops CH effs (KT P N ops CH effs K0 (.alt i pre t u)) [] l w:=fun a ha=>⟨⟨l,ha,h1⟩,h2 a ha⟩
theorem Tp:Sy P N ops CH effs (KT P N ops CH effs K0 .stop) [] l w:=fun _ _=>trivial
end
section
open Go Go.RowKit Go.Maps
theorem tF{a b:Nd}:a=b↔a.names=b.names∧Alk a b∧a.ino=b.ino:=by
 constructor
 ·rintro rfl;exact⟨rfl,Wk _,rfl⟩
 · rintro⟨h1,⟨h2,⟨h3,h4,h5⟩,h6,h7,h8,h9⟩,h10⟩
   cases a;cases b;simp_all
variable {D D':Nat→Prop}
theorem GG(lo mo:Option Addr)(lc mc:Nat)(ps qs:List (NdH×Nd))(W:World)(hp:aO D W.heap lo lc ps)(hq:aO D' W.heap mo mc qs) :
 CA 12 [.slice lo ps.length lc,.slice mo qs.length mc] W fun v w'=>(v=.bool true↔nds ps=nds qs)∧(∃ b,v=.bool b)∧aA nob W w':=by
 have h63:=hp.1.WF;have hll:(nds ps).length=ps.length:=by simp
 have hlq:(nds qs).length=qs.length:=by simp
 have no:∀ w',¬ nds ps=nds qs→aA nob W w'→Ret (fun v w'=>(v=.bool true↔nds ps=nds qs)∧(∃ b,v=.bool b)∧aA nob W w') (.returned (.bool false)) w':=fun w' h f=>⟨_,rfl,⟨fun e=>by simp at e,fun e=>absurd e h⟩,⟨_,rfl⟩,f⟩
 refine cS 58 [(0,_),(1,_)] Tryz.func12 ?_;refine fK 12 ?_ ?_<;>intro h12
 ·refine Gz 11 ?_
  first
  |exact no _ (fun e=>by have:=congrArg Xp e;omega) (VZ _ _)
  |(refine no _ (fun e=>?_) (hF4.draws 1);have e2:=bE hpi;rw[e,bE hqi] at e2;have e3:=tF.1 (Option.some.inj e2);first|exact h39 e3.1.symm|exact h42 e3.2.1.symm|exact h56 e3.2.2.symm)
  |exact⟨_,rfl,⟨fun _=>jQ (by omega) (by omega) hsm,fun _=>rfl⟩,⟨_,rfl⟩,hF2⟩
 refine Gz 12 ?_;have hle:ps.length=qs.length:=by omega
 refine S4 (β:=Nat) (fun i=>[(0,.slice lo ps.length lc),(1,.slice mo qs.length mc),(5,iV i)]) (fun i w=>i≤ps.length∧(∀ j:Nat,j<i→(nds ps)[j]?=(nds qs)[j]?)∧aA nob W w) (fun i=>ps.length-i) 0 ⟨rfl,rfl,rfl,trivial⟩ ⟨WU _,fun j hj=>by omega,VZ _ _⟩ ?_;rintro i w2 ⟨hi,hsm,hF2⟩;refine fK 6 ?_ ?_<;>intro h16
 ·have hil:i<ps.length:=by omega
  obtain⟨p,hpi⟩:∃ p,ps[i]?=some p:=⟨_,WK hil⟩
  obtain⟨q,hqi⟩:∃ q,qs[i]?=some q:=⟨_,WK (by omega)⟩
  have hpm:=WQ hpi;have hqm:=WQ hqi;have hp2:=hp.WG hF2;have hq2:=hq.WG hF2;have hpn:=(hp2.2 p hpm).1;have hqn:=(hq2.2 q hqm).1;refine Gz 8 ?_;refine Tc 12 (fun H=>VwM 10 aE H lo lc ps∧VwM 10 aE H mo mc qs) [10] [0,1,2,3,4,5,6,7,8,9,10,11] aI (by kernel_rfl) (⟨hp2.1,hq2.1⟩) ?_;refine Gz 2 ?_;refine xC rfl (S1 aQ rfl rfl hp2.1.non (by omega)) ?_;refine Gz 1 ?_;refine xC rfl (S9 dW rfl (fun H hH=>hH.1.rowZ i rfl hpi 0 _ rfl)) ?_;refine Gz 2 ?_;refine xC rfl (S1 aQ rfl rfl hq2.1.non (by omega)) ?_;refine Gz 1 ?_;refine xC rfl (S9 dW rfl (fun H hH=>hH.2.rowZ i rfl hqi 0 _ rfl)) ?_;refine S7 rfl rfl (SZ N4 rfl ((by show Calls _ _ [Value.slice p.1.names.a p.1.names.n p.1.names.c,Value.slice q.1.names.a q.1.names.n q.1.names.c].toArray _ _;rw[hpn.1,hqn.1];exact wQ _ _ _ _ p.2.names q.2.names _ hpn.2.1 hqn.2.1)) rfl ?_);rintro _ w3 ⟨rfl,hf3⟩;have hF3:=(hF2.draws 1).trans hf3;have hp3:=hp.WG hF3;have hq3:=hq.WG hF3;refine Tg (by exact⟨hp3.1,hq3.1⟩) ?_;refine Gz 4 ?_;refine Tc 10 (fun H=>VwM 10 aE H lo lc ps∧VwM 10 aE H mo mc qs) [8] [0,1,2,3,4,5,6,7,8,9] aI (by kernel_rfl) (⟨hp3.1,hq3.1⟩) ?_;refine Gz 2 ?_;refine xC rfl (S1 aQ rfl rfl hp3.1.non (by omega)) ?_;refine xC rfl (TX (cs:=aE p) aZ rfl (fun H hH j v hj=>hH.1.rowZ i rfl hpi j v hj)) ?_;refine Gz 2 ?_;refine xC rfl (S1 aQ rfl rfl hq3.1.non (by omega)) ?_;refine xC rfl (TX (cs:=aE q) aZ rfl (fun H hH j v hj=>hH.2.rowZ i rfl hqi j v hj)) ?_;refine S7 rfl rfl (SZ O3 rfl (Aw (D:=fun k=>D k∨D' k) p q _ (NdV.mono (hp3.2 p hpm) (fun k h=>.inl h)) (NdV.mono (hq3.2 q hqm) (fun k h=>.inr h))) rfl ?_);rintro _ w4 ⟨rfl,hf4⟩;have hF4:=(hF3.draws 1).trans hf4;have hp4:=hp.WG hF4;have hq4:=hq.WG hF4;refine Tg (by exact⟨hp4.1,hq4.1⟩) ?_;refine Gz 4 ?_;refine Tk 19 [0,1,2,3,4,5,6,7,8,9,10,11,12,13,14,15,16,17,18] aI (by kernel_rfl) ?_;refine Gz 1 ?_;by_cases h39:p.2.names=q.2.names
  ·rw[WO h39];refine xC rfl (Tj rfl) ?_;refine Gz 2 ?_;by_cases h42:Alk p.2 q.2
   ·rw[WO h42];refine xV rfl (Tj rfl) ?_;refine Gz 4 ?_;refine xV rfl (S1 aQ rfl rfl hp4.1.non (by omega)) ?_;refine Gz 1 ?_;refine xV rfl (S2 aF rfl (hp4.1.rowZ i rfl hpi 1 _ rfl)) ?_;refine Gz 2 ?_;refine xV rfl (S1 aQ rfl rfl hq4.1.non (by omega)) ?_;refine Gz 1 ?_;refine xV rfl (S2 aF rfl (hq4.1.rowZ i rfl hqi 1 _ rfl)) ?_;refine xW 0 ?_ ?_<;>intro h56
    ·refine Gz 16 ?_
     first
     |exact no _ (fun e=>by have:=congrArg Xp e;omega) (VZ _ _)
     |(refine no _ (fun e=>?_) (hF4.draws 1);have e2:=bE hpi;rw[e,bE hqi] at e2;have e3:=tF.1 (Option.some.inj e2);first|exact h39 e3.1.symm|exact h42 e3.2.1.symm|exact h56 e3.2.2.symm)
     |exact⟨_,rfl,⟨fun _=>jQ (by omega) (by omega) hsm,fun _=>rfl⟩,⟨_,rfl⟩,hF2⟩
    refine Gz 12 ?_;refine aG (i+1) ⟨by omega,fun j hj=>?_,hF4.draws 1⟩ (by show ps.length-(i+1)<ps.length-i;omega);by_cases e:j=i
    ·subst e;rw[bE hpi,bE hqi];exact congrArg _ (tF.2 ⟨h39,h42,Xk.1 h56⟩)
    ·exact hsm j (by omega)
   rw[WL h42];refine xV rfl (Tj rfl) ?_;refine Gz 29 ?_
   first
   |exact no _ (fun e=>by have:=congrArg Xp e;omega) (VZ _ _)
   |(refine no _ (fun e=>?_) (hF4.draws 1);have e2:=bE hpi;rw[e,bE hqi] at e2;have e3:=tF.1 (Option.some.inj e2);first|exact h39 e3.1.symm|exact h42 e3.2.1.symm|exact h56 e3.2.2.symm)
   |exact⟨_,rfl,⟨fun _=>jQ (by omega) (by omega) hsm,fun _=>rfl⟩,⟨_,rfl⟩,hF2⟩
  rw[WL h39];refine xC rfl (Tj rfl) ?_;refine Gz 32 ?_
  first
  |exact no _ (fun e=>by have:=congrArg Xp e;omega) (VZ _ _)
  |(refine no _ (fun e=>?_) (hF4.draws 1);have e2:=bE hpi;rw[e,bE hqi] at e2;have e3:=tF.1 (Option.some.inj e2);first|exact h39 e3.1.symm|exact h42 e3.2.1.symm|exact h56 e3.2.2.symm)
  |exact⟨_,rfl,⟨fun _=>jQ (by omega) (by omega) hsm,fun _=>rfl⟩,⟨_,rfl⟩,hF2⟩
 have hie:i=ps.length:=by omega
 subst hie;refine Gz 15 ?_
 first
 |exact no _ (fun e=>by have:=congrArg Xp e;omega) (VZ _ _)
 |(refine no _ (fun e=>?_) (hF4.draws 1);have e2:=bE hpi;rw[e,bE hqi] at e2;have e3:=tF.1 (Option.some.inj e2);first|exact h39 e3.1.symm|exact h42 e3.2.1.symm|exact h56 e3.2.2.symm)
 |exact⟨_,rfl,⟨fun _=>jQ (by omega) (by omega) hsm,fun _=>rfl⟩,⟨_,rfl⟩,hF2⟩
theorem tH(a:List By):cC a a=false:=by unfold cC;rw[oT];rfl
theorem lU{a b:List By}:cC a b=false↔a=b∨cC b a=true:=by
 unfold cC;rw[yM a b];constructor
 · intro h
   by_cases e:cV a b=0
   ·exact .inl (mC e)
   ·right;simp at h ⊢;omega
 · rintro(rfl|h)
   ·rw[oT];rfl
   ·simp at h ⊢;omega
theorem mM{a b:List By}(h:cC a b=true):cC b a=false:=lU.2 (.inr h)
theorem uH{a b c:List By}(h1:cC a b=true)(h2:cC b c=true):cC a c=true:=by
 unfold cC at *;simp at *;exact qD h1 h2
theorem xP{a b c:List By}(h1:cC a b=false)(h2:cC b c=false):cC a c=false:=by
 rcases lU.1 h1 with rfl|h1
 ·exact h2
 · rcases lU.1 h2 with rfl|h2
   ·exact mM h1
   ·exact mM (uH h2 h1)
def zL(p q:NdH×Nd):Prop:=cC q.2.names p.2.names=false
theorem BS{ys:List (NdH×Nd)}{k:Nat}{p:NdH×Nd}(h:ys.Pairwise zL)(hk:k≤ys.length)(h1:∀ j q,k≤j→ys[j]?=some q→cC p.2.names q.2.names=true)(h2:∀ q,0<k→ys[k-1]?=some q→cC p.2.names q.2.names=false) :
 (ys.take k++p::ys.drop k).Pairwise zL:=by
 have hall:=Xn k ys;rw[←hall] at h;obtain⟨a1,a2,a3⟩:=Yc.1 h;refine Yc.2 ⟨a1,Yl.2 ⟨fun q hq=>?_,a2⟩,fun a ha b hb=>?_⟩
 · obtain⟨j,hj⟩:=W8 hq
   rw[X1] at hj;exact mM (h1 _ q (by omega) hj)
 · rcases Xo.1 hb with rfl|hb
   · have hk0:0<k:=by
      rcases Ya k with h|h
      ·subst h;simp at ha
      ·exact h
     have hy:ys[k-1]?=some (ys[k-1]'(by omega)):=WK (by omega);have hb2:=h2 _ hk0 hy;obtain⟨j,hj⟩:=W8 ha;rw[Xr] at hj
     split at hj
     · rename_i hjk
       by_cases e:j=k-1
       ·subst e;rw[hy] at hj;cases hj;exact hb2
       · have hpw:=Xu.1 (hall ▸ h) j (k-1) (by omega) (by omega) (by omega)
         rw[(WN.1 hj).2] at hpw;exact xP hb2 hpw
     ·cases hj
   ·exact a3 a ha b hb
theorem rN{α:Type}{ys zs:List α}{k:Nat}{p:α}(h:ys.Perm zs):(ys.take k++p::ys.drop k).Perm (zs++[p]):=by
 refine List.perm_middle.trans ?_;rw[Xn];exact(List.Perm.cons p h).trans (List.perm_append_comm (l₁:=[p]) (l₂:=zs))
def jG(ps:List (NdH×Nd)):List (NdH×Nd):=ps.mergeSort (fun p q=>!cC q.2.names p.2.names)
theorem nL(ps:List (NdH×Nd)):(jG ps).Perm ps:=List.mergeSort_perm _ _
theorem Fx(ps:List (NdH×Nd)):(jG ps).Pairwise zL:=by
 have h:=List.pairwise_mergeSort (le:=fun p q:NdH×Nd=>!cC q.2.names p.2.names) (fun a b c h1 h2=>by
  simp only[YD] at *;exact xP h2 h1) (fun a b=>by
  simp only[Yf,YD];cases h:cC b.2.names a.2.names with
 |false=>exact .inl rfl
 |true=>exact .inr (mM h)) ps
 exact h.imp (fun h=>by simpa[zL] using h)
theorem Ha{ps:List (NdH×Nd)}(ht:¬ dE (nds ps)){p q:NdH×Nd}(hp:p∈ps)(hq:q∈ps)(e:p.2.names=q.2.names):p=q:=by
 obtain⟨i,hi⟩:=W8 hp;obtain⟨j,hj⟩:=W8 hq;rcases XX i j with h|h|h
 ·exact absurd ((eZ ps).2 ⟨i,j,p,q,h,hi,hj,e⟩) ht
 ·subst h;rw[hi] at hj;exact Option.some.inj hj
 ·exact absurd ((eZ ps).2 ⟨j,i,q,p,h,hj,hi,e.symm⟩) ht
theorem CI{ps qs:List (NdH×Nd)}(ht:¬ dE (nds ps))(hp:qs.Perm ps)(hs:qs.Pairwise zL):qs=jG ps:=
 List.Perm.eq_of_pairwise (le:=zL) (fun a b ha hb h1 h2=>by
  have ha':=hp.mem_iff.1 ha;have hb':=(nL ps).mem_iff.1 hb;refine Ha ht ha' hb' ?_;rcases lU.1 h2 with e|h2
  ·exact e
  ·unfold zL at h1;rw[h1] at h2;cases h2) hs (Fx ps) (hp.trans (nL ps).symm)
end
section
open Go Go.RowKit Go.Maps
variable {D D':Nat→Prop}
theorem VwM.dropK{α:Type}{k:Nat}{enc:α→List Value}{H:Array Obj}{ao:Option Addr}{cap:Nat}{xs:List α}(v:VwM k enc H ao cap xs){l:Nat}(hl:l≤xs.length):VwM k enc H (bA ao cap l k) (cap-l) (xs.drop l):=by
 have h:=v.cut (l:=l) (h:=xs.length) (m:=cap) hl (WT _) v.le (WT _);rwa[WY (by rw[WX];exact WT _)] at h
theorem Ep(lo:Option Addr)(lc:Nat)(ps:List (NdH×Nd))(W:World)(hv:aO D W.heap lo lc ps)(h1000:ps.length≤1024) :
 CA 54 [.slice lo ps.length lc] W fun v w'=>∃ o c ys,v=.slice o (Xp (α:=NdH×Nd) ys) c∧bL 10 aE 37 w'.heap o c ys∧Fr W.heap.size o∧ys.Perm ps∧ys.Pairwise zL∧aA nob W w':=by
 have h63:=hv.1.WF;refine cS 53 [(0,_)] Tryz.func54 ?_;refine Gz 7 ?_;refine TT aB aQ rfl ?_;intro w1 ho1 hs1 hf1;refine Gz 10 ?_;refine S4 (β:=Nat×Option Addr×Nat×List (NdH×Nd)) (fun⟨i,o,c,ys⟩=>[(0,.slice lo ps.length lc),(3,.slice o ys.length c),(4,iV i)]) (fun⟨i,o,c,ys⟩ w=>i≤ps.length∧bL 10 aE 37 w.heap o c ys∧Fr W.heap.size o∧ys.Perm (ps.take i)∧ys.Pairwise zL∧aA nob W w) (fun⟨i,o,c,ys⟩=>ps.length-i) ⟨0,some ⟨W.heap.size,0,none⟩,0,[]⟩ ⟨rfl,rfl,rfl,trivial⟩ ⟨WU _,ho1,fun a ha=>by cases ha;exact WT _,by simp,by simp,hf1⟩ ?_;rintro⟨i,o,c,ys⟩ w2 ⟨hi,ho2,hfo,hpe,hor,hF2⟩;refine fK 6 ?_ ?_<;>intro h11
 ·have hil:i<ps.length:=by omega
  obtain⟨p,hp⟩:∃ p,ps[i]?=some p:=⟨_,WK hil⟩
  have hpm:=WQ hp;have hv2:=hv.WG hF2;have hyl:ys.length=i:=by rw[hpe.length_eq,WR];omega
  have hym:∀ q∈ys,q∈ps:=fun q hq=>XL (hpe.mem_iff.1 hq);have hvy2:=ho2.vw aB;refine Gz 1 ?_;refine aW [(0,_),(3,_),(4,_),(11,_)] ?_;refine Gz 13 ?_;refine Tw (β:=Nat) (fun k=>[(0,.slice lo ps.length lc),(3,.slice o ys.length c),(4,iV i),(5,iV k)]) (fun k w=>k≤ys.length∧(∀ (j:Nat) (q:NdH×Nd),k≤j→ys[j]?=some q→cC p.2.names q.2.names=true)∧(∀ q:NdH×Nd,0<k→ys[k-1]?=some q→cC p.2.names q.2.names=false)∧aA nob w2 w) ?_ ?_
  ·refine Gz 1 ?_;refine S4 (β:=Nat) (fun k=>[(0,.slice lo ps.length lc),(3,.slice o ys.length c),(4,iV i),(5,iV k)]) (fun k w=>k≤ys.length∧(∀ (j:Nat) (q:NdH×Nd),k≤j→ys[j]?=some q→cC p.2.names q.2.names=true)∧aA nob w2 w) (fun k=>k) ys.length ⟨rfl,rfl,rfl,rfl,trivial⟩ ⟨WT _,fun j q hj hq=>by have:=(WN.1 hq).1;omega,VZ _ _⟩ ?_;rintro k w3 ⟨hkl,hbe,hF3⟩;refine Gz 2 ?_;have hv3:=hv2.WG hF3;have hvy3:=hvy2.keep' hF3 (fun _ _ _=>id);refine Tc 16 (fun H=>VwM 10 aE H lo lc ps∧VwM 10 aE H o c ys) [14] [0,1,2,3,4,5,6,7,8,9,10,11,12,13,14,15] aI (by kernel_rfl) (⟨hv3.1,hvy3⟩) ?_;refine xK 1 ?_ ?_<;>intro h17
   ·obtain⟨q,hq⟩:∃ q,ys[k-1]?=some q:=⟨_,WK (by omega)⟩
    have hqm:=hym q (WQ hq);refine Gz 3 ?_;refine xV rfl (S1 aQ rfl rfl hv3.1.non (by omega)) ?_;refine Gz 1 ?_;refine xV rfl (S9 dW rfl (fun H hH=>hH.1.rowZ i rfl hp 0 _ rfl)) ?_;refine Gz 3 ?_;refine xV rfl (S1 aQ rfl rfl hvy3.non (by omega)) ?_;refine Gz 1 ?_;refine xV rfl (S9 dW rfl (fun H hH=>hH.2.rowZ (k-1) (by omega) hq 0 _ rfl)) ?_;have hpn:=(hv3.2 p hpm).1;have hqn:=(hv3.2 q hqm).1;refine S7 rfl rfl (Tb rfl rfl P5 rfl ((by show Calls _ _ [Value.slice p.1.names.a p.1.names.n p.1.names.c,Value.slice q.1.names.a q.1.names.n q.1.names.c].toArray _ _;rw[hpn.1,hqn.1];exact IA _ _ _ _ p.2.names q.2.names _ hpn.2.1 hqn.2.1)) rfl ?_);rintro _ w4 ⟨rfl,hf4⟩;rw[show cC p.2.names q.2.names=decide (cC p.2.names q.2.names=true) by simp];have hF4:aA nob w2 w4:=(hF3.draws 1).trans hf4;refine Tg (by exact⟨hv2.1.keep' hF4 (fun _ _ _=>id),hvy2.keep' hF4 (fun _ _ _=>id)⟩) ?_;by_cases h30:cC p.2.names q.2.names=true
    ·rw[WO h30];refine Gz 13 ?_;refine Ti (k-1) ⟨rfl,rfl,rfl,congrArg (fun z:Int=>some (Value.int .i64 z)) (by omega),trivial⟩ ⟨by omega,fun j r hj hr=>?_,hF4⟩ (by show k-1<k;omega);by_cases e:j=k-1
     ·subst e;rw[hq] at hr;cases hr;exact h30
     ·exact hbe j r (by omega) hr
    rw[WL h30];have hstop:∀ q:NdH×Nd,0<k→ys[k-1]?=some q→cC p.2.names q.2.names=false:=fun q2 _ h2=>by rw[hq] at h2;cases h2;simpa using h30
    refine Gz 8 ?_;exact aC k ⟨hkl,hbe,hstop,hF4⟩
   have hstop:∀ q:NdH×Nd,0<k→ys[k-1]?=some q→cC p.2.names q.2.names=false:=fun q h=>by omega
   refine Gz 12 ?_;refine S7 rfl rfl (Um rfl rfl rfl rfl ?_);refine Tg (by exact⟨hv3.1,hvy3⟩) ?_;refine Gz 8 ?_;exact aC k ⟨hkl,hbe,hstop,hF3.draws 1⟩
  rintro k w4 ⟨hkl,hbe,hstop,hF4⟩;refine Gz 2 ?_;refine TT aB aQ rfl ?_;intro w5 ho5 hs5 hf5;have hoy5:=(ho2.WG hF4).WG hf5;have hvy5:=hoy5.vw aB;obtain⟨g5,hg5⟩:∃ g5,g5=w4.heap.size:=⟨_,rfl⟩
  rw[←hg5] at ho5 ⊢;have hy5:∀ a,o=some a→a.block<g5:=fun a ha=>by rw[hg5];exact(ho2.WG hF4).lt a ha
  have hle:=hvy5.le;refine Gz 2 ?_;refine cL (S3 (u:=.slice (bA o c k 10) (ys.drop k).length (c-k)) (TK aQ rfl rfl (by omega)) (by rw[WX];rfl)) ?_;refine Th aB rfl aQ rfl rfl ho5 (hvy5.dropK hkl) (by simp only[WZ,WX];omega) (by simp only[WZ,WX];unfold maxLen;omega) rfl ?_;intro o6 c6 w6 ho6 hf6 hr6 hn6;rw[Xi] at ho6 ⊢;have hF6:aA nob w2 w6:=(hF4.trans hf5).WD hf6 (fun j ⟨a,ha,e⟩=>.inr (by cases ha;have e:g5=j:=e;have:=hF4.size;omega));have hoy6:=hoy5.WH hf6 (fun a ha ⟨b,hb,e⟩=>by cases hb;have e:g5=a.block:=e;have:=hy5 a ha;omega);refine Gz 3 ?_;refine U6 (fun H=>VwM 10 aE H lo lc ps) [0,4,9,10,12] [1,2,3,5,6,7,8,11] (.alt 0 [] (.alt 4 [] (.alt 9 [] (.alt 10 [] (.alt 12 [13] .fin .stop) .stop) .stop) (.alt 9 [] (.alt 4 [] (.alt 10 [] (.alt 12 [13] .fin .stop) .stop) .stop) .stop)) (.alt 9 [] (.alt 0 [] (.alt 4 [] (.alt 10 [] (.alt 12 [13] .fin .stop) .stop) .stop) .stop) .stop)) aI (by kernel_rfl) (hv2.1.keep' hF6 (fun _ _ _=>id)) ?_;have hG0:aA nob w2 (w6.drewN 1):=hF6.draws 1;have hoy0:bL 10 aE 37 (w6.drewN 1).heap o c ys:=hoy6;have hor0:bL 10 aE 37 (w6.drewN 1).heap o6 c6 (ys.drop k):=ho6;generalize w6.drewN 1=v0 at hG0 hoy0 hor0 ⊢;refine Tn rfl rfl (Ta rfl) rfl ?_;refine Tn rfl rfl (Ta rfl) rfl ?_;refine Tn rfl rfl (S3 (u:=.slice o (ys.take k).length c) (Tl aQ rfl rfl (by omega)) (by rw[aV,WR,XT (by omega)];rfl)) rfl ?_;refine Tn rfl rfl (Ta rfl) rfl ?_;refine Tn rfl rfl (Ta rfl) rfl ?_;refine Tn rfl rfl (S1 aQ rfl rfl hv2.1.non (by omega)) rfl ?_;refine Tn rfl rfl (TX (cs:=aE p) aZ rfl (fun H hH j v hj=>hH.rowZ i rfl hp j v hj)) rfl ?_;refine Tn rfl rfl (Ta rfl) rfl ?_;refine Tt ?_ ?_
  ·refine Ts rfl rfl (TT aB aQ rfl ?_);intro v1 hoa1 hsa hfa;have hG1:=hG0.trans hfa;have hoy1:=hoy0.WG hfa;have hor1:=hor0.WG hfa;obtain⟨ga,hga⟩:∃ ga,ga=v0.heap.size:=⟨_,rfl⟩
   rw[←hga] at hoa1 ⊢;have hgs1:ga<v1.heap.size:=hoa1.lt _ rfl;have hgy:∀ a,o=some a→a.block<ga:=fun a ha=>by rw[hga];exact hoy0.lt a ha
   have hgr:∀ a,o6=some a→a.block<ga:=fun a ha=>by rw[hga];exact hor0.lt a ha
   have hgW:w2.heap.size≤ga:=by rw[hga];exact hG0.size
   refine TD (by exact hv2.1.keep' hG1 (fun _ _ _=>id)) ?_;refine Tt ?_ ?_
   ·refine Ts rfl rfl (Th aB rfl aQ rfl rfl hoa1 ((hoy1.vw aB).take k) (by simp only[WZ,WR];omega) (by simp only[WZ,WR];unfold maxLen;omega) rfl ?_);intro o43 c43 v2 ho43_2 hf43 hr43 hn43;rw[Xi] at ho43_2 ⊢;have hG2:aA nob w2 v2:=hG1.WD hf43 (fun j ⟨a,ha,e⟩=>.inr (by cases ha;have e:ga=j:=e;omega));have hoy2:=hoy1.WH hf43 (fun a ha ⟨b,hb,e⟩=>by cases hb;have e:ga=a.block:=e;have:=hgy a ha;omega);have hor2:=hor1.WH hf43 (fun a ha ⟨b,hb,e⟩=>by cases hb;have e:ga=a.block:=e;have:=hgr a ha;omega);have hgs2:ga<v2.heap.size:=Xz hgs1 hf43.size;have hfr43:Fr ga o43:=cU (o:=some ⟨ga,0,none⟩) (fun a ha=>by cases ha;exact WT _) hr43 (by omega);refine TD (by exact hv2.1.keep' hG2 (fun _ _ _=>id)) ?_;refine Tt ?_ ?_
    ·refine Ts rfl rfl (Tu aQ (cs:=(aE p).toArray) eY rfl rfl rfl (by kernel_rfl) rfl ?_);intro v3 hgl hsl hfl;have hob3:bL 10 aE 37 v3.heap (some ⟨v2.heap.size,0,none⟩) 1 [p]:=bS (xs:=[p]) aB (by simpa using hgl) (by show 1≤maxLen;decide);obtain⟨gb,hgbe⟩:∃ gb,gb=v2.heap.size:=⟨_,rfl⟩
     rw[←hgbe] at hob3 ⊢;have hG3:=hG2.trans hfl;have hoy3:=hoy2.WG hfl;have hor3:=hor2.WG hfl;have hgs3:ga<v3.heap.size:=Xz hgs2 hfl.size;have ho43_3:=ho43_2.WG hfl;refine TD (by exact hv2.1.keep' hG3 (fun _ _ _=>id)) ?_;refine Tt ?_ ?_
     ·refine Ts rfl rfl (Th aB rfl aQ rfl rfl ho43_3 (hob3.vw aB) (by simp only[WP,WR];omega) (by simp only[WP,WR];unfold maxLen;omega) rfl ?_);intro o49 c49 v4 ho49 hf49 hr49 hn49;have hG4:aA nob w2 v4:=hG3.WD hf49 (fun j ⟨a,ha,e⟩=>.inr (by have:=hfr43 a ha;omega));have hor4:=hor3.WH hf49 (fun a ha ⟨b,hb,e⟩=>by have:=hfr43 b hb;have:=hgr a ha;omega);have hgs4:ga<v4.heap.size:=Xz hgs3 hf49.size;have hfr49:Fr ga o49:=cU hfr43 hr49 (by omega);refine TD (by exact hv2.1.keep' hG4 (fun _ _ _=>id)) ?_;refine Tt ?_ ?_
      ·refine Ts rfl rfl (Th aB rfl aQ rfl rfl ho49 (hor4.vw aB) (by simp only[WM,WP,WR,WX];omega) (by simp only[WM,WP,WR,WX];unfold maxLen;omega) rfl ?_);intro o51 c51 v5 ho51 hf51 hr51 hn51;rw[W9] at ho51 ⊢;have hG5:aA nob w2 v5:=hG4.WD hf51 (fun j ⟨a,ha,e⟩=>.inr (by have:=hfr49 a ha;omega));have hfr51:Fr ga o51:=cU hfr49 hr51 (by omega);refine TD (by exact hv2.1.keep' hG5 (fun _ _ _=>id)) ?_;refine Tn rfl rfl (TP rfl) rfl ?_;refine Ue ?_;refine Gz 7 ?_;exact aG ⟨i+1,o51,c51,ys.take k++p::ys.drop k⟩ ⟨by omega,ho51,fun a ha=>by have:=hfr51 a ha;have:=hF2.size;omega,by rw[tkL hp];exact rN hpe,BS hor hkl hbe hstop,hF2.trans hG5⟩ (by show ps.length-(i+1)<ps.length-i;omega)
      exact Tp
     exact Tp
    exact Tp
   refine Tt ?_ ?_
   ·refine Ts rfl rfl (Tu aQ (cs:=(aE p).toArray) eY rfl rfl rfl (by kernel_rfl) rfl ?_);intro v2 hgl hsl hfl;have hob2:bL 10 aE 37 v2.heap (some ⟨v1.heap.size,0,none⟩) 1 [p]:=bS (xs:=[p]) aB (by simpa using hgl) (by show 1≤maxLen;decide);obtain⟨gb,hgbe⟩:∃ gb,gb=v1.heap.size:=⟨_,rfl⟩
    rw[←hgbe] at hob2 ⊢;have hG2:=hG1.trans hfl;have hoy2:=hoy1.WG hfl;have hor2:=hor1.WG hfl;have hgs2:ga<v2.heap.size:=Xz hgs1 hfl.size;have hoa2:=hoa1.WG hfl;have hgb:ga<gb:=by rw[hgbe];exact hoa1.lt _ rfl
    refine TD (by exact hv2.1.keep' hG2 (fun _ _ _=>id)) ?_;refine Tt ?_ ?_
    ·refine Ts rfl rfl (Th aB rfl aQ rfl rfl hoa2 ((hoy2.vw aB).take k) (by simp only[WZ,WR];omega) (by simp only[WZ,WR];unfold maxLen;omega) rfl ?_);intro o43 c43 v3 ho43_3 hf43 hr43 hn43;rw[Xi] at ho43_3 ⊢;have hG3:aA nob w2 v3:=hG2.WD hf43 (fun j ⟨a,ha,e⟩=>.inr (by cases ha;have e:ga=j:=e;omega));have hoy3:=hoy2.WH hf43 (fun a ha ⟨b,hb,e⟩=>by cases hb;have e:ga=a.block:=e;have:=hgy a ha;omega);have hor3:=hor2.WH hf43 (fun a ha ⟨b,hb,e⟩=>by cases hb;have e:ga=a.block:=e;have:=hgr a ha;omega);have hgs3:ga<v3.heap.size:=Xz hgs2 hf43.size;have hfr43:Fr ga o43:=cU (o:=some ⟨ga,0,none⟩) (fun a ha=>by cases ha;exact WT _) hr43 (by omega);have hob3:=hob2.WH hf43 (fun a ha ⟨b,hb,e⟩=>by cases hb;cases ha;have e:ga=gb:=e;omega);refine TD (by exact hv2.1.keep' hG3 (fun _ _ _=>id)) ?_;refine Tt ?_ ?_
     ·refine Ts rfl rfl (Th aB rfl aQ rfl rfl ho43_3 (hob3.vw aB) (by simp only[WP,WR];omega) (by simp only[WP,WR];unfold maxLen;omega) rfl ?_);intro o49 c49 v4 ho49 hf49 hr49 hn49;have hG4:aA nob w2 v4:=hG3.WD hf49 (fun j ⟨a,ha,e⟩=>.inr (by have:=hfr43 a ha;omega));have hor4:=hor3.WH hf49 (fun a ha ⟨b,hb,e⟩=>by have:=hfr43 b hb;have:=hgr a ha;omega);have hgs4:ga<v4.heap.size:=Xz hgs3 hf49.size;have hfr49:Fr ga o49:=cU hfr43 hr49 (by omega);refine TD (by exact hv2.1.keep' hG4 (fun _ _ _=>id)) ?_;refine Tt ?_ ?_
      ·refine Ts rfl rfl (Th aB rfl aQ rfl rfl ho49 (hor4.vw aB) (by simp only[WM,WP,WR,WX];omega) (by simp only[WM,WP,WR,WX];unfold maxLen;omega) rfl ?_);intro o51 c51 v5 ho51 hf51 hr51 hn51;rw[W9] at ho51 ⊢;have hG5:aA nob w2 v5:=hG4.WD hf51 (fun j ⟨a,ha,e⟩=>.inr (by have:=hfr49 a ha;omega));have hfr51:Fr ga o51:=cU hfr49 hr51 (by omega);refine TD (by exact hv2.1.keep' hG5 (fun _ _ _=>id)) ?_;refine Tn rfl rfl (TP rfl) rfl ?_;refine Ue ?_;refine Gz 7 ?_;exact aG ⟨i+1,o51,c51,ys.take k++p::ys.drop k⟩ ⟨by omega,ho51,fun a ha=>by have:=hfr51 a ha;have:=hF2.size;omega,by rw[tkL hp];exact rN hpe,BS hor hkl hbe hstop,hF2.trans hG5⟩ (by show ps.length-(i+1)<ps.length-i;omega)
      exact Tp
     exact Tp
    exact Tp
   exact Tp
  refine Tt ?_ ?_
  ·refine Ts rfl rfl (Tu aQ (cs:=(aE p).toArray) eY rfl rfl rfl (by kernel_rfl) rfl ?_);intro v1 hgl hsl hfl;have hob1:bL 10 aE 37 v1.heap (some ⟨v0.heap.size,0,none⟩) 1 [p]:=bS (xs:=[p]) aB (by simpa using hgl) (by show 1≤maxLen;decide);obtain⟨gb,hgbe⟩:∃ gb,gb=v0.heap.size:=⟨_,rfl⟩
   rw[←hgbe] at hob1 ⊢;have hG1:=hG0.trans hfl;have hoy1:=hoy0.WG hfl;have hor1:=hor0.WG hfl;refine TD (by exact hv2.1.keep' hG1 (fun _ _ _=>id)) ?_;refine Tt ?_ ?_
   ·refine Ts rfl rfl (TT aB aQ rfl ?_);intro v2 hoa2 hsa hfa;have hG2:=hG1.trans hfa;have hoy2:=hoy1.WG hfa;have hor2:=hor1.WG hfa;obtain⟨ga,hga⟩:∃ ga,ga=v1.heap.size:=⟨_,rfl⟩
    rw[←hga] at hoa2 ⊢;have hgs2:ga<v2.heap.size:=hoa2.lt _ rfl;have hgy:∀ a,o=some a→a.block<ga:=fun a ha=>by rw[hga];exact hoy1.lt a ha
    have hgr:∀ a,o6=some a→a.block<ga:=fun a ha=>by rw[hga];exact hor1.lt a ha
    have hgW:w2.heap.size≤ga:=by rw[hga];exact hG1.size
    have hob2:=hob1.WG hfa;have hgb:gb<ga:=by rw[hga];exact hob1.lt _ rfl
    refine TD (by exact hv2.1.keep' hG2 (fun _ _ _=>id)) ?_;refine Tt ?_ ?_
    ·refine Ts rfl rfl (Th aB rfl aQ rfl rfl hoa2 ((hoy2.vw aB).take k) (by simp only[WZ,WR];omega) (by simp only[WZ,WR];unfold maxLen;omega) rfl ?_);intro o43 c43 v3 ho43_3 hf43 hr43 hn43;rw[Xi] at ho43_3 ⊢;have hG3:aA nob w2 v3:=hG2.WD hf43 (fun j ⟨a,ha,e⟩=>.inr (by cases ha;have e:ga=j:=e;omega));have hoy3:=hoy2.WH hf43 (fun a ha ⟨b,hb,e⟩=>by cases hb;have e:ga=a.block:=e;have:=hgy a ha;omega);have hor3:=hor2.WH hf43 (fun a ha ⟨b,hb,e⟩=>by cases hb;have e:ga=a.block:=e;have:=hgr a ha;omega);have hgs3:ga<v3.heap.size:=Xz hgs2 hf43.size;have hfr43:Fr ga o43:=cU (o:=some ⟨ga,0,none⟩) (fun a ha=>by cases ha;exact WT _) hr43 (by omega);have hob3:=hob2.WH hf43 (fun a ha ⟨b,hb,e⟩=>by cases hb;cases ha;have e:ga=gb:=e;omega);refine TD (by exact hv2.1.keep' hG3 (fun _ _ _=>id)) ?_;refine Tt ?_ ?_
     ·refine Ts rfl rfl (Th aB rfl aQ rfl rfl ho43_3 (hob3.vw aB) (by simp only[WP,WR];omega) (by simp only[WP,WR];unfold maxLen;omega) rfl ?_);intro o49 c49 v4 ho49 hf49 hr49 hn49;have hG4:aA nob w2 v4:=hG3.WD hf49 (fun j ⟨a,ha,e⟩=>.inr (by have:=hfr43 a ha;omega));have hor4:=hor3.WH hf49 (fun a ha ⟨b,hb,e⟩=>by have:=hfr43 b hb;have:=hgr a ha;omega);have hgs4:ga<v4.heap.size:=Xz hgs3 hf49.size;have hfr49:Fr ga o49:=cU hfr43 hr49 (by omega);refine TD (by exact hv2.1.keep' hG4 (fun _ _ _=>id)) ?_;refine Tt ?_ ?_
      ·refine Ts rfl rfl (Th aB rfl aQ rfl rfl ho49 (hor4.vw aB) (by simp only[WM,WP,WR,WX];omega) (by simp only[WM,WP,WR,WX];unfold maxLen;omega) rfl ?_);intro o51 c51 v5 ho51 hf51 hr51 hn51;rw[W9] at ho51 ⊢;have hG5:aA nob w2 v5:=hG4.WD hf51 (fun j ⟨a,ha,e⟩=>.inr (by have:=hfr49 a ha;omega));have hfr51:Fr ga o51:=cU hfr49 hr51 (by omega);refine TD (by exact hv2.1.keep' hG5 (fun _ _ _=>id)) ?_;refine Tn rfl rfl (TP rfl) rfl ?_;refine Ue ?_;refine Gz 7 ?_;exact aG ⟨i+1,o51,c51,ys.take k++p::ys.drop k⟩ ⟨by omega,ho51,fun a ha=>by have:=hfr51 a ha;have:=hF2.size;omega,by rw[tkL hp];exact rN hpe,BS hor hkl hbe hstop,hF2.trans hG5⟩ (by show ps.length-(i+1)<ps.length-i;omega)
      exact Tp
     exact Tp
    exact Tp
   exact Tp
  exact Tp
 have hie:i=ps.length:=by omega
 subst hie;rw[Xl] at hpe;refine Gz 1 ?_;refine aW [(0,_),(3,_),(4,_),(11,_)] ?_;refine Gz 15 ?_;exact⟨_,rfl,o,c,ys,rfl,ho2,hfo,hpe,hor,hF2⟩
end
section
open Go Go.RowKit Go.Maps
def qG(s:List Int)(z:Int):List Int:=if z∈s then s else s++[z]
def cF(zs:List Int):List Int:=zs.foldl qG []
def jR(zs:List Int)(z:Int):Int:=((cF zs).idxOf z:Nat)+1
theorem KH{s:List Int}{z x:Int}:x∈qG s z↔x∈s∨x=z:=by
 unfold qG
 split
 ·rename_i h;exact⟨.inl,fun g=>g.elim id (fun e=>e ▸ h)⟩
 ·simp
theorem Dt:∀ (zs s:List Int) (x:Int),x∈zs.foldl qG s↔x∈s∨x∈zs
|[],s,x=>by simp
|z::zs,s,x=>by
   rw[XZ,Dt zs,KH,Xo];exact or_assoc
theorem kG{zs:List Int}{x:Int}:x∈cF zs↔x∈zs:=by unfold cF;rw[Dt];simp
theorem Du:∀ (zs s:List Int),∃ r,zs.foldl qG s=s++r
|[],s=>⟨[],by simp⟩
|z::zs,s=>by
   obtain⟨r,h⟩:=Du zs (qG s z);rw[XZ,h];unfold qG
   split
   ·exact⟨r,rfl⟩
   ·exact⟨z::r,by simp⟩
theorem CK(a b:List Int):∃ r,cF (a++b)=cF a++r:=by
 unfold cF;rw[XY];exact Du _ _
theorem sY(a:List Int)(z:Int):cF (a++[z])=qG (cF a) z:=by unfold cF;rw[XY];rfl
theorem xG{a b:List Int}{z:Int}(h:z∉a):jR (a++z::b) z=((cF a).length:Nat)+1:=by
 obtain⟨r,hr⟩:=CK (a++[z]) b;have e:a++z::b=(a++[z])++b:=by simp
 have hs:z∉cF a:=fun g=>h (kG.1 g);unfold jR;rw[e,hr,sY];unfold qG;rw[WI hs,W9,List.idxOf_append,WI hs];show ((List.idxOf z (z::r)+(cF a).length:Nat):Int)+1=_;rw[List.idxOf_cons_self,XJ]
theorem mJ{a:List Int}{z:Int}(h:z∉a):(cF (a++[z])).length=(cF a).length+1:=by
 rw[sY];unfold qG;rw[WI (fun g=>h (kG.1 g))];simp
theorem mI{a:List Int}{z:Int}(h:z∈a):(cF (a++[z])).length=(cF a).length:=by
 rw[sY];unfold qG;rw[WJ (kG.2 h)]
theorem MA(s:List Int)(z:Int):(qG s z).length≤s.length+1:=by unfold qG;split<;>simp
theorem Bu(zs:List Int):(cF zs).length≤zs.length:=by
 have:∀ (zs s:List Int),(zs.foldl qG s).length≤s.length+zs.length:=fun zs=>by
  induction zs with
 |nil=>intro s;simp
 |cons z zs ih=>intro s;rw[XZ,W7];have:=ih (qG s z);have:=MA s z;omega
 have:=this zs [];simpa[cF] using this
def aR(ps:List (NdH×Nd)):List Int:=ps.map (·.2.ino)
def cY(zs:List Int)(p:NdH×Nd):NdH×Nd:=(p.1,{ p.2 with ino:=jR zs p.2.ino })
def xI(ps:List (NdH×Nd)):List (NdH×Nd):=ps.map (cY (aR ps))
theorem mO{ps:List (NdH×Nd)}{i:Nat}{p:NdH×Nd}(hp:ps[i]?=some p):aR ps=aR (ps.take i)++p.2.ino::aR (ps.drop (i+1)):=by
 conv=>lhs;rw[←Xn i ps,sD hp]
 simp[aR]
theorem jT{ps:List (NdH×Nd)}{i:Nat}{p:NdH×Nd}(hp:ps[i]?=some p):aR (ps.take (i+1))=aR (ps.take i)++[p.2.ino]:=by rw[tkL hp];simp[aR]
theorem OF{zs:List Int}{ps:List (NdH×Nd)}{i:Nat}{p:NdH×Nd}(hp:ps[i]?=some p):(ps.take (i+1)).map (cY zs)=(ps.take i).map (cY zs)++[cY zs p]:=by rw[tkL hp];simp
theorem C4(zs:List Int)(z:Int):1≤jR zs z:=by unfold jR;omega
variable {D:Nat→Prop}
theorem It(lo:Option Addr)(lc:Nat)(ps:List (NdH×Nd))(W:World)(hv:VwM 10 aE W.heap lo lc ps)(h1000:ps.length≤1024) :
 CA 53 [.slice lo ps.length lc] W fun v w'=>∃ o c,v=.slice o (xI ps).length c∧bL 10 aE 37 w'.heap o c (xI ps)∧Fr W.heap.size o∧aA nob W w':=by
 have h63:=hv.WF;obtain⟨Z,hZ⟩:∃ Z,Z=aR ps:=⟨_,rfl⟩
 refine cS 54 [(0,_)] Tryz.func53 ?_;refine Gz 7 ?_;refine TT aB aQ rfl ?_;intro w1 ho1 hs1 hf1;refine Gz 15 ?_;refine S4 (β:=Nat×Option Addr×Nat) (fun⟨i,o,c⟩=>[(0,.slice lo ps.length lc),(3,.slice o ((ps.take i).map (cY Z)).length c),(4,iV (((cF (aR (ps.take i))).length:Nat)+1)),(5,iV i)]) (fun⟨i,o,c⟩ w=>i≤ps.length∧bL 10 aE 37 w.heap o c ((ps.take i).map (cY Z))∧Fr W.heap.size o∧aA nob W w) (fun⟨i,o,c⟩=>ps.length-i) ⟨0,some ⟨W.heap.size,0,none⟩,0⟩ ⟨rfl,rfl,rfl,rfl,trivial⟩ ⟨WU _,ho1,fun a ha=>by cases ha;exact WT _,hf1⟩ ?_;rintro⟨i,o,c⟩ w2 ⟨hi,ho2,hfo,hF2⟩;refine fK 6 ?_ ?_<;>intro h12
 ·have hil:i<ps.length:=by omega
  obtain⟨p,hp⟩:∃ p,ps[i]?=some p:=⟨_,WK hil⟩
  have hv2:=hv.keep' hF2 (fun _ _ _=>id);have hsl:=Bu (aR (ps.take i));have hil2:(aR (ps.take i)).length=i:=by simp[aR];omega
  refine Gz 1 ?_;refine aW [(0,_),(3,_),(4,_),(5,_),(12,_)] ?_;refine Gz 10 ?_;refine cL (S1 aQ rfl rfl hv2.non (by omega)) ?_;refine cL (Tf (cs:=aE p) aZ rfl (fun j v hj=>hv2.rowZ i rfl hp j v hj)) ?_;refine S5 eY rfl ?_;intro w3 hg3 hs3 hf3;obtain⟨q,hq⟩:∃ q,q=w2.heap.size:=⟨_,rfl⟩
  rw[←hq] at hg3 ⊢;have hoq:∀ a,o=some a→¬ a.block=q:=fun a ha=>by have:=ho2.lt a ha;omega
  refine Te (vs:=aE p) aZ rfl rfl (aB p).2 hg3 rfl ?_;intro w4 hg4 hs4 hf4;have hf24:aA nob w2 w4:=hf3.WD hf4 (fun k e=>.inr (by have e:k=q:=e;omega));refine Gz 5 ?_;refine S6 aF rfl rfl rfl hg4 rfl ?_;intro w5 hg5 hs5 hf5;have hf25:aA nob w2 w5:=hf24.WD hf5 (fun k e=>.inr (by have e:k=q:=e;omega));refine Gz 9 ?_;refine S4 (β:=Nat×Int) (fun⟨k,z⟩=>[(0,.slice lo ps.length lc),(3,.slice o ((ps.take i).map (cY Z)).length c),(4,iV (((cF (aR (ps.take i))).length:Nat)+1)),(5,iV i),(6,pT q),(7,iV k)]) (fun⟨k,z⟩ w=>k≤i∧w.heap[q]?=some (.cells (aE (p.1,{ p.2 with ino:=z })).toArray 37 (0,0))∧((p.2.ino∉aR (ps.take k)→z=0)∧(p.2.ino∈aR (ps.take k)→z=jR Z p.2.ino))∧aA nob w2 w) (fun⟨k,z⟩=>i-k) ⟨0,0⟩ ⟨rfl,rfl,rfl,rfl,rfl,rfl,trivial⟩ ⟨WU _,hg5,⟨fun _=>rfl,fun h=>by simp[aR] at h⟩,hf25⟩ ?_;rintro⟨k,z⟩ w6 ⟨hk,hg6,hzc,hF6⟩;refine fK 5 ?_ ?_<;>intro h22
  ·have hki:k<i:=by omega
   obtain⟨r,hr⟩:∃ r,ps[k]?=some r:=⟨_,WK (by omega)⟩
   have hv6:=hv2.keep' hF6 (fun _ _ _=>id);have ho6:=ho2.WG hF6;refine Gz 1 ?_;refine aW [(0,_),(3,_),(4,_),(5,_),(6,_),(7,_),(22,_)] ?_;refine Gz 7 ?_;refine Tk 11 [0,1,2,3,4,5,6,7,8,9,10] aI (by kernel_rfl) ?_;refine Gz 2 ?_;refine xC rfl (S1 aQ rfl rfl hv6.non (by omega)) ?_;refine Gz 1 ?_;refine xC rfl (S2 aF rfl (hv6.rowZ k rfl hr 1 _ rfl)) ?_;refine Gz 2 ?_;refine xC rfl (S1 aQ rfl rfl hv6.non (by omega)) ?_;refine Gz 1 ?_;refine xC rfl (S2 aF rfl (hv6.rowZ i rfl hp 1 _ rfl)) ?_;refine xK 0 ?_ ?_<;>intro h35
   ·refine Gz 6 ?_;have hvo:=ho6.vw aB;have hrk:((ps.take i).map (cY Z))[k]?=some (cY Z r):=by rw[Xv,Xr,WJ hki,hr];rfl
    refine cL (S1 aQ rfl rfl hvo.non (by rw[W2,WR];omega)) ?_;refine Gz 1 ?_;refine cL (S2 aF rfl (hvo.rowZ k rfl hrk 1 _ rfl)) ?_;refine Gz 1 ?_;refine S6 aF rfl rfl rfl hg6 rfl ?_;intro w7 hg7 hs7 hf7;have hF7:aA nob w2 w7:=(hF6.draws 1).WD hf7 (fun k e=>.inr (by have e:k=q:=e;omega));refine Gz 8 ?_;refine aG ⟨k+1,jR Z r.2.ino⟩ ⟨by omega,hg7,?_,hF7⟩ (by show i-(k+1)<i-k;omega);rw[h35];exact⟨fun h=>absurd (by rw[jT hr,Xj];exact .inr (by rw[h35];exact Xg.2 rfl)) h,fun _=>rfl⟩
   refine Gz 11 ?_;refine aG ⟨k+1,z⟩ ⟨by omega,hg6,?_,hF6.draws 1⟩ (by show i-(k+1)<i-k;omega);rw[jT hr,Xj,Xg];exact⟨fun h=>hzc.1 (fun g=>h (.inl g)),fun h=>h.elim hzc.2 (fun e=>absurd e.symm h35)⟩
  have hke:k=i:=by omega
  subst hke;refine Gz 1 ?_;refine aW [(0,_),(3,_),(4,_),(5,_),(6,_),(7,_),(22,_)] ?_;refine Gz 7 ?_;refine Tw (β:=Unit) (fun _u=>[(0,.slice lo ps.length lc),(3,.slice o ((ps.take k).map (cY Z)).length c),(4,iV (((cF (aR (ps.take (k+1)))).length:Nat)+1)),(5,iV k),(6,pT q)]) (fun _u w=>w.heap[q]?=some (.cells (aE (cY Z p)).toArray 37 (0,0))∧aA nob w2 w) ?_ ?_
  ·refine Gz 3 ?_;refine cL (S3 (u:=iV z) (S2 aF rfl (aD hg6 rfl)) rfl) ?_;refine fK 0 ?_ ?_<;>intro h44
   ·have hn:p.2.ino∉aR (ps.take k):=fun h=>by have:=hzc.2 h;have:=C4 Z p.2.ino;omega
    have hzz:jR Z p.2.ino=((cF (aR (ps.take k))).length:Nat)+1:=by rw[hZ,mO hp];exact xG hn
    refine Gz 7 ?_;refine S6 aF rfl rfl rfl hg6 rfl ?_;intro w8 hg8 hs8 hf8;have hgR:w8.heap[q]?=some (.cells (aE (cY Z p)).toArray 37 (0,0)):=by unfold cY;rw[hzz];exact hg8
    have hF8:aA nob w2 w8:=hF6.WD hf8 (fun k e=>.inr (by have e:k=q:=e;omega));refine Gz 7 ?_;exact TG () ⟨rfl,rfl,congrArg (fun z:Int=>some (Value.int .i64 z)) (by rw[jT hp,mJ hn];omega),rfl,rfl,trivial⟩ ⟨hgR,hF8⟩
   have hin:p.2.ino∈aR (ps.take k):=by
    apply WV;intro hn;exact h44 (hzc.1 hn)
   have hzz:z=jR Z p.2.ino:=hzc.2 hin;refine Gz 4 ?_;exact TG () ⟨rfl,rfl,congrArg (fun z:Int=>some (Value.int .i64 z)) (by rw[jT hp,mI hin]),rfl,rfl,trivial⟩ ⟨by unfold cY;rw[←hzz];exact hg6,hF6⟩
  rintro _ w8 ⟨hgR,hF8⟩;refine Gz 2 ?_;refine cL (Tf (cs:=aE (cY Z p)) aZ rfl (bI hgR 0 rfl)) ?_;obtain⟨y,hy⟩:∃ y,y=cY Z p:=⟨_,rfl⟩
  rw[←hy];refine Tu aQ (cs:=(aE y).toArray) eY rfl rfl rfl (by kernel_rfl) rfl ?_;intro w9 hg9 hs9 hf9;have ho9:bL 10 aE 37 w9.heap (some ⟨w8.heap.size,0,none⟩) 1 [y]:=bS (xs:=[y]) aB (by simpa using hg9) (by show 1≤maxLen;decide);refine Th aB rfl aQ rfl rfl ((ho2.WG hF8).WG hf9) (ho9.vw aB) (by simp only[WP,W2,WR];omega) (by simp only[WP,W2,WR];unfold maxLen;omega) rfl ?_;intro o9 c9 w10 hoA hfA hrA hnA;rw[hy,←OF hp] at hoA ⊢;have hFA:aA nob W w10:=(hF2.trans (hF8.trans hf9)).WD hfA hfo.step;have hfo9:Fr W.heap.size o9:=cU hfo hrA (by have:=hF2.size;have:=hF8.size;have:=hf9.size;omega);refine Gz 9 ?_;exact aG ⟨k+1,o9,c9⟩ ⟨by omega,hoA,hfo9,hFA⟩ (by show ps.length-(k+1)<ps.length-k;omega)
 have hie:i=ps.length:=by omega
 subst hie;rw[Xl] at ho2;refine Gz 1 ?_;refine aW [(0,_),(3,_),(4,_),(5,_),(12,_)] ?_;refine Gz 15 ?_;refine⟨_,rfl,o,c,?_,?_,hfo,hF2⟩
 ·rw[Xl,hZ];rfl
 ·unfold xI;rw[←hZ];exact ho2
theorem ON{H:Array Obj}{ps:List (NdH×Nd)}(h:∀ p∈ps,NdV D H p):∀ p∈xI ps,NdV D H p:=by
 intro p hp;obtain⟨q,hq,rfl⟩:=Xq.1 hp;exact h q hq
def jU(ps:List (NdH×Nd)):List (NdH×Nd):=xI (jG ps)
theorem Cc{l:List Nd}(h:chk l=0):l.length≤1024:=by
 unfold chk at h;by_cases h1:1024<l.length
 ·rw[WJ h1] at h;cases h
 ·omega
theorem sK{l:List Nd}(h:chk l=0):plc l=0:=by
 rw[aM] at h;by_cases h1:plc l=0
 ·exact h1
 ·rw[WJ h1] at h;exact absurd h h1
theorem xB{l:List Nd}(h:plc l=0):nmd l=0:=by
 unfold plc at h;by_cases h0:1024<l.length
 ·rw[WJ h0] at h;cases h
 · rw[WI h0] at h
   by_cases h1:nmd l=0
   ·exact h1
   ·rw[WJ h1] at h;exact absurd h h1
theorem tS{l:List Nd}(h:chk l=0):¬ dE l:=(jA (xB (sK h))).2.2
theorem GP(lo:Option Addr)(lc:Nat)(ps:List (NdH×Nd))(W:World)(hv:aO D W.heap lo lc ps)(hsm:∀ p∈ps,smN p.2) :
 CA 15 [.slice lo ps.length lc] W fun v w'=>∃ (o:Option Addr) (c:Nat) (qs:List (NdH×Nd)),v=.tuple [.slice o qs.length c,iV (chk (nds ps))].toArray∧qs=(if chk (nds ps)=0 then jU ps else [])∧aO D w'.heap o c qs∧aA nob W w':=by
 have hll:(nds ps).length=ps.length:=by simp
 refine cS 13 [(0,_)] Tryz.func15 ?_;refine cA 9 Ss (GO lo lc ps W hv hsm) ?_;rintro _ w2 ⟨rfl,hf2⟩;refine fK 7 ?_ ?_<;>intro h8
 ·refine Gz 13 ?_;refine⟨_,rfl,none,0,[],rfl,(WI h8).symm,⟨⟨WU _,WU _,fun h=>absurd rfl h,fun i x hx=>by simp at hx⟩,by simp⟩,hf2⟩
 have hz:chk (nds ps)=0:=Xk.1 h8;have hlen:=Cc hz;have ht:=tS hz;refine Gz 8 ?_;refine SZ Sq rfl (Ep lo lc ps w2 (hv.WG hf2) (by omega)) rfl ?_;rintro _ w3 ⟨o3,c3,ys,rfl,ho3,hfo3,hpe,hor,hf3⟩;have hys:=CI ht hpe hor;have hyl:=hpe.length_eq;have hvy:=ho3.vw aB;refine SZ Sr rfl (It o3 c3 ys w3 hvy (by omega)) rfl ?_;rintro _ w4 ⟨o4,c4,rfl,ho4,hfo4,hf4⟩;refine Gz 6 ?_;have hF:aA nob W w4:=(hf2.trans hf3).trans hf4;refine⟨_,rfl,o4,c4,xI ys,by rw[hz],by rw[WJ hz,hys];rfl,⟨ho4.vw aB,ON fun p hp=>(hv.WG hF).2 p (hpe.mem_iff.1 hp)⟩,hF⟩
end
section
open Go Go.RowKit Go.Maps
theorem uK{α:Type}{K j:Nat}{enc:α→List Value}(hk:∀ x,(enc x).length=K)(hj:j<K){v:Value}{x':α}:∀ (xs:List α) (i:Nat) (y:α),xs[i]?=some y→enc x'=(enc y).set j v→(xs.set i x').flatMap enc=(xs.flatMap enc).set (i*K+j) v
|[],i,y,h,_=>by simp at h
|z::r,0,y,h,he=>by
   simp at h;subst h;rw[List.set_cons_zero,XM,XM,he,List.set_append,WJ (by rw[hk];omega),Za,XJ]
|z::r,i+1,y,h,he=>by
   have ih:=uK hk hj r i y (by simpa using h) he;have e1:(i+1)*K+j=K+(i*K+j):=by rw[XK];omega
   rw[List.set_cons_succ,XM,XM,ih,List.set_append,WI (by rw[hk];omega),hk,e1,Nat.add_sub_cancel_left]
section
variable {P:Program}{N:Nt}{Q:Exit→Act→World→Prop}{l:SF}{w:World}{ops:Array Oper}{rest:List Oper}{ty:TypeId}{pos:String}{aft:Array Edge}{x y:Operand}{t:TypeId}{v:Value}
theorem TQ{α:Type}{K:Nat}{enc:α→List Value}(henc:iF K enc){T:TypeId}{ao:Option Addr}{cap:Nat}{xs:List α}{i j:Nat}{x' x0:α}{ad:Addr}(hi:xs[i]?=some x0)(hj:j<K)(he:enc x'=(enc x0).set j v)
 (ht:fC P t=true)(hx:evL l x=some (.pointer (some ad)))(had:ad=(adr ao (i*K)).add j)(hy:evL l y=some v)(h1:v.oneCell'=true)(ho:bL K enc T w.heap ao cap xs)
 (h:∀ w',bL K enc T w'.heap ao cap (xs.set i x')→w'.heap.size=w.heap.size→aA (blk ao) w w'→Sl P N ops Q rest l w') :
 Sl P N ops Q (⟨none,.store t x y,ty,pos,aft,none⟩::rest) l w:=by
 have hil:=(WN.1 hi).1;rcases ho with⟨rfl,rfl,rfl⟩|⟨g,cur,rfl,hg,g1,g2,g3,g4⟩
 ·simp at hil
 · have hK:xs.length*K≤cap*K:=Xw K g1
   have hiK:(i+1)*K≤xs.length*K:=Xw K (by omega);have hlt:i*K+j<cur.toList.length:=by rw[Array.length_toList,g3];rw[XK,XW] at hiK;omega
   have hadr:ad=⟨g,i*K+j,none⟩:=by
    rw[had];show ((⟨g,0,none⟩:Addr).add (i*K)).add j=_;rw[Addr.add_add,Addr.add_lit,XJ]
   subst hadr;refine S6 (cur:=cur.toList) ht hx hy h1 (by simpa using hg) (by simpa[X0] using hlt) (fun w' q1 q2 q3=>h w' ?_ q2 ?_)
   · refine .inr ⟨g,_,rfl,q1,by simpa using g1,g2,by simpa using g3,?_⟩
     rw[XH,uK (fun x=>(henc x).1) hj xs i x0 hi he,←g4];simp only[List.take_set]
   ·exact q3.mono (fun k e=>⟨⟨g,0,none⟩,rfl,e.symm⟩)
end
theorem mP(n:Nat):Fr n (some ⟨n,0,none⟩):=fun a ha=>by cases ha;exact WT _
theorem Bf(ao:Option Addr)(c:Nat)(L:List By)(W:World)(hv:Vw gY W.heap ao c L)(hl:L.length≤1024) :
 CA 60 [.slice ao L.length c] W fun v w'=>∃ o c',v=.slice o L.length c'∧Own gY 9 w'.heap o c' L∧Fr W.heap.size o∧aA nob W w':=by
 refine cS 8 [(0,_)] Tryz.func60 ?_;refine Gz 9 ?_;refine TE (Tm (TI jH rfl rfl)) rfl (fun h4=>?_) (fun h4=>?_)
 ·refine Gz 11 ?_;obtain rfl:L=[]:=by
   apply WV;intro hne;have h0:ao=none:=by simpa using h4
   exact hv.non (by have:=W5.2 hne;omega) h0
  exact⟨_,rfl,none,0,rfl,.inl ⟨rfl,rfl,rfl⟩,V6,VZ _ _⟩
 refine Gz 7 ?_;refine TF gY jH rfl ?_;intro w1 ho1 hs1 hf1;refine Gz 1 ?_;refine S8 H9 jH rfl rfl ho1 (hv.WG hf1) (by simp only[WZ];omega) (by simp only[WZ];unfold maxLen;omega) rfl ?_;intro o2 c2 w2 ho2 hf2 hr2 hn2;rw[Xi] at ho2 ⊢;refine Gz 5 ?_;exact⟨_,rfl,o2,c2,rfl,ho2,cU (mP _) hr2 hf1.size,hf1.WD hf2 (mP _).step⟩
theorem oU(ao:Option Addr)(c:Nat)(L:By)(W:World)(hv:Vw b8 W.heap ao c L)(hl:L.length≤10000) :
 CA 61 [.slice ao L.length c] W fun v w'=>∃ o c',v=.slice o L.length c'∧Own b8 5 w'.heap o c' L∧Fr W.heap.size o∧aA nob W w':=by
 refine cS 8 [(0,_)] Tryz.func61 ?_;refine Gz 9 ?_;refine TE (Tm (TI aH rfl rfl)) rfl (fun h4=>?_) (fun h4=>?_)
 ·refine Gz 11 ?_;obtain rfl:L=[]:=by
   apply WV;intro hne;have h0:ao=none:=by simpa using h4
   exact hv.non (by have:=W5.2 hne;omega) h0
  exact⟨_,rfl,none,0,rfl,.inl ⟨rfl,rfl,rfl⟩,V6,VZ _ _⟩
 refine Gz 7 ?_;refine TF b8 aH rfl ?_;intro w1 ho1 hs1 hf1;refine Gz 1 ?_;refine S8 aN aH rfl rfl ho1 (hv.WG hf1) (by simp only[WZ];omega) (by simp only[WZ];unfold maxLen;omega) rfl ?_;intro o2 c2 w2 ho2 hf2 hr2 hn2;rw[Xi] at ho2 ⊢;refine Gz 5 ?_;exact⟨_,rfl,o2,c2,rfl,ho2,cU (mP _) hr2 hf1.size,hf1.WD hf2 (mP _).step⟩
theorem Be(ao:Option Addr)(c:Nat)(L:List (By×Hd))(W:World)(hv:VwM 2 fY W.heap ao c L)(hl:L.length≤10000) :
 CA 62 [.slice ao L.length c] W fun v w'=>∃ o c',v=.slice o L.length c'∧bL 2 fY 123 w'.heap o c' L∧Fr W.heap.size o∧aA nob W w':=by
 refine cS 8 [(0,_)] Tryz.func62 ?_;refine Gz 9 ?_;refine TE (Tm (TI gZ rfl rfl)) rfl (fun h4=>?_) (fun h4=>?_)
 ·refine Gz 11 ?_;obtain rfl:L=[]:=by
   apply WV;intro hne;have h0:ao=none:=by simpa using h4
   exact hv.non (by have:=W5.2 hne;omega) h0
  exact⟨_,rfl,none,0,rfl,.inl ⟨rfl,rfl,rfl⟩,V6,VZ _ _⟩
 refine Gz 7 ?_;refine TT cR gZ rfl ?_;intro w1 ho1 hs1 hf1;refine Gz 1 ?_;refine Th cR rfl gZ rfl rfl ho1 (hv.keep' hf1 (fun _ _ _=>id)) (by simp only[WZ];omega) (by simp only[WZ];unfold maxLen;omega) rfl ?_;intro o2 c2 w2 ho2 hf2 hr2 hn2;rw[Xi] at ho2 ⊢;refine Gz 5 ?_;exact⟨_,rfl,o2,c2,rfl,ho2,cU (mP _) hr2 hf1.size,hf1.WD hf2 (mP _).step⟩
theorem HB(ao:Option Addr)(c:Nat)(L:List (NdH×Nd))(W:World)(hv:VwM 10 aE W.heap ao c L)(hl:L.length≤1024) :
 CA 56 [.slice ao L.length c] W fun v w'=>∃ o c',v=.slice o L.length c'∧bL 10 aE 37 w'.heap o c' L∧Fr W.heap.size o∧aA nob W w':=by
 refine cS 8 [(0,_)] Tryz.func56 ?_;refine Gz 9 ?_;refine TE (Tm (TI aQ rfl rfl)) rfl (fun h4=>?_) (fun h4=>?_)
 ·refine Gz 11 ?_;obtain rfl:L=[]:=by
   apply WV;intro hne;have h0:ao=none:=by simpa using h4
   exact hv.non (by have:=W5.2 hne;omega) h0
  exact⟨_,rfl,none,0,rfl,.inl ⟨rfl,rfl,rfl⟩,V6,VZ _ _⟩
 refine Gz 7 ?_;refine TT aB aQ rfl ?_;intro w1 ho1 hs1 hf1;refine Gz 1 ?_;refine Th aB rfl aQ rfl rfl ho1 (hv.keep' hf1 (fun _ _ _=>id)) (by simp only[WZ];omega) (by simp only[WZ];unfold maxLen;omega) rfl ?_;intro o2 c2 w2 ho2 hf2 hr2 hn2;rw[Xi] at ho2 ⊢;refine Gz 5 ?_;exact⟨_,rfl,o2,c2,rfl,ho2,cU (mP _) hr2 hf1.size,hf1.WD hf2 (mP _).step⟩
end
section
variable {P:Program}{ops:Array Oper}{CH:Array Obj→Prop}{N:Nt}{n:Nat}{R effs:List Nat}{K0:Act→World→Prop}{Q:Exit→Act→World→Prop}{l:SF}{w:World}
theorem ER{i:Nat}{oi:Oper}{v:Value}(hi:ops[i]?=some oi)(hsel:∀ (j:Nat) (o:Oper) cs b,ops[j]?=some o→o.op≠.select cs b)(hin:i≠n) :
 ∀ (fuel:Nat) (listed:Array Bool) (a:Act) (w:World),(listed.getD n false=false→CH w.heap) →
  (∀ j oj,ops[j]?=some oj→j≠i→listed.getD j true=false→(∀ e∈oj.after,Region.binds .any e=true→e.on≠i)→oi.apart ops oj=true) →
  i∈Region.ready .any ops listed→YC P ops (fun _=>True) oi v a →
  bG P .any ops n CH K0 fuel (listed.setIfInBounds i true) (a.put oi.dst v) w→bG P .any ops n CH K0 (fuel+1) listed a w:=by
 intro fuel
 induction fuel with
|zero=>
   intro listed a w hc _ hr hy H;refine⟨hc,fun h=>(by rw[h] at hr;cases hr),fun j hj=>?_⟩;by_cases hji:j=i
   ·subst hji;exact hy.wpOp hi trivial H
   · have:=ready_mono hj hji
     rw[H.2.1] at this;cases this
|succ fuel ih=>
   intro listed a w hc hfree hr hy H;refine⟨hc,fun h=>(by rw[h] at hr;cases hr),fun j hj=>?_⟩;by_cases hji:j=i
   ·subst hji;exact hy.wpOp hi trivial H
   · have h1:=H.2.2 j (ready_mono hj hji)
     obtain⟨hjun,oj,hoj,hall⟩:=mem_ready.1 hj;have hnot:∀ e∈oj.after,Region.binds .any e=true→e.on≠i:=fun e he hb heq=>by
      have h1:=hall e he hb;have h0:=(mem_ready.1 hr).1;rw[heq] at h1;rcases Yu i listed.size with h'|h'
      ·simp[h'] at h0 h1;rw[h0] at h1;cases h1
      ·simp[YW h'] at h1
     have h2:=sR hoj (hfree j oj hoj hji hjun hnot) (fun cs b=>hsel i oi cs b hi) (fun cs b=>hsel j oj cs b hoj) hy h1;have hfree':∀ k ok,ops[k]?=some ok→k≠i→(listed.setIfInBounds j true).getD k true=false →
      (∀ e∈ok.after,Region.binds .any e=true→e.on≠i)→oi.apart ops ok=true:=fun k ok hk hki hun hno=>by
      refine hfree k ok hk hki ?_ hno;by_cases hjk:j=k
      ·subst hjk;exact hjun
      ·rw[getD_set_ne true hjk] at hun;exact hun
     have ch2:(listed.setIfInBounds j true).getD n false=false→((listed.setIfInBounds i true).setIfInBounds j true).getD n false=false:=fun h4=>by
      rw[YO _ _ (fun e=>hji e.symm),getD_set_ne false hin];exact h4
     refine wpOp_mono (fun a' w' h3=>ih (listed.setIfInBounds j true) a' w' (fun h4=>h3.2.ch (ch2 h4)) hfree' (ready_mono hr (Ne.symm hji)) h3.1 ?_) h2;rw[YO _ _ hji];exact h3.2
theorem EQ{i:Nat}{oi on:Oper}{v:Value}(hi:ops[i]?=some oi)(hsel:∀ (j:Nat) (o:Oper) cs b,ops[j]?=some o→o.op≠.select cs b)(hin:i≠n)(hon:ops[n]?=some on)(hw:∃ e∈on.after,Region.binds .any e=true∧e.on=i) :
 ∀ (fuel:Nat) (listed:Array Bool) (a:Act) (w:World),listed.getD n false=false→CH w.heap →
  (∀ j oj,ops[j]?=some oj→j≠i→listed.getD j true=false→(∀ e∈oj.after,Region.binds .any e=true→e.on≠i)→oi.apart ops oj=true) →
  i∈Region.ready .any ops listed→YC P ops CH oi v a →
  bG P .any ops n CH K0 fuel (listed.setIfInBounds i true) (a.put oi.dst v) w→bG P .any ops n CH K0 (fuel+1) listed a w:=by
 intro fuel
 induction fuel with
|zero=>
   intro listed a w hun hc _ hr hy H;refine⟨fun _=>hc,fun h=>(by rw[h] at hr;cases hr),fun j hj=>?_⟩;by_cases hji:j=i
   ·subst hji;exact hy.wpOp hi hc H
   · have:=ready_mono hj hji
     rw[H.2.1] at this;cases this
|succ fuel ih=>
   intro listed a w hun hc hfree hr hy H;refine⟨fun _=>hc,fun h=>(by rw[h] at hr;cases hr),fun j hj=>?_⟩;by_cases hji:j=i
   ·subst hji;exact hy.wpOp hi hc H
   · have h1:=H.2.2 j (ready_mono hj hji)
     obtain⟨hjun,oj,hoj,hall⟩:=mem_ready.1 hj;have hnot:∀ e∈oj.after,Region.binds .any e=true→e.on≠i:=fun e he hb heq=>by
      have h1:=hall e he hb;have h0:=(mem_ready.1 hr).1;rw[heq] at h1;rcases Yu i listed.size with h'|h'
      ·simp[h'] at h0 h1;rw[h0] at h1;cases h1
      ·simp[YW h'] at h1
     have hjn:j≠n:=fun e=>by
      subst e;obtain⟨e,he,hb,hei⟩:=hw;rw[hoj] at hon;cases hon;exact hnot e he hb hei
     have h2:=sR hoj (hfree j oj hoj hji hjun hnot) (fun cs b=>hsel i oi cs b hi) (fun cs b=>hsel j oj cs b hoj) hy h1;have hfree':∀ k ok,ops[k]?=some ok→k≠i→(listed.setIfInBounds j true).getD k true=false →
      (∀ e∈ok.after,Region.binds .any e=true→e.on≠i)→oi.apart ops ok=true:=fun k ok hk hki hun hno=>by
      refine hfree k ok hk hki ?_ hno;by_cases hjk:j=k
      ·subst hjk;exact hjun
      ·rw[getD_set_ne true hjk] at hun;exact hun
     have hun':(listed.setIfInBounds j true).getD n false=false:=by rw[getD_set_ne false hjn];exact hun
     have ch2:((listed.setIfInBounds i true).setIfInBounds j true).getD n false=false:=by rw[getD_set_ne false hjn,getD_set_ne false hin];exact hun
     refine wpOp_mono (fun a' w' h3=>ih (listed.setIfInBounds j true) a' w' hun' (h3.2.ch ch2) hfree' (ready_mono hr (Ne.symm hji)) h3.1 ?_) h2;rw[YO _ _ hji];exact h3.2
def CHr(R:List Nat)(CH:Array Obj→Prop)(i:Nat):Array Obj→Prop:=bif R.contains i then CH else fun _=>True
def Sz(P:Program)(N:Nt)(ops:Array Oper)(n:Nat)(R:List Nat)(CH:Array Obj→Prop)(effs:List Nat)(K0:Act→World→Prop):Bool→List Nat→SF→World→Prop
|_,[],l,w=>∀ a,bW N l a→K0 a w
|fr,i::r,l,w=>∃ o,ops[i]?=some o ∧
   (bif effs.contains i then Sl P N ops (jW fun a w=>∃ l',bW N l' a∧((fr && !Yh i n)=true→CH w.heap)∧Sz P N ops n R CH effs K0 (fr && !Yh i n) r l' w) [o] l w
    else ∃ v,(∀ a,bW N l a→YC P ops (CHr R CH i) o v a)∧∃ l',(∀ a,bW N l a→bW N l' (a.put o.dst v))∧Sz P N ops n R CH effs K0 fr r l' w)
def KZ(P:Program)(N:Nt)(ops:Array Oper)(n:Nat)(R:List Nat)(CH:Array Obj→Prop)(effs:List Nat)(K0:Act→World→Prop):Bool→OT→Act→World→Prop
|_,.fin,a,w=>K0 a w
|_,.stop,_,_=>True
|fr,.alt i pre t u,a,w=>(∃ l',bW N l' a∧Sz P N ops n R CH effs (KZ P N ops n R CH effs K0 (fr && !Yh i n) t) fr (i::pre) l' w)∧KZ P N ops n R CH effs K0 fr u a w
def Fg(ops:Array Oper)(n k:Nat):Bool:=match ops[n]? with|some o=>o.after.toList.any (fun e=>Region.binds .any e && Yh e.on k)|none=>false
def tC(ops:Array Oper)(n:Nat)(R effs:List Nat):List Nat→Array Bool→Option (Array Bool)
|[],L=>some L
|k::r,L=>bif (!effs.contains k) && (Region.ready .any ops L).contains k && Region.free .any ops L k && !Yh k n && (!R.contains k || (Fg ops n k && !L.getD n false)) then tC ops n R effs r (L.setIfInBounds k true) else none
def okZ(ops:Array Oper)(n:Nat)(R effs:List Nat):Bool→Bool→OT→Array Bool→Bool
|_,_,.fin,L=>(Region.ready .any ops L).isEmpty
|_,top,.stop,_=>!top
|fr,top,.alt i pre t u,L=>(!top || (Region.ready .any ops L).all (i::u.heads).contains) && effs.contains i && (Region.ready .any ops L).contains i && (fr == !L.getD n false) && Xs i L.size &&
   (match tC ops n R effs pre (L.setIfInBounds i true) with|some L'=>okZ ops n R effs (fr && !Yh i n) true t L'|none=>false) && okZ ops n R effs fr false u L
theorem IP{k:Nat}:∀ (pre:List Nat) (L L':Array Bool),tC ops n R effs pre L=some L'→L'.getD n false=L.getD n false
|[],L,L',h=>by simp only[tC,Option.some.injEq] at h;rw[h]
|k::r,L,L',h=>by
   cases hb:((!effs.contains k) && (Region.ready .any ops L).contains k && Region.free .any ops L k && !Yh k n && (!R.contains k || (Fg ops n k && !L.getD n false))) with
  |false=>simp only[tC,hb,cond_false] at h;cases h
  |true=>
     simp only[tC,hb,cond_true] at h;simp only[Xh,YD] at hb;have hkn:k≠n:=fun e=>by have:=hb.1.2;rw[e,Nat.beq_refl] at this;cases this
     rw[IP (k:=k) r _ _ h,getD_set_ne false hkn]
theorem wZ(hsel:Region.noSelect ops=true){K:Act→World→Prop}{L':Array Bool}{m:Nat}{fr:Bool}
 (hK:∀ (f:Nat) (a:Act) (w:World),m≤f→(fr=true→CH w.heap)→K a w→bG P .any ops n CH K0 f L' a w) :
 ∀ (pre:List Nat) (f:Nat) (L:Array Bool) (l:SF) (a:Act) (w:World),pre.length+m≤f→tC ops n R effs pre L=some L'→(L.getD n false=false→fr=true)→bW N l a→(fr=true→CH w.heap)→Sz P N ops n R CH effs K fr pre l w→bG P .any ops n CH K0 f L a w
|[],f,L,l,a,w,hf,hp,hfr,ha,hc,h=>by
   simp only[tC,Option.some.injEq] at hp;subst hp;exact hK f a w (by simpa using hf) hc (h a ha)
|k::r,0,L,l,a,w,hf,hp,hfr,ha,hc,h=>by simp at hf
|k::r,f+1,L,l,a,w,hf,hp,hfr,ha,hc,h=>by
   obtain⟨o,ho,h⟩:=h;cases hb:((!effs.contains k) && (Region.ready .any ops L).contains k && Region.free .any ops L k && !Yh k n && (!R.contains k || (Fg ops n k && !L.getD n false))) with
  |false=>simp only[tC,hb,cond_false] at hp;cases hp
  |true=>
     simp only[tC,hb,cond_true] at hp;simp only[Xh,YD,Yf] at hb;obtain⟨⟨⟨⟨he,m1⟩,m2⟩,m3⟩,m4⟩:=hb;have hkn:k≠n:=fun e=>by rw[e,Nat.beq_refl] at m3;cases m3
     rw[he] at h;simp only[cond_false] at h;obtain⟨v,hy,l',hl',hs⟩:=h;have hir:k∈Region.ready .any ops L:=by simpa using m1
     have hrec:=wZ hsel hK r f _ l' _ w (by simp at hf;omega) hp (fun h0=>hfr (by rw[getD_set_ne false hkn] at h0;exact h0)) (hl' a ha) hc hs;cases hR:R.contains k with
    |false=>
       have hy2:YC P ops (fun _=>True) o v a:=by have:=hy a ha;unfold CHr at this;rw[hR] at this;exact this
       exact ER ho (Region.noSelect_spec hsel) hkn f L a w (fun h0=>hc (hfr h0)) (Region.free_spec ho m2) hir hy2 hrec
    |true=>
       have hy2:YC P ops CH o v a:=by have:=hy a ha;unfold CHr at this;rw[hR] at this;exact this
       obtain⟨m5,m6⟩:=m4.resolve_left (by rw[hR];decide);unfold Fg at m5;cases hon:ops[n]? with
      |none=>rw[hon] at m5;cases m5
      |some on=>
         rw[hon] at m5;obtain⟨e,he1,he2⟩:=List.any_eq_true.1 m5;simp only[Xh,Nat.beq_eq] at he2;exact EQ ho (Region.noSelect_spec hsel) hkn hon ⟨e,by simpa using he1,he2.1,he2.2⟩ f L a w m6 (hc (hfr m6)) (Region.free_spec ho m2) hir hy2 hrec
theorem K4{i:Nat}{pre:List Nat}{K:Act→World→Prop}{f:Nat}{L:Array Bool}{a:Act}{fr:Bool}(he:effs.contains i=true)(ha:bW N l a)
 (key:∀ l' a' w',bW N l' a'→((fr && !Yh i n)=true→CH w'.heap)→Sz P N ops n R CH effs K (fr && !Yh i n) pre l' w'→bG P .any ops n CH K0 f (L.setIfInBounds i true) a' w')
 (h:Sz P N ops n R CH effs K fr (i::pre) l w):wpOp P ops (jW K0) i (bG P .any ops n CH K0 f (L.setIfInBounds i true)) a w:=by
 obtain⟨o,ho,h⟩:=h;rw[he] at h;simp only[cond_true] at h;have h1:=h a ha;unfold wpList at h1;unfold wpOp;simp only[ho];have key2:∀ a' w',wpList P ops (jW fun a w=>∃ l',bW N l' a∧((fr && !Yh i n)=true→CH w.heap)∧Sz P N ops n R CH effs K (fr && !Yh i n) pre l' w) [] a' w'→bG P .any ops n CH K0 f (L.setIfInBounds i true) a' w':=by
  intro a' w' h2;obtain⟨l',h3,h4,h5⟩:=h2;exact key l' a' w' h3 h4 h5
 split
 · rename_i hw
   rw[WJ hw] at h1;rcases h1 with h1|⟨_,_,_,h1⟩
   ·exact .inl (V9 key2 h1)
   ·exact h1.elim
 · rename_i hw
   rw[WI hw] at h1;exact key2 _ _ h1
theorem nI(hsel:Region.noSelect ops=true):∀ (t:OT) (fr top:Bool) (f:Nat) (L:Array Bool) (a:Act) (w:World),t.dep≤f→okZ ops n R effs fr top t L=true→(L.getD n false=false→fr=true)→(fr=true→CH w.heap)→KZ P N ops n R CH effs K0 fr t a w →
 (top=true→bG P .any ops n CH K0 f L a w)∧∀ k∈t.heads,∃ f',f=f'+1∧wpOp P ops (jW K0) k (bG P .any ops n CH K0 f' (L.setIfInBounds k true)) a w
|.fin,fr,top,f,L,a,w,hf,hm,hfr,hc,h=>by
   have hr:Region.ready .any ops L=[]:=by simpa[okZ] using hm
   refine⟨fun _=>?_,fun k hk=>by cases hk⟩;cases f with
  |zero=>exact⟨fun h0=>hc (hfr h0),hr,h⟩
  |succ f=>exact⟨fun h0=>hc (hfr h0),fun _=>h,by rw[hr];simp⟩
|.stop,fr,top,f,L,a,w,hf,hm,hfr,hc,h=>by
   refine⟨fun e=>by subst e;simp[okZ] at hm,fun k hk=>by cases hk⟩
|.alt i pre t u,fr,top,f,L,a,w,hf,hm,hfr,hc,h=>by
   simp only[okZ,Xh] at hm;obtain⟨⟨⟨⟨⟨⟨m1,m2⟩,m3⟩,m4⟩,m5⟩,m6⟩,m7⟩:=hm;have hf1:pre.length+t.dep+1≤f:=Xf (Nat.le_max_left _ _) hf;have hf2:u.dep≤f:=Xf (Nat.le_max_right _ _) hf;obtain⟨f',rfl⟩:∃ f',f=f'+1:=⟨f-1,by omega⟩
   obtain⟨⟨l',ha,h1⟩,h2⟩:=h;have hi:i<L.size:=by simpa[X0] using m5
   have hr:i∈Region.ready .any ops L:=by simpa using m3
   have hu:=nI hsel u fr false (f'+1) L a w hf2 m7 hfr hc h2;have hfr2:(L.setIfInBounds i true).getD n false=false→(fr && !Yh i n)=true:=fun h0=>by
    by_cases hin:i=n
    ·subst hin;simp[hi] at h0
    · rw[getD_set_ne false hin] at h0
      rw[hfr h0];have:Yh i n=false:=by cases hb:Yh i n with|false=>rfl|true=>exact absurd (Nat.eq_of_beq_eq_true hb) hin
      rw[this];rfl
   have hhead:∀ k∈i::u.heads,∃ f'',f'+1=f''+1∧wpOp P ops (jW K0) k (bG P .any ops n CH K0 f'' (L.setIfInBounds k true)) a w:=by
    intro k hk;rcases Xo.1 hk with rfl|hk
    · refine⟨f',rfl,K4 m2 ha (fun l2 a2 w2 hl2 hc2 hs2=>?_) h1⟩
      cases hp:tC ops n R effs pre (L.setIfInBounds k true) with
     |none=>rw[hp] at m6;cases m6
     |some L'=>
        rw[hp] at m6;have hn':=IP (k:=k) pre _ _ hp;exact wZ hsel (m:=t.dep) (fun f3 a3 w3 hf3 hc3 hk3=>(nI hsel t _ true f3 L' a3 w3 hf3 m6 (fun h0=>hfr2 (by rw[←hn'];exact h0)) hc3 hk3).1 rfl) pre f' _ l2 a2 w2 (by omega) hp hfr2 hl2 hc2 hs2
    ·exact hu.2 k hk
   refine⟨fun e=>?_,hhead⟩;subst e;refine⟨fun h0=>hc (hfr h0),fun h0=>(by rw[h0] at hr;cases hr),fun k hk=>?_⟩;simp only[Bool.not_true,Bool.false_or,Y4] at m1;obtain⟨f'',e1,hw⟩:=hhead k (by simpa using m1 k hk);obtain rfl:f'=f'':=by omega
   exact hw
theorem T0{id:Nat}{lops:List Oper}(n:Nat)(R:List Nat)(CH:Array Obj→Prop)(effs pre:List Nat)(t:OT)(hm:P.follows .mixedOrders=true)(hs:(Region.noSelect lops.toArray &&
 (match tC lops.toArray n R effs pre (Yg lops.length false) with|some L'=>okZ lops.toArray n R effs true true t L'|none=>false) && Nat.ble (pre.length+t.dep) lops.length)=true)(hc:CH w.heap)
 (h:Sz P N lops.toArray n R CH effs (KZ P N lops.toArray n R CH effs (fun a w=>Q .normal a w) true t) true pre l (w.drewN 1)):Sc P N (.region id lops.toArray true) Q l w:=fun a ha=>by
 simp only[Xh] at hs;obtain⟨⟨hs,hok⟩,hlen⟩:=hs;have h1:bG P .any lops.toArray n CH (fun a w=>Q .normal a w) lops.length (Yg lops.length false) a (w.drewN 1):=by
  cases hp:tC lops.toArray n R effs pre (Yg lops.length false) with
 |none=>rw[hp] at hok;cases hok
 |some L'=>
    rw[hp] at hok;exact wZ hs (m:=t.dep) (fr:=true) (fun f3 a3 w3 hf3 hc3 hk3=>(nI hs t true true f3 L' a3 w3 hf3 hok (fun _=>rfl) hc3 hk3).1 rfl) pre lops.length _ l a _ (by simpa[Y2] using hlen) hp (fun _=>rfl) ha (fun _=>hc) h
 have h2:=wp_region_any (P:=P) (id:=id) (ops:=lops.toArray) (Q:=jW fun a w=>Q .normal a w) (a:=a) (w:=w) hm (by
  have:=h1.any;simpa[World.drewN] using this)
 refine wp_mono h2 ?_;intro e a' w' hq;cases e<;>first|exact hq|exact hq.elim
variable {r:List Nat}{i:Nat}{op:Op}{ty:TypeId}{pos:String}{aft:Array Edge}{d:Nat}{v:Value}{t u:OT}{fr:Bool}
theorem Sz.calm(hi:ops[i]?=some ⟨some d,op,ty,pos,aft,none⟩)(he:effs.contains i=false)(hv:Cm P N (CHr R CH i) l ⟨some d,op,ty,pos,aft,none⟩ v)(hd:Xs d N.n=true)
 (h:Sz P N ops n R CH effs K0 fr r ((d,v)::l) w):Sz P N ops n R CH effs K0 fr (i::r) l w:=
 ⟨_,hi,by rw[he];exact⟨v,fun a ha=>.inl ⟨by simp[Region.wanted],fun w hw=>hv a w ha hw⟩,_,fun a ha=>ha.put hd v,h⟩⟩
def KW(P:Program)(N:Nt)(ops:Array Oper)(n:Nat)(R:List Nat)(CH:Array Obj→Prop)(effs:List Nat)(K0:Act→World→Prop)(fr:Bool)(r:List Nat):Exit→Act→World→Prop:=jW fun a w=>∃ l',bW N l' a∧(fr=true→CH w.heap)∧Sz P N ops n R CH effs K0 fr r l' w
theorem Wp{o:Oper}(hi:ops[i]?=some o)(he:effs.contains i=true)(h:Sl P N ops (KW P N ops n R CH effs K0 (fr && !Yh i n) r) [o] l w):Sz P N ops n R CH effs K0 fr (i::r) l w:=
 ⟨_,hi,by rw[he];exact h⟩
theorem Sz.on(hc:CH w.heap)(h:Sz P N ops n R CH effs K0 fr r l w):Sl P N ops (KW P N ops n R CH effs K0 fr r) [] l w:=fun _ ha=>⟨l,ha,fun _=>hc,h⟩
theorem Sz.off(hf:fr=false)(h:Sz P N ops n R CH effs K0 fr r l w):Sl P N ops (KW P N ops n R CH effs K0 fr r) [] l w:=fun _ ha=>⟨l,ha,fun e=>absurd (hf.symm.trans e) (by decide),h⟩
theorem Wq(h:At N .normal Q l w):Sz P N ops n R CH effs (KZ P N ops n R CH effs (fun a w=>Q .normal a w) fr .fin) fr [] l w:=fun a ha=>h a ha
theorem Sz.alt{pre:List Nat}(h1:Sz P N ops n R CH effs (KZ P N ops n R CH effs K0 (fr && !Yh i n) t) fr (i::pre) l w)(h2:Sz P N ops n R CH effs (KZ P N ops n R CH effs K0 fr u) fr [] l w):Sz P N ops n R CH effs (KZ P N ops n R CH effs K0 fr (.alt i pre t u)) fr [] l w:=fun a ha=>⟨⟨l,ha,h1⟩,h2 a ha⟩
theorem Sz.stop:Sz P N ops n R CH effs (KZ P N ops n R CH effs K0 fr .stop) fr [] l w:=fun _ _=>trivial
end
theorem Jz{xs:List Int}{i k:Nat}{u:Int}(hi:i<xs.length):(xs.set i u).getD k 0=if k=i then u else xs.getD k 0:=by
 by_cases h:k=i
 ·subst h;rw[WJ rfl,WW,List.getElem?_set_self hi];rfl
 ·rw[WI h,WW,List.getElem?_set_ne (fun e=>h e.symm)];rfl
def wx(i j k:Nat):Nat:=if k=j then i else if k=i then j else k
def kE(xs:List Int)(i j:Nat):List Int:=(xs.set i (xs.getD j 0)).set j (xs.getD i 0)
theorem nK(xs:List Int)(i j:Nat):(kE xs i j).length=xs.length:=by simp[kE]
theorem oP{xs:List Int}{i j k:Nat}(hi:i<xs.length)(hj:j<xs.length):(kE xs i j).getD k 0=xs.getD (wx i j k) 0:=by
 unfold kE wx;rw[Jz (by simpa using hj),Jz hi];by_cases h1:k=j
 ·rw[WJ h1,WJ h1]
 · rw[WI h1,WI h1]
   by_cases h2:k=i
   ·rw[WJ h2,WJ h2]
   ·rw[WI h2,WI h2]
theorem swap_perm{xs:List Int}{i j:Nat}(hi:i<xs.length)(hj:j<xs.length):(kE xs i j).Perm xs:=by
 have h:=Array.swap_perm (xs:=xs.toArray) (i:=i) (j:=j) (by simpa using hi) (by simpa using hj);have e1:xs.getD j 0=xs[j]:=by simp[WW,hj]
 have e2:xs.getD i 0=xs[i]:=by simp[WW,hi]
 have e:(xs.toArray.swap i j (by simpa using hi) (by simpa using hj)).toList=kE xs i j:=by
  unfold kE;rw[e1,e2];simp[Array.swap]
 have h2:=Array.perm_iff_toList_perm.1 h;rw[e] at h2;exact h2
def sx(a b n k:Nat):Nat:=if a≤k∧k<a+n then k-a+b else if b≤k∧k<b+n then k-b+a else k
theorem oG(a b n k:Nat):(a≤k∧k<a+n∧sx a b n k=k-a+b)∨(¬ (a≤k∧k<a+n)∧b≤k∧k<b+n∧sx a b n k=k-b+a)∨(¬ (a≤k∧k<a+n)∧¬ (b≤k∧k<b+n)∧sx a b n k=k):=by
 unfold sx;by_cases h1:a≤k∧k<a+n
 ·rw[WJ h1];exact .inl ⟨h1.1,h1.2,rfl⟩
 · rw[WI h1]
   by_cases h2:b≤k∧k<b+n
   ·rw[WJ h2];exact .inr (.inl ⟨h1,h2.1,h2.2,rfl⟩)
   ·rw[WI h2];exact .inr (.inr ⟨h1,h2,rfl⟩)
theorem K6(a b k:Nat):sx a b 0 k=k:=by have:=oG a b 0 k;omega
theorem gU(i j k:Nat):(k=j∧wx i j k=i)∨(k≠j∧k=i∧wx i j k=j)∨(k≠j∧k≠i∧wx i j k=k):=by
 unfold wx;by_cases h1:k=j
 ·rw[WJ h1];exact .inl ⟨h1,rfl⟩
 · rw[WI h1]
   by_cases h2:k=i
   ·rw[WJ h2];exact .inr (.inl ⟨h1,h2,rfl⟩)
   ·rw[WI h2];exact .inr (.inr ⟨h1,h2,rfl⟩)
theorem K7{a b i k:Nat}(h:a+i<b):sx a b i (wx (a+i) (b+i) k)=sx a b (i+1) k:=by
 have h1:=gU (a+i) (b+i) k;have h2:=oG a b i (wx (a+i) (b+i) k);have h3:=oG a b (i+1) k;omega
def rx(a m b k:Nat):Nat:=if a≤k∧k<a+(b-m) then k-a+m else if a+(b-m)≤k∧k<b then k-(b-m) else k
theorem fD(a m b k:Nat):(a≤k∧k<a+(b-m)∧rx a m b k=k-a+m)∨(¬ (a≤k∧k<a+(b-m))∧a+(b-m)≤k∧k<b∧rx a m b k=k-(b-m))∨(¬ (a≤k∧k<a+(b-m))∧¬ (a+(b-m)≤k∧k<b)∧rx a m b k=k):=by
 unfold rx;by_cases h1:a≤k∧k<a+(b-m)
 ·rw[WJ h1];exact .inl ⟨h1.1,h1.2,rfl⟩
 · rw[WI h1]
   by_cases h2:a+(b-m)≤k∧k<b
   ·rw[WJ h2];exact .inr (.inl ⟨h1,h2.1,h2.2,rfl⟩)
   ·rw[WI h2];exact .inr (.inr ⟨h1,h2,rfl⟩)
theorem ML{m i j k:Nat}(h:j<i)(hj:0<j)(him:i≤m):sx (m-i) m j (rx (m-(i-j)) m (m+j) k)=rx (m-i) m (m+j) k:=by
 have h1:=fD (m-(i-j)) m (m+j) k;have h2:=oG (m-i) m j (rx (m-(i-j)) m (m+j) k);have h3:=fD (m-i) m (m+j) k;omega
theorem MK{m i j k:Nat}(h:i<j)(hi:0<i)(him:i≤m):sx (m-i) (m+(j-i)) i (rx (m-i) m (m+(j-i)) k)=rx (m-i) m (m+j) k:=by
 have h1:=fD (m-i) m (m+(j-i)) k;have h2:=oG (m-i) (m+(j-i)) i (rx (m-i) m (m+(j-i)) k);have h3:=fD (m-i) m (m+j) k;omega
theorem OE{m i k:Nat}(him:i≤m):sx (m-i) m i k=rx (m-i) m (m+i) k:=by
 have h2:=oG (m-i) m i k;have h3:=fD (m-i) m (m+i) k;omega
theorem dA(x:Int):(i64 x).oneCell'=true:=rfl
def StI(W0:World)(o:Option Addr)(c n:Nat)(xs:List Int)(w:World):Prop:=Own i64 3 w.heap o c xs∧xs.length=n∧aA (blk o) W0 w
theorem StI.draws{W0:World}{o:Option Addr}{c n:Nat}{xs:List Int}{w:World}(h:StI W0 o c n xs w)(k:Nat):StI W0 o c n xs (w.drewN k):=⟨h.1,h.2.1,h.2.2.draws k⟩
theorem StI.WG{W0:World}{o:Option Addr}{c n:Nat}{xs:List Int}{w w':World}(h:StI W0 o c n xs w)(f:aA nob w w'):StI W0 o c n xs w':=⟨h.1.WG f,h.2.1,h.2.2.trans (f.mono (fun _ h=>h.elim))⟩
theorem wI(W0:World)(o:Option Addr)(c n a b m:Nat)(fv:Value)(xs:List Int)(W:World)(h:StI W0 o c n xs W)(hab:a+m≤b)(hbm:b+m≤n)(hn:n≤1000000) :
 CA 237 [.slice o n c,iV a,iV b,iV m,fv] W fun v w'=>v=.tuple #[]∧∃ ys,StI W0 o c n ys w'∧ys.Perm xs∧∀ k,ys.getD k 0=xs.getD (sx a b m k) 0:=by
 refine cS 38 [(0,_),(1,_),(2,_),(3,_),(4,_)] Tryz.func237 ?_;refine Gz 6 ?_;refine S4 (β:=Nat×List Int) (fun⟨i,ys⟩=>[(0,.slice o n c),(1,iV a),(2,iV b),(3,iV m),(10,iV i)]) (fun⟨i,ys⟩ w=>i≤m∧StI W0 o c n ys w∧ys.Perm xs∧∀ k,ys.getD k 0=xs.getD (sx a b i k) 0) (fun⟨i,ys⟩=>m-i) ⟨0,xs⟩ ⟨rfl,rfl,rfl,rfl,rfl,trivial⟩ ⟨WU _,h,List.Perm.refl _,fun k=>by rw[K6]⟩ ?_;rintro⟨i,ys⟩ w2 ⟨hi,hy,hp,hk⟩;refine fK 5 ?_ ?_<;>intro h13
 ·have him:i<m:=by omega
  refine Gz 7 ?_;have hyl:=hy.2.1;refine T0 21 [13,19] (fun H=>Vw i64 H o c ys) [21,23] [0,1,2,3,4,5,6,7,8,9,10,11,12,13,14,15,16,17,18,19,20] (.alt 21 [22] (.alt 23 [] .fin .stop) .stop) aI (by kernel_rfl) (hy.1.vw) ?_;refine Sz.calm rfl rfl (Ta rfl) rfl ?_;refine Sz.calm rfl rfl (Ta rfl) rfl ?_;refine Sz.calm rfl rfl (Ta rfl) rfl ?_;refine Sz.calm rfl rfl (TO rfl rfl (by omega)) rfl ?_;refine Sz.calm rfl rfl (Ta rfl) rfl ?_;refine Sz.calm rfl rfl (Ta rfl) rfl ?_;refine Sz.calm rfl rfl (Ta rfl) rfl ?_;refine Sz.calm rfl rfl (TO rfl rfl (by omega)) rfl ?_;refine Sz.calm rfl rfl (Ta rfl) rfl ?_;refine Sz.calm rfl rfl (Ta rfl) rfl ?_;refine Sz.calm rfl rfl (Ta rfl) rfl ?_;refine Sz.calm rfl rfl (TO rfl rfl (by omega)) rfl ?_;refine Sz.calm rfl rfl (SY aY rfl rfl (by rw[←hy.2.1];exact hy.1.vw.non) (by omega)) rfl ?_;refine Sz.calm rfl rfl (S9 aF rfl (fun H (hH:Vw i64 H o c ys)=>hH.gz 0 (b+i) (by omega) (by omega))) rfl ?_;refine Sz.calm rfl rfl (Ta rfl) rfl ?_;refine Sz.calm rfl rfl (Ta rfl) rfl ?_;refine Sz.calm rfl rfl (Ta rfl) rfl ?_;refine Sz.calm rfl rfl (TO rfl rfl (by omega)) rfl ?_;refine Sz.calm rfl rfl (SY aY rfl rfl (by rw[←hy.2.1];exact hy.1.vw.non) (by omega)) rfl ?_;refine Sz.calm rfl rfl (S9 aF rfl (fun H (hH:Vw i64 H o c ys)=>hH.gz 0 (a+i) (by omega) (by omega))) rfl ?_;refine Sz.calm rfl rfl (SY aY rfl rfl (by rw[←hy.2.1];exact hy.1.vw.non) (by omega)) rfl ?_;refine Sz.alt ?_ ?_
  ·refine Wp rfl rfl (Tr dA aF (z:=(a:Int)+i) (u:=ys.getD (b+i) 0) rfl rfl (hy.draws 1).1 (by omega) ?_);intro w3 ho3 hs3 hf3;refine Sz.off rfl ?_;refine Sz.calm rfl rfl (SY aY rfl rfl (by rw[←hy.2.1];exact hy.1.vw.non) (by omega)) rfl ?_;refine Sz.alt ?_ ?_
   ·refine Wp rfl rfl (Tr dA aF (z:=(b:Int)+i) (u:=ys.getD (a+i) 0) rfl rfl ho3 (by rw[XH];omega) ?_);intro w4 ho4 hs4 hf4;have e1:((a:Int)+i).toNat=a+i:=by omega
    have e2:((b:Int)+i).toNat=b+i:=by omega
    rw[e1,e2] at ho4;refine Sz.off rfl ?_;refine Wq ?_;refine Gz 7 ?_;refine aG ⟨i+1,kE ys (a+i) (b+i)⟩ ⟨by omega,⟨ho4,by rw[nK];exact hyl,((hy.2.2.draws 1).trans hf3).trans hf4⟩,(swap_perm (by omega) (by omega)).trans hp,fun k=>?_⟩ (by show m-(i+1)<m-i;omega);rw[oP (by omega) (by omega),hk,K7 (by omega)]
   exact Sz.stop
  exact Sz.stop
 have hie:i=m:=by omega
 subst hie;refine Gz 7 ?_;refine Ty rfl ?_;exact⟨_,rfl,rfl,ys,hy,hp,hk⟩
theorem GH(W0:World)(o:Option Addr)(c n a m b:Nat)(fv:Value)(xs:List Int)(W:World)(h:StI W0 o c n xs W)(ham:a<m)(hmb:m<b)(hbn:b≤n)(hn:n≤1000000) :
 CA 236 [.slice o n c,iV a,iV m,iV b,fv] W fun v w'=>v=.tuple #[]∧∃ ys,StI W0 o c n ys w'∧ys.Perm xs∧∀ k,ys.getD k 0=xs.getD (rx a m b k) 0:=by
 refine cS 58 [(0,_),(1,_),(2,_),(3,_),(4,_)] Tryz.func236 ?_;refine Gz 18 ?_;refine S4 (β:=Nat×Nat×List Int) (fun⟨i,j,ys⟩=>[(0,.slice o n c),(2,iV m),(4,fv),(10,iV i),(11,iV j)]) (fun⟨i,j,ys⟩ w=>(0<i∧0<j∧i≤m∧m+j≤n)∧StI W0 o c n ys w∧ys.Perm xs∧∀ k,xs.getD (rx a m b k) 0=ys.getD (rx (m-i) m (m+j) k) 0) (fun⟨i,j,ys⟩=>i+j) ⟨m-a,b-m,xs⟩ ⟨rfl,rfl,rfl,(congrArg (fun z:Int=>some (Value.int .i64 z)) (by omega)),(congrArg (fun z:Int=>some (Value.int .i64 z)) (by omega)),trivial⟩ ⟨⟨by omega,by omega,by omega,by omega⟩,h,List.Perm.refl _,fun k=>by rw[show m-(m-a)=a by omega,show m+(b-m)=b by omega]⟩ ?_;rintro⟨i,j,ys⟩ w2 ⟨⟨hi0,hj0,him,hjn⟩,hy,hp,hk⟩;refine fK 5 ?_ ?_<;>intro h20
 ·refine fK 10 ?_ ?_<;>intro h23
  ·refine Gz 12 ?_;obtain⟨a1,ha1⟩:∃ a1:Nat,a1=m-i:=⟨_,rfl⟩
   refine SZ JN rfl ((by rw[show ((m:Int)-i)=((m-i:Nat):Int) by omega];exact wI W0 o c n (m-i) m j fv ys w2 hy (by omega) (by omega) hn)) rfl ?_;rintro _ w3 ⟨rfl,zs,hz,hzp,hzk⟩;refine Gz 9 ?_
   first
   |exact Ti ⟨i-j,j,zs⟩ ⟨rfl,rfl,rfl,congrArg (fun z:Int=>some (Value.int .i64 z)) (by omega),rfl,trivial⟩ ⟨⟨by omega,by omega,by omega,by omega⟩,hz,hzp.trans hp,fun k=>by rw[hk,hzk,ML (by omega) hj0 him]⟩ (by show i-j+j<i+j;omega)
   |exact Ti ⟨i,j-i,zs⟩ ⟨rfl,rfl,rfl,rfl,congrArg (fun z:Int=>some (Value.int .i64 z)) (by omega),trivial⟩ ⟨⟨by omega,by omega,by omega,by omega⟩,hz,hzp.trans hp,fun k=>by rw[hk,hzk,MK (by omega) hi0 him]⟩ (by show i+(j-i)<i+j;omega)
  refine Gz 16 ?_;refine SZ JN rfl ((by rw[show ((m:Int)-i)=((m-i:Nat):Int) by omega,show ((m:Int)+j-i)=((m+(j-i):Nat):Int) by omega];exact wI W0 o c n (m-i) (m+(j-i)) i fv ys w2 hy (by omega) (by omega) hn)) rfl ?_;rintro _ w3 ⟨rfl,zs,hz,hzp,hzk⟩;refine Gz 9 ?_
  first
  |exact Ti ⟨i-j,j,zs⟩ ⟨rfl,rfl,rfl,congrArg (fun z:Int=>some (Value.int .i64 z)) (by omega),rfl,trivial⟩ ⟨⟨by omega,by omega,by omega,by omega⟩,hz,hzp.trans hp,fun k=>by rw[hk,hzk,ML (by omega) hj0 him]⟩ (by show i-j+j<i+j;omega)
  |exact Ti ⟨i,j-i,zs⟩ ⟨rfl,rfl,rfl,rfl,congrArg (fun z:Int=>some (Value.int .i64 z)) (by omega),trivial⟩ ⟨⟨by omega,by omega,by omega,by omega⟩,hz,hzp.trans hp,fun k=>by rw[hk,hzk,MK (by omega) hi0 him]⟩ (by show i+(j-i)<i+j;omega)
 have hij:i=j:=by omega
 subst hij;refine Gz 16 ?_;refine SZ JN rfl ((by rw[show ((m:Int)-i)=((m-i:Nat):Int) by omega];exact wI W0 o c n (m-i) m i fv ys w2 hy (by omega) (by omega) hn)) rfl ?_;rintro _ w3 ⟨rfl,zs,hz,hzp,hzk⟩;refine Gz 1 ?_;refine Ty rfl ?_;exact⟨_,rfl,rfl,zs,hz,hzp.trans hp,fun k=>by rw[hk,hzk,OE him]⟩
section
variable {K:Int→List (List UInt8)}
def ltS(K:Int→List By)(x y:Int):Prop:=cV (K x) (K y)<0∨(cV (K x) (K y)=0∧x<y)
theorem kA{x y z:Int}(h1:ltS K x y)(h2:ltS K y z):ltS K x z:=by
 rcases h1 with h1|⟨h1,g1⟩
 · rcases h2 with h2|⟨h2,g2⟩
   ·exact .inl (qD h1 h2)
   ·rw[mC h2] at h1;exact .inl h1
 · rcases h2 with h2|⟨h2,g2⟩
   ·rw[←mC h1] at h2;exact .inl h2
   ·exact .inr ⟨by rw[mC h1,h2],by omega⟩
theorem oK{x y:Int}(h:cV (K y) (K x)<0):ltS K y x:=.inl h
theorem nQ{x y:Int}(hxy:x<y)(h:¬ cV (K y) (K x)<0):ltS K x y:=by
 have:=yM (K y) (K x);by_cases e:cV (K x) (K y)=0
 ·exact .inr ⟨e,hxy⟩
 ·exact .inl (by omega)
end
def Srt(K:Int→List By)(xs:List Int)(a b:Nat):Prop:=∀ i j:Nat,a≤i→i<j→j<b→ltS K (xs.getD i 0) (xs.getD j 0)
def Inc(xs:List Int)(a b:Nat):Prop:=∀ i j:Nat,a≤i→i<j→j<b→xs.getD i 0<xs.getD j 0
def StB(xs:List Int)(a m b:Nat):Prop:=∀ i j:Nat,a≤i→i<m→m≤j→j<b→xs.getD i 0<xs.getD j 0
def Seg(xs ys:List Int)(a b:Nat):Prop:=ys.length=xs.length∧ys.Perm xs∧(∀ k:Nat,(k<a∨b≤k)→ys.getD k 0=xs.getD k 0)∧∀ k:Nat,a≤k→k<b→∃ k':Nat,a≤k'∧k'<b∧ys.getD k 0=xs.getD k' 0
theorem Wr(xs:List Int)(a b:Nat):Seg xs xs a b:=⟨rfl,List.Perm.refl _,fun _ _=>rfl,fun k h1 h2=>⟨k,h1,h2,rfl⟩⟩
theorem Seg.trans{xs ys zs:List Int}{a b:Nat}(h:Seg xs ys a b)(g:Seg ys zs a b):Seg xs zs a b:=
 ⟨g.1.trans h.1,g.2.1.trans h.2.1,fun k hk=>(g.2.2.1 k hk).trans (h.2.2.1 k hk),fun k h1 h2=>by
  obtain⟨k',a1,a2,a3⟩:=g.2.2.2 k h1 h2;obtain⟨k'',b1,b2,b3⟩:=h.2.2.2 k' a1 a2;exact⟨k'',b1,b2,a3.trans b3⟩⟩
theorem Seg.wide{xs ys:List Int}{a b a' b':Nat}(h:Seg xs ys a b)(ha:a'≤a)(hb:b≤b'):Seg xs ys a' b':=
 ⟨h.1,h.2.1,fun k hk=>h.2.2.1 k (by omega),fun k h1 h2=>by
  by_cases hk:a≤k∧k<b
  · obtain⟨k',a1,a2,a3⟩:=h.2.2.2 k hk.1 hk.2
    exact⟨k',by omega,by omega,a3⟩
  ·exact⟨k,h1,h2,h.2.2.1 k (by omega)⟩⟩
theorem Seg.swap{xs ys:List Int}{a b i j:Nat}(h:Seg xs ys a b)(hi:a≤i∧i<b)(hj:a≤j∧j<b)(hb:b≤ys.length):Seg xs (kE ys i j) a b:=by
 refine h.trans ⟨nK _ _ _,swap_perm (by omega) (by omega),fun k hk=>?_,fun k h1 h2=>⟨wx i j k,?_,?_,oP (by omega) (by omega)⟩⟩
 · rw[oP (by omega) (by omega)]
   have:=gU i j k;rw[show wx i j k=k by omega]
 ·have:=gU i j k;omega
 ·have:=gU i j k;omega
theorem EM{xs:List Int}{k:Nat}(h:k<xs.length):xs.getD k 0∈xs:=by
 have:xs.getD k 0=xs[k]:=by simp[WW,h]
 rw[this];exact XE h
structure MF (W0:World)(o:Option Addr)(f:FuncId)(cs:List Value)(V:Int→Prop)(K:Int→List By):Prop where
 fn:fnB Tryz.prog f=true
 call:∀ (w:World) (x y:Int),aA (blk o) W0 w→V x→V y→Calls Tryz.prog f ([Value.int .i64 x,Value.int .i64 y]++cs).toArray w (Ret fun v w'=>v=iV (cV (K x) (K y))∧aA nob w w')
def HP(K:Int→List By)(ys:List Int)(a i j:Nat):Prop:=(∀ p q:Nat,a≤p→p<q→q≤i→p≠j→q≠j→ltS K (ys.getD p 0) (ys.getD q 0))∧(∀ q:Nat,j<q→q≤i→ltS K (ys.getD j 0) (ys.getD q 0))∧∀ p:Nat,a≤p→p≤i→p≠j→ys.getD p 0<ys.getD j 0
theorem HP.step{K:Int→List By}{ys:List Int}{a i j:Nat}(h:HP K ys a i j)(haj:a<j)(hji:j≤i)(hi:i<ys.length)(hl:cV (K (ys.getD j 0)) (K (ys.getD (j-1) 0))<0):HP K (kE ys j (j-1)) a i (j-1):=by
 obtain⟨h1,h2,h3⟩:=h;have g:∀ k,(kE ys j (j-1)).getD k 0=ys.getD (wx j (j-1) k) 0:=fun k=>oP (by omega) (by omega);have gj:(kE ys j (j-1)).getD (j-1) 0=ys.getD j 0:=by rw[g];have:=gU j (j-1) (j-1);rw[show wx j (j-1) (j-1)=j by omega]
 refine⟨fun p q hp hpq hq n1 n2=>?_,fun q hq hqi=>?_,fun p hp hpi hne=>?_⟩
 · rw[g,g]
   have s1:=gU j (j-1) p;have s2:=gU j (j-1) q;exact h1 _ _ (by omega) (by omega) (by omega) (by omega) (by omega)
 · rw[gj,g]
   have s2:=gU j (j-1) q;by_cases e:q=j
   ·rw[show wx j (j-1) q=j-1 by omega];exact .inl hl
   ·rw[show wx j (j-1) q=q by omega];exact h2 q (by omega) hqi
 · rw[gj,g]
   have s2:=gU j (j-1) p;exact h3 _ (by omega) (by omega) (by omega)
theorem HP.done{K:Int→List By}{ys:List Int}{a i j:Nat}(h:HP K ys a i j)(haj:a≤j)(hji:j≤i)(hs:a<j→¬ cV (K (ys.getD j 0)) (K (ys.getD (j-1) 0))<0):Srt K ys a (i+1):=by
 obtain⟨h1,h2,h3⟩:=h;have hl:∀ p,a≤p→p<j→ltS K (ys.getD p 0) (ys.getD j 0):=fun p hp hpj=>by
  have h4:=nQ (h3 (j-1) (by omega) (by omega) (by omega)) (hs (by omega));by_cases e:p=j-1
  ·rw[e];exact h4
  ·exact kA (h1 p (j-1) hp (by omega) (by omega) (by omega) (by omega)) h4
 intro p q hp hpq hq;by_cases e1:p=j
 ·subst e1;exact h2 q hpq (by omega)
 · by_cases e2:q=j
   ·subst e2;exact hl p hp hpq
   ·exact h1 p q hp hpq (by omega) e1 e2
theorem xY{K:Int→List By}{V:Int→Prop}{f:FuncId}{cs:List Value}(W0:World)(o:Option Addr)(hC:MF W0 o f cs V K)(c n a b:Nat)(xs:List Int)(W:World)(h:StI W0 o c n xs W)(hV:∀ z∈xs,V z)(hab:a≤b)(hbn:b≤n)(hn:n≤1000000)(hinc:Inc xs a b) :
 CA 229 [.slice o n c,iV a,iV b,.func (.func f) #[] cs.toArray] W fun v w'=>v=.tuple #[]∧∃ ys,StI W0 o c n ys w'∧Seg xs ys a b∧Srt K ys a b:=by
 refine cS 53 [(0,_),(1,_),(2,_),(3,_)] Tryz.func229 ?_;refine Gz 8 ?_;refine S4 (β:=Nat×List Int) (fun⟨i,ys⟩=>[(0,.slice o n c),(1,iV a),(2,iV b),(3,.func (.func f) #[] cs.toArray),(8,iV i)]) (fun⟨i,ys⟩ w=>(a<i∧(i≤b∨i=a+1))∧StI W0 o c n ys w∧Seg xs ys a (min i b)∧Srt K ys a i) (fun⟨i,ys⟩=>b-i) ⟨a+1,xs⟩ ⟨rfl,rfl,rfl,rfl,rfl,trivial⟩ ⟨⟨by omega,.inr rfl⟩,h,Wr _ _ _,fun p q h1 h2 h3=>by omega⟩ ?_;rintro⟨i,ys⟩ w2 ⟨⟨hai,hib0⟩,hy,hs1,ht1⟩;refine fK 5 ?_ ?_<;>intro h14
 ·have hib:i<b:=by omega
  have hyl:=hy.2.1;refine Gz 5 ?_;refine Tw (β:=List Int) (fun vs=>[(0,.slice o n c),(1,iV a),(2,iV b),(3,.func (.func f) #[] cs.toArray),(8,iV i)]) (fun vs w=>StI W0 o c n vs w∧Seg xs vs a (i+1)∧Srt K vs a (i+1)) ?_ ?_
  ·refine Gz 8 ?_;refine S4 (β:=Nat×List Int) (fun⟨j,zs⟩=>[(0,.slice o n c),(1,iV a),(2,iV b),(3,.func (.func f) #[] cs.toArray),(8,iV i),(9,iV j)]) (fun⟨j,zs⟩ w=>a≤j∧j≤i∧StI W0 o c n zs w∧Seg xs zs a (i+1)∧HP K zs a i j) (fun⟨j,zs⟩=>j) ⟨i,ys⟩ ⟨rfl,rfl,rfl,rfl,rfl,rfl,trivial⟩ ⟨by omega,WT _,hy,by rw[XT (by omega)] at hs1;exact hs1.wide (WT _) (by omega),⟨fun p q h1 h2 h3 h4 h5=>ht1 p q h1 h2 (by omega),fun q h1 h2=>by omega,fun p h1 h2 h3=>by rw[XT (by omega)] at hs1;obtain⟨k,k1,k2,k3⟩:=hs1.2.2.2 p h1 (by omega);rw[k3,hs1.2.2.1 i (.inr (WT _))];exact hinc k i k1 k2 hib⟩⟩ ?_;rintro⟨j,zs⟩ w4 ⟨haj,hji,hz,hs2,hI⟩;refine Gz 2 ?_;refine Tc 17 (fun H=>Vw i64 H o c zs) [14] [0,1,2,3,4,5,6,7,8,9,10,11,12,13,14,15,16] aI (by kernel_rfl) (hz.1.vw) ?_;refine xK 2 ?_ ?_<;>intro h20
   ·have hzl:=hz.2.1;have hVz:∀ k:Nat,k<n→V (zs.getD k 0):=fun k hk=>hV _ (hs2.2.1.mem_iff.1 (EM (by omega)));refine Gz 4 ?_;refine xV rfl (SY aY rfl rfl (by rw[←hz.2.1];exact hz.1.vw.non) (by omega)) ?_;refine xV rfl (S9 aF rfl (fun H (hH:Vw i64 H o c zs)=>hH.gz 0 j rfl (by omega))) ?_;refine Gz 3 ?_;refine xV rfl (SY aY rfl rfl (by rw[←hz.2.1];exact hz.1.vw.non) (by omega)) ?_;refine xV rfl (S9 aF rfl (fun H (hH:Vw i64 H o c zs)=>hH.gz 0 (j-1) (by omega) (by omega))) ?_;refine S7 rfl rfl (Vl rfl rfl <| TS hC.fn rfl rfl (hC.call _ (zs.getD j 0) (zs.getD (j-1) 0) (hz.draws 1).2.2 (hVz j (by omega)) (hVz (j-1) (by omega))) rfl ?_);intro v5 w5 hr5;obtain⟨rfl,hf5⟩:=hr5;have hz5:StI W0 o c n zs w5:=(hz.draws 1).WG hf5;refine Tg (by exact hz5.1.vw) ?_;refine xW 0 ?_ ?_<;>intro h33
    ·refine Gz 8 ?_;refine T0 15 [9,13] (fun H=>Vw i64 H o c zs) [15,17] [0,1,2,3,4,5,6,7,8,9,10,11,12,13,14] (.alt 15 [16] (.alt 17 [] .fin .stop) .stop) aI (by kernel_rfl) (hz5.1.vw) ?_;refine Sz.calm rfl rfl (Ta rfl) rfl ?_;refine Sz.calm rfl rfl (Ta rfl) rfl ?_;refine Sz.calm rfl rfl (Ta rfl) rfl ?_;refine Sz.calm rfl rfl (Ta rfl) rfl ?_;refine Sz.calm rfl rfl (TV rfl rfl (by omega)) rfl ?_;refine Sz.calm rfl rfl (Ta rfl) rfl ?_;refine Sz.calm rfl rfl (Ta rfl) rfl ?_;refine Sz.calm rfl rfl (TV rfl rfl (by omega)) rfl ?_;refine Sz.calm rfl rfl (SY aY rfl rfl (by rw[←hz.2.1];exact hz.1.vw.non) (by omega)) rfl ?_;refine Sz.calm rfl rfl (S9 aF rfl (fun H (hH:Vw i64 H o c zs)=>hH.gz 0 (j-1) (by omega) (by omega))) rfl ?_;refine Sz.calm rfl rfl (Ta rfl) rfl ?_;refine Sz.calm rfl rfl (Ta rfl) rfl ?_;refine Sz.calm rfl rfl (SY aY rfl rfl (by rw[←hz.2.1];exact hz.1.vw.non) (by omega)) rfl ?_;refine Sz.calm rfl rfl (S9 aF rfl (fun H (hH:Vw i64 H o c zs)=>hH.gz 0 j rfl (by omega))) rfl ?_;refine Sz.calm rfl rfl (SY aY rfl rfl (by rw[←hz.2.1];exact hz.1.vw.non) (by omega)) rfl ?_;refine Sz.alt ?_ ?_
     ·refine Wp rfl rfl (Tr dA aF (z:=(j:Int)) (u:=zs.getD (j-1) 0) rfl rfl (hz5.draws 1).1 (by omega) ?_);intro w6 ho6 hs6 hf6;refine Sz.off rfl ?_;refine Sz.calm rfl rfl (SY aY rfl rfl (by rw[←hz.2.1];exact hz.1.vw.non) (by omega)) rfl ?_;refine Sz.alt ?_ ?_
      ·refine Wp rfl rfl (Tr dA aF (z:=(j:Int)-1) (u:=zs.getD j 0) rfl rfl ho6 (by rw[XH];omega) ?_);intro w7 ho7 hs7 hf7;have e2:((j:Int)-1).toNat=j-1:=by omega
       rw[e2] at ho7;refine Sz.off rfl ?_;refine Wq ?_;refine Gz 7 ?_;exact Ti ⟨j-1,kE zs j (j-1)⟩ ⟨rfl,rfl,rfl,rfl,rfl,congrArg (fun z:Int=>some (Value.int .i64 z)) (by omega),trivial⟩ ⟨by omega,by omega,⟨ho7,by rw[nK];exact hzl,((hz5.2.2.draws 1).trans hf6).trans hf7⟩,hs2.swap ⟨by omega,by omega⟩ ⟨by omega,by omega⟩ (by omega),hI.step (by omega) hji (by omega) h33⟩ (by show j-1<j;omega)
      exact Sz.stop
     exact Sz.stop
    have hstop:a<j→¬ cV (K (zs.getD j 0)) (K (zs.getD (j-1) 0))<0:=fun _=>h33;refine Gz 9 ?_
    first
    |exact aC zs ⟨hz5,hs2,hI.done haj hji hstop⟩
    |exact aC zs ⟨hz.draws 1,hs2,hI.done haj hji hstop⟩
   have hstop:a<j→¬ cV (K (zs.getD j 0)) (K (zs.getD (j-1) 0))<0:=fun h=>by omega
   refine Gz 11 ?_;refine S7 rfl rfl (Um rfl rfl rfl rfl ?_);refine Tg (by exact hz.1.vw) ?_;refine Gz 10 ?_
   first
   |exact aC zs ⟨hz5,hs2,hI.done haj hji hstop⟩
   |exact aC zs ⟨hz.draws 1,hs2,hI.done haj hji hstop⟩
  rintro vs w8 ⟨hv8,hs8,ht8⟩;refine Gz 5 ?_;exact aG ⟨i+1,vs⟩ ⟨⟨by omega,.inl (by omega)⟩,hv8,by rw[XT (by omega)];exact hs8,ht8⟩ (by show b-(i+1)<b-i;omega)
 have hbi:b≤i:=by omega
 refine Gz 7 ?_;refine Ty rfl ?_;refine⟨_,rfl,rfl,ys,hy,by rw[Nat.min_eq_right hbi] at hs1;exact hs1,fun p q h1 h2 h3=>ht1 p q h1 h2 (by omega)⟩
section
variable {P:Program}{N:Nt}{l:SF}{ty t':TypeId}{pos:String}{aft:Array Edge}{dd:Option Nat}{g:Option (Nat×Bool)}{CH:Array Obj→Prop}{x y:Operand}{t:TypeId}{m n:Int}{k':IntKind}
theorem Uo(hx:evL l x=some (.int .u64 m))(hy:evL l y=some (.int k' n))(hn:0≤n∧n≤64):Cm P N CH l ⟨dd,.binOp .shr t x y t',ty,pos,aft,g⟩ (.int .u64 (m/2 ^ n.toNat)):=fun a w ha _=>by
 have h1:¬ (n<0):=by omega
 have h2:min n.toNat 64=n.toNat:=by omega
 have h3:m.fdiv (2 ^ n.toNat)=m/2 ^ n.toNat:=Int.fdiv_eq_ediv_of_nonneg _ (Int.pow_nonneg (by decide));have h4:(Op.shift .shr .u64 m k' n).run P w=.ok (.int .u64 (m/2 ^ n.toNat)) w:=by
  unfold Op.shift;rw[WI h1];show (pure (Value.int .u64 (m.fdiv (2 ^ min n.toNat 64))):Sem Value).run P w=_;rw[h2,h3];rfl
 simp only[execOp,ha.ev hx,ha.ev hy,eqGuard,binOp,Sem.run_bind];simp
end
theorem Co{z:Int}(h:0≤z∧z<18446744073709551616):IntKind.u64.wrap z=z:=by
 unfold IntKind.wrap;simp[IntKind.bits,IntKind.signed];omega
theorem Dp{i j:Nat}(h:i+j<4611686018427387904):IntKind.i64.wrap (((i:Int)+j)/2 ^ (1:Int).toNat)=(((i+j)/2:Nat):Int):=by
 have e:(2:Int) ^ (1:Int).toNat=2:=rfl;rw[e,cN (by omega)];omega
section
variable {K:Int→List (List UInt8)}{xs ys:List Int}
theorem Bp{a b i j:Nat}{z:Int}(h:Srt K xs a b)(hi:a≤i)(hij:i≤j)(hj:j<b)(hz:ltS K (xs.getD j 0) z):ltS K (xs.getD i 0) z:=by
 by_cases e:i=j
 ·rw[e];exact hz
 ·exact kA (h i j hi (by omega) hj) hz
theorem Br{a b i j:Nat}{z:Int}(h:Srt K xs a b)(hi:a≤i)(hij:i≤j)(hj:j<b)(hz:ltS K z (xs.getD i 0)):ltS K z (xs.getD j 0):=by
 by_cases e:i=j
 ·rw[←e];exact hz
 ·exact kA hz (h i j hi (by omega) hj)
def ux(a k p:Nat):Nat:=if a≤p∧p<k then p+1 else if p=k then a else p
theorem mF(a k p:Nat):(a≤p∧p<k∧ux a k p=p+1)∨(¬ (a≤p∧p<k)∧p=k∧ux a k p=a)∨(¬ (a≤p∧p<k)∧p≠k∧ux a k p=p):=by
 unfold ux;by_cases h1:a≤p∧p<k
 ·rw[WJ h1];exact .inl ⟨h1.1,h1.2,rfl⟩
 · rw[WI h1]
   by_cases h2:p=k
   ·rw[WJ h2];exact .inr (.inl ⟨h1,h2,rfl⟩)
   ·rw[WI h2];exact .inr (.inr ⟨h1,h2,rfl⟩)
theorem KR(a p:Nat):ux a a p=p:=by have:=mF a a p;omega
theorem KS{a k p:Nat}(h:a≤k):ux a k (wx k (k+1) p)=ux a (k+1) p:=by
 have h1:=gU k (k+1) p;have h2:=mF a k (wx k (k+1) p);have h3:=mF a (k+1) p;omega
def dx(k m p:Nat):Nat:=if p=k then m else if k<p∧p≤m then p-1 else p
theorem mT(k m p:Nat):(p=k∧dx k m p=m)∨(p≠k∧k<p∧p≤m∧dx k m p=p-1)∨(p≠k∧¬ (k<p∧p≤m)∧dx k m p=p):=by
 unfold dx;by_cases h1:p=k
 ·rw[WJ h1];exact .inl ⟨h1,rfl⟩
 · rw[WI h1]
   by_cases h2:k<p∧p≤m
   ·rw[WJ h2];exact .inr (.inl ⟨h1,h2.1,h2.2,rfl⟩)
   ·rw[WI h2];exact .inr (.inr ⟨h1,h2,rfl⟩)
theorem Mk(m p:Nat):dx m m p=p:=by have:=mT m m p;omega
theorem Ml{k m p:Nat}(h:k<m):dx (k+1) m (wx (k+1) k p)=dx k m p:=by
 have h1:=gU (k+1) k p;have h2:=mT (k+1) m (wx (k+1) k p);have h3:=mT k m p;omega
theorem wK{a b:Nat}{s:Nat→Nat}(hp:ys.Perm xs)(hk:∀ k,ys.getD k 0=xs.getD (s k) 0)(h1:∀ k,(k<a∨b≤k)→s k=k)(h2:∀ k,a≤k→k<b→a≤s k∧s k<b):Seg xs ys a b:=
 ⟨hp.length_eq,hp,fun k h=>by rw[hk,h1 k h],fun k ha hb=>⟨s k,(h2 k ha hb).1,(h2 k ha hb).2,hk k⟩⟩
theorem Nl{a b i:Nat}(h:Srt K xs (a+1) b)(hai:a+1≤i)(hib:i≤b)(h1:a+1<i→ltS K (xs.getD (i-1) 0) (xs.getD a 0))(h2:i<b→ltS K (xs.getD a 0) (xs.getD i 0))(hk:∀ k,ys.getD k 0=xs.getD (ux a (i-1) k) 0):Srt K ys a b:=by
 have l1:∀ k,a+1≤k→k<i→ltS K (xs.getD k 0) (xs.getD a 0):=fun k p1 p2=>Bp h p1 (show k≤i-1 by omega) (by omega) (h1 (by omega));have l2:∀ k,i≤k→k<b→ltS K (xs.getD a 0) (xs.getD k 0):=fun k p1 p2=>Br h (show a+1≤i by omega) p1 p2 (h2 (by omega));intro p q hp hpq hq;rw[hk,hk];rcases mF a (i-1) p with⟨_,s1,s2⟩|⟨s0,s1,s2⟩|⟨s0,s1,s2⟩<;>rcases mF a (i-1) q with⟨_,t1,t2⟩|⟨t0,t1,t2⟩|⟨t0,t1,t2⟩<;>rw[s2,t2]<;>first|(exfalso;omega)|exact h _ _ (by omega) (by omega) (by omega)|exact l1 _ (by omega) (by omega)|exact l2 _ (by omega) (by omega)
theorem Oa{a m i:Nat}(h:Srt K xs a m)(hai:a≤i)(him:i≤m)(h1:a<i→ltS K (xs.getD (i-1) 0) (xs.getD m 0))(h2:i<m→ltS K (xs.getD m 0) (xs.getD i 0))(hk:∀ k,ys.getD k 0=xs.getD (dx i m k) 0):Srt K ys a (m+1):=by
 have l1:∀ k,a≤k→k<i→ltS K (xs.getD k 0) (xs.getD m 0):=fun k p1 p2=>Bp h p1 (show k≤i-1 by omega) (by omega) (h1 (by omega));have l2:∀ k,i≤k→k<m→ltS K (xs.getD m 0) (xs.getD k 0):=fun k p1 p2=>Br h hai p1 p2 (h2 (by omega));intro p q hp hpq hq;rw[hk,hk];rcases mT i m p with⟨s1,s2⟩|⟨s0,s1,s3,s2⟩|⟨s0,s1,s2⟩<;>rcases mT i m q with⟨t1,t2⟩|⟨t0,t1,t3,t2⟩|⟨t0,t1,t2⟩<;>rw[s2,t2]<;>first|(exfalso;omega)|exact h _ _ (by omega) (by omega) (by omega)|exact l1 _ (by omega) (by omega)|exact l2 _ (by omega) (by omega)
structure Cut (K:Int→List By)(xs:List Int)(a m b s e md:Nat):Prop where
 has:a≤s
 hsm:s≤m
 hme:m≤e
 heb:e≤b
 hmd:s+(e-m)=md
 x1:∀ i j:Nat,a≤i→i<s→e≤j→j<b→ltS K (xs.getD i 0) (xs.getD j 0)
 x2:∀ i j:Nat,s≤i→i<m→m≤j→j<e→ltS K (xs.getD j 0) (xs.getD i 0)
theorem Im{s m e k:Nat}(hs:s≤m)(he:m≤e)(h:¬ (s<m∧m<e)):rx s m e k=k:=by
 have:=fD s m e k;omega
theorem Cut.halves{a m b s e md:Nat}(c:Cut K xs a m b s e md)(h1:Srt K xs a m)(h2:Srt K xs m b)(h3:StB xs a m b)(hk:∀ k,ys.getD k 0=xs.getD (rx s m e k) 0) :
 Srt K ys a s∧Srt K ys s md∧StB ys a s md∧Srt K ys md e∧Srt K ys e b∧StB ys md e b∧∀ i j:Nat,a≤i→i<md→md≤j→j<b→ltS K (ys.getD i 0) (ys.getD j 0):=by
 obtain⟨c1,c2,c3,c4,c5,x1,x2⟩:=c;have r:∀ k,(s≤k∧k<md∧rx s m e k=k-s+m)∨(md≤k∧k<e∧rx s m e k=k-md+s)∨((k<s∨e≤k)∧rx s m e k=k):=fun k=>by have:=fD s m e k;omega
 refine⟨fun i j p1 p2 p3=>?_,fun i j p1 p2 p3=>?_,fun i j p1 p2 p3 p4=>?_,fun i j p1 p2 p3=>?_,fun i j p1 p2 p3=>?_,fun i j p1 p2 p3 p4=>?_,fun i j p1 p2 p3 p4=>?_⟩<;>rw[hk,hk]<;>rcases r i with⟨s1,s2,s3⟩|⟨s1,s2,s3⟩|⟨s1,s3⟩<;>rcases r j with⟨t1,t2,t3⟩|⟨t1,t2,t3⟩|⟨t1,t3⟩<;>rw[s3,t3] <;>
  first|(exfalso;omega)|exact h1 _ _ (by omega) (by omega) (by omega)|exact h2 _ _ (by omega) (by omega) (by omega)|exact h3 _ _ (by omega) (by omega) (by omega) (by omega)|exact x1 _ _ (by omega) (by omega) (by omega) (by omega)|exact x2 _ _ (by omega) (by omega) (by omega) (by omega)
theorem Oc{a m b md s:Nat}(ham:a<m)(hmb:m<b)(hmd:md=(a+b)/2)(h1:Srt K xs a m)(h2:Srt K xs m b){S0 R0:Nat}(hSR:(md<m∧S0=md+m-b∧R0=md)∨(¬ md<m∧S0=a∧R0=m))(hs0:S0≤s)(hsR:s≤R0)
 (g1:S0<s→ltS K (xs.getD (s-1) 0) (xs.getD (md+m-s) 0))(g2:s<R0→ltS K (xs.getD (md+m-1-s) 0) (xs.getD s 0)):Cut K xs a m b s (md+m-s) md:=by
 refine⟨by omega,by omega,by omega,by omega,by omega,fun i j p1 p2 p3 p4=>?_,fun i j p1 p2 p3 p4=>?_⟩
 · have hlt:=g1 (by omega)
   exact Bp h1 p1 (show i≤s-1 by omega) (by omega) (Br h2 (show m≤md+m-s by omega) p3 p4 hlt)
 · have hlt:=g2 (by omega)
   exact Bp h2 p3 (show j≤md+m-1-s by omega) (by omega) (Br h1 (show a≤s by omega) p1 p2 hlt)
theorem eQ{a b:Nat}(h:Srt K ys a b)(hk:∀ k,a≤k→k<b→xs.getD k 0=ys.getD k 0):Srt K xs a b:=fun i j p1 p2 p3=>by rw[hk i p1 (by omega),hk j (by omega) p3];exact h i j p1 p2 p3
theorem Ib{a m b:Nat}(h:StB ys a m b)(hmb:m≤b)(hk:∀ k,a≤k→k<b→xs.getD k 0=ys.getD k 0):StB xs a m b:=fun i j p1 p2 p3 p4=>by rw[hk i p1 (by omega),hk j (by omega) p4];exact h i j p1 p2 p3 p4
theorem lX{zs us:List Int}{a md b:Nat}(h1:a≤md)(h2:md≤b)(g1:Seg ys zs a md)(g2:Seg zs us md b)(s1:Srt K zs a md)(s2:Srt K us md b)(hlr:∀ i j:Nat,a≤i→i<md→md≤j→j<b→ltS K (ys.getD i 0) (ys.getD j 0)):Srt K us a b:=by
 intro i j p1 p2 p3;by_cases hj:j<md
 ·rw[g2.2.2.1 i (.inl (by omega)),g2.2.2.1 j (.inl hj)];exact s1 i j p1 p2 hj
 · by_cases hi:md≤i
   ·exact s2 i j hi p2 p3
   · rw[g2.2.2.1 i (.inl (by omega))]
     obtain⟨i',a1,a2,a3⟩:=g1.2.2.2 i p1 (by omega);obtain⟨j',b1,b2,b3⟩:=g2.2.2.2 j (by omega) p3;rw[a3,b3,g1.2.2.1 j' (.inr b1)];exact hlr i' j' a1 a2 b1 b2
end
theorem Fm{K:Int→List By}{V:Int→Prop}{f:FuncId}{cs:List Value}(W0:World)(o:Option Addr)(hC:MF W0 o f cs V K)(c n:Nat)(hn:n≤1000000):∀ (d a m b:Nat) (xs:List Int) (W:World),b-a≤d→StI W0 o c n xs W→(∀ z∈xs,V z)→a<m→m<b→b≤n→Srt K xs a m→Srt K xs m b→StB xs a m b →
 CA 230 [.slice o n c,iV a,iV m,iV b,.func (.func f) #[] cs.toArray] W fun v w'=>v=.tuple #[]∧∃ ys,StI W0 o c n ys w'∧Seg xs ys a b∧Srt K ys a b:=by
 intro d
 induction d with
|zero=>intro a m b xs W hd h hV ham hmb;omega
|succ d ih=>
   intro a m b xs W hd h hV ham hmb hbn h1 h2 h3;have hxl:=h.2.1;have hVx:∀ k:Nat,k<n→V (xs.getD k 0):=fun k hk=>hV _ (EM (by omega));refine cS 220 [(0,_),(1,_),(2,_),(3,_),(4,_)] Tryz.func230 ?_;refine fK 6 ?_ ?_<;>intro h28
   ·refine Gz 17 ?_;refine S4 (β:=Nat×Nat) (fun⟨i,j⟩=>[(0,.slice o n c),(1,iV a),(4,.func (.func f) #[] cs.toArray),(10,iV i),(11,iV j)]) (fun⟨i,j⟩ w=>(m≤i∧i≤j∧j≤b)∧StI W0 o c n xs w∧(m<i→ltS K (xs.getD (i-1) 0) (xs.getD a 0))∧(j<b→ltS K (xs.getD a 0) (xs.getD j 0))) (fun⟨i,j⟩=>j-i) ⟨m,b⟩ ⟨rfl,rfl,rfl,rfl,rfl,trivial⟩ ⟨⟨by omega,by omega,by omega⟩,h,fun h=>by omega,fun h=>by omega⟩ ?_;rintro⟨i,j⟩ w4 ⟨⟨i1,i2,i3⟩,hz,g1,g2⟩;refine fK 5 ?_ ?_<;>intro h33
    ·have hij:i<j:=by omega
     refine Gz 1 ?_;refine aW [(0,_),(1,_),(4,_),(10,_),(11,_),(33,_)] ?_;refine Gz 10 ?_;refine cL (Td (n:=((i:Int)+j)) is3 HV rfl (Co (by omega))) ?_;refine cL (Uo rfl rfl (by decide)) ?_;refine cL (Td (n:=(((i+j)/2:Nat):Int)) Jr ty3 rfl (Dp (by omega))) ?_;obtain⟨q,hq⟩:∃ q:Nat,q=(i+j)/2:=⟨_,rfl⟩
     rw[←hq];refine Gz 4 ?_;refine Tc 11 (fun H=>Vw i64 H o c xs) [9] [0,1,2,3,4,5,6,7,8,9,10] aI (by kernel_rfl) (hz.1.vw) ?_;refine Gz 3 ?_;refine xC rfl (SY aY rfl rfl (by rw[←hxl];exact hz.1.vw.non) (by omega)) ?_;refine xC rfl (S9 aF rfl (fun H (hH:Vw i64 H o c xs)=>hH.gz 0 q rfl (by omega))) ?_;refine Gz 2 ?_;refine xC rfl (SY aY rfl rfl (by rw[←hxl];exact hz.1.vw.non) (by omega)) ?_;refine xC rfl (S9 aF rfl (fun H (hH:Vw i64 H o c xs)=>hH.gz 0 a rfl (by omega))) ?_;refine S7 rfl rfl (TS hC.fn rfl rfl (hC.call _ (xs.getD q 0) (xs.getD a 0) (hz.draws 1).2.2 (hVx q (by omega)) (hVx a (by omega))) rfl ?_);intro v5 w5 hr5;obtain⟨rfl,hf5⟩:=hr5;have hz5:StI W0 o c n xs w5:=(hz.draws 1).WG hf5;refine Tg (by exact hz5.1.vw) ?_;refine xK 0 ?_ ?_<;>intro h50
     ·refine Gz 9 ?_
      first
      |exact aG ⟨q+1,j⟩ ⟨⟨by omega,by omega,by omega⟩,hz5,fun _=>oK h50,g2⟩ (by show j-(q+1)<j-i;omega)
      |exact aG ⟨i,q⟩ ⟨⟨by omega,by omega,by omega⟩,hz5,g1,fun _=>nQ (h3 a q (WT _) ham (by omega) (by omega)) h50⟩ (by show q-i<j-i;omega)
     refine Gz 8 ?_
     first
     |exact aG ⟨q+1,j⟩ ⟨⟨by omega,by omega,by omega⟩,hz5,fun _=>oK h50,g2⟩ (by show j-(q+1)<j-i;omega)
     |exact aG ⟨i,q⟩ ⟨⟨by omega,by omega,by omega⟩,hz5,g1,fun _=>nQ (h3 a q (WT _) ham (by omega) (by omega)) h50⟩ (by show q-i<j-i;omega)
    have hije:i=j:=by omega
    subst hije;refine Gz 1 ?_;refine aW [(0,_),(1,_),(4,_),(10,_),(11,_),(33,_)] ?_;refine Gz 15 ?_;refine S4 (β:=Nat×List Int) (fun⟨k,ys⟩=>[(0,.slice o n c),(10,iV i),(13,iV k)]) (fun⟨k,ys⟩ w=>(a≤k∧k≤i-1)∧StI W0 o c n ys w∧ys.Perm xs∧∀ p,ys.getD p 0=xs.getD (ux a k p) 0) (fun⟨k,ys⟩=>i-1-k) ⟨a,xs⟩ ⟨rfl,rfl,rfl,trivial⟩ ⟨⟨WT _,by omega⟩,hz,List.Perm.refl _,fun p=>by rw[KR]⟩ ?_;rintro⟨k,ys⟩ w4 ⟨⟨k1,k2⟩,hy,hyp,hyk⟩;refine fK 6 ?_ ?_<;>intro h58
    ·have hyl:=hy.2.1;refine Gz 1 ?_;refine aW [(0,_),(10,_),(13,_),(58,_)] ?_;refine Gz 6 ?_;refine T0 15 [9,13] (fun H=>Vw i64 H o c ys) [15,17] [0,1,2,3,4,5,6,7,8,9,10,11,12,13,14] (.alt 15 [16] (.alt 17 [] .fin .stop) .stop) aI (by kernel_rfl) (hy.1.vw) ?_;refine Sz.calm rfl rfl (Ta rfl) rfl ?_;refine Sz.calm rfl rfl (Ta rfl) rfl ?_;refine Sz.calm rfl rfl (Ta rfl) rfl ?_;refine Sz.calm rfl rfl (Ta rfl) rfl ?_;refine Sz.calm rfl rfl (TO rfl rfl (by omega)) rfl ?_;refine Sz.calm rfl rfl (Ta rfl) rfl ?_;refine Sz.calm rfl rfl (Ta rfl) rfl ?_;refine Sz.calm rfl rfl (TO rfl rfl (by omega)) rfl ?_;refine Sz.calm rfl rfl (SY aY rfl rfl (by rw[←hy.2.1];exact hy.1.vw.non) (by omega)) rfl ?_;refine Sz.calm rfl rfl (S9 aF rfl (fun H (hH:Vw i64 H o c ys)=>hH.gz 0 (k+1) (by omega) (by omega))) rfl ?_;refine Sz.calm rfl rfl (Ta rfl) rfl ?_;refine Sz.calm rfl rfl (Ta rfl) rfl ?_;refine Sz.calm rfl rfl (SY aY rfl rfl (by rw[←hy.2.1];exact hy.1.vw.non) (by omega)) rfl ?_;refine Sz.calm rfl rfl (S9 aF rfl (fun H (hH:Vw i64 H o c ys)=>hH.gz 0 k rfl (by omega))) rfl ?_;refine Sz.calm rfl rfl (SY aY rfl rfl (by rw[←hy.2.1];exact hy.1.vw.non) (by omega)) rfl ?_;refine Sz.alt ?_ ?_
     ·refine Wp rfl rfl (Tr dA aF (z:=(k:Int)) (u:=ys.getD (k+1) 0) rfl rfl (hy.draws 1).1 (by omega) ?_);intro w6 ho6 hs6 hf6;refine Sz.off rfl ?_;refine Sz.calm rfl rfl (SY aY rfl rfl (by rw[←hy.2.1];exact hy.1.vw.non) (by omega)) rfl ?_;refine Sz.alt ?_ ?_
      ·refine Wp rfl rfl (Tr dA aF (z:=(k:Int)+1) (u:=ys.getD k 0) rfl rfl ho6 (by rw[XH];omega) ?_);intro w7 ho7 hs7 hf7;have e2:((k:Int)+1).toNat=k+1:=by omega
       rw[e2] at ho7;refine Sz.off rfl ?_;refine Wq ?_;refine Gz 7 ?_;exact aG ⟨k+1,kE ys k (k+1)⟩ ⟨⟨by omega,by omega⟩,⟨ho7,by rw[nK];exact hyl,((hy.2.2.draws 1).trans hf6).trans hf7⟩,(swap_perm (by omega) (by omega)).trans hyp,fun p=>by rw[oP (by omega) (by omega),hyk,KS k1]⟩ (by show i-1-(k+1)<i-1-k;omega)
      exact Sz.stop
     exact Sz.stop
    have hke:k=i-1:=by omega
    refine Gz 1 ?_;refine aW [(0,_),(10,_),(13,_),(58,_)] ?_;refine Gz 10 ?_;have hma:m=a+1:=by omega
    rw[hke] at hyk;refine⟨_,rfl,rfl,ys,hy,wK hyp hyk (fun p hp=>by have:=mF a (i-1) p;omega) (fun p p1 p2=>by have:=mF a (i-1) p;omega),?_⟩;rw[hma] at h2 g1 i1;exact Nl h2 i1 i3 g1 g2 hyk
   refine fK 11 ?_ ?_<;>intro h80
   ·refine Gz 17 ?_;refine S4 (β:=Nat×Nat) (fun⟨i,j⟩=>[(0,.slice o n c),(2,iV m),(4,.func (.func f) #[] cs.toArray),(14,iV i),(15,iV j)]) (fun⟨i,j⟩ w=>(a≤i∧i≤j∧j≤m)∧StI W0 o c n xs w∧(a<i→ltS K (xs.getD (i-1) 0) (xs.getD m 0))∧(j<m→ltS K (xs.getD m 0) (xs.getD j 0))) (fun⟨i,j⟩=>j-i) ⟨a,m⟩ ⟨rfl,rfl,rfl,rfl,rfl,trivial⟩ ⟨⟨by omega,by omega,by omega⟩,h,fun h=>by omega,fun h=>by omega⟩ ?_;rintro⟨i,j⟩ w4 ⟨⟨i1,i2,i3⟩,hz,g1,g2⟩;refine fK 5 ?_ ?_<;>intro h85
    ·have hij:i<j:=by omega
     refine Gz 1 ?_;refine aW [(0,_),(2,_),(4,_),(14,_),(15,_),(85,_)] ?_;refine Gz 10 ?_;refine cL (Td (n:=((i:Int)+j)) is3 HV rfl (Co (by omega))) ?_;refine cL (Uo rfl rfl (by decide)) ?_;refine cL (Td (n:=(((i+j)/2:Nat):Int)) Jr ty3 rfl (Dp (by omega))) ?_;obtain⟨q,hq⟩:∃ q:Nat,q=(i+j)/2:=⟨_,rfl⟩
     rw[←hq];refine Gz 4 ?_;refine Tc 12 (fun H=>Vw i64 H o c xs) [9] [0,1,2,3,4,5,6,7,8,9,10,11] aI (by kernel_rfl) (hz.1.vw) ?_;refine Gz 3 ?_;refine xC rfl (SY aY rfl rfl (by rw[←hxl];exact hz.1.vw.non) (by omega)) ?_;refine xC rfl (S9 aF rfl (fun H (hH:Vw i64 H o c xs)=>hH.gz 0 m rfl (by omega))) ?_;refine Gz 2 ?_;refine xC rfl (SY aY rfl rfl (by rw[←hxl];exact hz.1.vw.non) (by omega)) ?_;refine xC rfl (S9 aF rfl (fun H (hH:Vw i64 H o c xs)=>hH.gz 0 q rfl (by omega))) ?_;refine S7 rfl rfl (TS hC.fn rfl rfl (hC.call _ (xs.getD m 0) (xs.getD q 0) (hz.draws 1).2.2 (hVx m (by omega)) (hVx q (by omega))) rfl ?_);intro v5 w5 hr5;obtain⟨rfl,hf5⟩:=hr5;have hz5:StI W0 o c n xs w5:=(hz.draws 1).WG hf5;refine Tg (by exact hz5.1.vw) ?_;refine xK 0 ?_ ?_<;>intro h102
     ·refine xC rfl (Tj rfl) ?_;refine Gz 8 ?_
      first
      |exact aG ⟨i,q⟩ ⟨⟨by omega,by omega,by omega⟩,hz5,g1,fun _=>oK h102⟩ (by show q-i<j-i;omega)
      |exact aG ⟨q+1,j⟩ ⟨⟨by omega,by omega,by omega⟩,hz5,fun _=>nQ (h3 q m (by omega) (by omega) (WT _) hmb) h102,g2⟩ (by show j-(q+1)<j-i;omega)
     refine xC rfl (Tj rfl) ?_;refine Gz 9 ?_
     first
     |exact aG ⟨i,q⟩ ⟨⟨by omega,by omega,by omega⟩,hz5,g1,fun _=>oK h102⟩ (by show q-i<j-i;omega)
     |exact aG ⟨q+1,j⟩ ⟨⟨by omega,by omega,by omega⟩,hz5,fun _=>nQ (h3 q m (by omega) (by omega) (WT _) hmb) h102,g2⟩ (by show j-(q+1)<j-i;omega)
    have hije:i=j:=by omega
    subst hije;refine Gz 1 ?_;refine aW [(0,_),(2,_),(4,_),(14,_),(15,_),(85,_)] ?_;refine Gz 15 ?_;refine S4 (β:=Nat×List Int) (fun⟨k,ys⟩=>[(0,.slice o n c),(14,iV i),(17,iV k)]) (fun⟨k,ys⟩ w=>(i≤k∧k≤m)∧StI W0 o c n ys w∧ys.Perm xs∧∀ p,ys.getD p 0=xs.getD (dx k m p) 0) (fun⟨k,ys⟩=>k) ⟨m,xs⟩ ⟨rfl,rfl,rfl,trivial⟩ ⟨⟨by omega,WT _⟩,hz,List.Perm.refl _,fun p=>by rw[Mk]⟩ ?_;rintro⟨k,ys⟩ w4 ⟨⟨k1,k2⟩,hy,hyp,hyk⟩;refine fK 5 ?_ ?_<;>intro h110
    ·have hyl:=hy.2.1;refine Gz 1 ?_;refine aW [(0,_),(14,_),(17,_),(110,_)] ?_;refine Gz 6 ?_;refine T0 15 [9,13] (fun H=>Vw i64 H o c ys) [15,17] [0,1,2,3,4,5,6,7,8,9,10,11,12,13,14] (.alt 15 [16] (.alt 17 [] .fin .stop) .stop) aI (by kernel_rfl) (hy.1.vw) ?_;refine Sz.calm rfl rfl (Ta rfl) rfl ?_;refine Sz.calm rfl rfl (Ta rfl) rfl ?_;refine Sz.calm rfl rfl (Ta rfl) rfl ?_;refine Sz.calm rfl rfl (Ta rfl) rfl ?_;refine Sz.calm rfl rfl (TV rfl rfl (by omega)) rfl ?_;refine Sz.calm rfl rfl (Ta rfl) rfl ?_;refine Sz.calm rfl rfl (Ta rfl) rfl ?_;refine Sz.calm rfl rfl (TV rfl rfl (by omega)) rfl ?_;refine Sz.calm rfl rfl (SY aY rfl rfl (by rw[←hy.2.1];exact hy.1.vw.non) (by omega)) rfl ?_;refine Sz.calm rfl rfl (S9 aF rfl (fun H (hH:Vw i64 H o c ys)=>hH.gz 0 (k-1) (by omega) (by omega))) rfl ?_;refine Sz.calm rfl rfl (Ta rfl) rfl ?_;refine Sz.calm rfl rfl (Ta rfl) rfl ?_;refine Sz.calm rfl rfl (SY aY rfl rfl (by rw[←hy.2.1];exact hy.1.vw.non) (by omega)) rfl ?_;refine Sz.calm rfl rfl (S9 aF rfl (fun H (hH:Vw i64 H o c ys)=>hH.gz 0 k rfl (by omega))) rfl ?_;refine Sz.calm rfl rfl (SY aY rfl rfl (by rw[←hy.2.1];exact hy.1.vw.non) (by omega)) rfl ?_;refine Sz.alt ?_ ?_
     ·refine Wp rfl rfl (Tr dA aF (z:=(k:Int)) (u:=ys.getD (k-1) 0) rfl rfl (hy.draws 1).1 (by omega) ?_);intro w6 ho6 hs6 hf6;refine Sz.off rfl ?_;refine Sz.calm rfl rfl (SY aY rfl rfl (by rw[←hy.2.1];exact hy.1.vw.non) (by omega)) rfl ?_;refine Sz.alt ?_ ?_
      ·refine Wp rfl rfl (Tr dA aF (z:=(k:Int)-1) (u:=ys.getD k 0) rfl rfl ho6 (by rw[XH];omega) ?_);intro w7 ho7 hs7 hf7;have e2:((k:Int)-1).toNat=k-1:=by omega
       rw[e2] at ho7;refine Sz.off rfl ?_;refine Wq ?_;refine Gz 7 ?_;exact Ti ⟨k-1,kE ys k (k-1)⟩ ⟨rfl,rfl,congrArg (fun z:Int=>some (Value.int .i64 z)) (by omega),trivial⟩ ⟨⟨by omega,by omega⟩,⟨ho7,by rw[nK];exact hyl,((hy.2.2.draws 1).trans hf6).trans hf7⟩,(swap_perm (by omega) (by omega)).trans hyp,fun p=>by have e:=Ml (k:=k-1) (m:=m) (p:=p) (by omega);rw[show k-1+1=k by omega] at e;rw[oP (by omega) (by omega),hyk,e]⟩ (by show k-1<k;omega)
      exact Sz.stop
     exact Sz.stop
    have hke:k=i:=by omega
    refine Gz 1 ?_;refine aW [(0,_),(14,_),(17,_),(110,_)] ?_;refine Gz 10 ?_;have hbm:b=m+1:=by omega
    rw[hke] at hyk;refine⟨_,rfl,rfl,ys,hy,wK hyp hyk (fun p hp=>by have:=mT i m p;omega) (fun p p1 p2=>by have:=mT i m p;omega),?_⟩;rw[hbm];exact Oa h1 i1 i3 g1 g2 hyk
   refine Gz 10 ?_;refine cL (Td (n:=((a:Int)+b)) is3 HV rfl (Co (by omega))) ?_;refine cL (Uo rfl rfl (by decide)) ?_;refine cL (Td (n:=(((a+b)/2:Nat):Int)) Jr ty3 rfl (Dp (by omega))) ?_;obtain⟨md,hmd⟩:∃ md:Nat,md=(a+b)/2:=⟨_,rfl⟩
   rw[←hmd];refine Gz 17 ?_;refine Tw (β:=Nat×Nat) (fun⟨S0,R0⟩=>[(0,.slice o n c),(1,iV a),(2,iV m),(3,iV b),(4,.func (.func f) #[] cs.toArray),(18,iV md),(19,iV ((md:Int)+m)),(20,iV S0),(21,iV R0)]) (fun⟨S0,R0⟩ w=>((md<m∧S0=md+m-b∧R0=md)∨(¬ md<m∧S0=a∧R0=m))∧w=W) ?_ ?_
   ·refine fK 4 ?_ ?_<;>intro h140
    ·refine Gz 15 ?_
     first
     |exact TG ⟨md+m-b,md⟩ ⟨rfl,rfl,rfl,rfl,rfl,rfl,rfl,congrArg (fun z:Int=>some (Value.int .i64 z)) (by omega),rfl,trivial⟩ ⟨.inl ⟨by omega,rfl,rfl⟩,rfl⟩
     |exact aC ⟨a,m⟩ ⟨.inr ⟨by omega,rfl,rfl⟩,rfl⟩
    refine Gz 13 ?_
    first
    |exact TG ⟨md+m-b,md⟩ ⟨rfl,rfl,rfl,rfl,rfl,rfl,rfl,congrArg (fun z:Int=>some (Value.int .i64 z)) (by omega),rfl,trivial⟩ ⟨.inl ⟨by omega,rfl,rfl⟩,rfl⟩
    |exact aC ⟨a,m⟩ ⟨.inr ⟨by omega,rfl,rfl⟩,rfl⟩
   rintro⟨S0,R0⟩ wq ⟨hSR,hwq⟩;subst wq;refine Gz 9 ?_;refine S4 (β:=Nat×Nat) (fun⟨s,r⟩=>[(0,.slice o n c),(1,iV a),(2,iV m),(3,iV b),(4,.func (.func f) #[] cs.toArray),(18,iV md),(19,iV ((md:Int)+m)),(20,iV s),(21,iV r),(22,iV ((md:Int)+m-1))]) (fun⟨s,r⟩ w=>S0≤s∧s≤r∧r≤R0∧StI W0 o c n xs w∧(S0<s→ltS K (xs.getD (s-1) 0) (xs.getD (md+m-s) 0))∧(r<R0→ltS K (xs.getD (md+m-1-r) 0) (xs.getD r 0))) (fun⟨s,r⟩=>r-s) ⟨S0,R0⟩ ⟨rfl,rfl,rfl,rfl,rfl,rfl,rfl,rfl,rfl,rfl,trivial⟩ ⟨WT _,by omega,WT _,h,fun h=>by omega,fun h=>by omega⟩ ?_;rintro⟨s,r⟩ w4 ⟨hs0,hsr0,hrR,hz,g1,g2⟩;refine fK 5 ?_ ?_<;>intro h151
   ·have hsr:s<r:=by omega
    refine Gz 1 ?_;refine aW [(0,_),(1,_),(2,_),(3,_),(4,_),(18,_),(19,_),(20,_),(21,_),(22,_),(151,_)] ?_;refine Gz 10 ?_;refine cL (Td (n:=((s:Int)+r)) is3 HV rfl (Co (by omega))) ?_;refine cL (Uo rfl rfl (by decide)) ?_;refine cL (Td (n:=(((s+r)/2:Nat):Int)) Jr ty3 rfl (Dp (by omega))) ?_;obtain⟨q,hq⟩:∃ q:Nat,q=(s+r)/2:=⟨_,rfl⟩
    rw[←hq];have hqa:a≤q∧q<m∧m≤md+m-1-q∧md+m-1-q<b∧q≤md+m-1:=by omega
    refine Gz 4 ?_;refine Tc 14 (fun H=>Vw i64 H o c xs) [11] [0,1,2,3,4,5,6,7,8,9,10,11,12,13] aI (by kernel_rfl) (hz.1.vw) ?_;refine Gz 5 ?_;refine xC rfl (SY aY rfl rfl (by rw[←hxl];exact hz.1.vw.non) (by omega)) ?_;refine xC rfl (S9 aF rfl (fun H (hH:Vw i64 H o c xs)=>hH.gz 0 (md+m-1-q) (by omega) (by omega))) ?_;refine Gz 2 ?_;refine xC rfl (SY aY rfl rfl (by rw[←hxl];exact hz.1.vw.non) (by omega)) ?_;refine xC rfl (S9 aF rfl (fun H (hH:Vw i64 H o c xs)=>hH.gz 0 q rfl (by omega))) ?_;refine S7 rfl rfl (TS hC.fn rfl rfl (hC.call _ (xs.getD (md+m-1-q) 0) (xs.getD q 0) (hz.draws 1).2.2 (hVx _ (by omega)) (hVx q (by omega))) rfl ?_);intro v5 w5 hr5;obtain⟨rfl,hf5⟩:=hr5;have hz5:StI W0 o c n xs w5:=(hz.draws 1).WG hf5;refine Tg (by exact hz5.1.vw) ?_;refine xK 0 ?_ ?_<;>intro h170
    ·refine xC rfl (Tj rfl) ?_;refine Gz 8 ?_
     first
     |exact aG ⟨s,q⟩ ⟨hs0,by omega,by omega,hz5,g1,fun _=>oK h170⟩ (by show q-s<r-s;omega)
     |exact aG ⟨q+1,r⟩ ⟨by omega,by omega,hrR,hz5,fun _=>by rw[show md+m-(q+1)=md+m-1-q by omega,Yj];exact nQ (h3 q (md+m-1-q) (by omega) (by omega) (by omega) (by omega)) h170,g2⟩ (by show r-(q+1)<r-s;omega)
    refine xC rfl (Tj rfl) ?_;refine Gz 9 ?_
    first
    |exact aG ⟨s,q⟩ ⟨hs0,by omega,by omega,hz5,g1,fun _=>oK h170⟩ (by show q-s<r-s;omega)
    |exact aG ⟨q+1,r⟩ ⟨by omega,by omega,hrR,hz5,fun _=>by rw[show md+m-(q+1)=md+m-1-q by omega,Yj];exact nQ (h3 q (md+m-1-q) (by omega) (by omega) (by omega) (by omega)) h170,g2⟩ (by show r-(q+1)<r-s;omega)
   have hsre:s=r:=by omega
   subst hsre;have hcut:=Oc ham hmb hmd h1 h2 hSR hs0 hrR g1 g2;obtain⟨e,he⟩:∃ e:Nat,e=md+m-s:=⟨_,rfl⟩
   rw[←he] at hcut;refine Gz 1 ?_;refine aW [(0,_),(1,_),(2,_),(3,_),(4,_),(18,_),(19,_),(20,_),(21,_),(22,_),(151,_)] ?_;refine Gz 8 ?_;obtain⟨wz,hwz⟩:∃ wz,wz=w4:=⟨_,rfl⟩
   rw[←hwz] at hz ⊢;refine Gz 3 ?_;refine cL (S3 (u:=iV (e:Nat)) (TV rfl rfl (by omega)) (by congr 1;omega)) ?_;refine Gz 3 ?_;refine Tw (β:=List Int) (fun ys=>[(0,.slice o n c),(1,iV a),(3,iV b),(4,.func (.func f) #[] cs.toArray),(18,iV md),(20,iV s),(24,iV e)]) (fun ys w=>StI W0 o c n ys w∧ys.Perm xs∧∀ k,ys.getD k 0=xs.getD (rx s m e k) 0) ?_ ?_
   ·refine fK 4 ?_ ?_<;>intro h180
    ·refine fW 3 ?_ ?_<;>intro h184
     ·refine Gz 10 ?_;refine SZ O7 rfl (GH W0 o c n s m e _ xs wz hz (by omega) (by omega) (by omega) hn) rfl ?_;rintro _ w6 ⟨rfl,ys,hy,hyp,hyk⟩;refine Gz 1 ?_
      first
      |exact aC ys ⟨hy,hyp,hyk⟩
      |exact aC xs ⟨hz,List.Perm.refl _,fun k=>by rw[Im hcut.hsm hcut.hme (by omega)]⟩
     refine Gz 5 ?_
     first
     |exact aC ys ⟨hy,hyp,hyk⟩
     |exact aC xs ⟨hz,List.Perm.refl _,fun k=>by rw[Im hcut.hsm hcut.hme (by omega)]⟩
    refine Gz 9 ?_
    first
    |exact aC ys ⟨hy,hyp,hyk⟩
    |exact aC xs ⟨hz,List.Perm.refl _,fun k=>by rw[Im hcut.hsm hcut.hme (by omega)]⟩
   rintro ys w7 ⟨hy,hyp,hyk⟩;obtain⟨q1,q2,q3,q4,q5,q6,q7⟩:=hcut.halves h1 h2 h3 hyk;have c1:=hcut.has;have c2:=hcut.hsm;have c3:=hcut.hme;have c4:=hcut.heb;have c5:=hcut.hmd;refine Tw (β:=List Int) (fun zs=>[(0,.slice o n c),(3,iV b),(4,.func (.func f) #[] cs.toArray),(18,iV md),(24,iV e)]) (fun zs w=>StI W0 o c n zs w∧Seg ys zs a md∧Srt K zs a md) ?_ ?_
   ·refine fK 4 ?_ ?_<;>intro h194
    ·refine fW 3 ?_ ?_<;>intro h198
     ·refine Gz 10 ?_;refine SZ Gh rfl (ih a s md ys w7 (by omega) hy (fun z hz=>hV z (hyp.mem_iff.1 hz)) (by omega) (by omega) (by omega) q1 q2 q3) rfl ?_;rintro _ w8 ⟨rfl,zs,hz,hzg,hzs⟩;refine Gz 1 ?_
      first
      |exact aC zs ⟨hz,hzg,hzs⟩
      |exact aC ys ⟨hy,Wr _ _ _,by rw[show s=a by omega] at q2;exact q2⟩
      |exact aC ys ⟨hy,Wr _ _ _,by rw[show s=md by omega] at q1;exact q1⟩
     refine Gz 5 ?_
     first
     |exact aC zs ⟨hz,hzg,hzs⟩
     |exact aC ys ⟨hy,Wr _ _ _,by rw[show s=a by omega] at q2;exact q2⟩
     |exact aC ys ⟨hy,Wr _ _ _,by rw[show s=md by omega] at q1;exact q1⟩
    refine Gz 9 ?_
    first
    |exact aC zs ⟨hz,hzg,hzs⟩
    |exact aC ys ⟨hy,Wr _ _ _,by rw[show s=a by omega] at q2;exact q2⟩
    |exact aC ys ⟨hy,Wr _ _ _,by rw[show s=md by omega] at q1;exact q1⟩
   rintro zs w9 ⟨hz,hzg,hzs⟩;refine fK 4 ?_ ?_<;>intro h208
   ·refine fW 3 ?_ ?_<;>intro h212
    ·refine Gz 10 ?_;refine SZ Gh rfl (ih md e b zs w9 (by omega) hz (fun z hz=>hV z (hyp.mem_iff.1 (hzg.2.1.mem_iff.1 hz))) (by omega) (by omega) (by omega) (eQ q4 (fun k k1 k2=>hzg.2.2.1 k (.inr (by omega)))) (eQ q5 (fun k k1 k2=>hzg.2.2.1 k (.inr (by omega)))) (Ib q6 (by omega) (fun k k1 k2=>hzg.2.2.1 k (.inr (by omega))))) rfl ?_;rintro _ w10 ⟨rfl,us,hu,hug,hus⟩;refine Gz 1 ?_;refine Ty rfl ?_;have hmdb:a≤md∧md≤b:=by omega
     have hsy:Seg xs ys a b:=wK hyp hyk (fun p hp=>by have:=fD s m e p;omega) (fun p p1 p2=>by have:=fD s m e p;omega)
     first
     |exact⟨_,rfl,rfl,us,hu,(hsy.trans (hzg.wide (WT _) hmdb.2)).trans (hug.wide hmdb.1 (WT _)),lX hmdb.1 hmdb.2 hzg hug hzs hus q7⟩
     |exact⟨_,rfl,rfl,zs,hz,hsy.trans (hzg.wide (WT _) hmdb.2),lX hmdb.1 hmdb.2 hzg (Wr _ _ _) hzs (eQ (ys:=ys) (by first|(rw[show e=md by omega] at q5;exact q5)|(rw[show e=b by omega] at q4;exact q4)) (fun k k1 k2=>hzg.2.2.1 k (.inr k1))) q7⟩
    refine Gz 5 ?_;refine Ty rfl ?_;have hmdb:a≤md∧md≤b:=by omega
    have hsy:Seg xs ys a b:=wK hyp hyk (fun p hp=>by have:=fD s m e p;omega) (fun p p1 p2=>by have:=fD s m e p;omega)
    first
    |exact⟨_,rfl,rfl,us,hu,(hsy.trans (hzg.wide (WT _) hmdb.2)).trans (hug.wide hmdb.1 (WT _)),lX hmdb.1 hmdb.2 hzg hug hzs hus q7⟩
    |exact⟨_,rfl,rfl,zs,hz,hsy.trans (hzg.wide (WT _) hmdb.2),lX hmdb.1 hmdb.2 hzg (Wr _ _ _) hzs (eQ (ys:=ys) (by first|(rw[show e=md by omega] at q5;exact q5)|(rw[show e=b by omega] at q4;exact q4)) (fun k k1 k2=>hzg.2.2.1 k (.inr k1))) q7⟩
   refine Gz 9 ?_;refine Ty rfl ?_;have hmdb:a≤md∧md≤b:=by omega
   have hsy:Seg xs ys a b:=wK hyp hyk (fun p hp=>by have:=fD s m e p;omega) (fun p p1 p2=>by have:=fD s m e p;omega)
   first
   |exact⟨_,rfl,rfl,us,hu,(hsy.trans (hzg.wide (WT _) hmdb.2)).trans (hug.wide hmdb.1 (WT _)),lX hmdb.1 hmdb.2 hzg hug hzs hus q7⟩
   |exact⟨_,rfl,rfl,zs,hz,hsy.trans (hzg.wide (WT _) hmdb.2),lX hmdb.1 hmdb.2 hzg (Wr _ _ _) hzs (eQ (ys:=ys) (by first|(rw[show e=md by omega] at q5;exact q5)|(rw[show e=b by omega] at q4;exact q4)) (fun k k1 k2=>hzg.2.2.1 k (.inr k1))) q7⟩
section
variable {K:Int→List (List UInt8)}{ys zs:List Int}{n:Nat}
def BI(bs n:Nat)(ys:List Int):Prop:=∀ q i j:Nat,i<q*bs→q*bs≤j→j<n→ys.getD i 0<ys.getD j 0
theorem Seg.bi{bs a b q:Nat}(h:Seg ys zs a b)(ha:a=q*bs)(hb:b≤a+bs)(hbn:b≤n)(g:BI bs n ys):BI bs n zs:=by
 intro p i j hi hj hjn;obtain⟨i',i1,i2⟩:∃ i',(i'=i∧¬ (a≤i∧i<b)∨(a≤i∧i<b∧a≤i'∧i'<b))∧zs.getD i 0=ys.getD i' 0:=by
  by_cases k:a≤i∧i<b
  · obtain⟨i',a1,a2,a3⟩:=h.2.2.2 i k.1 k.2
    exact⟨i',.inr ⟨k.1,k.2,a1,a2⟩,a3⟩
  ·exact⟨i,.inl ⟨rfl,k⟩,h.2.2.1 i (by omega)⟩
 obtain⟨j',j1,j2⟩:∃ j',(j'=j∧¬ (a≤j∧j<b)∨(a≤j∧j<b∧a≤j'∧j'<b))∧zs.getD j 0=ys.getD j' 0:=by
  by_cases k:a≤j∧j<b
  · obtain⟨j',a1,a2,a3⟩:=h.2.2.2 j k.1 k.2
    exact⟨j',.inr ⟨k.1,k.2,a1,a2⟩,a3⟩
  ·exact⟨j,.inl ⟨rfl,k⟩,h.2.2.1 j (by omega)⟩
 rw[i2,j2];rcases Yu q p with hpq|hpq
 · have:(q+1)*bs≤p*bs:=Xw bs hpq
   rw[XK,XW] at this;exact g p i' j' (by omega) (by omega) (by omega)
 · have:p*bs≤q*bs:=Xw bs hpq
   exact g p i' j' (by omega) (by omega) (by omega)
def BSn(K:Int→List By)(bs n:Nat)(ys:List Int):Prop:=∀ q:Nat,Srt K ys (q*bs) (min (q*bs+bs) n)
theorem Srt.sub{a b a' b':Nat}(h:Srt K ys a b)(ha:a≤a')(hb:b'≤b):Srt K ys a' b':=fun i j h1 h2 h3=>h i j (by omega) h2 (by omega)
theorem Ws{a b:Nat}(h:b≤a):Srt K ys a b:=fun i j h1 h2 h3=>by omega
end
theorem Ej{K:Int→List By}{V:Int→Prop}{f:FuncId}{cs:List Value}(W0:World)(o:Option Addr)(hC:MF W0 o f cs V K)(c n:Nat)(hn:n≤100000)(xs:List Int)(W:World)(h:StI W0 o c n xs W)(hV:∀ z∈xs,V z)(hinc:Inc xs 0 n) :
 CA 215 [.slice o n c,iV n,.func (.func f) #[] cs.toArray] W fun v w'=>v=.tuple #[]∧∃ ys,StI W0 o c n ys w'∧ys.Perm xs∧Srt K ys 0 n:=by
 refine cS 63 [(0,_),(1,_),(2,_)] Tryz.func215 ?_;refine Gz 14 ?_;refine S4 (β:=Nat×List Int) (fun⟨q,ys⟩=>[(0,.slice o n c),(1,iV n),(2,.func (.func f) #[] cs.toArray),(6,iV 20),(7,iV ((q*20:Nat):Int)),(8,iV ((q*20+20:Nat):Int))]) (fun⟨q,ys⟩ w=>q*20≤n∧StI W0 o c n ys w∧ys.Perm xs∧BI 20 n ys∧(∀ p,p<q→Srt K ys (p*20) (p*20+20))∧∀ k,q*20≤k→ys.getD k 0=xs.getD k 0) (fun⟨q,ys⟩=>n-q*20) ⟨0,xs⟩ ⟨rfl,rfl,rfl,rfl,rfl,rfl,trivial⟩ ⟨by omega,h,List.Perm.refl _,fun q i j i1 i2 i3=>hinc i j (WU _) (by omega) i3,fun p hp=>by omega,fun _ _=>rfl⟩ ?_;rintro⟨q,ys⟩ w2 ⟨hq,hy,hyp,hyb,hys,hyk⟩;refine fK 5 ?_ ?_<;>intro h13
 ·have hb:q*20+20≤n:=by omega
  refine Gz 12 ?_;refine SZ MV rfl (xY W0 o hC c n (q*20) (q*20+20) ys w2 hy (fun z hz=>hV z (hyp.mem_iff.1 hz)) (by omega) hb (by omega) (fun i j i1 i2 i3=>by rw[hyk i i1,hyk j (by omega)];exact hinc i j (WU _) i2 (by omega))) rfl ?_;rintro _ w3 ⟨rfl,zs,hz,hzg,hzs⟩;refine Gz 15 ?_;refine Ti ⟨q+1,zs⟩ ⟨rfl,rfl,rfl,rfl,congrArg (fun z:Int=>some (Value.int .i64 z)) (by omega),congrArg (fun z:Int=>some (Value.int .i64 z)) (by omega),trivial⟩ ⟨by omega,hz,hzg.2.1.trans hyp,hzg.bi rfl (WT _) hb hyb,fun p hp=>?_,fun k hk=>by rw[hzg.2.2.1 k (.inr (by omega))];exact hyk k (by omega)⟩ (by show n-(q+1)*20<n-q*20;omega);by_cases e:p=q
  ·subst e;exact hzs
  ·exact eQ (hys p (by omega)) (fun k k1 k2=>hzg.2.2.1 k (.inl (by omega)))
 have hb:¬ q*20+20≤n:=by omega
 refine Gz 14 ?_;refine SZ MV rfl (xY W0 o hC c n (q*20) n ys w2 hy (fun z hz=>hV z (hyp.mem_iff.1 hz)) (by omega) (WT _) (by omega) (fun i j i1 i2 i3=>by rw[hyk i i1,hyk j (by omega)];exact hinc i j (WU _) i2 (by omega))) rfl ?_;rintro _ w3 ⟨rfl,zs,hz,hzg,hzs⟩;have hzn:BSn K 20 n zs:=fun p=>by
  rcases XX p q with hp|hp|hp
  · have:(p+1)*20≤q*20:=Xw 20 hp
    exact eQ (hys p hp) (fun k k1 k2=>hzg.2.2.1 k (.inl (by omega))) |>.sub (WT _) (by omega)
  ·subst hp;exact hzs.sub (WT _) (by omega)
  ·exact Ws (by omega)
 have hzb:BI 20 n zs:=hzg.bi rfl (by omega) (WT _) hyb;have hzp:=hzg.2.1.trans hyp;refine Gz 3 ?_;refine S4 (β:=Nat×List Int) (fun⟨bs,vs⟩=>[(0,.slice o n c),(1,iV n),(2,.func (.func f) #[] cs.toArray),(6,iV bs)]) (fun⟨bs,vs⟩ w=>(20≤bs∧bs≤1000000)∧StI W0 o c n vs w∧vs.Perm xs∧BI bs n vs∧BSn K bs n vs) (fun⟨bs,vs⟩=>n-bs) ⟨20,zs⟩ ⟨rfl,rfl,rfl,rfl,trivial⟩ ⟨⟨by omega,by omega⟩,hz,hzp,hzb,hzn⟩ ?_;rintro⟨bs,vs⟩ w4 ⟨⟨hbs,hbl⟩,hv4,hvp,hvb,hvs⟩;refine fK 5 ?_ ?_<;>intro h30
 ·refine Gz 9 ?_;refine cL (TL rfl rfl (by omega)) ?_;refine Gz 6 ?_;refine S4 (β:=Nat×Nat×List Int) (fun⟨q,a,zs⟩=>[(0,.slice o n c),(1,iV n),(2,.func (.func f) #[] cs.toArray),(6,iV bs),(7,iV a),(8,iV ((a+2*bs:Nat):Int))]) (fun⟨q,a,zs⟩ w=>(a=q*(2*bs)∧a≤n)∧StI W0 o c n zs w∧zs.Perm xs∧BI (2*bs) n zs∧(∀ p,p<q→Srt K zs (p*(2*bs)) (p*(2*bs)+2*bs))∧(∀ p,a≤p*bs→Srt K zs (p*bs) (min (p*bs+bs) n))∧(∀ p i j:Nat,a≤p*bs→i<p*bs→p*bs≤j→j<n→zs.getD i 0<zs.getD j 0)) (fun⟨q,a,zs⟩=>n-a) ⟨0,0,vs⟩ ⟨rfl,rfl,rfl,rfl,rfl,(congrArg (fun z:Int=>some (Value.int .i64 z)) (by omega)),trivial⟩ ⟨⟨by omega,by omega⟩,hv4,hvp,fun p i j i1 i2 i3=>hvb (2*p) i j (by rw[Yn 2 p,YM];exact i1) (by rw[Yn 2 p,YM];exact i2) i3,fun p hp=>by omega,fun p _=>hvs p,fun p i j _ i1 i2 i3=>hvb p i j i1 i2 i3⟩ ?_;rintro⟨q,a,zs⟩ w5 ⟨⟨ha,han⟩,hz5,hz5p,hb2,hsp,hsu,hbu⟩;refine fK 5 ?_ ?_<;>intro h35
  ·have hb:a+2*bs≤n:=by omega
   refine Gz 15 ?_;have e1:2*q*bs=a:=by rw[ha,Yn 2 q,YM]
   have e2:(2*q+1)*bs=a+bs:=by rw[XK,XW,e1]
   have e3:(q+1)*(2*bs)=a+2*bs:=by rw[XK,XW,ha]
   refine SZ Gh rfl ((by rw[show ((a:Int)+bs)=((a+bs:Nat):Int) by omega];exact Fm W0 o hC c n (by omega) (a+2*bs-a) a (a+bs) (a+2*bs) zs w5 (WT _) hz5 (fun z hz=>hV z (hz5p.mem_iff.1 hz)) (by omega) (by omega) hb (by have h9:=hsu (2*q) (by omega);rw[e1] at h9;exact h9.sub (WT _) (by omega)) (by have h9:=hsu (2*q+1) (by omega);rw[e2] at h9;exact h9.sub (WT _) (by omega)) (fun i j i1 i2 i3 i4=>hbu (2*q+1) i j (by omega) (by omega) (by omega) (by omega)))) rfl ?_;rintro _ w6 ⟨rfl,us,hu,hug,hus⟩;refine Gz 11 ?_;refine cL (TL rfl rfl (by omega)) ?_;refine Gz 4 ?_;refine Ti ⟨q+1,a+2*bs,us⟩ ⟨rfl,rfl,rfl,rfl,rfl,congrArg (fun z:Int=>some (Value.int .i64 z)) (by omega),trivial⟩ ⟨⟨e3.symm,hb⟩,hu,hug.2.1.trans hz5p,hug.bi ha (WT _) hb hb2,fun p hp=>?_,fun p hp=>eQ (hsu p (by omega)) (fun k k1 k2=>hug.2.2.1 k (.inr (by omega))),fun p i j hp i1 i2 i3=>?_⟩ (by show n-(a+2*bs)<n-a;omega)
   · by_cases e:p=q
     ·subst e;rw[←ha];exact hus
     · have:=Xw (2*bs) (show p+1≤q by omega)
       rw[XK,XW] at this;exact eQ (hsp p (by omega)) (fun k k1 k2=>hug.2.2.1 k (.inl (by omega)))
   · rw[hug.2.2.1 j (.inr (by omega))]
     by_cases hi:a≤i∧i<a+2*bs
     · obtain⟨i',a1,a2,a3⟩:=hug.2.2.2 i hi.1 hi.2
       rw[a3];exact hbu p i' j (by omega) (by omega) i2 i3
     ·rw[hug.2.2.1 i (by omega)];exact hbu p i j (by omega) i1 i2 i3
  have hb:¬ a+2*bs≤n:=by omega
  refine Gz 8 ?_;refine Tw (β:=List Int) (fun vs=>[(0,.slice o n c),(1,iV n),(2,.func (.func f) #[] cs.toArray),(6,iV bs)]) (fun vs w=>StI W0 o c n vs w∧vs.Perm xs∧BI (2*bs) n vs∧BSn K (2*bs) n vs) ?_ ?_
  ·refine fK 12 ?_ ?_<;>intro h54
   ·refine Gz 9 ?_;have e1:2*q*bs=a:=by rw[ha,Yn 2 q,YM]
    have e2:(2*q+1)*bs=a+bs:=by rw[XK,XW,e1]
    refine SZ Gh rfl ((by rw[show ((a:Int)+bs)=((a+bs:Nat):Int) by omega];exact Fm W0 o hC c n (by omega) (n-a) a (a+bs) n zs w5 (WT _) hz5 (fun z hz=>hV z (hz5p.mem_iff.1 hz)) (by omega) (by omega) (WT _) (by have h9:=hsu (2*q) (by omega);rw[e1] at h9;exact h9.sub (WT _) (by omega)) (by have h9:=hsu (2*q+1) (by omega);rw[e2] at h9;exact h9.sub (WT _) (by omega)) (fun i j i1 i2 i3 i4=>hbu (2*q+1) i j (by omega) (by omega) (by omega) (by omega)))) rfl ?_;rintro _ w6 ⟨rfl,us,hu,hug,hus⟩;refine Gz 1 ?_
    first
    |exact aC us ⟨hu,hug.2.1.trans hz5p,hug.bi ha (by omega) (WT _) hb2,fun p=>by
        rcases XX p q with hp|hp|hp
        · have:=Xw (2*bs) hp
          rw[X5,XK,XW] at this;exact(eQ (hsp p hp) (fun k k1 k2=>hug.2.2.1 k (.inl (by omega)))).sub (WT _) (by omega)
        ·subst hp;rw[←ha];exact hus.sub (WT _) (by omega)
        · have:=Xw (2*bs) hp
          rw[X5,XK,XW] at this;exact Ws (by omega)⟩
    |exact aC zs ⟨hz5,hz5p,hb2,fun p=>by
        rcases XX p q with hp|hp|hp
        ·exact(hsp p hp).sub (WT _) (by omega)
        · subst hp
          have e1:2*p*bs=a:=by rw[ha,Yn 2 p,YM]
          have h9:=hsu (2*p) (by omega);rw[e1] at h9;rw[←ha];exact h9.sub (WT _) (by omega)
        · have:=Xw (2*bs) hp
          rw[X5,XK,XW] at this;exact Ws (by omega)⟩
   refine Gz 4 ?_
   first
   |exact aC us ⟨hu,hug.2.1.trans hz5p,hug.bi ha (by omega) (WT _) hb2,fun p=>by
       rcases XX p q with hp|hp|hp
       · have:=Xw (2*bs) hp
         rw[X5,XK,XW] at this;exact(eQ (hsp p hp) (fun k k1 k2=>hug.2.2.1 k (.inl (by omega)))).sub (WT _) (by omega)
       ·subst hp;rw[←ha];exact hus.sub (WT _) (by omega)
       · have:=Xw (2*bs) hp
         rw[X5,XK,XW] at this;exact Ws (by omega)⟩
   |exact aC zs ⟨hz5,hz5p,hb2,fun p=>by
       rcases XX p q with hp|hp|hp
       ·exact(hsp p hp).sub (WT _) (by omega)
       · subst hp
         have e1:2*p*bs=a:=by rw[ha,Yn 2 p,YM]
         have h9:=hsu (2*p) (by omega);rw[e1] at h9;rw[←ha];exact h9.sub (WT _) (by omega)
       · have:=Xw (2*bs) hp
         rw[X5,XK,XW] at this;exact Ws (by omega)⟩
  rintro vs w8 ⟨hv8,hv8p,hv8b,hv8s⟩;refine Gz 2 ?_;refine cL (TL rfl rfl (by omega)) ?_;refine Gz 3 ?_;exact Ti ⟨2*bs,vs⟩ ⟨rfl,rfl,rfl,congrArg (fun z:Int=>some (Value.int .i64 z)) (by omega),trivial⟩ ⟨⟨by omega,by omega⟩,hv8,hv8p,hv8b,hv8s⟩ (by show n-2*bs<n-bs;omega)
 refine Gz 7 ?_;refine Ty rfl ?_;refine⟨_,rfl,rfl,vs,hv4,hvp,?_⟩;have h9:=hvs 0;rw[Za] at h9;exact h9.sub (WT _) (by omega)
theorem zJ{K:Int→List By}{V:Int→Prop}{f:FuncId}{cs:List Value}(W0:World)(o:Option Addr)(hC:MF W0 o f cs V K)(c n:Nat)(hn:n≤100000)(xs:List Int)(W:World)(h:StI W0 o c n xs W)(hV:∀ z∈xs,V z)(hinc:Inc xs 0 n) :
 CA 170 [.slice o n c,.func (.func f) #[] cs.toArray] W fun v w'=>v=.tuple #[]∧∃ ys,StI W0 o c n ys w'∧ys.Perm xs∧Srt K ys 0 n:=by
 refine cS 9 [(0,_),(1,_)] Tryz.func170 ?_;refine cA 5 Pd (Ej W0 o hC c n hn xs W h hV hinc) ?_;rintro _ w1 ⟨rfl,ys,hy,hyp,hys⟩;refine Gz 1 ?_;refine Ty rfl ?_;exact⟨_,rfl,rfl,ys,hy,hyp,hys⟩
section
open Go Go.RowKit Go.Maps
theorem Hu(ao bo:Option Addr)(ac bc:Nat)(a b:List By)(W:World)(ha:Vw gY W.heap ao ac a)(hb:Vw gY W.heap bo bc b) :
 CA 228 [.slice ao a.length ac,.slice bo b.length bc] W fun v w'=>v=.bool (decide (a=b))∧aA nob W w':=by
 have h63:=ha.WF;refine cS 26 [(0,_),(1,_)] Tryz.func228 ?_;refine fK 12 ?_ ?_<;>intro h10
 ·refine Gz 11 ?_;exact⟨_,rfl,by rw[WL (fun e=>by subst e;exact h10 rfl)],VZ _ _⟩
 refine Gz 14 ?_;have hlen:a.length=b.length:=by omega
 refine S4 (β:=Nat) (fun k=>[(0,.slice ao a.length ac),(1,.slice bo b.length bc),(12,iV a.length),(13,iV k)]) (fun k w=>k≤a.length∧(∀ i,i<k→i<a.length→a.getD i []=b.getD i [])∧aA nob W w) (fun k=>a.length-k) 0 ⟨rfl,rfl,rfl,rfl,trivial⟩ ⟨WU _,fun i hi=>by omega,VZ _ _⟩ ?_;rintro k w2 ⟨hk,hsm,hF2⟩;refine fK 2 ?_ ?_<;>intro h14
 ·have hka:k<a.length:=by omega
  have hkb:k<b.length:=by omega
  have ha2:=ha.WG hF2;have hb2:=hb.WG hF2;refine Gz 15 ?_;refine Tk 9 [0,1,2,3,4,5,6,7,8] aI (by kernel_rfl) ?_;refine Gz 2 ?_;refine xC rfl (SY jH rfl rfl ha2.non (by omega)) ?_;refine xC rfl (S2 eG rfl (ha2.get k (a.getD k []) (by simp[WW,hka]))) ?_;refine Gz 2 ?_;refine xC rfl (SY jH rfl rfl hb2.non (by omega)) ?_;refine xC rfl (S2 eG rfl (hb2.get k (b.getD k []) (by simp[WW,hkb]))) ?_;refine xK 0 ?_ ?_<;>intro h24
  ·refine Gz 15 ?_;exact⟨_,rfl,by rw[WL (fun e=>h24 (by rw[e]))],hF2.draws 1⟩
  refine Gz 10 ?_;refine aG (k+1) ⟨by omega,fun i hi hia=>?_,hF2.draws 1⟩ (by show a.length-(k+1)<a.length-k;omega);by_cases hik:i=k
  ·subst hik;exact Xk.1 h24
  ·exact hsm i (by omega) hia
 refine Gz 16 ?_;exact⟨_,rfl,by rw[WO (Dg (by omega) (k:=k) (by omega) [] hsm)],hF2⟩
theorem I8(ao bo:Option Addr)(ac bc:Nat)(a b:List By)(W:World)(ha:Vw gY W.heap ao ac a)(hb:Vw gY W.heap bo bc b) :
 CA 214 [.slice ao a.length ac,.slice bo b.length bc] W fun v w'=>v=.bool (decide (a=b))∧aA nob W w':=by
 refine cS 8 [(0,_),(1,_)] Tryz.func214 ?_;refine cA 9 O9 (Hu ao bo ac bc a b W ha hb) ?_;rintro _ w1 ⟨rfl,hf1⟩;refine Gz 5 ?_;exact⟨_,rfl,rfl,hf1⟩
def oA(l s:List By):Prop:=s.length<l.length∧l.take s.length=s
instance (l s:List By):Decidable (oA l s):=by unfold oA;exact inferInstance
theorem KB(ao bo:Option Addr)(ac bc:Nat)(a b:List By)(W:World)(ha:Vw gY W.heap ao ac a)(hb:Vw gY W.heap bo bc b) :
 CA 169 [.slice ao a.length ac,.slice bo b.length bc] W fun v w'=>v=.bool (decide (oA a b))∧aA nob W w':=by
 refine cS 18 [(0,_),(1,_)] Tryz.func169 ?_;refine fK 11 ?_ ?_<;>intro h9
 ·refine Gz 4 ?_;refine cW (S3 (u:=.slice ao (a.take b.length).length ac) (Tl jH rfl rfl (by have:=ha.le;omega)) (by rw[aV,WR,XT (by omega)];rfl)) ?_;refine Gz 1 ?_;refine Tb rfl rfl Pe rfl (I8 ao bo ac bc (a.take b.length) b W (ha.take _) hb) rfl ?_;rintro _ w1 ⟨rfl,hf1⟩;refine Gz 6 ?_
  first
  |exact⟨_,rfl,congrArg _ (decide_eq_decide.2 ⟨fun e=>⟨by omega,e⟩,fun e=>e.2⟩),hf1⟩
  |exact⟨_,rfl,by rw[WL (show ¬ oA a b from fun e=>by have:=e.1;omega)],VZ _ _⟩
 refine Gz 13 ?_
 first
 |exact⟨_,rfl,congrArg _ (decide_eq_decide.2 ⟨fun e=>⟨by omega,e⟩,fun e=>e.2⟩),hf1⟩
 |exact⟨_,rfl,by rw[WL (show ¬ oA a b from fun e=>by have:=e.1;omega)],VZ _ _⟩
variable {D:Nat→Prop}
def kR(ps:List (NdH×Nd))(z:Int):Int:=(ps.countP (fun p=>decide (p.2.ino=z)):Nat)
theorem Kj{ps:List (NdH×Nd)}{i:Nat}{p:NdH×Nd}(hp:ps[i]?=some p)(z:Int):kR (ps.take (i+1)) z=kR (ps.take i) z+if p.2.ino=z then 1 else 0:=by
 unfold kR;rw[tkL hp,List.countP_append,List.countP_singleton];by_cases h:p.2.ino=z
 ·simp[h]
 ·simp[h]
theorem EZ(ps:List (NdH×Nd))(z:Int):0≤kR ps z∧kR ps z≤ps.length:=by
 unfold kR;have:=List.countP_le_length (p:=fun p:NdH×Nd=>decide (p.2.ino=z)) (l:=ps);omega
def rK(ps:List (NdH×Nd))(i:Int):Int:=if 0≤i∧i<ps.length then kR ps (ps.getD i.toNat (tD,nd0)).2.ino else 0
theorem vH{ps:List (NdH×Nd)}{i:Int}{q:NdH×Nd}(h:0≤i∧i<ps.length)(hq:ps[i.toNat]?=some q):rK ps i=kR ps q.2.ino:=by
 unfold rK;rw[WJ h,WW,hq];rfl
theorem lT{ps:List (NdH×Nd)}{i:Int}(h:¬ (0≤i∧i<ps.length)):rK ps i=0:=by unfold rK;rw[WI h]
theorem Jh(lo:Option Addr)(lc:Nat)(ps:List (NdH×Nd))(i:Int)(W:World)(hv:aO D W.heap lo lc ps) :
 CA 71 [.slice lo ps.length lc,iV i] W fun v w'=>v=iV (rK ps i)∧aA nob W w':=by
 have h63:=hv.1.WF;refine cS 34 [(0,_),(1,_)] Tryz.func71 ?_;refine fK 9 ?_ ?_<;>intro h9
 ·refine Gz 17 ?_
  first
  |exact⟨_,rfl,by rw[lT (by omega)],VZ _ _⟩
  |exact⟨_,rfl,by rw[vH hin hq,Xl],hF2⟩
 refine fW 4 ?_ ?_<;>intro h14
 ·refine Gz 12 ?_
  first
  |exact⟨_,rfl,by rw[lT (by omega)],VZ _ _⟩
  |exact⟨_,rfl,by rw[vH hin hq,Xl],hF2⟩
 have hin:0≤i∧i<ps.length:=by omega
 obtain⟨q,hq⟩:∃ q,ps[i.toNat]?=some q:=⟨_,WK (by omega)⟩
 refine Gz 20 ?_;refine S4 (β:=Nat) (fun k=>[(0,.slice lo ps.length lc),(1,iV i),(5,iV (kR (ps.take k) q.2.ino)),(16,.slice lo ps.length lc),(17,iV ps.length),(18,iV k)]) (fun k w=>k≤ps.length∧aA nob W w) (fun k=>ps.length-k) 0 ⟨rfl,rfl,rfl,rfl,rfl,rfl,trivial⟩ ⟨WU _,VZ _ _⟩ ?_;rintro k w2 ⟨hk,hF2⟩;refine fK 2 ?_ ?_<;>intro h19
 ·have hkl:k<ps.length:=by omega
  obtain⟨p,hp⟩:∃ p,ps[k]?=some p:=⟨_,WK hkl⟩
  have hv2:=hv.WG hF2;have hct:=Kj hp q.2.ino;have hcl:=EZ (ps.take k) q.2.ino;have hctl:(ps.take k).length≤k:=by rw[WR];omega
  refine Gz 6 ?_;refine Tw (β:=Unit) (fun _u=>[(0,.slice lo ps.length lc),(1,iV i),(5,iV (kR (ps.take (k+1)) q.2.ino)),(16,.slice lo ps.length lc),(17,iV ps.length),(18,iV k)]) (fun _u w=>aA nob W w) ?_ ?_
  ·refine Gz 3 ?_;refine cL (S1 aQ rfl rfl hv2.1.non (by omega)) ?_;refine cL (Tf (cs:=aE p) aZ rfl (fun j v hj=>hv2.1.rowZ k rfl hp j v hj)) ?_;refine S5 eY rfl ?_;intro w3 hg3 hs3 hf3;obtain⟨r,hr⟩:∃ r,r=w2.heap.size:=⟨_,rfl⟩
   rw[←hr] at hg3 ⊢;refine Te (vs:=aE p) aZ rfl rfl (aB p).2 hg3 rfl ?_;intro w4 hg4 hs4 hf4;have hF4:aA nob W w4:=hF2.trans (hf3.WD hf4 (fun k e=>.inr (by have e:k=r:=e;omega)));have hv4:=hv.WG hF4;refine Gz 3 ?_;refine Tk 8 [0,1,2,3,4,5,6,7] aI (by kernel_rfl) ?_;refine Gz 1 ?_;refine xC rfl (S2 aF rfl (aD hg4 rfl)) ?_;refine Gz 2 ?_;refine xC rfl (S1 aQ rfl rfl hv4.1.non (by omega)) ?_;refine Gz 1 ?_;refine xC rfl (S2 aF rfl (hv4.1.rowZ i.toNat (by omega) hq 1 _ rfl)) ?_;refine xK 0 ?_ ?_<;>intro h29
   ·refine Gz 9 ?_
    first
    |exact TG () ⟨rfl,rfl,congrArg (fun z:Int=>some (Value.int .i64 z)) (by rw[hct,WJ h29]),rfl,rfl,rfl,trivial⟩ (hF4.draws 1)
    |exact TG () ⟨rfl,rfl,congrArg (fun z:Int=>some (Value.int .i64 z)) (by rw[hct,WI h29,Int.add_zero]),rfl,rfl,rfl,trivial⟩ (hF4.draws 1)
   refine Gz 5 ?_
   first
   |exact TG () ⟨rfl,rfl,congrArg (fun z:Int=>some (Value.int .i64 z)) (by rw[hct,WJ h29]),rfl,rfl,rfl,trivial⟩ (hF4.draws 1)
   |exact TG () ⟨rfl,rfl,congrArg (fun z:Int=>some (Value.int .i64 z)) (by rw[hct,WI h29,Int.add_zero]),rfl,rfl,rfl,trivial⟩ (hF4.draws 1)
  rintro _ w5 hF5;refine Gz 4 ?_;exact aG (k+1) ⟨by omega,hF5⟩ (by show ps.length-(k+1)<ps.length-k;omega)
 have hke:k=ps.length:=by omega
 subst hke;refine Gz 17 ?_
 first
 |exact⟨_,rfl,by rw[lT (by omega)],VZ _ _⟩
 |exact⟨_,rfl,by rw[vH hin hq,Xl],hF2⟩
theorem GM(lo:Option Addr)(lc:Nat)(ps:List (NdH×Nd))(i:Int)(W:World)(hv:aO D W.heap lo lc ps) :
 CA 89 [.slice lo ps.length lc,iV i] W fun v w'=>v=iV (rK ps i)∧aA nob W w':=by
 have h63:=hv.1.WF;obtain⟨Z,hZ⟩:∃ Z,Z=(ps.getD i.toNat (tD,nd0)).2.ino:=⟨_,rfl⟩
 refine cS 37 [(0,_),(1,_)] Tryz.func89 ?_;refine Gz 17 ?_;refine S4 (β:=Nat) (fun k=>[(0,.slice lo ps.length lc),(1,iV i),(5,iV (kR (ps.take k) Z)),(6,iV k)]) (fun k w=>k≤ps.length∧(0<k→0≤i∧i<ps.length)∧aA nob W w) (fun k=>ps.length-k) 0 ⟨rfl,rfl,rfl,rfl,trivial⟩ ⟨WU _,fun h=>by omega,VZ _ _⟩ ?_;rintro k w2 ⟨hk,hki,hF2⟩;refine fK 6 ?_ ?_<;>intro h10
 ·refine fW 2 ?_ ?_<;>intro h13
  ·refine fW 5 ?_ ?_<;>intro h19
   ·have hin:0≤i∧i<ps.length:=by omega
    obtain⟨q,hq⟩:∃ q,ps[i.toNat]?=some q:=⟨_,WK (by omega)⟩
    have hqZ:q.2.ino=Z:=by rw[hZ,WW,hq];rfl
    have hkl:k<ps.length:=by omega
    obtain⟨p,hp⟩:∃ p,ps[k]?=some p:=⟨_,WK hkl⟩
    have hv2:=hv.WG hF2;have hct:=Kj hp Z;have hcl:=EZ (ps.take k) Z;have hctl:(ps.take k).length≤k:=by rw[WR];omega
    refine Gz 6 ?_;refine Tw (β:=Unit) (fun _u=>[(0,.slice lo ps.length lc),(1,iV i),(5,iV (kR (ps.take (k+1)) Z)),(6,iV k)]) (fun _u w=>aA nob W w) ?_ ?_
    ·refine Gz 2 ?_;refine Tk 11 [0,1,2,3,4,5,6,7,8,9,10] aI (by kernel_rfl) ?_;refine Gz 2 ?_;refine xC rfl (S1 aQ rfl rfl hv2.1.non (by omega)) ?_;refine Gz 1 ?_;refine xC rfl (S2 aF rfl (hv2.1.rowZ k rfl hp 1 _ rfl)) ?_;refine Gz 2 ?_;refine xC rfl (S1 aQ rfl rfl hv2.1.non (by omega)) ?_;refine Gz 1 ?_;refine xC rfl (S2 aF rfl (hv2.1.rowZ i.toNat (by omega) hq 1 _ rfl)) ?_;refine xK 0 ?_ ?_<;>intro h33
     ·refine Gz 9 ?_;exact TG () ⟨rfl,rfl,congrArg (fun z:Int=>some (Value.int .i64 z)) (by rw[hct,WJ (by rw[←hqZ];exact h33)]),rfl,trivial⟩ (hF2.draws 1)
     refine Gz 5 ?_;exact TG () ⟨rfl,rfl,congrArg (fun z:Int=>some (Value.int .i64 z)) (by rw[hct,WI (by rw[←hqZ];exact h33),Int.add_zero]),rfl,trivial⟩ (hF2.draws 1)
    rintro _ w5 hF5;refine Gz 5 ?_;exact aG (k+1) ⟨by omega,fun _=>hin,hF5⟩ (by show ps.length-(k+1)<ps.length-k;omega)
   refine Gz 17 ?_;refine⟨_,rfl,congrArg _ ?_,hF2⟩;by_cases hin:0≤i∧i<ps.length
   · have hke:k=ps.length:=by omega
     subst hke;unfold rK;rw[WJ hin,Xl,hZ]
   · have hk0:k=0:=by
      rcases Ya k with h|h
      ·exact h
      ·exact absurd (hki h) hin
     subst hk0;rw[lT hin];rfl
  refine Gz 23 ?_;refine⟨_,rfl,congrArg _ ?_,hF2⟩;by_cases hin:0≤i∧i<ps.length
  · have hke:k=ps.length:=by omega
    subst hke;unfold rK;rw[WJ hin,Xl,hZ]
  · have hk0:k=0:=by
     rcases Ya k with h|h
     ·exact h
     ·exact absurd (hki h) hin
    subst hk0;rw[lT hin];rfl
 refine Gz 26 ?_;refine⟨_,rfl,congrArg _ ?_,hF2⟩;by_cases hin:0≤i∧i<ps.length
 · have hke:k=ps.length:=by omega
   subst hke;unfold rK;rw[WJ hin,Xl,hZ]
 · have hk0:k=0:=by
    rcases Ya k with h|h
    ·exact h
    ·exact absurd (hki h) hin
   subst hk0;rw[lT hin];rfl
end
section
open Go Go.RowKit Go.Maps
def nmG(ps:List (NdH×Nd))(k:Nat):List By:=(ps.getD k (tD,nd0)).2.names
theorem kM{ps:List (NdH×Nd)}{k:Nat}{p:NdH×Nd}(h:ps[k]?=some p):nmG ps k=p.2.names:=by unfold nmG;rw[WW,h];rfl
def iH(l s:List By):Prop:=l.length=s.length+1∧l.take s.length=s
instance (l s:List By):Decidable (iH l s):=by unfold iH;exact inferInstance
theorem xT{l s:List By}:iH l s↔l.length=s.length+1∧oA l s:=by
 unfold iH oA;constructor
 ·rintro⟨h1,h2⟩;exact⟨h1,by omega,h2⟩
 ·rintro⟨h1,_,h2⟩;exact⟨h1,h2⟩
def bP(ps:List (NdH×Nd))(s:List By):Nat→List Int
|0=>[]
|i+1=>if iH (nmG ps i) s then bP ps s i++[(i:Int)] else bP ps s i
section
variable {ps:List (NdH×Nd)}{s:List (List UInt8)}
theorem nR{i:Nat}(h:iH (nmG ps i) s):bP ps s (i+1)=bP ps s i++[(i:Int)]:=by rw[bP,WJ h]
theorem mN{i:Nat}(h:¬ iH (nmG ps i) s):bP ps s (i+1)=bP ps s i:=by rw[bP,WI h]
theorem dZ{z:Int}:∀ {i:Nat},z∈bP ps s i↔∃ k:Nat,z=k∧k<i∧iH (nmG ps k) s
|0=>⟨fun h=>(by simp[bP] at h),fun⟨k,_,h,_⟩=>(by omega)⟩
|i+1=>by
   by_cases h:iH (nmG ps i) s
   · rw[nR h,Xj,Xg,dZ (i:=i)]
     constructor
     · rintro(⟨k,h1,h2,h3⟩|h1)
       ·exact⟨k,h1,by omega,h3⟩
       ·exact⟨i,h1,by omega,h⟩
     · rintro⟨k,h1,h2,h3⟩
       by_cases e:k=i
       ·exact .inr (by rw[h1,e])
       ·exact .inl ⟨k,h1,by omega,h3⟩
   · rw[mN h,dZ (i:=i)]
     constructor
     ·rintro⟨k,h1,h2,h3⟩;exact⟨k,h1,by omega,h3⟩
     · rintro⟨k,h1,h2,h3⟩
       by_cases e:k=i
       ·exact absurd (e ▸ h3) h
       ·exact⟨k,h1,by omega,h3⟩
theorem nT:∀ i:Nat,(bP ps s i).Pairwise (· < ·)
|0=>List.Pairwise.nil
|i+1=>by
   by_cases h:iH (nmG ps i) s
   · rw[nR h,Yc]
     refine⟨nT i,by simp,fun a ha b hb=>?_⟩;obtain⟨k,e,hk,_⟩:=dZ.1 ha;rw[Xg] at hb;subst hb;omega
   ·rw[mN h];exact nT i
theorem nS:∀ i:Nat,(bP ps s i).length≤i
|0=>WT _
|i+1=>by
   have:=nS i;by_cases h:iH (nmG ps i) s
   ·rw[nR h,WM,WP];omega
   ·rw[mN h];omega
end
theorem AQ{xs:List Int}{k:Nat}(h:k<xs.length):xs.getD k 0=xs[k]:=by simp[WW,h]
theorem NS{xs:List Int}(h:xs.Pairwise (· < ·)):Inc xs 0 xs.length:=fun i j _ hij hj=>by
 rw[AQ (by omega),AQ hj];exact Xu.1 h i j (by omega) hj hij
section
variable {K:Int→List (List UInt8)}
theorem Id{xs:List Int}(h:Srt K xs 0 xs.length):xs.Pairwise (ltS K):=Xu.2 fun i j hi hj hij=>by
 have:=h i j (WU _) hij hj;rwa[AQ hi,AQ hj] at this
theorem LR{x:Int}(h:ltS K x x):False:=by
 rcases h with h|⟨_,h⟩
 ·rw[oT] at h;omega
 ·omega
theorem LS{x y:Int}(h:ltS K x y)(g:ltS K y x):False:=LR (kA h g)
theorem FF:∀ {xs ys:List Int},xs.Perm ys→xs.Pairwise (ltS K)→ys.Pairwise (ltS K)→xs=ys
|[],ys,hp,_,_=>by rw[List.nil_perm] at hp;exact hp.symm
|x::xs,[],hp,_,_=>by have:=hp.length_eq;simp at this
|x::xs,y::ys,hp,hx,hy=>by
   have h1:=Yl.1 hx;have h2:=Yl.1 hy;have e:x=y:=by
    apply WV;intro hne;have hxm:x∈ys:=by
     have:=hp.mem_iff.1 (show x∈x::xs by simp);rcases Xo.1 this with e|h
     ·exact absurd e hne
     ·exact h
    have hym:y∈xs:=by
     have:=hp.mem_iff.2 (show y∈y::ys by simp);rcases Xo.1 this with e|h
     ·exact absurd e.symm hne
     ·exact h
    exact LS (h1.1 y hym) (h2.1 x hxm)
   subst e;rw[FF (List.Perm.cons_inv hp) h1.2 h2.2]
theorem Jn{xs ys:List Int}(hp:xs.Perm ys)(hx:Srt K xs 0 xs.length)(hy:Srt K ys 0 ys.length):xs=ys:=FF hp (Id hx) (Id hy)
end
theorem oE{a b:Nat}(ha:a≤9223372036854775807)(hb:b≤9223372036854775807):((a:Int)=IntKind.i64.wrap ((b:Int)+1))↔a=b+1:=by
 by_cases h:b=9223372036854775807
 · subst h
   have e:IntKind.i64.wrap (((9223372036854775807:Nat):Int)+1) = -9223372036854775808:=by unfold IntKind.wrap;simp[IntKind.bits,IntKind.signed]
   rw[e];omega
 ·rw[cN (by omega)];omega
def zD(ps:List (NdH×Nd))(s:List By)(ys:List Int):Prop:=ys.Perm (bP ps s ps.length)∧Srt (fun z=>nmG ps z.toNat) ys 0 ys.length
theorem zD.uniq{ps:List (NdH×Nd)}{s:List By}{xs ys:List Int}(h:zD ps s xs)(g:zD ps s ys):xs=ys:=Jn (h.1.trans g.1.symm) h.2 g.2
def aU(l:List By):By:=l.getD (l.length-1) []
theorem BR{a b s:List By}(ha:iH a s)(hb:iH b s):cV a b=uX (aU a) (aU b):=by
 have e:∀ {l:List By},iH l s→l=s++[aU l]:=fun {l} h=>by
  have h1:l[s.length]?=some (aU l):=by
   unfold aU;rw[h.1,WW,Yj,WK (by have:=h.1;omega)];rfl
  have h2:=tkL h1;rw[h.2,WY (by have:=h.1;omega)] at h2;exact h2
 conv=>lhs;rw[e ha,e hb]
 rw[yN];show (if aU a=aU b then cV [] [] else if Xd (aU a) (aU b)=true then -1 else 1)=_;unfold uX;by_cases h1:Xd (aU a) (aU b)=true
 ·rw[WJ h1,WI (fun h=>by rw[h,mD] at h1;cases h1),WJ h1]
 · rw[WI h1]
   by_cases h2:aU a=aU b
   ·rw[WJ h2,WJ h2,WI h1];rfl
   ·rw[WI h2,WI h2,WI h1]
theorem Cb{a b:By}:uX a b<0↔Xd a b=true:=by
 unfold uX;by_cases h1:Xd a b=true
 ·rw[WJ h1];simp[h1]
 · rw[WI h1]
   by_cases h2:a=b
   ·rw[WJ h2];simp[h1]
   ·rw[WI h2];simp[h1]
variable {D:Nat→Prop}
theorem L0(lo:Option Addr)(lc:Nat)(ps:List (NdH×Nd))(g:Nat)(x y:Int)(W:World){T:TypeId}{fr:Nat×Nat}(hv:aO D W.heap lo lc ps)(hg:W.heap[g]?=some (.cells [Value.slice lo ps.length lc].toArray T fr))(hx:0≤x∧x<ps.length)(hy:0≤y∧y<ps.length) :
 CA 171 [iV x,iV y,pT g] W fun v w'=>v=iV (cV (nmG ps x.toNat) (nmG ps y.toNat))∧aA nob W w':=by
 have h63:=hv.1.WF;obtain⟨p,hp⟩:∃ p,ps[x.toNat]?=some p:=⟨_,WK (by omega)⟩
 obtain⟨q,hq⟩:∃ q,ps[y.toNat]?=some q:=⟨_,WK (by omega)⟩
 rw[kM hp,kM hq];have hpn:=(hv.2 p (WQ hp)).1;have hqn:=(hv.2 q (WQ hq)).1;have hgv:VwM 10 aE W.heap lo lc ps:=hv.1;refine cS 17 [(0,_),(1,_),(2,_)] Tryz.func171 ?_;refine Gz 6 ?_;refine Tc 12 (fun H=>H[g]?=some (.cells [Value.slice lo ps.length lc].toArray T fr)∧VwM 10 aE H lo lc ps) [10] [0,1,2,3,4,5,6,7,8,9,10,11] aI (by kernel_rfl) (⟨hg,hgv⟩) ?_;refine xC rfl (S9 wN rfl (fun H hH=>aT hH.1 rfl)) ?_;refine Gz 1 ?_;refine xC rfl (S1 aQ rfl rfl hv.1.non (by omega)) ?_;refine Gz 1 ?_;refine xC rfl (S9 dW rfl (fun H hH=>hH.2.rowZ x.toNat (by omega) hp 0 _ rfl)) ?_;refine xC rfl (S9 wN rfl (fun H hH=>aT hH.1 rfl)) ?_;refine Gz 1 ?_;refine xC rfl (S1 aQ rfl rfl hv.1.non (by omega)) ?_;refine Gz 1 ?_;refine xC rfl (S9 dW rfl (fun H hH=>hH.2.rowZ y.toNat (by omega) hq 0 _ rfl)) ?_;refine S7 rfl rfl (SZ OY rfl ((by show Calls _ _ [Value.slice p.1.names.a p.1.names.n p.1.names.c,Value.slice q.1.names.a q.1.names.n q.1.names.c].toArray _ _;rw[hpn.1,hqn.1];exact yL _ _ _ _ p.2.names q.2.names _ hpn.2.1 hqn.2.1)) rfl ?_);rintro _ w3 ⟨rfl,hw3⟩;subst hw3;refine Tg (by exact⟨hg,hgv⟩) ?_;refine Gz 5 ?_;exact⟨_,rfl,rfl,(VZ _ _).draws 1⟩
theorem F6(o:Option Addr)(c:Nat)(a:List By)(W:World)(ha:Vw gY W.heap o c a)(hne:a≠[]) :
 CA 135 [.slice o a.length c] W fun v w'=>v=.string (bs (aU a))∧aA nob W w':=by
 have h63:=ha.WF;have h0:0<a.length:=by rcases a with _|⟨x,r⟩;exact absurd rfl hne;simp
 have hl:a[a.length-1]?=some (aU a):=by unfold aU;rw[WW,WK (by omega)];rfl
 refine cS 9 [(0,_)] Tryz.func135 ?_;refine Gz 11 ?_;refine cL (SY jH rfl rfl ha.non (by omega)) ?_;refine cL (S3 (u:=.string (bs (aU a))) (S2 eG rfl (ha.gz [] (a.length-1) (by omega) (by omega))) rfl) ?_;refine Gz 5 ?_;exact⟨_,rfl,rfl,VZ _ _⟩
theorem LY(lo:Option Addr)(lc:Nat)(ps:List (NdH×Nd))(so:Option Addr)(sc:Nat)(s:List By)(W:World)(hv:aO D W.heap lo lc ps)(hs:Vw gY W.heap so sc s)(hn:ps.length≤100000) :
 CA 120 [.slice lo ps.length lc,.slice so s.length sc] W fun v w'=>∃ o c ys,v=.slice o (Xp (α:=Int) ys) c∧Own i64 3 w'.heap o c ys∧Fr W.heap.size o∧zD ps s ys∧aA nob W w':=by
 have h63:=hv.1.WF;have hs63:s.length≤9223372036854775807:=by have:=hs.WF;omega
 refine cS 37 [(0,_),(1,_)] Tryz.func120 ?_;refine Gz 2 ?_;refine To rfl rfl ?_;intro w1 hg1 hs1 hf1;obtain⟨g,hg⟩:∃ g,g=W.heap.size:=⟨_,rfl⟩
 rw[←hg] at hg1 hs1 ⊢
 replace hg1:w1.heap[g]?=some (.cells [Value.slice lo ps.length lc].toArray 22 (0,0)):=hg1
 refine Gz 11 ?_;refine cL (S3 (u:=.slice lo ps.length lc) (S2 wN rfl (aT hg1 rfl)) rfl) ?_;refine Gz 5 ?_;refine S4 (β:=Nat×Option Addr×Nat) (fun⟨i,o,c⟩=>[(0,.slice lo ps.length lc),(1,.slice so s.length sc),(2,pT g),(5,.slice o (bP ps s i).length c),(8,.slice lo ps.length lc),(9,iV ps.length),(10,iV i)]) (fun⟨i,o,c⟩ w=>i≤ps.length∧Own i64 3 w.heap o c (bP ps s i)∧Fr w1.heap.size o∧aA nob w1 w) (fun⟨i,o,c⟩=>ps.length-i) ⟨0,none,0⟩ ⟨rfl,rfl,rfl,rfl,rfl,rfl,rfl,trivial⟩ ⟨WU _,V8,V6,VZ _ _⟩ ?_;rintro⟨i,o,c⟩ w2 ⟨hi,ho2,hfo,hF2⟩;refine fK 2 ?_ ?_<;>intro h11
 ·have hil:i<ps.length:=by omega
  obtain⟨p,hp⟩:∃ p,ps[i]?=some p:=⟨_,WK hil⟩
  have hv2:=(hv.WG hf1).WG hF2;have hll:=nS (ps:=ps) (s:=s) i;have hnm:=kM hp;have hpl:p.2.names.length≤9223372036854775807:=by have:=((hv2.2 p (WQ hp)).1).2.1.WF;omega
  refine Gz 11 ?_;refine cL (S1 aQ rfl rfl hv2.1.non (by omega)) ?_;refine cL (Tf (cs:=aE p) aZ rfl (fun j v hj=>hv2.1.rowZ i rfl hp j v hj)) ?_;refine S5 eY rfl ?_;intro w3 hg3 hs3 hf3;obtain⟨r,hr⟩:∃ r,r=w2.heap.size:=⟨_,rfl⟩
  rw[←hr] at hg3 ⊢;refine Gz 1 ?_;refine Te (vs:=aE p) aZ rfl rfl (aB p).2 hg3 rfl ?_;intro w4 hg4 hs4 hf4;have hf24:aA nob w2 w4:=hf3.WD hf4 (fun k e=>.inr (by have e:k=r:=e;omega));have hF4:aA nob w1 w4:=hF2.trans hf24;have hv4:=(hv.WG hf1).WG hF4;have hs4:=(hs.WG hf1).WG hF4;have hn4:=(hv4.2 p (WQ hp)).1;have ho4:=ho2.WG hf24;refine Gz 1 ?_;refine aW [(0,_),(1,_),(2,_),(5,_),(6,_),(7,_),(8,_),(9,_),(10,_),(11,_)] ?_;refine Gz 5 ?_;refine cL (S3 (u:=iV p.2.names.length) (Uz jH rfl) (by rw[←hn4.1])) ?_;refine Gz 2 ?_;refine cL (UN rfl rfl) ?_;refine fK 0 ?_ ?_<;>intro h21
  ·
   replace h21:=(oE hpl hs63).1 h21
   refine Gz 4 ?_;refine Tb rfl rfl PA rfl ((by show Calls _ _ [Value.slice p.1.names.a p.1.names.n p.1.names.c,_].toArray _ _;rw[hn4.1];exact KB p.1.names.a so p.1.names.c sc p.2.names s w4 hn4.2.1 hs4)) rfl ?_;rintro _ w5 ⟨rfl,hf5⟩;by_cases h26:oA p.2.names s
   ·rw[WO h26];have hkd:iH (nmG ps i) s:=by rw[hnm];exact xT.2 ⟨by omega,h26⟩
    refine Gz 7 ?_;refine TB (enc:=i64) (u:=(i:Int)) aY (dA _) rfl rfl ?_;intro w6 ho6 hs6 hf6;refine S8 dA aY rfl rfl ((ho4.WG hf5).WG hf6) ho6.vw (by simp only[WP];omega) (by simp only[WP];unfold maxLen;omega) rfl ?_;intro o7 c7 w7 ho7 hf7 hr7 hn7;refine Gz 8 ?_;have hF7:aA nob w1 w7:=(hF4.trans (hf5.trans hf6)).WD hf7 hfo.step;rw[←nR hkd] at ho7 ⊢;exact aG ⟨i+1,o7,c7⟩ ⟨by omega,ho7,cU hfo hr7 (by have:=hF2.size;have:=hf24.size;have:=hf5.size;have:=hf6.size;omega),hF7⟩ (by show ps.length-(i+1)<ps.length-i;omega)
   rw[WL h26];have hkd:¬ iH (nmG ps i) s:=by rw[hnm];exact fun h=>h26 (xT.1 h).2
   refine Gz 11 ?_;have key:∀ w5:World,aA nob w4 w5→¬ iH (nmG ps i) s→(Own i64 3 w5.heap o c (bP ps s (i+1))∧Value.slice o (bP ps s i).length c=.slice o (bP ps s (i+1)).length c):=fun w5 hf hk=>by rw[mN hk];exact⟨ho4.WG hf,rfl⟩
   first
   |exact Ti ⟨i+1,o,c⟩ ⟨rfl,rfl,rfl,congrArg some (key w5 hf5 hkd).2,rfl,rfl,rfl,trivial⟩ ⟨by omega,(key w5 hf5 hkd).1,hfo,hF4.trans hf5⟩ (by show ps.length-(i+1)<ps.length-i;omega)
   |exact Ti ⟨i+1,o,c⟩ ⟨rfl,rfl,rfl,congrArg some (key w4 (VZ _ _) (by rw[hnm];exact fun h=>h21 (by have:=h.1;omega))).2,rfl,rfl,rfl,trivial⟩ ⟨by omega,(key w4 (VZ _ _) (by rw[hnm];exact fun h=>h21 (by have:=h.1;omega))).1,hfo,hF4⟩ (by show ps.length-(i+1)<ps.length-i;omega)
  replace h21:=fun h=>h21 ((oE hpl hs63).2 h)
  refine Gz 16 ?_;have key:∀ w5:World,aA nob w4 w5→¬ iH (nmG ps i) s→(Own i64 3 w5.heap o c (bP ps s (i+1))∧Value.slice o (bP ps s i).length c=.slice o (bP ps s (i+1)).length c):=fun w5 hf hk=>by rw[mN hk];exact⟨ho4.WG hf,rfl⟩
  first
  |exact Ti ⟨i+1,o,c⟩ ⟨rfl,rfl,rfl,congrArg some (key w5 hf5 hkd).2,rfl,rfl,rfl,trivial⟩ ⟨by omega,(key w5 hf5 hkd).1,hfo,hF4.trans hf5⟩ (by show ps.length-(i+1)<ps.length-i;omega)
  |exact Ti ⟨i+1,o,c⟩ ⟨rfl,rfl,rfl,congrArg some (key w4 (VZ _ _) (by rw[hnm];exact fun h=>h21 (by have:=h.1;omega))).2,rfl,rfl,rfl,trivial⟩ ⟨by omega,(key w4 (VZ _ _) (by rw[hnm];exact fun h=>h21 (by have:=h.1;omega))).1,hfo,hF4⟩ (by show ps.length-(i+1)<ps.length-i;omega)
 have hie:i=ps.length:=by omega
 subst hie;have hapw:∀ w,aA (blk o) w2 w→aA nob w1 w:=fun w hf=>hF2.WD hf hfo.step;have hvk:∀ w,aA (blk o) w2 w→aO D w.heap lo lc ps:=fun w hf=>(hv.WG hf1).WG (hapw w hf);have hgk:∀ w,aA (blk o) w2 w→w.heap[g]?=some (.cells [Value.slice lo ps.length lc].toArray 22 (0,0)):=fun w hf=>(hapw w hf).obj hg1 id;refine Gz 12 ?_;refine cL (Ua (vs:=[pT g]) rfl) ?_;refine SZ Pz rfl (zJ (V:=fun z:Int=>0≤z∧z<ps.length) (K:=fun z:Int=>nmG ps z.toNat) w2 o ⟨Py,fun w x y hf hx hy=>L0 lo lc ps g x y w (hvk w hf) (hgk w hf) hx hy⟩ c (bP ps s ps.length).length (by have:=nS (ps:=ps) (s:=s) ps.length;omega) (bP ps s ps.length) w2 ⟨ho2,rfl,VZ _ _⟩ (fun z hz=>by obtain⟨k,e,hk,_⟩:=dZ.1 hz;omega) (NS (nT _))) rfl ?_;rintro _ w8 ⟨rfl,ys,hy,hyp,hys⟩;have hF8:aA nob w1 w8:=hF2.WD hy.2.2 hfo.step;refine Gz 1 ?_;refine aW [(0,_),(1,_),(2,_),(5,_),(8,_),(9,_),(10,_),(11,_)] ?_;refine Gz 9 ?_;exact⟨_,rfl,o,c,ys,by rw[hy.2.1],hy.1,hfo.mono (by omega),⟨hyp,by rw[hy.2.1];exact hys⟩,hf1.trans hF8⟩
end
section
open Go Go.RowKit Go.Maps
def stl(ys:List Int)(i:Int)(k:Nat):List Int:=ys.take k++(if k=ys.length then i else ys.getD k 0)::ys.drop k
section
variable {ys:List Int}{i:Int}{k:Nat}
theorem iS(hk:k≤ys.length):(stl ys i k).length=ys.length+1:=by unfold stl;simp;omega
theorem Ld:stl ys i ys.length=ys++[i]:=by unfold stl;rw[WJ rfl];simp
theorem Fw{j:Nat}(hk:k≤ys.length)(hj:j<k):(stl ys i k).getD j 0=ys.getD j 0:=by
 unfold stl;rw[WW,WW,XC (by rw[WR];omega),Xr,WJ hj];rfl
theorem Ei(hk:k≤ys.length){u:Int}:(stl ys i k).set k u=ys.take k++u::ys.drop k:=by
 unfold stl;rw[YX _ _ (by rw[WR];omega)];rw[WR,show k-min k ys.length=0 by omega];rfl
theorem Ia(hk:k≤ys.length)(h0:0<k):(stl ys i k).set k (ys.getD (k-1) 0)=stl ys i (k-1):=by
 rw[Ei hk];have h1:ys[k-1]?=some (ys.getD (k-1) 0):=by rw[WW,WK (by omega)];rfl
 have h2:=tkL h1;have h3:=sD h1;rw[show k-1+1=k by omega] at h2 h3;unfold stl;rw[WI (by omega),h2,h3];simp
end
def KF(ps:List (NdH×Nd))(z:Int):List By:=nmG ps z.toNat
theorem vI{ps:List (NdH×Nd)}{s:List By}{ys:List Int}{i k:Nat}(hp:ys.Perm (bP ps s i))(hs:ys.Pairwise (ltS (KF ps)))(hk:k≤ys.length)(hi:iH (nmG ps i) s)
 (h1:∀ j,k≤j→j<ys.length→Xd (aU (nmG ps i)) (aU (nmG ps (ys.getD j 0).toNat))=true)(h2:0<k→¬ Xd (aU (nmG ps i)) (aU (nmG ps (ys.getD (k-1) 0).toNat))=true) :
 (ys.take k++(i:Int)::ys.drop k).Perm (bP ps s (i+1))∧(ys.take k++(i:Int)::ys.drop k).Pairwise (ltS (KF ps)):=by
 have hm:∀ {j:Nat} {x:Int},ys[j]?=some x→0≤x∧x<i∧iH (nmG ps x.toNat) s:=fun hx=>by
  obtain⟨q,e,hq,hk⟩:=dZ.1 (hp.mem_iff.1 (WQ hx));subst e;exact⟨by omega,by omega,hk⟩
 have hg:∀ {j:Nat} {x:Int},ys[j]?=some x→ys.getD j 0=x:=fun hx=>by rw[WW,hx];rfl
 have hB:∀ (j:Nat) (x:Int),k≤j→ys[j]?=some x→ltS (KF ps) i x:=fun j x hj hx=>by
  have h:=h1 j hj (WN.1 hx).1;rw[hg hx] at h;exact .inl (by show cV (nmG ps ((i:Int).toNat)) (nmG ps x.toNat)<0;rw[Xm,BR hi (hm hx).2.2];exact Cb.2 h)
 have hA:∀ (j:Nat) (x:Int),j<k→ys[j]?=some x→ltS (KF ps) x i:=fun j x hj hx=>by
  obtain⟨y,hy⟩:∃ y,ys[k-1]?=some y:=⟨_,WK (by omega)⟩
  have h:=h2 (by omega);rw[hg hy] at h;have hl:ltS (KF ps) y i:=nQ (hm hy).2.1 (by show ¬ cV (nmG ps ((i:Int).toNat)) (nmG ps y.toNat)<0;rw[Xm,BR hi (hm hy).2.2];exact fun g=>h (Cb.1 g));by_cases e:j=k-1
  ·subst e;rw[hx] at hy;cases hy;exact hl
  · have e1:=WN.1 hx
    have e2:=WN.1 hy;have:=Xu.1 hs j (k-1) e1.1 e2.1 (by omega);rw[e1.2,e2.2] at this;exact kA this hl
 constructor
 ·rw[nR hi];exact rN hp
 · rw[Yc,Yl]
   have hd:∀ x∈ys.drop k,∃ j,k≤j∧ys[j]?=some x:=fun x hx=>by
    obtain⟨j,hj⟩:=W8 hx;rw[X1] at hj;exact⟨k+j,by omega,hj⟩
   have ht:∀ x∈ys.take k,∃ j,j<k∧ys[j]?=some x:=fun x hx=>by
    obtain⟨j,hj⟩:=W8 hx;rw[Xr] at hj
    split at hj
    ·exact⟨j,by assumption,hj⟩
    ·cases hj
   refine⟨hs.sublist (List.take_sublist _ _),⟨fun x hx=>?_,hs.sublist (List.drop_sublist _ _)⟩,fun x hx y hy=>?_⟩
   ·obtain⟨j,hj,e⟩:=hd x hx;exact hB j x hj e
   · obtain⟨j,hj,e⟩:=ht x hx
     rcases Xo.1 hy with rfl|hy
     ·exact hA j x hj e
     · obtain⟨j2,hj2,e'⟩:=hd y hy
       exact kA (hA j x hj e) (hB j2 y hj2 e')
theorem IM{K:Int→List By}{xs:List Int}(h:xs.Pairwise (ltS K)):Srt K xs 0 xs.length:=fun i j _ hij hj=>by
 rw[AQ (by omega),AQ hj];exact Xu.1 h i j (by omega) hj hij
variable {D:Nat→Prop}
theorem IB(lo:Option Addr)(lc:Nat)(ps:List (NdH×Nd))(so:Option Addr)(sc:Nat)(s:List By)(W:World)(hv:aO D W.heap lo lc ps)(hs:Vw gY W.heap so sc s)(hn:ps.length≤100000) :
 CA 86 [.slice lo ps.length lc,.slice so s.length sc] W fun v w'=>∃ o c ys,v=.slice o (Xp (α:=Int) ys) c∧Own i64 3 w'.heap o c ys∧Fr W.heap.size o∧zD ps s ys∧aA nob W w':=by
 have h63:=hv.1.WF;have hs63:s.length≤9223372036854775807:=by have:=hs.WF;omega
 refine cS 74 [(0,_),(1,_)] Tryz.func86 ?_;refine Gz 7 ?_;refine TF i64 aY rfl ?_;intro w1 ho1 hs1 hf1;refine Gz 10 ?_;refine S4 (β:=Nat×Option Addr×Nat×List Int) (fun⟨i,o,c,ys⟩=>[(0,.slice lo ps.length lc),(1,.slice so s.length sc),(5,.slice o ys.length c),(6,iV i)]) (fun⟨i,o,c,ys⟩ w=>i≤ps.length∧Own i64 3 w.heap o c ys∧Fr W.heap.size o∧ys.Perm (bP ps s i)∧ys.Pairwise (ltS (KF ps))∧aA nob W w) (fun⟨i,o,c,ys⟩=>ps.length-i) ⟨0,some ⟨W.heap.size,0,none⟩,0,[]⟩ ⟨rfl,rfl,rfl,rfl,trivial⟩ ⟨WU _,ho1,fun a ha=>by cases ha;exact WT _,List.Perm.refl _,List.Pairwise.nil,hf1⟩ ?_;rintro⟨i,o,c,ys⟩ w2 ⟨hi,ho2,hfo,hyp,hyw,hF2⟩;refine fK 6 ?_ ?_<;>intro h13
 ·have hil:i<ps.length:=by omega
  obtain⟨p,hp⟩:∃ p,ps[i]?=some p:=⟨_,WK hil⟩
  have hv2:=hv.WG hF2;have hs2:=hs.WG hF2;have hll:=nS (ps:=ps) (s:=s) i;have hyl:=hyp.length_eq;have hnm:=kM hp;have hn2:=(hv2.2 p (WQ hp)).1;have hpl:p.2.names.length≤9223372036854775807:=by have:=hn2.2.1.WF;omega
  refine Gz 11 ?_;refine cL (S1 aQ rfl rfl hv2.1.non (by omega)) ?_;refine Gz 1 ?_;refine cL (S3 (u:=.slice p.1.names.a p.2.names.length p.1.names.c) (S2 dW rfl (hv2.1.rowZ i rfl hp 0 _ rfl)) (by rw[←hn2.1];rfl)) ?_;refine Gz 10 ?_;refine cL (UN rfl rfl) ?_;refine fK 0 ?_ ?_<;>intro h26
  ·have hkd:¬ iH (nmG ps i) s:=by rw[hnm];exact fun h=>h26 ((oE hpl hs63).2 h.1)
   refine Gz 21 ?_;exact aG ⟨i+1,o,c,ys⟩ ⟨by omega,ho2,hfo,by rw[mN hkd];exact hyp,hyw,hF2⟩ (by show ps.length-(i+1)<ps.length-i;omega)
  have hpe:p.2.names.length=s.length+1:=(oE hpl hs63).1 (X4.1 h26);refine Gz 4 ?_;refine cW (S3 (u:=.slice p.1.names.a (p.2.names.take s.length).length p.1.names.c) (Tl jH rfl rfl (by have:=hn2.2.1.le;omega)) (by rw[aV,WR];congr 1;omega)) ?_;refine Gz 1 ?_;refine Tb rfl rfl N4 rfl (wQ p.1.names.a so p.1.names.c sc (p.2.names.take s.length) s w2 (hn2.2.1.take _) hs2) rfl ?_;rintro _ w3 ⟨rfl,hf3⟩;by_cases h33:p.2.names.take s.length=s
  ·rw[WO h33];have hkd:iH (nmG ps i) s:=by rw[hnm];exact⟨hpe,h33⟩
   refine cW (Tj rfl) ?_;refine Gz 17 ?_;refine TB (enc:=i64) (u:=(i:Int)) aY (dA _) rfl rfl ?_;intro w4 ho4 hs4 hf4;refine S8 dA aY rfl rfl ((ho2.WG hf3).WG hf4) ho4.vw (by simp only[WP];omega) (by simp only[WP];unfold maxLen;omega) rfl ?_;intro o7 c7 w7 ho7 hf7 hr7 hn7;have hF7:aA nob W w7:=(hF2.trans (hf3.trans hf4)).WD hf7 hfo.step;have hfo7:Fr W.heap.size o7:=cU hfo hr7 (by have:=hF2.size;have:=hf3.size;have:=hf4.size;omega);refine Gz 5 ?_;refine S4 (β:=Nat) (fun k=>[(0,.slice lo ps.length lc),(1,.slice so s.length sc),(5,.slice o7 (ys++[(i:Int)]).length c7),(6,iV i),(7,.slice p.1.names.a p.2.names.length p.1.names.c),(8,iV k)]) (fun k w=>k≤ys.length∧Own i64 3 w.heap o7 c7 (stl ys i k)∧(∀ j,k≤j→j<ys.length→Xd (aU (nmG ps i)) (aU (nmG ps (ys.getD j 0).toNat))=true)∧aA nob W w) (fun k=>k) ys.length ⟨rfl,rfl,rfl,rfl,rfl,rfl,trivial⟩ ⟨WT _,by rw[Ld];exact ho7,fun j h1 h2=>by omega,hF7⟩ ?_;rintro k w8 ⟨hk,ho8,hj8,hF8⟩;refine fK 4 ?_ ?_<;>intro h43
   ·have hk0:0<k:=by omega
    obtain⟨z,hz⟩:∃ z,z=ys.getD (k-1) 0:=⟨_,rfl⟩
    have hzm:z∈ys:=by rw[hz];exact EM (by omega)
    obtain⟨zk,hze,hzi,hzq⟩:=dZ.1 (hyp.mem_iff.1 hzm);have hzl:0≤z∧z<ps.length:=by omega
    obtain⟨q,hq⟩:∃ q,ps[z.toNat]?=some q:=⟨_,WK (by omega)⟩
    have hv8:=hv.WG hF8;have hnq:=(hv8.2 q (WQ hq)).1;have hnp:=(hv8.2 p (WQ hp)).1;have hqk:iH q.2.names s:=by rw[hze,Xm] at hq;rw[kM hq] at hzq;exact hzq
    have hqe:q.2.names≠[]:=fun e=>by have:=hqk.1;rw[e] at this;simp at this
    have hpe2:p.2.names≠[]:=fun e=>by rw[e] at hpe;simp at hpe
    refine Gz 5 ?_;refine cW (SY aY rfl rfl (fun _=>ho8.vw.non (by rw[iS hk];omega)) (by simp only[WM,WP];omega)) ?_;refine cW (S3 (u:=iV z) (S2 aF rfl (ho8.vw.gz 0 (k-1) (by omega) (by rw[iS hk];omega))) (by rw[Fw hk (by omega),←hz];rfl)) ?_;refine cW (S1 aQ rfl rfl hv8.1.non (by omega)) ?_;refine Gz 1 ?_;refine cW (S3 (u:=.slice q.1.names.a q.2.names.length q.1.names.c) (S2 dW rfl (hv8.1.rowZ z.toNat (by omega) hq 0 _ rfl)) (by rw[←hnq.1];rfl)) ?_;refine Tb rfl rfl M7 rfl (F6 q.1.names.a q.1.names.c q.2.names w8 hnq.2.1 hqe) rfl ?_;rintro _ w9 ⟨rfl,hf9⟩;refine Gz 1 ?_;refine Tb rfl rfl M7 rfl (F6 p.1.names.a p.1.names.c p.2.names w9 (hnp.2.1.WG hf9) hpe2) rfl ?_;rintro _ wA ⟨rfl,hfA⟩;have hFA:=hF8.trans (hf9.trans hfA);have hoA:=(ho8.WG hf9).WG hfA;refine Tz rfl rfl (Tm (UA rfl rfl)) rfl (fun h57=>?_) (fun h57=>?_)
    ·rw[fT] at h57
     replace h57:Xd (aU (nmG ps i)) (aU (nmG ps z.toNat))=true:=by rw[hnm,kM hq];simpa using h57
     refine Gz 14 ?_;refine cL (SY aY rfl rfl (fun _=>hoA.vw.non (by rw[iS hk];omega)) (by simp only[WM,WP];omega)) ?_;refine cL (S3 (u:=iV z) (S2 aF rfl (hoA.vw.gz 0 (k-1) (by omega) (by rw[iS hk];omega))) (by rw[Fw hk (by omega),←hz];rfl)) ?_;refine cL (SY aY rfl rfl (fun _=>hoA.vw.non (by rw[iS hk];omega)) (by simp only[WM,WP];omega)) ?_;refine Tr dA aF (z:=(k:Int)) (u:=z) rfl rfl hoA (by rw[iS hk];omega) ?_;intro wB hoB hsB hfB;rw[Xm,hz,Ia hk hk0] at hoB;refine Gz 8 ?_;have hj9:∀ j,k-1≤j→j<ys.length→Xd (aU (nmG ps i)) (aU (nmG ps (ys.getD j 0).toNat))=true:=fun j h1 h2=>by
      by_cases e:j=k-1
      ·rw[e,←hz];exact h57
      ·exact hj8 j (by omega) h2
     exact Ti (k-1) ⟨rfl,rfl,rfl,rfl,rfl,congrArg (fun z:Int=>some (Value.int .i64 z)) (by omega),trivial⟩ ⟨by omega,hoB,hj9,hFA.WD hfB hfo7.step⟩ (by show k-1<k;omega)
    rw[fT] at h57
    replace h57:¬ Xd (aU (nmG ps i)) (aU (nmG ps z.toNat))=true:=by rw[hnm,kM hq];simpa using h57
    have hoX:=hoA;have hFX:=hFA;have hend:0<k→¬ Xd (aU (nmG ps i)) (aU (nmG ps (ys.getD (k-1) 0).toNat))=true:=fun _=>by rw[←hz];exact h57
    refine Gz 13 ?_;refine cL (SY aY rfl rfl (fun _=>hoX.vw.non (by rw[iS hk];omega)) (by simp only[WM,WP];omega)) ?_;refine Tr dA aF (z:=(k:Int)) (u:=(i:Int)) rfl rfl hoX (by rw[iS hk];omega) ?_;intro wC hoC hsC hfC;rw[Xm,Ei hk] at hoC;refine Gz 8 ?_;exact Ti ⟨i+1,o7,c7,ys.take k++(i:Int)::ys.drop k⟩ ⟨rfl,rfl,congrArg (fun n=>some (Value.slice o7 n c7)) (by simp;omega),rfl,trivial⟩ ⟨by omega,hoC,hfo7,(vI hyp hyw hk hkd hj8 hend).1,(vI hyp hyw hk hkd hj8 hend).2,hFX.WD hfC hfo7.step⟩ (by show ps.length-(i+1)<ps.length-i;omega)
   have hk0:k=0:=by omega
   have hoX:=ho8;have hFX:=hF8;have hend:0<k→¬ Xd (aU (nmG ps i)) (aU (nmG ps (ys.getD (k-1) 0).toNat))=true:=fun h=>by omega
   refine Gz 27 ?_;refine cL (SY aY rfl rfl (fun _=>hoX.vw.non (by rw[iS hk];omega)) (by simp only[WM,WP];omega)) ?_;refine Tr dA aF (z:=(k:Int)) (u:=(i:Int)) rfl rfl hoX (by rw[iS hk];omega) ?_;intro wC hoC hsC hfC;rw[Xm,Ei hk] at hoC;refine Gz 8 ?_;exact Ti ⟨i+1,o7,c7,ys.take k++(i:Int)::ys.drop k⟩ ⟨rfl,rfl,congrArg (fun n=>some (Value.slice o7 n c7)) (by simp;omega),rfl,trivial⟩ ⟨by omega,hoC,hfo7,(vI hyp hyw hk hkd hj8 hend).1,(vI hyp hyw hk hkd hj8 hend).2,hFX.WD hfC hfo7.step⟩ (by show ps.length-(i+1)<ps.length-i;omega)
  rw[WL h33];have hkd:¬ iH (nmG ps i) s:=by rw[hnm];exact fun h=>h33 h.2
  refine cW (Tj rfl) ?_;refine Gz 13 ?_;exact aG ⟨i+1,o,c,ys⟩ ⟨by omega,ho2.WG hf3,hfo,by rw[mN hkd];exact hyp,hyw,hF2.trans hf3⟩ (by show ps.length-(i+1)<ps.length-i;omega)
 have hie:i=ps.length:=by omega
 subst hie;refine Gz 16 ?_;exact⟨_,rfl,o,c,ys,rfl,ho2,hfo,⟨hyp,IM hyw⟩,hF2⟩
end
section
open Go Go.Proofs Go.Shelf
def Wt:Go.Shelf.Ren:=⟨fun|7=>64|10=>117|n=>n,fun|23=>126|26=>3|3=>4|28=>129|0=>0|27=>128|33=>142|4=>4|n=>n,fun|n=>n⟩
theorem Wu:Go.Proofs.SlLaysZI.n7 Tryz.prog Wt where
 mixed:=by kernel_rfl
 f7 := ⟨ "maps.Keys[map[int]bool,int,bool]", by decide, Tryz.func64.trans (congrArg some (by kernel_rfl))⟩
 f10 := ⟨ "maps.Keys[map[int]bool,int,bool]$1", by decide, Tryz.func117.trans (congrArg some (by kernel_rfl))⟩
 t0:=Tryz.underlying0
 a0:=Tryz.isAgg0
 z0:=Tryz.sizeOf0
 v0:=Tryz.zeroValue0
 t4:=Tryz.underlying4
 a4:=Tryz.isAgg4
 z4:=Tryz.sizeOf4
 v4:=Tryz.zeroValue4
 t23:=Tryz.underlying126
 a23:=Tryz.isAgg126
 z23:=Tryz.sizeOf126
 v23:=Tryz.zeroValue126
 t26:=Tryz.underlying3
 a26:=Tryz.isAgg3
 z26:=Tryz.sizeOf3
 v26:=Tryz.zeroValue3
 t27:=Tryz.underlying128
 a27:=Tryz.isAgg128
 z27:=Tryz.sizeOf128
 v27:=Tryz.zeroValue128
 t28:=Tryz.underlying129
 a28:=Tryz.isAgg129
 z28:=Tryz.sizeOf129
 v28:=Tryz.zeroValue129
 t33:=Tryz.underlying142
 a33:=Tryz.isAgg142
 z33:=Tryz.sizeOf142
 v33:=Tryz.zeroValue142
def Wv:Go.Shelf.Ren:=⟨fun|6=>63|8=>115|9=>116|11=>165|13=>113|12=>166|23=>162|24=>163|14=>202|15=>203|16=>204|17=>205|18=>206|19=>207|20=>122|21=>208|22=>209|25=>222|26=>198|27=>199|28=>223|29=>224|30=>173|31=>234|n=>n,fun|26=>3|28=>129|24=>31|0=>0|3=>3|37=>97|48=>39|50=>227|4=>4|40=>220|39=>219|45=>118|5=>5|9=>9|51=>252|55=>72|57=>273|58=>91|33=>142|n=>n,fun|n=>n⟩
theorem Ww:Go.Proofs.SlLaysZI.n6 Tryz.prog Wv where
 mixed:=by kernel_rfl
 f6 := ⟨ "slices.Sorted[int]", by decide, Tryz.func63.trans (congrArg some (by kernel_rfl))⟩
 f8 := ⟨ "slices.Collect[int]", by decide, Tryz.func115.trans (congrArg some (by kernel_rfl))⟩
 f11 := ⟨ "slices.AppendSeq[[]int,int]", by decide, Tryz.func165.trans (congrArg some (by kernel_rfl))⟩
 t0:=Tryz.underlying0
 a0:=Tryz.isAgg0
 z0:=Tryz.sizeOf0
 v0:=Tryz.zeroValue0
 t24:=Tryz.underlying31
 a24:=Tryz.isAgg31
 z24:=Tryz.sizeOf31
 v24:=Tryz.zeroValue31
 t26:=Tryz.underlying3
 a26:=Tryz.isAgg3
 z26:=Tryz.sizeOf3
 v26:=Tryz.zeroValue3
 t28:=Tryz.underlying129
 a28:=Tryz.isAgg129
 z28:=Tryz.sizeOf129
 v28:=Tryz.zeroValue129
 i26:=by kernel_rfl
def Wx:Go.Shelf.Ren:=⟨fun|5=>116|8=>113|7=>166|19=>162|20=>163|10=>202|11=>203|12=>204|13=>205|14=>206|15=>207|16=>122|17=>208|18=>209|30=>222|31=>198|32=>199|33=>223|34=>224|35=>173|40=>234|n=>n,fun|23=>31|25=>3|3=>3|32=>97|22=>31|0=>0|44=>39|46=>227|4=>4|36=>220|35=>219|41=>118|5=>5|9=>9|53=>252|57=>72|63=>273|64=>91|n=>n,fun|n=>n⟩
theorem Wy:Go.Proofs.SlLaysM.n5 Tryz.prog Wx where
 mixed:=by kernel_rfl
 f5 := ⟨ "slices.Sort[[]int,int]", by decide, Tryz.func116.trans (congrArg some (by kernel_rfl))⟩
 f7 := ⟨ "slices.pdqsortOrdered[int]", by decide, Tryz.func166.trans (congrArg some (by kernel_rfl))⟩
 f8:=Tryz.func113.trans (congrArg some (by kernel_rfl))
 f10 := ⟨ "slices.insertionSortOrdered[int]", by decide, Tryz.func202.trans (congrArg some (by kernel_rfl))⟩
 f11 := ⟨ "slices.heapSortOrdered[int]", by decide, Tryz.func203.trans (congrArg some (by kernel_rfl))⟩
 f12 := ⟨ "slices.breakPatternsOrdered[int]", by decide, Tryz.func204.trans (congrArg some (by kernel_rfl))⟩
 f13 := ⟨ "slices.choosePivotOrdered[int]", by decide, Tryz.func205.trans (congrArg some (by kernel_rfl))⟩
 f14 := ⟨ "slices.reverseRangeOrdered[int]", by decide, Tryz.func206.trans (congrArg some (by kernel_rfl))⟩
 f15 := ⟨ "slices.partialInsertionSortOrdered[int]", by decide, Tryz.func207.trans (congrArg some (by kernel_rfl))⟩
 f16 := ⟨ "cmp.Less[int]", by decide, Tryz.func122.trans (congrArg some (by kernel_rfl))⟩
 f17 := ⟨ "slices.partitionEqualOrdered[int]", by decide, Tryz.func208.trans (congrArg some (by kernel_rfl))⟩
 f18 := ⟨ "slices.partitionOrdered[int]", by decide, Tryz.func209.trans (congrArg some (by kernel_rfl))⟩
 f19:=Tryz.func162.trans (congrArg some (by kernel_rfl))
 f20:=Tryz.func163.trans (congrArg some (by kernel_rfl))
 f30 := ⟨ "slices.siftDownOrdered[int]", by decide, Tryz.func222.trans (congrArg some (by kernel_rfl))⟩
 f31:=Tryz.func198.trans (congrArg some (by kernel_rfl))
 f32:=Tryz.func199.trans (congrArg some (by kernel_rfl))
 f33 := ⟨ "slices.medianAdjacentOrdered[int]", by decide, Tryz.func223.trans (congrArg some (by kernel_rfl))⟩
 f34 := ⟨ "slices.medianOrdered[int]", by decide, Tryz.func224.trans (congrArg some (by kernel_rfl))⟩
 f35 := ⟨ "cmp.isNaN[int]", by decide, Tryz.func173.trans (congrArg some (by kernel_rfl))⟩
 f40 := ⟨ "slices.order2Ordered[int]", by decide, Tryz.func234.trans (congrArg some (by kernel_rfl))⟩
 t0:=Tryz.underlying0
 a0:=Tryz.isAgg0
 z0:=Tryz.sizeOf0
 v0:=Tryz.zeroValue0
 t3:=Tryz.underlying3
 a3:=Tryz.isAgg3
 z3:=Tryz.sizeOf3
 v3:=Tryz.zeroValue3
 t4:=Tryz.underlying4
 a4:=Tryz.isAgg4
 z4:=Tryz.sizeOf4
 v4:=Tryz.zeroValue4
 t5:=Tryz.underlying5
 a5:=Tryz.isAgg5
 z5:=Tryz.sizeOf5
 v5:=Tryz.zeroValue5
 t9:=Tryz.underlying9
 a9:=Tryz.isAgg9
 z9:=Tryz.sizeOf9
 v9:=Tryz.zeroValue9
 t22:=Tryz.underlying31
 a22:=Tryz.isAgg31
 z22:=Tryz.sizeOf31
 v22:=Tryz.zeroValue31
 t23:=Tryz.underlying31
 a23:=Tryz.isAgg31
 z23:=Tryz.sizeOf31
 v23:=Tryz.zeroValue31
 t25:=Tryz.underlying3
 a25:=Tryz.isAgg3
 z25:=Tryz.sizeOf3
 v25:=Tryz.zeroValue3
 t32:=Tryz.underlying97
 a32:=Tryz.isAgg97
 z32:=Tryz.sizeOf97
 v32:=Tryz.zeroValue97
 t35:=Tryz.underlying219
 a35:=Tryz.isAgg219
 z35:=Tryz.sizeOf219
 v35:=Tryz.zeroValue219
 t36:=Tryz.underlying220
 a36:=Tryz.isAgg220
 z36:=Tryz.sizeOf220
 v36:=Tryz.zeroValue220
 t41:=Tryz.underlying118
 a41:=Tryz.isAgg118
 z41:=Tryz.sizeOf118
 v41:=Tryz.zeroValue118
 t44:=Tryz.underlying39
 a44:=Tryz.isAgg39
 z44:=Tryz.sizeOf39
 v44:=Tryz.zeroValue39
 t46:=Tryz.underlying227
 a46:=Tryz.isAgg227
 z46:=Tryz.sizeOf227
 v46:=Tryz.zeroValue227
 t53:=Tryz.underlying252
 a53:=Tryz.isAgg252
 z53:=Tryz.sizeOf252
 v53:=Tryz.zeroValue252
 t57:=Tryz.underlying72
 a57:=Tryz.isAgg72
 z57:=Tryz.sizeOf72
 v57:=Tryz.zeroValue72
 t63:=Tryz.underlying273
 a63:=Tryz.isAgg273
 z63:=Tryz.sizeOf273
 v63:=Tryz.zeroValue273
 t64:=Tryz.underlying91
 a64:=Tryz.isAgg91
 z64:=Tryz.sizeOf91
 v64:=Tryz.zeroValue91
end
section
open Go Go.RowKit Go.Maps Go.Sort
theorem mpB:tW Tryz.prog 126 3 4 (.bool false):=⟨by kernel_rfl,z4⟩
theorem F8(a:I6):keyOf Tryz.prog 3 (enI a)=some (.int .i64 a.1):=by
 have h:(Lit.int .i64 a.1).wf=true:=by have:=a.2;simpa[Lit.wf,IntKind.min,IntKind.max,IntKind.signed,IntKind.bits] using this
 unfold keyOf;rw[show Tryz.prog.underlying 3=some (.int .i64) by kernel_rfl];simp[mapKey,show Tryz.prog.underlying 3=some (.int .i64) by kernel_rfl,enI,h]
theorem LD{g:Nat}{m:List (I6×Value)}{W:World}(hm:dM enI W.heap g m)(hb:∀ p∈m,p.2=.bool true)(hl:m.length≤maxLen) :
 ∃ D0:DataW Unit,W.ownsMap Tryz.prog 3 (plainElem Tryz.prog 4) g m.length D0∧Maps.size D0=m.length∧(intKeys D0).Perm (m.map (·.1.1)):=by
 have hrd:∀ x∈bQ enI m,∃ p∈m,x.key=enI p.1∧WideElems.rd (H:=Unit) Tryz.prog 3 (plainElem Tryz.prog 4) x=some (.int .i64 p.1.1,.lit (.bool true)):=fun x hx=>by
  obtain⟨p,hp,h1,h2⟩:=DE hx;refine⟨p,hp,h1,?_⟩;unfold WideElems.rd;rw[h1,F8,h2,hb p hp,plainElem_bool (show Tryz.prog.underlying 4=some .bool by kernel_rfl)];rfl
 have hborn:(bQ enI m).map (·.born)=XV m.length:=by
  apply XR;intro i;by_cases hi:i<m.length
  ·simp[bQ,hi]
  ·simp[bQ,hi]
 have hkey:(bQ enI m).map (·.key)=(m.map (·.1)).map enI:=by
  apply XR;intro i;by_cases hi:i<m.length
  ·simp[bQ,hi]
  ·simp[bQ,hi]
 have hrg:(bQ enI m).map (WideElems.rg (H:=Unit) Tryz.prog 3 (plainElem Tryz.prog 4))=m.map (fun p=>(Lit.int .i64 p.1.1,DataW.lit (.bool true))):=by
  apply XR;intro i;by_cases hi:i<m.length
  · have hx:(bQ enI m)[i]?=some ⟨enI m[i].1,m[i].2,i⟩:=by simp[bQ,hi]
    have:WideElems.rd (H:=Unit) Tryz.prog 3 (plainElem Tryz.prog 4) ⟨enI m[i].1,m[i].2,i⟩=some (.int .i64 m[i].1.1,.lit (.bool true)):=by
     unfold WideElems.rd;rw[F8,hb m[i] (XE hi),plainElem_bool (show Tryz.prog.underlying 4=some .bool by kernel_rfl)];rfl
    rw[Xv,hx,Xv,WK hi];simp[WideElems.rg,this]
  ·rw[Xy (by simp[bQ];omega),Xy (by simp;omega)]
 refine⟨.map (((bQ enI m).toArray.toList.map (WideElems.rg Tryz.prog 3 (plainElem Tryz.prog 4))).foldr DataW.insert []),⟨_,_,hm.1,⟨?_,⟨?_,?_,?_⟩,?_⟩,?_,rfl⟩,?_,?_⟩
 ·simp[bQ];exact hl
 · intro x hx
   have h1:x.born∈(bQ enI m).map (·.born):=Xq.2 ⟨x,by simpa using hx,rfl⟩;rw[hborn] at h1;exact Ys.1 h1
 · show ((bQ enI m).map (·.born)).Nodup
   rw[hborn];exact List.nodup_range
 · show ((bQ enI m).map (·.key)).Nodup
   rw[hkey];exact List.Pairwise.map _ (fun a b h e=>h (uU.inj a b e)) hm.2
 · intro x hx
   obtain⟨p,hp,_,h⟩:=hrd x (by simpa using hx);exact⟨_,h⟩
 ·simp[bQ]
 · show (((bQ enI m).map _).foldr DataW.insert []).length=_
   rw[(WideShapes.sorted_perm _).length_eq];simp[bQ]
 · show ((((bQ enI m).map _).foldr DataW.insert []).map fun p=>Go.intOf p.1).Perm _
   refine((WideShapes.sorted_perm _).map _).trans ?_;rw[hrg,YJ];exact List.Perm.refl _
theorem If(n:Nat):AnyZI.SortsIn Tryz.prog Wv Fence.wide n:=
 ⟨fun blk off cap ss W hH hblk hsz=>callsIn_wide.2 (AnyM.slices_Sort_int Wy blk off cap ss W hH hblk hsz),
  fun p cap W=>callsIn_wide.2 (AnyM.slices_Sort_int_none Wy p cap W)⟩
theorem LZ(mb:Option Nat)(W:World):CA 64 [.map mb] W fun v w'=>v=.func (.func 117) #[] #[pT W.heap.size]∧w'=W.alloc (.cells #[.map mb] 126):=by
 have h:CallsIn Fence.wide 5 Tryz.prog 64 #[.map mb] W fun e w'=>e=.returned (.func (.func 117) #[] #[pT W.heap.size])∧w'=W.alloc (.cells #[.map mb] 126):=AnyZI.keys_in Wu Fence.wide 5 trivial rfl mb W;refine(callsIn_wide.1 h).mono ?_;rintro e w' ⟨rfl,rfl⟩;exact⟨_,rfl,rfl,rfl⟩
theorem GB(g:Nat)(m:List (I6×Value))(W:World)(hm:dM enI W.heap g m)(hb:∀ p∈m,p.2=.bool true)(hl:m.length≤100000) :
 Calls Tryz.prog 63 [.func (.func 117) #[] #[pT W.heap.size]].toArray (W.alloc (.cells #[.map (some g)] 126))
  (Ret fun v w'=>∃ o c,v=.slice o ((m.map (·.1.1)).mergeSort leI).length c∧Own i64 3 w'.heap o c ((m.map (·.1.1)).mergeSort leI)∧Fr W.heap.size o∧aA nob W w'):=by
 obtain⟨D0,hown,hsz,hpm⟩:=LD hm hb (by unfold maxLen;omega);have hbl:=hm.obj;have hseq:SeqGives Fence.wide 2 Tryz.prog 117 #[pT W.heap.size] encZ (fun ss=>ss.Perm (intKeys D0)) (Maps.size D0) (W.alloc (.cells #[.map (some g)] 126)):=
  AnyZI.keys_gives (ρ:=Wt) { Wu with } Fence.wide _ trivial rfl (by omega) W.heap.size g m.length D0 _ (by simp) (by simp) (by
   obtain⟨es,clock,hb,Ft,hs,hD⟩:=hown;exact⟨es,clock,(Below.heap_alloc _ _ g hbl).trans hb,Ft,hs,hD⟩)
 have cS:=AnyZI.sorted_in Ww Fence.wide 5 trivial trivial trivial trivial rfl (by omega) (If _) (enters_of Tryz.func116 (by kernel_rfl) rfl) 117 #[pT W.heap.size] trivial (enters_of Tryz.func117 (by kernel_rfl) rfl) _ _ (by rw[hsz];unfold maxLen;omega) (by rw[hsz];omega) _ hseq;change CallsIn _ _ Tryz.prog 63 _ _ _ at cS;refine(callsIn_wide.1 cS).mono ?_;rintro e w' ⟨v,ss,rfl,hS,⟨hlen,hrow⟩,hnil,hbw⟩;have hF:aA nob W w':=(aA.alloc nob W _).trans ⟨hbw.os,hbw.tape,hbw.output,hbw.size,fun k hk _=>hbw.block k hk⟩;have hss:ss.mergeSort (fun x y=>decide (x≤y))=(m.map (·.1.1)).mergeSort leI:=mergeSort_of_perm_i (hS.trans hpm);have hsl:ss.length=((m.map (·.1.1)).mergeSort leI).length:=by rw[←hss,List.length_mergeSort]
 rw[hss] at hrow;rcases hrow with⟨rfl,h0⟩|⟨gb,cap,cur,rfl,hbase,hgb,r1,r2,r3,r4⟩
 · have hz:(m.map (·.1.1)).mergeSort leI=[]:=List.eq_nil_of_length_eq_zero (by omega)
   rw[hz];exact⟨_,rfl,none,0,rfl,V8,V6,hF⟩
 · refine⟨_,rfl,some ⟨gb,0,none⟩,cap,by rw[←hsl],.inr ⟨gb,cur,rfl,hgb,by omega,r2,by omega,?_⟩,fun a ha=>?_,hF⟩
   ·rw[Nat.mul_one,hsl] at r4;exact r4
   · cases ha
     have:W.heap.size+1≤gb:=by simpa using hbase
     show W.heap.size≤gb;omega
end
section
open Go Go.RowKit Go.Maps
theorem sX{α:Type}[DecidableEq α](a:α)(v:Value):∀ l:List (α×Value),(cX l a v).map (·.1)=if a∈l.map (·.1) then l.map (·.1) else l.map (·.1)++[a]
|[]=>by simp[cX]
|p::r=>by
   unfold cX;by_cases hp:p.1=a
   ·rw[WJ hp];simp[hp]
   · rw[WI hp]
     simp only[List.map_cons,sX a v r];by_cases hm:a∈r.map (·.1)
     ·rw[WJ hm,WJ (X3 _ hm)]
     ·rw[WI hm,WI (fun e=>by rcases Xo.1 e with e|e;exact hp e.symm;exact hm e)];rfl
theorem iN{α:Type}[DecidableEq α]{a x:α}{v:Value}{l:List (α×Value)}:x∈(cX l a v).map (·.1)↔x=a∨x∈l.map (·.1):=by
 rw[sX]
 split
 · rename_i h
   exact⟨.inr,fun hx=>hx.elim (fun e=>e ▸ h) id⟩
 ·rw[Xj,Xg];exact Or.comm
theorem CJ{α:Type}[DecidableEq α]{a:α}{v:Value}{l:List (α×Value)}:(cX l a v).length≤l.length+1:=by
 have h:=congrArg Xp (sX a v l);rw[W2] at h
 split at h<;>simp at h<;>omega
theorem sW{α:Type}[DecidableEq α]{a:α}{v:Value}:∀ {l:List (α×Value)},(∀ p∈l,p.2=v)→∀ p∈cX l a v,p.2=v
|[],_,p,hp=>by simp[cX] at hp;rw[hp]
|q::r,h,p,hp=>by
   unfold cX at hp
   split at hp
   · rcases Xo.1 hp with rfl|hp
     ·rfl
     ·exact h p (X3 _ hp)
   · rcases Xo.1 hp with rfl|hp
     ·exact h _ (List.mem_cons_self ..)
     ·exact sW (fun x hx=>h x (X3 _ hx)) p hp
def iP(ps:List (NdH×Nd)):List Int:=ps.flatMap fun p=>[p.2.ud,p.2.gd]
theorem G4(ps:List (NdH×Nd))(p:NdH×Nd):iP (ps++[p])=iP ps++[p.2.ud,p.2.gd]:=by simp[iP]
def mX(ps:List (NdH×Nd))(L:List Int):Prop:=L.Pairwise (· < ·)∧∀ z,z∈L↔z∈iP ps
theorem mX.eq{ps:List (NdH×Nd)}{A B:List Int}(h:mX ps A)(k:mX ps B):A=B:=by
 have hp:A.Perm B:=(List.perm_ext_iff_of_nodup (h.1.imp (fun h=>by omega)) (k.1.imp (fun h=>by omega))).2 (fun z=>(h.2 z).trans (k.2 z).symm);exact List.Perm.eq_of_pairwise (le:=(· < ·)) (fun a b _ _ h1 h2=>by omega) h.1 k.1 hp
theorem NU{ps:List (NdH×Nd)}{m:List (I6×Value)}(hn:(m.map (·.1)).Nodup)(hm:∀ z,z∈m.map (·.1.1)↔z∈iP ps):mX ps ((m.map (·.1.1)).mergeSort leI):=by
 have tr:∀ a b c:Int,leI a b=true→leI b c=true→leI a c=true:=fun a b c h1 h2=>by simp only[leI,decide_eq_true_eq] at *;exact Int.le_trans h1 h2
 have to:∀ a b:Int,(leI a b || leI b a)=true:=fun a b=>by simp only[leI,Yf,decide_eq_true_eq];exact Int.le_total a b
 have hnd:(m.map (·.1.1)).Nodup:=by
  have:m.map (·.1.1)=(m.map (·.1)).map (·.1):=by rw[YJ];rfl
  rw[this];exact List.Pairwise.map _ (fun a b h e=>h (Subtype.ext e)) hn
 have hp:=List.mergeSort_perm (m.map (·.1.1)) leI;refine⟨?_,fun z=>(hp.mem_iff).trans (hm z)⟩;have h1:=List.pairwise_mergeSort tr to (m.map (·.1.1));have h2:((m.map (·.1.1)).mergeSort leI).Nodup:=hp.nodup_iff.2 hnd;exact(h1.and h2).imp (fun⟨a,b⟩=>by simp only[leI,decide_eq_true_eq] at a;omega)
theorem tkP{ps:List (NdH×Nd)}{i:Nat}{p:NdH×Nd}(h:ps[i]?=some p):ps.take (i+1)=ps.take i++[p]:=by
 have hi:=(WN.1 h).1;rw[Xb hi,(WN.1 h).2]
theorem Nm{ps:List (NdH×Nd)}{i:Nat}{p:NdH×Nd}{m:List (I6×Value)}{v:Value}(hp:ps[i]?=some p)(hmem:∀ z,z∈m.map (·.1.1)↔z∈iP (ps.take i))(hu : -9223372036854775808≤p.2.ud∧p.2.ud≤9223372036854775807)(hg : -9223372036854775808≤p.2.gd∧p.2.gd≤9223372036854775807) :
 ∀ z,z∈(cX (cX m (⟨p.2.ud,hu⟩:I6) v) (⟨p.2.gd,hg⟩:I6) v).map (·.1.1)↔z∈iP (ps.take (i+1)):=by
 have e:∀ l:List (I6×Value),∀ z,z∈l.map (·.1.1)↔∃ a∈l.map (·.1),a.1=z:=fun l z=>by simp
 intro z;rw[tkP hp,G4,Xj,←hmem z,e,e];constructor
 · rintro⟨a,ha,rfl⟩
   rcases iN.1 ha with rfl|ha
   ·exact .inr (by simp)
   · rcases iN.1 ha with rfl|ha
     ·exact .inr (by simp)
     ·exact .inl ⟨a,ha,rfl⟩
 · rintro(⟨a,ha,rfl⟩|h)
   ·exact⟨a,iN.2 (.inr (iN.2 (.inr ha))),rfl⟩
   · simp only[Xo,XD,or_false] at h
     rcases h with rfl|rfl
     ·exact⟨⟨p.2.ud,hu⟩,iN.2 (.inr (iN.2 (.inl rfl))),rfl⟩
     ·exact⟨⟨p.2.gd,hg⟩,iN.2 (.inl rfl),rfl⟩
theorem NT(lo:Option Addr)(lc:Nat)(ps:List (NdH×Nd))(W:World)(hv:VwM 10 aE W.heap lo lc ps)(hok:∀ p∈ps,okN p.2)(hl:ps.length≤1000) :
 CA 20 [.slice lo ps.length lc] W fun v w'=>∃ o c L,v=.slice o (Xp (α:=Int) L) c∧Own i64 3 w'.heap o c L∧Fr W.heap.size o∧mX ps L∧aA nob W w':=by
 refine cS 25 [(0,_)] Tryz.func20 ?_;refine Gz 7 ?_;refine TN (enc:=enI) rfl ?_;intro w1 hm1 hs1 hf1;obtain⟨g,hg⟩:∃ g,g=W.heap.size:=⟨_,rfl⟩
 rw[←hg] at hm1 ⊢;refine Gz 12 ?_;refine S4 (β:=Nat×List (I6×Value)) (fun⟨i,m⟩=>[(3,.map (some g)),(7,.slice lo ps.length lc),(8,iV ps.length),(9,iV i)]) (fun⟨i,m⟩ w=>i≤ps.length∧dM enI w.heap g m∧(∀ p∈m,p.2=.bool true)∧(∀ z,z∈m.map (·.1.1)↔z∈iP (ps.take i))∧m.length≤2*i∧aA nob W w) (fun⟨i,m⟩=>ps.length-i) ⟨0,[]⟩ ⟨rfl,rfl,rfl,rfl,trivial⟩ ⟨WU _,hm1,by simp,by simp[iP],WU _,hf1⟩ ?_;rintro⟨i,m⟩ w2 ⟨hi,hm2,hmv,hmem,hml,hF2⟩;refine fK 2 ?_ ?_<;>intro h10
 ·have hil:i<ps.length:=by omega
  obtain⟨p,hp⟩:∃ p,ps[i]?=some p:=⟨_,WK hil⟩
  have hpo:=hok p (WQ hp);have hu:=hpo p.2.ud (by simp);have hgd:=hpo p.2.gd (by simp);have hv2:=hv.WH hF2 (fun _ _=>id);refine Gz 6 ?_;refine Tw (β:=List (I6×Value)) (fun m2=>[(3,.map (some g)),(7,.slice lo ps.length lc),(8,iV ps.length),(9,iV i)]) (fun m2 w=>dM enI w.heap g m2∧(∀ p∈m2,p.2=.bool true)∧(∀ z,z∈m2.map (·.1.1)↔z∈iP (ps.take (i+1)))∧m2.length≤2*(i+1)∧aA nob W w) ?_ ?_
  ·refine Gz 3 ?_;refine cL (S1 aQ rfl rfl hv2.non (by omega)) ?_;refine cL (Tf (cs:=aE p) aZ rfl (fun j v hj=>hv2.rowZ i rfl hp j v hj)) ?_;refine S5 eY rfl ?_;intro w3 hg3 hs3 hf3;obtain⟨q,hq⟩:∃ q,q=w2.heap.size:=⟨_,rfl⟩
   rw[←hq] at hg3 ⊢;have hm3:=hm2.WH hf3 id;have hgl:=hm2.obj;refine Te (vs:=aE p) aZ rfl rfl (aB p).2 hg3 rfl ?_;intro w4 hg4 hs4 hf4;have hm4:=hm3.WH hf4 (fun e=>by have e:g=q:=e;omega);have hF4:aA nob W w4:=(hF2.trans hf3).WD hf4 (fun k e=>.inr (by have e:k=q:=e;have:=hF2.size;omega));refine Gz 1 ?_;refine aW [(3,_),(5,_),(7,_),(8,_),(9,_),(10,_)] ?_;refine Gz 1 ?_;refine Tc 10 (fun H=>H[q]?=some (.cells (aE p).toArray 37 (0,0))) [8,9] [0,1,2,3,4,5,6,7,8,9] aI (by kernel_rfl) (hg4) ?_;refine Gz 3 ?_;refine xC rfl (S9 aF rfl (fun H hH=>show bD H ((⟨q,0,none⟩:Addr).add 4)=some (iV p.2.ud) from aD hH rfl)) ?_;refine Gz 3 ?_;refine xC rfl (S9 aF rfl (fun H hH=>show bD H ((⟨q,0,none⟩:Addr).add 5)=some (iV p.2.gd) from aD hH rfl)) ?_;refine S7 rfl rfl (TH mpB uU (a:=(⟨p.2.ud,hu⟩:I6)) rfl rfl rfl hm4 ?_);intro w5 hm5 hs5 hf5;have hf5:=hf5.WE;refine Tg (by exact hf5.obj hg4 (fun e=>by have e:q=g:=e;omega)) ?_;refine S7 rfl rfl (TH mpB uU (a:=(⟨p.2.gd,hgd⟩:I6)) rfl rfl rfl hm5 ?_);intro w6 hm6 hs6 hf6;have hF6:aA nob W w6:=(hF4.WD hf5 (fun k e=>.inr (by have e:k=g:=e;omega))).WD hf6 (fun k e=>.inr (by have e:k=g:=e;omega));refine Tg (by exact hf6.obj (hf5.obj hg4 (fun e=>by have e:q=g:=e;omega)) (fun e=>by have e:q=g:=e;omega)) ?_;refine Gz 2 ?_;exact aC _ ⟨hm6,sW (sW hmv),Nm hp hmem hu hgd,by have:=CJ (a:=(⟨p.2.ud,hu⟩:I6)) (v:=.bool true) (l:=m);have:=CJ (a:=(⟨p.2.gd,hgd⟩:I6)) (v:=.bool true) (l:=cX m (⟨p.2.ud,hu⟩:I6) (.bool true));omega,hF6⟩
  rintro m2 w9 ⟨hm9,hmv9,hmem9,hml9,hF9⟩;refine Gz 4 ?_;exact aG ⟨i+1,m2⟩ ⟨by omega,hm9,hmv9,hmem9,hml9,hF9⟩ (by show ps.length-(i+1)<ps.length-i;omega)
 have hie:i=ps.length:=by omega
 subst hie;rw[Xl] at hmem;refine cA 12 Sj (LZ (some g) w2) ?_;rintro _ w7 ⟨rfl,rfl⟩;refine SZ Sk rfl (GB g m w2 hm2 hmv (by omega)) rfl ?_;rintro _ w8 ⟨o8,c8,rfl,ho8,hfr8,hf8⟩;refine Gz 2 ?_;refine aW [(2,_),(3,_),(7,_),(8,_),(9,_),(10,_)] ?_;refine Gz 3 ?_;exact⟨_,rfl,o8,c8,_,rfl,ho8,by rw[hg];exact hfr8.mono hF2.size,NU hm2.2 hmem,hF2.trans hf8⟩
end
section
open Go Go.RowKit Go.Maps
theorem jB(x:Int):(i64 x).oneCell'=true:=rfl
theorem Lr(ao:Option Addr)(c:Nat)(L:List Int)(z:Int)(W:World)(hv:Vw i64 W.heap ao c L) :
 CA 83 [.slice ao L.length c,iV z] W fun v w'=>v=.bool (decide (z∈L))∧w'=W:=by
 have hl:=hv.WF;refine cS 18 [(0,_),(1,_)] Tryz.func83 ?_;refine Gz 12 ?_;refine S4 (β:=Nat) (fun i=>[(0,.slice ao L.length c),(1,iV z),(5,iV i)]) (fun i w=>i≤L.length∧(∀ j,j<i→L.getD j 0≠z)∧w=W) (fun i=>L.length-i) 0 ⟨rfl,rfl,rfl,trivial⟩ ⟨WU _,by intro j hj;omega,rfl⟩ ?_;rintro i w2 ⟨hi,hz,hw2⟩;subst hw2;refine fK 6 ?_ ?_<;>intro h9
 ·refine Gz 11 ?_;refine cL (SY aY rfl rfl hv.non (by omega)) ?_;refine cL (S2 aF rfl (hv.gz 0 i rfl (by omega))) ?_;refine fK 1 ?_ ?_<;>intro h17
  ·have hin:z∈L:=by have h17:L.getD i 0=z:=h17;rw[←h17,WW,WK (by omega)];exact XE _
   refine Gz 15 ?_;exact⟨_,rfl,congrArg Value.bool (WO hin).symm,rfl⟩
  have h17:¬ L.getD i 0=z:=h17;refine Gz 11 ?_;refine aG (i+1) ⟨by omega,?_,rfl⟩ (by show L.length-(i+1)<L.length-i;omega);intro j hj;by_cases hji:j=i
  ·rw[hji];exact h17
  ·exact hz j (by omega)
 refine Gz 15 ?_;have hno:z∉L:=by
  intro h;obtain⟨j,hj,e⟩:=XF h;exact hz j (by omega) (by rw[WW,WK hj];exact e)
 exact⟨_,rfl,congrArg Value.bool (WL hno).symm,rfl⟩
def fU(out:List Int)(v:Int)(k:Nat):List Int:=out.take k++v::out.drop k
theorem AM{out:List Int}{v:Int}{k:Nat}(h:k≤out.length):(fU out v k).length=out.length+1:=by unfold fU;simp;omega
theorem Hj(out:List Int)(v:Int):fU out v out.length=out++[v]:=by unfold fU;simp
theorem rP{out:List Int}{v:Int}{k i:Nat}(h:i<k)(hk:k≤out.length):(fU out v k).getD i 0=out.getD i 0:=by
 unfold fU;simp only[WW];rw[XC (by rw[WR];omega),Xr,WJ h]
theorem xZ{out:List Int}{v:Int}{j:Nat}(h:j<out.length):((fU out v (j+1)).set (j+1) (out.getD j 0)).set j v=fU out v j:=by
 have e1:out.take (j+1)=out.take j++[out.getD j 0]:=by rw[Xb h,WW,WK h];rfl
 have e2:out.drop j=out.getD j 0::out.drop (j+1):=by rw[XI h,WW,WK h];rfl
 have l1:(out.take j).length=j:=by rw[WR];omega
 unfold fU;rw[e1,e2,W9,YX _ _ (by omega),l1,show j+1-j=1 by omega];rw[YX _ _ (by omega),l1,Nat.sub_self];rfl
theorem AL{out:List Int}{v:Int}{k:Nat}{z:Int}:z∈fU out v k↔z=v∨z∈out:=by
 unfold fU;rw[Xj,Xo];constructor
 · rintro(h|rfl|h)
   ·exact .inr (XL h)
   ·exact .inl rfl
   ·exact .inr (List.mem_of_mem_drop h)
 · rintro(rfl|h)
   ·exact .inr (.inl rfl)
   · rw[←Xn k out] at h
     rcases Xj.1 h with h|h
     ·exact .inl h
     ·exact .inr (.inr h)
theorem rO{out:List Int}{v:Int}{k:Nat}(hs:out.Pairwise (· < ·))(hk:k≤out.length)(h1:∀ z∈out.drop k,v<z)(h2:0<k→out.getD (k-1) 0<v):(fU out v k).Pairwise (· < ·):=by
 have hlow:∀ z∈out.take k,z<v:=by
  intro z hz;obtain⟨i,hi,rfl⟩:=XF hz;rw[WR] at hi;have h3:=h2 (by omega);rw[List.getElem_take];by_cases e:i=k-1
  ·subst e;rw[WW,WK (by omega)] at h3;exact h3
  · have h4:=Xu.1 hs i (k-1) (by omega) (by omega) (by omega)
    rw[WW,WK (by omega)] at h3;have h3:out[k-1]<v:=h3;omega
 unfold fU;refine Yc.2 ⟨hs.sublist (List.take_sublist _ _),Yl.2 ⟨h1,hs.sublist (List.drop_sublist _ _)⟩,?_⟩;intro a ha b hb;have:=hlow a ha;rcases Xo.1 hb with rfl|hb
 ·exact this
 ·have:=h1 b hb;omega
theorem BG:∀ (ps:List (NdH×Nd)) (k:Nat) (p:NdH×Nd),ps[k]?=some p→(iP ps).getD (2*k) 0=p.2.ud∧(iP ps).getD (2*k+1) 0=p.2.gd
|[],k,p,h=>by simp at h
|q::r,0,p,h=>by simp at h;subst h;exact⟨rfl,rfl⟩
|q::r,k+1,p,h=>BG r k p (by simpa using h)
theorem qY:∀ (ps:List (NdH×Nd)),(iP ps).length=2*ps.length
|[]=>rfl
|q::r=>by have:=qY r;show (q.2.ud::q.2.gd::iP r).length=2*(r.length+1);simp only[W7];omega
theorem uO(a:Addr)(i j:Nat):(a.add i).add j=a.add (i+j):=Addr.add_add a i j
theorem qT(lo:Option Addr)(lc:Nat)(ps:List (NdH×Nd))(W:World)(hv:VwM 10 aE W.heap lo lc ps)(hl:ps.length≤1000) :
 CA 30 [.slice lo ps.length lc] W fun v w'=>∃ o c L,v=.slice o (Xp (α:=Int) L) c∧Own i64 3 w'.heap o c L∧Fr W.heap.size o∧mX ps L∧aA nob W w':=by
 have hzl:=qY ps;refine cS 71 [(0,_)] Tryz.func30 ?_;refine Gz 7 ?_;refine TF i64 aY rfl ?_;intro w1 ho1 hs1 hf1;refine Gz 10 ?_;refine S4 (β:=Nat×List Int×(Option Addr×Nat)) (fun⟨i,out,⟨oo,oc⟩⟩=>[(0,.slice lo ps.length lc),(3,.slice oo out.length oc),(4,iV i)]) (fun⟨i,out,⟨oo,oc⟩⟩ w=>i≤2*ps.length∧Own i64 3 w.heap oo oc out∧out.Pairwise (· < ·)∧(∀ z,z∈out↔z∈(iP ps).take i)∧out.length≤i∧Fr W.heap.size oo∧aA nob W w) (fun⟨i,out,⟨oo,oc⟩⟩=>2*ps.length-i) ⟨0,[],⟨some ⟨W.heap.size,0,none⟩,0⟩⟩ ⟨rfl,rfl,rfl,trivial⟩ ⟨WU _,ho1,List.Pairwise.nil,by simp,WT _,(fun a ha=>by cases ha;exact WT _),hf1⟩ ?_;rintro⟨i,out,⟨oo,oc⟩⟩ w2 ⟨hi,hoo,hso,hmem,hol,hfro,hF2⟩;refine Gz 6 ?_;refine cL (TL rfl rfl (by omega)) ?_;refine fK 0 ?_ ?_<;>intro h13
 ·have hi2:i<2*ps.length:=by omega
  obtain⟨p,hp⟩:∃ p,ps[i/2]?=some p:=⟨_,WK (by omega)⟩
  obtain⟨k1,k2⟩:=BG ps _ p hp;obtain⟨v,hvv⟩:∃ v,v=(iP ps).getD i 0:=⟨_,rfl⟩
  have hv2:=hv.WH hF2 (fun _ _=>id);have htk:(iP ps).take (i+1)=(iP ps).take i++[v]:=by rw[Xb (by omega),hvv,WW,WK (by omega)];rfl
  refine Gz 1 ?_;refine aW [(0,_),(3,_),(4,_),(13,_)] ?_;refine Gz 10 ?_;refine cL (S3 (u:=iV ((i/2:Nat):Int)) (Uy rfl rfl (by omega) (by decide)) (by congr 1)) ?_;refine cL (S1 aQ rfl rfl hv2.non (by omega)) ?_;refine Gz 2 ?_;refine cL (S2 aF rfl (by rw[uO];exact hv2.rowZ (i/2) rfl hp 4 _ rfl)) ?_;refine Gz 3 ?_;refine Tw (β:=Unit) (fun _u=>[(0,.slice lo ps.length lc),(3,.slice oo out.length oc),(4,iV i),(5,iV v)]) (fun _u w=>w=w2) ?_ ?_
  ·refine Gz 3 ?_;refine cL (T3 rfl rfl (by omega) (by decide)) ?_;refine fK 0 ?_ ?_<;>intro h25
   ·have hve:v=p.2.gd:=by rw[hvv,←k2];congr 1;omega
    refine Gz 6 ?_;refine cL (S3 (u:=iV ((i/2:Nat):Int)) (Uy rfl rfl (by omega) (by decide)) (by congr 1)) ?_;refine cL (S1 aQ rfl rfl hv2.non (by omega)) ?_;refine Gz 2 ?_;refine cL (S2 aF rfl (by rw[uO];exact hv2.rowZ (i/2) rfl hp 5 _ rfl)) ?_;refine Gz 2 ?_;exact TG () ⟨rfl,rfl,rfl,(by rw[hve];rfl),trivial⟩ rfl
   have hve:v=p.2.ud:=by rw[hvv,←k1];congr 1;omega
   refine Gz 4 ?_;exact TG () ⟨rfl,rfl,rfl,(by rw[hve];rfl),trivial⟩ rfl
  rintro _ wq hwq;obtain rfl:w2=wq:=hwq.symm;refine cA 4 R4 (Lr oo oc out v w2 hoo.vw) ?_;rintro _ wq ⟨rfl,hwq⟩;subst wq;by_cases h35:v∈out
  ·rw[WO h35];refine Gz 19 ?_;refine aG ⟨i+1,out,⟨oo,oc⟩⟩ ⟨by omega,hoo,hso,fun z=>?_,by omega,hfro,hF2⟩ (by show 2*ps.length-(i+1)<2*ps.length-i;omega);rw[htk,Xj,←hmem z,Xg];exact⟨.inl,fun h=>h.elim id (fun e=>by rw[e];exact h35)⟩
  rw[WL h35];refine Gz 16 ?_;refine TB (enc:=i64) (u:=v) aY (jB _) rfl rfl ?_;intro w3 ho3 hs3 hf3;refine S8 jB aY rfl rfl (hoo.WG hf3) ho3.vw (by simp only[WP];omega) (by simp only[WP];unfold maxLen;omega) rfl ?_;intro o4 c4 w4 ho4 hf4 hr4 hn4;have hz3:=hf3.size;have hfr4:Fr W.heap.size o4:=cH hfro hr4 (by have:=hF2.size;omega);have hF4:aA nob W w4:=(hF2.trans hf3).WD hf4 (fun k ⟨a,ha,e⟩=>.inr (by have:=hfro a ha;omega));rw[←Hj] at ho4 ⊢;have hil:=AM (out:=out) (v:=v) (WT _);refine Gz 12 ?_;refine S4 (β:=Nat) (fun k=>[(0,.slice lo ps.length lc),(3,.slice o4 (out.length+1) c4),(4,iV i),(5,iV v),(7,iV k)]) (fun k w=>k≤out.length∧Own i64 3 w.heap o4 c4 (fU out v k)∧(∀ z∈out.drop k,v<z)∧aA nob W w) (fun k=>k) out.length ⟨rfl,(by rw[hil];rfl),rfl,rfl,(congrArg (fun z:Int=>some (Value.int .i64 z)) (show (((fU out v out.length).length:Nat):Int)-1=(out.length:Nat) by omega)),trivial⟩ ⟨WT _,ho4,by simp,hF4⟩ ?_;rintro k w5 ⟨hk,ho5,hgtd,hF5⟩;have hil5:=AM (out:=out) (v:=v) hk;refine fK 4 ?_ ?_<;>intro h45
  ·have hk0:0<k:=by omega
   refine Gz 4 ?_;refine cW (SY aY rfl rfl (fun _=>ho5.vw.non (by rw[hil5];omega)) (by omega)) ?_;refine cW (S3 (u:=iV (out.getD (k-1) 0)) (S2 aF rfl (ho5.vw.gz 0 (k-1) (by omega) (by rw[hil5];omega))) (by rw[rP (by omega) hk];rfl)) ?_;refine fW 1 ?_ ?_<;>intro h53
   ·have hgt:v<out.getD (k-1) 0:=h53;refine Gz 15 ?_;refine cL (SY aY rfl rfl (fun _=>ho5.vw.non (by rw[hil5];omega)) (by omega)) ?_;refine cL (S3 (u:=iV (out.getD (k-1) 0)) (S2 aF rfl (ho5.vw.gz 0 (k-1) (by omega) (by rw[hil5];omega))) (by rw[rP (by omega) hk];rfl)) ?_;refine cL (SY aY rfl rfl (fun _=>ho5.vw.non (by rw[hil5];omega)) (by omega)) ?_;refine Tr jB aF (z:=(k:Int)) (u:=out.getD (k-1) 0) rfl rfl ho5 (by rw[hil5];omega) ?_;intro w6 ho6 hs6 hf6;rw[Xm] at ho6;refine Gz 7 ?_;refine cL (SY aY rfl rfl (fun _=>ho5.vw.non (by rw[hil5];omega)) (by omega)) ?_;refine Tr jB aF (z:=((k-1:Nat):Int)) (u:=v) (by show evL _ _=_;rw[show (((k-1:Nat):Int))=(k:Int)-1 by omega];rfl) rfl ho6 (by rw[XH,hil5];omega) ?_;intro w7 ho7 hs7 hf7;rw[Xm] at ho7;obtain⟨j,hj⟩:∃ j,k=j+1:=⟨k-1,by omega⟩
    subst hj;rw[Yj,xZ (by omega)] at ho7;have hl67:(((fU out v (j+1)).set (j+1) (out.getD (j+1-1) 0)).set (j+1-1) v).length=(fU out v j).length:=by rw[Yj,xZ (by omega)]
    refine Gz 8 ?_;refine Ti j ⟨rfl,rfl,rfl,rfl,congrArg (fun z:Int=>some (Value.int .i64 z)) (show ((j+1:Nat):Int)-1=(j:Nat) by omega),trivial⟩ ⟨by omega,ho7,fun z hz=>?_,(hF5.WD hf6 (fun k ⟨a,ha,e⟩=>.inr (by have:=hfr4 a ha;omega))).WD hf7 (fun k ⟨a,ha,e⟩=>.inr (by have:=hfr4 a ha;omega))⟩ (by show j<j+1;omega);rw[XI (by omega)] at hz;rcases Xo.1 hz with rfl|hz
    ·rw[Yj,WW,WK (by omega)] at hgt;exact hgt
    ·exact hgtd z hz
   have hle:¬ v<out.getD (k-1) 0:=h53;refine Gz 15 ?_;have hne:∀ z∈out,z≠v:=fun z hz e=>h35 (e ▸ hz);have hsn:(fU out v k).Pairwise (· < ·):=rO hso hk hgtd (fun h0=>by
    have hm:out.getD (k-1) 0∈out:=by rw[WW,WK (by omega)];exact XE _
    have:=hne _ hm;omega)
   refine Ti ⟨i+1,fU out v k,⟨o4,c4⟩⟩ ⟨rfl,(by rw[hil5];rfl),rfl,trivial⟩ ⟨by omega,ho5,hsn,fun z=>?_,by rw[hil5];omega,hfr4,hF5⟩ (by show 2*ps.length-(i+1)<2*ps.length-i;omega);rw[htk,Xj,←hmem z,Xg,AL];exact Or.comm
  have hk0:k=0:=by omega
  refine Gz 23 ?_;have hne:∀ z∈out,z≠v:=fun z hz e=>h35 (e ▸ hz);have hsn:(fU out v k).Pairwise (· < ·):=rO hso hk hgtd (fun h0=>by
   exact absurd hk0 (by omega))
  refine Ti ⟨i+1,fU out v k,⟨o4,c4⟩⟩ ⟨rfl,(by rw[hil5];rfl),rfl,trivial⟩ ⟨by omega,ho5,hsn,fun z=>?_,by rw[hil5];omega,hfr4,hF5⟩ (by show 2*ps.length-(i+1)<2*ps.length-i;omega);rw[htk,Xj,←hmem z,Xg,AL];exact Or.comm
 have hie:i=2*ps.length:=by omega
 subst hie;rw[WY (by omega)] at hmem;refine Gz 1 ?_;refine aW [(0,_),(3,_),(4,_),(13,_)] ?_;refine Gz 15 ?_;exact⟨_,rfl,oo,oc,out,rfl,hoo,hfro,⟨hso,hmem⟩,hF2⟩
end
def cM(F:Nat→Int):List Value:=[iV (F 0),iV (F 1),iV (F 2),iV (F 3),iV (F 4),iV (F 5),iV (F 6),iV (F 7),iV (F 8),iV (F 9)]
theorem fR(F:Nat→Int):∀ v∈cM F,v.oneCell'=true:=by
 intro v hv;simp only[cM,Xo,XD,or_false] at hv;rcases hv with rfl|rfl|rfl|rfl|rfl|rfl|rfl|rfl|rfl|rfl<;>rfl
def cT(F:Nat→Int):List Int:=[64,F 2,F 3,F 4,F 5,F 6,F 0,1048576]
def Ah(F:Nat→Int):Prop:=64≤F 2∧F 2≤F 3∧F 3≤F 4∧F 4≤F 5∧F 5≤F 6∧F 6≤F 0∧F 0≤1048576
def gH(F:Nat→Int):Prop:=Ah F∧1≤F 1∧F 1≤1024∧1≤F 7∧F 7≤2048∧0≤F 8∧F 8≤1024∧0≤F 9∧F 9≤4294967295
instance (F:Nat→Int):Decidable (gH F):=by unfold gH Ah;infer_instance
theorem qP{F:Nat→Int}:Ah F↔∀ i,i+1<8→(cT F).getD i 0≤(cT F).getD (i+1) 0:=by
 constructor
 · rintro⟨a,b,c,d,e,f,g⟩ i hi
   match i,hi with
  |0,_=>exact a
  |1,_=>exact b
  |2,_=>exact c
  |3,_=>exact d
  |4,_=>exact e
  |5,_=>exact f
  |6,_=>exact g
 · intro h
   exact⟨h 0 (by decide),h 1 (by decide),h 2 (by decide),h 3 (by decide),h 4 (by decide),h 5 (by decide),h 6 (by decide)⟩
theorem Er(F:Nat→Int)(W:World) :
 CA 141 [.agg (cM F).toArray] W fun v w'=>∃ o,v=.slice o (cT F).length 8∧Own i64 3 w'.heap o 8 (cT F)∧Fr W.heap.size o∧aA nob W w':=by
 refine cS 16 [(0,_)] Tryz.func141 ?_;refine Gz 2 ?_;refine To rfl rfl ?_;intro w1 hg1 hs1 hf1;have hg1:w1.heap[W.heap.size]?=some (.cells (cM F).toArray 44 (0,0)):=hg1;refine Gz 17 ?_;refine Tu aY (cs:=((cT F).map i64).toArray) zc3 rfl rfl rfl (by kernel_rfl) rfl ?_;intro w2 hg2 hs2 hf2;refine Gz 5 ?_;exact⟨_,rfl,some ⟨w1.heap.size,0,none⟩,rfl,iB (xs:=cT F) hg2 (by show 8≤maxLen;decide),fun a ha=>by cases ha;exact hf1.size,hf1.trans hf2⟩
theorem Iv(F:Nat→Int)(W:World) :
 CA 94 [.agg (cM F).toArray] W fun v w'=>v=.bool (decide (gH F))∧aA nob W w':=by
 have hl8:(cT F).length=8:=rfl;refine cS 61 [(0,_)] Tryz.func94 ?_;refine Gz 2 ?_;refine To rfl rfl ?_;intro w1 hg1 hs1 hf1;have hg1:w1.heap[W.heap.size]?=some (.cells (cM F).toArray 44 (0,0)):=hg1;obtain⟨g,eg⟩:∃ g,g=W.heap.size:=⟨_,rfl⟩
 rw[←eg] at hg1 ⊢;refine Gz 5 ?_;refine cL (Tf (cs:=cM F) dT rfl (bI hg1 0 rfl)) ?_;refine cA 0 PI (Er F w1) ?_;rintro _ w2 ⟨o,rfl,ho,hfo,hf2⟩;have hv:=ho.vw;have hF2:=hf1.trans hf2;refine Gz 10 ?_;refine S4 (β:=Nat) (fun i=>[(1,pT g),(3,.slice o (cT F).length 8),(4,iV i)]) (fun i w=>1≤i∧i≤8∧(∀ j,1≤j→j<i→(cT F).getD (j-1) 0≤(cT F).getD j 0)∧aA nob w2 w) (fun i=>8-i) 1 ⟨rfl,rfl,rfl,trivial⟩ ⟨WT _,by decide,fun j h1 h2=>by omega,VZ _ _⟩ ?_;rintro i w3 ⟨hi1,hi8,hsm,hF3⟩;refine fK 6 ?_ ?_<;>intro h10
 ·have hil:i<8:=by omega
  refine Gz 8 ?_;refine Tk 10 [0,1,2,3,4,5,6,7,8,9] aI (by kernel_rfl) ?_;refine Gz 2 ?_;refine xC rfl (SY aY rfl rfl (hv.WG hF3).non (by omega)) ?_;refine xC rfl (S3 (u:=iV ((cT F).getD i 0)) (S2 aF rfl ((hv.WG hF3).gz 0 i rfl (by omega))) rfl) ?_;refine Gz 2 ?_;refine xC rfl (S3 (u:=iV ((i-1:Nat):Int)) (TV rfl rfl (by omega)) (by congr 1;omega)) ?_;refine xC rfl (SY aY rfl rfl (hv.WG hF3).non (by omega)) ?_;refine xC rfl (S3 (u:=iV ((cT F).getD (i-1) 0)) (S2 aF rfl ((hv.WG hF3).gz 0 (i-1) rfl (by omega))) rfl) ?_;refine xK 0 ?_ ?_<;>intro h22
  ·refine Gz 15 ?_;exact⟨_,rfl,by rw[WL (fun h=>by have:=qP.1 h.1 (i-1) (by omega);rw[Nat.sub_add_cancel hi1] at this;omega)],hF2.trans (hF3.draws 1)⟩
  refine Gz 11 ?_;refine aG (i+1) ⟨by omega,by omega,fun j h1 h2=>?_,hF3.draws 1⟩ (by show 8-(i+1)<8-i;omega);by_cases e:j=i
  ·subst e;omega
  ·exact hsm j h1 (by omega)
 have hso:Ah F:=qP.2 (fun j hj=>hsm (j+1) (by omega) (by omega));have hgF:=(hf2.trans hF3).obj hg1 id;refine fK 12 ?_ ?_<;>intro h25
 ·refine fW 3 ?_ ?_<;>intro h29
  ·refine fW 4 ?_ ?_<;>intro h34
   ·refine fW 4 ?_ ?_<;>intro h39
    ·refine fW 4 ?_ ?_<;>intro h44
     ·refine fW 4 ?_ ?_<;>intro h49
      ·refine fW 4 ?_ ?_<;>intro h54
       ·refine fW 4 ?_ ?_<;>intro h59
        ·refine Gz 6 ?_;exact⟨_,rfl,by rw[WO ⟨hso,by omega,by omega,by omega,by omega,by omega,by omega,by omega,by omega⟩],hF2.trans hF3⟩
        refine Gz 6 ?_;exact⟨_,rfl,by rw[WL (fun h=>by unfold gH at h;omega)],hF2.trans hF3⟩
       refine Gz 11 ?_;exact⟨_,rfl,by rw[WL (fun h=>by unfold gH at h;omega)],hF2.trans hF3⟩
      refine Gz 16 ?_;exact⟨_,rfl,by rw[WL (fun h=>by unfold gH at h;omega)],hF2.trans hF3⟩
     refine Gz 21 ?_;exact⟨_,rfl,by rw[WL (fun h=>by unfold gH at h;omega)],hF2.trans hF3⟩
    refine Gz 26 ?_;exact⟨_,rfl,by rw[WL (fun h=>by unfold gH at h;omega)],hF2.trans hF3⟩
   refine Gz 31 ?_;exact⟨_,rfl,by rw[WL (fun h=>by unfold gH at h;omega)],hF2.trans hF3⟩
  refine Gz 36 ?_;exact⟨_,rfl,by rw[WL (fun h=>by unfold gH at h;omega)],hF2.trans hF3⟩
 refine Gz 40 ?_;exact⟨_,rfl,by rw[WL (fun h=>by unfold gH at h;omega)],hF2.trans hF3⟩
def suL:List Fd:=[⟨0,0,4,0⟩,⟨0,2,4,0⟩,⟨0,3,4,0⟩,⟨0,4,4,0⟩,⟨0,5,4,0⟩,⟨0,6,4,0⟩,⟨0,9,4,0⟩,⟨0,1,2,0⟩,⟨0,7,2,0⟩,⟨0,8,2,0⟩]
def suM:By:=[76,77,76,65]
def zF:Nat→Int:=fun _=>0
def suQ(ys:By):Rd×(Nat→Int):=suL.foldl gF ((0,ys),zF)
def suH(F:Nat→Int):By:=suM++jC F suL
def suB(F:Nat→Int):By:=suH F++(le (gD (suH F):Nat) 4++Xe 22 0)
def eU(F:Nat→Int):By×Int:=if gH F then (suB F,0) else ([],1)
def suF(im:By):Nat→Int:=(suQ ((im.take 64).drop 4)).2
def kS(im:By):Prop:=64≤im.length∧gH (suF im)∧im.take 64=suB (suF im)∧suF im 0=im.length
instance (im:By):Decidable (kS im):=by unfold kS;infer_instance
def fA(im:By):(Nat→Int)×Int:=if kS im then (suF im,0) else (zF,2)
theorem Ow:∀ x∈suL,1≤x.b∧x.b≤4:=by decide
theorem Nn:(suL.map (·.o)).Nodup:=by decide
theorem K9:Ef suL=34:=rfl
theorem qN(F:Nat→Int):(suH F).length=38:=by unfold suH;rw[WM,nY];rfl
theorem qO(F:Nat→Int):(suB F).length=64:=by unfold suB;rw[WM,WM,qN,bB,Xt]
theorem Fu{ys:By}(h:34≤ys.length):(suQ ys).1.1=0∧ys=jC (suQ ys).2 suL++(suQ ys).1.2∧(suQ ys).1.2=ys.drop 34:=by
 obtain⟨_,_,i3,i4⟩:=Ge suL ((0,ys),zF) Ow Nn;have h0:(suQ ys).1.1=0:=WV fun hc=>by
  have:=i4 rfl hc;rw[K9] at this;have:ys.length<34:=this;omega
 have h3:ys=jC (suQ ys).2 suL++(suQ ys).1.2:=i3 h0;refine⟨h0,h3,?_⟩;have hl:(jC (suQ ys).2 suL).length=34:=by rw[nY];rfl
 have:=congrArg (List.drop 34) h3;rw[Yx hl] at this;exact this.symm
theorem Cy{im:By}(h:64≤im.length):im.take 64=suB (suF im) ↔
 im.take 4=suM∧gD (im.take 38)=dC ((im.drop 38).take 4)∧(im.take 64).drop 42=Xe 22 0:=by
 have hl:((im.take 64).drop 4).length=60:=by rw[WX,WR];omega
 obtain⟨h0,h1,h2⟩:=Fu (ys:=(im.take 64).drop 4) (by omega);have e4:im.take 64=im.take 4++(im.take 64).drop 4:=by
  have:=Xn 4 (im.take 64);rw[Yk] at this;exact this.symm
 have e38:im.take 38=im.take 4++jC (suF im) suL:=by
  have h3:=congrArg (List.take 34) h1;have hle:(jC (suQ ((im.take 64).drop 4)).2 suL).length=34:=by rw[nY];rfl
  rw[YP hle] at h3;show _=_++jC (suQ ((im.take 64).drop 4)).2 suL;rw[←h3,Zd,Yk];have:=Xn 4 (im.take 38);rw[Yk] at this;exact this.symm
 have e26:(suQ ((im.take 64).drop 4)).1.2=(im.take 64).drop 38:=by rw[h2,YG]
 have eall:im.take 64=(im.take 4++jC (suF im) suL)++(im.take 64).drop 38:=by
  rw[←e38];have:=Xn 38 (im.take 64);rw[Yk] at this;exact this.symm
 have e42:(im.take 64).drop 38=(im.drop 38).take 4++(im.take 64).drop 42:=by
  have h3:=Xn 4 ((im.take 64).drop 38);rw[YG,Zd,Yk] at h3;rw[Zd];exact h3.symm
 have hr4:((im.drop 38).take 4).length=4:=by rw[WR,WX];omega
 constructor
 · intro he
   unfold suB suH at he;rw[eall] at he;have hi1:=append_inj he (by rw[WM,WM,WR];show min 4 _+_=4+_;omega);have hi2:=append_inj hi1.1 (by rw[WR];show min 4 _=4;omega);rw[e42] at hi1;have hi3:=append_inj hi1.2 (by rw[hr4,bB]);refine⟨hi2.1,?_,hi3.2⟩;rw[e38,hi2.1,hi3.1];have:=Bl 4 (gD (suH (suF im)):Nat) (Yv _) (by have:=mG (suH (suF im));show ((gD _:Nat):Int)<256 ^ 4;omega);show gD (suH (suF im))=_;have h5:((dC (le (gD (suH (suF im)):Nat) 4):Nat):Int)=((gD (suH (suF im)):Nat):Int):=this;show gD (suH (suF im))=dC (le (gD (suH (suF im)):Nat) 4);omega
 · rintro⟨a,b,c⟩
   unfold suB;rw[eall,e42,c];have e5:im.take 4++jC (suF im) suL=suH (suF im):=by rw[a];rfl
   rw[e5];congr 2;have h5:gD (suH (suF im))=dC ((im.drop 38).take 4):=by rw[←e5,←e38];exact b
   rw[h5];have:=BP ((im.drop 38).take 4);rw[hr4] at this;exact this.symm
theorem D2{b:By}{n:Nat}(hl:b.length=n):b=Xe n 0↔∀ c∈b,c=0:=by
 rw[List.eq_replicate_iff];exact⟨fun h=>h.2,fun h=>⟨hl,h⟩⟩
abbrev Ent:=By×Int×Int
def yG:Ent:=([],0,0)
def nE(x:Ent):List Value:=[.string (bs x.1),iV x.2.1,iV x.2.2]
theorem dQ:iF 3 nE:=fun x=>⟨rfl,by simp[nE,Value.oneCell']⟩
def jI(x:Ent)(last:By):Prop:=dN x.1=0∧Xd last x.1=true∧1≤x.2.1∧x.2.1≤3∧0≤x.2.2∧x.2.2≤4294967295
instance (x:Ent)(last:By):Decidable (jI x last):=by unfold jI;infer_instance
def lG(x:Ent):By:=(W4 x.1.length::x.1)++(le x.2.1 1++le x.2.2 4)
def bK(L:List Ent):By:=L.flatMap lG
def BB(s:Rd):Ent:=(gTx s,gV 1 (kV s),gV 4 (gS 1 (kV s)))
def zK(s:Rd):Rd:=gS 4 (gS 1 (kV s))
def bM:By→List Ent→Prop
|_,[]=>True
|last,x::r=>jI x last∧bM x.1 r
def xQ(l:List Ent):By:=(l.getLast?.getD yG).1
def dtP:Nat→By→By→Option (List Ent)
|0,_,_=>none
|n+1,last,ys=>if ys=[] then some [] else if (zK (0,ys)).1=0∧jI (BB (0,ys)) last then (dtP n (BB (0,ys)).1 (zK (0,ys)).2).map (BB (0,ys) :: ·) else none
def Ob(b:By):List Ent×Int:=match dtP (b.length+1) [] b with
|some L=>(L,0)
|none=>([],2)
def Md(x:Ent):Prop:=x.1.length≤255∧0≤x.2.1∧x.2.1<256∧0≤x.2.2∧x.2.2≤4294967295
theorem lS{x:Ent}{last:By}(h:jI x last):Md x:=⟨(jM h.1).1,by have:=h.2.2.1;omega,by have:=h.2.2.2.1;omega,h.2.2.2.2.1,h.2.2.2.2.2⟩
theorem NZ{t rest:By}(h:t.length≤255):gTx (0,(W4 t.length::t)++rest)=t∧kV (0,(W4 t.length::t)++rest)=(0,rest):=by
 have e0:dH 0 1=0:=by decide
 have l1:(0:Int)<((W4 t.length::t)++rest).length:=by simp only[WM,W7];omega
 have e1:eJ 0 ((W4 t.length::t)++rest) 1=0:=by rw[kB (by decide) (by omega)]
 obtain⟨c1,c2⟩:=gQ e1;have eE:tE 0 ((W4 t.length::t)++rest)=0:=by unfold tE;rw[e0,e1]
 have eR:tR 0 ((W4 t.length::t)++rest)=t++rest:=by unfold tR;rw[e0,c2];rfl
 have eN:tN 0 ((W4 t.length::t)++rest)=(t.length:Int):=by
  unfold tN;rw[e0,c1];show ((W4 t.length).toNat+256*0:Nat)=(t.length:Int)
  rw[UInt8.toNat_ofNat'];omega
 have e2:eJ 0 (t++rest) (t.length:Int)=0:=by rw[kB (by omega) (by rw[WM];omega)]
 obtain⟨c3,c4⟩:=gQ e2;unfold gTx kV;show jE (tE 0 _) (tR 0 _) (tN 0 _)=t∧(eJ (tE 0 _) (tR 0 _) (tN 0 _),sH (tE 0 _) (tR 0 _) (tN 0 _))=(0,rest)
 rw[eE,eR,eN,c3,e2,c4];exact⟨YP rfl,by rw[Xm,Yx rfl]⟩
theorem JA{s:Rd}(h:s.1≠0):(kV s).1≠0:=by
 unfold kV;have h1:tE s.1 s.2≠0:=Gc (n:=1) h;show eJ _ _ _≠0;rw[tP h1];exact h1
theorem L5{s:Rd}(h:(kV s).1=0):s.1=0∧s.2=(W4 (gTx s).length::gTx s)++(kV s).2∧(gTx s).length≤255:=by
 have h0:s.1=0:=WV fun hc=>JA hc h;obtain⟨E,ys⟩:=s;obtain rfl:E=0:=h0;have e0:dH 0 1=0:=by decide
 have hz:tE 0 ys=0:=WV fun hc=>by
  have:(kV (0,ys)).1=eJ (tE 0 ys) (tR 0 ys) (tN 0 ys):=rfl;rw[this,tP hc] at h;exact hc h
 have hz1:eJ 0 ys 1=0:=by unfold tE at hz;rw[e0] at hz;exact hz
 obtain⟨_,_,hl⟩:=oR hz1;obtain⟨c1,c2⟩:=gQ hz1;obtain⟨d,t,rfl⟩:∃ d t,ys=d::t:=by cases ys with|nil=>(simp at hl)|cons d t=>exact⟨d,t,rfl⟩
 have etR:tR 0 (d::t)=t:=by unfold tR;rw[e0,c2];rfl
 have etN:tN 0 (d::t)=(d.toNat:Int):=by unfold tN;rw[e0,c1];show ((d.toNat+256*0:Nat):Int)=_;omega
 have h2:eJ 0 t (d.toNat:Int)=0:=by
  have:(kV (0,d::t)).1=eJ (tE 0 (d::t)) (tR 0 (d::t)) (tN 0 (d::t)):=rfl;rw[this,hz,etR,etN] at h;exact h
 obtain⟨_,_,hl2⟩:=oR h2;obtain⟨c3,c4⟩:=gQ h2;have eT:gTx (0,d::t)=t.take d.toNat:=by unfold gTx;rw[hz,etR,etN,c3];rfl
 have eS:kV (0,d::t)=(0,t.drop d.toNat):=by unfold kV;rw[hz,etR,etN,h2,c4];rfl
 have hd:=UInt8.toNat_lt d;have hlen:(t.take d.toNat).length=d.toNat:=by rw[WR];omega
 refine⟨rfl,?_,by rw[eT,hlen];omega⟩;rw[eT,eS,hlen];show d::t=(W4 d.toNat::t.take d.toNat)++t.drop d.toNat;rw[UInt8.ofNat_toNat,XA,Xn]
theorem NY{n:Nat}{x:Int}(h1:1≤n)(h4:n≤4)(h0:0≤x)(hx:x<256 ^ n)(rest:By):gV n (0,le x n++rest)=x∧gS n (0,le x n++rest)=(0,rest):=by
 have hl:(le x n).length=n:=bB _ _;obtain⟨a,b⟩:=yA (n:=(n:Int)) (s:=(0,le x n++rest)) (by omega) (by omega) rfl (by show (n:Int)≤(le x n++rest).length;rw[WM,hl];omega);rw[a,b];show ((dC ((le x n++rest).take (n:Int).toNat):Nat):Int)=x∧(0,(le x n++rest).drop (n:Int).toNat)=(0,rest)
 rw[show ((n:Int).toNat)=n by omega,YP hl,Yx hl];exact⟨Bl n x h0 hx,rfl⟩
theorem MU{n:Nat}{s:Rd}(h1:1≤n)(h4:n≤4)(h:(gS n s).1=0):s.1=0∧s.2=le (gV n s) n++(gS n s).2:=by
 have h0:s.1=0:=WV fun hc=>Gc hc h;have hl:(n:Int)≤s.2.length:=WV fun hc=>Gb (by omega) (by omega) h0 (by omega) h;obtain⟨a,b⟩:=yA (n:=(n:Int)) (s:=s) (by omega) (by omega) h0 hl;rw[a,b];refine⟨h0,?_⟩;show s.2=le ((dC (s.2.take (n:Int).toNat):Nat):Int) n++s.2.drop (n:Int).toNat;rw[show ((n:Int).toNat)=n by omega,F4 (by omega),Xn]
theorem IK{x:Ent}(h:Md x)(rest:By):BB (0,lG x++rest)=x∧zK (0,lG x++rest)=(0,rest):=by
 obtain⟨h1,h2,h3,h4,h5⟩:=h;obtain⟨a,b⟩:=NZ (t:=x.1) (rest:=le x.2.1 1++(le x.2.2 4++rest)) h1;obtain⟨c,d⟩:=NY (n:=1) (x:=x.2.1) (by decide) (by decide) h2 (by show x.2.1<256;exact h3) (le x.2.2 4++rest);obtain⟨e,f⟩:=NY (n:=4) (x:=x.2.2) (by decide) (by decide) h4 (by show x.2.2<256 ^ 4;omega) rest;have he:lG x++rest=(W4 x.1.length::x.1)++(le x.2.1 1++(le x.2.2 4++rest)):=by unfold lG;simp only[W9]
 rw[he];unfold BB zK;rw[a,b];have d':gS 1 (0,le x.2.1 1++(le x.2.2 4++rest))=(0,le x.2.2 4++rest):=d;have c':gV 1 (0,le x.2.1 1++(le x.2.2 4++rest))=x.2.1:=c;rw[c',d'];have e':gV 4 (0,le x.2.2 4++rest)=x.2.2:=e;have f':gS 4 (0,le x.2.2 4++rest)=(0,rest):=f;rw[e',f'];exact⟨rfl,rfl⟩
theorem FE{s:Rd}(h:(zK s).1=0):s.1=0∧s.2=lG (BB s)++(zK s).2∧(BB s).1.length≤255:=by
 obtain⟨a1,a2⟩:=MU (n:=4) (by decide) (by decide) h;obtain⟨b1,b2⟩:=MU (n:=1) (by decide) (by decide) a1;obtain⟨c1,c2,c3⟩:=L5 b1;refine⟨c1,?_,c3⟩;unfold lG;rw[c2];show _=((W4 (gTx s).length::gTx s)++(le (gV 1 (kV s)) 1++le (gV 4 (gS 1 (kV s))) 4))++(gS 4 (gS 1 (kV s))).2;rw[W9,W9];congr 1;have b2':(kV s).2=le (gV 1 (kV s)) 1++(gS 1 (kV s)).2:=b2;have a2':(gS 1 (kV s)).2=le (gV 4 (gS 1 (kV s))) 4++(gS 4 (gS 1 (kV s))).2:=a2;rw[←a2',←b2']
theorem sC(x:Ent):(lG x).length=x.1.length+6:=by unfold lG;simp[bB]
theorem IJ{ys:By}(h:(zK (0,ys)).1=0):(zK (0,ys)).2.length+6≤ys.length:=by
 have h2:=(FE h).2.1;have:=congrArg Xp h2;rw[WM,sC] at this;have e:((0,ys):Rd).2=ys:=rfl;rw[e] at this;omega
theorem Gn:∀ (n:Nat) (last ys:By) (L:List Ent),ys.length<n→(dtP n last ys=some L↔bM last L∧ys=bK L)
|0,_,_,_,h=>by omega
|n+1,last,ys,L,h=>by
   unfold dtP;by_cases h0:ys=[]
   · rw[WJ h0]
     subst h0;constructor
     ·intro h;cases h;exact⟨trivial,rfl⟩
     · rintro⟨h1,h2⟩
       cases L with
      |nil=>rfl
      |cons x r=>have:=congrArg Xp h2;simp[bK,sC] at this;omega
   · rw[WI h0]
     by_cases hg:(zK (0,ys)).1=0∧jI (BB (0,ys)) last
     · rw[WJ hg]
       obtain⟨hg1,hg2⟩:=hg;have hc:=(FE hg1).2.1;have e:((0,ys):Rd).2=ys:=rfl;rw[e] at hc;have hl:=IJ hg1;have ih:=fun L=>Gn n (BB (0,ys)).1 (zK (0,ys)).2 L (by omega);constructor
       · intro h
         obtain⟨R,hR,rfl⟩:=Xc.1 h;obtain⟨i1,i2⟩:=(ih R).1 hR;refine⟨⟨hg2,i1⟩,?_⟩;show ys=lG _++bK R;rw[←i2];exact hc
       · rintro⟨h1,h2⟩
         cases L with
        |nil=>exact absurd h2 h0
        |cons x r=>
           obtain⟨a,b⟩:=IK (lS h1.1) (bK r);have h2':ys=lG x++bK r:=h2;rw[←h2'] at a b;rw[a,b];have:=(ih r).2 (by rw[a,b];exact⟨h1.2,rfl⟩);rw[a,b] at this;rw[this];rfl
     · rw[WI hg]
       constructor
       ·intro h;cases h
       · rintro⟨h1,h2⟩
         cases L with
        |nil=>exact absurd h2 h0
        |cons x r=>
           obtain⟨a,b⟩:=IK (lS h1.1) (bK r);have h2':ys=lG x++bK r:=h2;rw[←h2'] at a b;exact absurd ⟨by rw[b],by rw[a];exact h1.1⟩ hg
theorem Ka{b:By}{L:List Ent}(h1:bM [] L)(h2:b=bK L):Ob b=(L,0):=by
 unfold Ob;rw[(Gn (b.length+1) [] b L (by omega)).2 ⟨h1,h2⟩]
theorem lB{x:Ent}:∀ {l:List Ent} {last:By},bM last (l++[x])↔bM last l∧jI x (if l=[] then last else xQ l)
|[],last=>by simp[bM]
|y::r,last=>by
   rw[XA];show jI y last∧bM y.1 (r++[x])↔(jI y last∧bM y.1 r)∧_;rw[lB];have hne:¬ (y::r=[]):=by simp
   rw[WI hne];have e:xQ (y::r)=if r=[] then y.1 else xQ r:=by
    unfold xQ;cases r with
   |nil=>rfl
   |cons z r=>rw[WI (by simp),List.getLast?_cons_cons]
   rw[e,and_assoc]
theorem EH(l:List Ent)(x:Ent):xQ (l++[x])=x.1:=by unfold xQ;simp
theorem qC(l:List Ent)(x:Ent):bK (l++[x])=bK l++lG x:=by unfold bK;simp
structure Rec where
 ref:Int
 ino:(Nat→Int)×By
 list:List Ent
 xs:List Xa
abbrev MSt:=List (Rec×Int)×Nat
structure Img where
 im:By
 F:Nat→Int
 dO:List Int
 ids:List Int
 recs:List (Rec×Int)
theorem CB(F:Nat→Int){o:Nat}(h:o<10):(cM F)[o]?=some (iV (F o)):=by
 match o,h with
|0,_|1,_|2,_|3,_|4,_|5,_|6,_|7,_|8,_|9,_=>rfl
theorem Cz(F:Nat→Int){o:Nat}(h:o<10)(z:Int):(cM F).set o (iV z)=cM (upd F o z):=by
 match o,h with
|0,_|1,_|2,_|3,_|4,_|5,_|6,_|7,_|8,_|9,_=>simp[cM,upd]
def fdZ:Fd:=⟨0,0,0,0⟩
theorem CF{j:Nat}(h:j<10):(suL.getD j fdZ).o<10:=by
 match j,h with
|0,_|1,_|2,_|3,_|4,_|5,_|6,_|7,_|8,_|9,_=>decide
def suE(F:Nat→Int)(j:Nat):By:=suM++jC F (suL.take j)
theorem CG(F:Nat→Int){j:Nat}(h:j<10):suE F (j+1)=suE F j++le (F (suL.getD j fdZ).o) (suL.getD j fdZ).b.toNat:=by
 have hl:j<suL.length:=h;unfold suE jC;rw[Xb hl,List.flatMap_append,W9];congr 2;simp[WW,hl]
theorem Fv(F:Nat→Int)(j:Nat):(suE F j).length≤38:=by
 unfold suE;rw[WM,nY];by_cases h:j<10
 · match j,h with
  |0,_|1,_|2,_|3,_|4,_|5,_|6,_|7,_|8,_|9,_=>decide
 ·rw[WY (show suL.length≤j from by show 10≤j;omega)];decide
theorem FV{F:Nat→Int}(h:gH F){j:Nat}(hj:j<10):¬ eX (F (suL.getD j fdZ).o) (suL.getD j fdZ).b:=by
 obtain⟨⟨a1,a2,a3,a4,a5,a6,a7⟩,b1,b2,b3,b4,b5,b6,b7,b8⟩:=h;have wide:∀ z:Int,0≤z→z≤4294967295→¬ eX z 4:=fun z h0 h1=>fX (m:=4294967295) (by decide) (by decide) h0 h1 (by decide);have narrow:∀ z:Int,0≤z→z≤65535→¬ eX z 2:=fun z h0 h1=>fX (m:=65535) (by decide) (by decide) h0 h1 (by decide)
 match j,hj with
|0,_=>exact wide (F 0) (by omega) (by omega)
|1,_=>exact wide (F 2) (by omega) (by omega)
|2,_=>exact wide (F 3) (by omega) (by omega)
|3,_=>exact wide (F 4) (by omega) (by omega)
|4,_=>exact wide (F 5) (by omega) (by omega)
|5,_=>exact wide (F 6) (by omega) (by omega)
|6,_=>exact wide (F 9) (by omega) (by omega)
|7,_=>exact narrow (F 1) (by omega) (by omega)
|8,_=>exact narrow (F 7) (by omega) (by omega)
|9,_=>exact narrow (F 8) (by omega) (by omega)
theorem lO(D:Nat→Prop)(p:Nat)(xs:By)(x n:Int)(W:World)(hx:¬ eX x n)(hP:WrR D W.heap p 0 xs)(hD:∀ k,W.heap.size≤k→D k)(hb:xs.length≤1099511627776) :
 CA 92 [pT p,iV x,iV n] W fun v w'=>WrR D w'.heap p 0 (xs++le x n.toNat)∧aA D W w':=by
 refine(dB D p 0 xs x n W hP hD hb).mono ?_;rintro e w' ⟨v,rfl,h1,h2⟩;have h0:dU 0 x n=0:=AG (by rintro(h|h);exact h rfl;exact hx h);rw[h0,iQ h0] at h1;exact⟨_,rfl,h1,h2⟩
theorem lE(F:Nat→Int)(hm:gH F)(j:Nat)(hj:j<10)(D:Nat→Prop)(p:Nat)(W:World)(hP:WrR D W.heap p 0 (suE F j))(hD:∀ k,W.heap.size≤k→D k) :
 CA 92 [pT p,iV (F (suL.getD j fdZ).o),iV (suL.getD j fdZ).b] W fun v w'=>WrR D w'.heap p 0 (suE F (j+1))∧aA D W w':=by
 rw[CG F hj];exact lO D p _ _ _ W (FV hm hj) hP hD (by have:=Fv F j;omega)
def suX(F:Nat→Int)(n:Nat):By:=suH F++(le (gD (suH F):Nat) 4++Xe n 0)
theorem jN(F:Nat→Int)(n:Nat):(suX F n).length=42+n:=by unfold suX;rw[WM,WM,qN,bB,Xt];omega
theorem CD(F:Nat→Int)(n:Nat):suX F (n+1)=suX F n++[0]:=by unfold suX;rw[List.replicate_succ'];simp only[W9]
theorem Ip(F:Nat→Int)(W:World) :
 CA 38 [.agg (cM F).toArray] W (sP W (eU F)):=by
 refine cS 58 [(0,_)] Tryz.func38 ?_;refine Gz 2 ?_;refine To rfl rfl ?_;intro w1 hg1 hs1 hf1;have hg1:w1.heap[W.heap.size]?=some (.cells (cM F).toArray 44 (0,0)):=hg1;obtain⟨g,eg⟩:∃ g,g=W.heap.size:=⟨_,rfl⟩
 rw[←eg] at hg1 ⊢;refine Gz 6 ?_;refine cL (Tf (cs:=cM F) dT rfl (bI hg1 0 rfl)) ?_;refine cA 0 RU (Iv F w1) ?_;rintro _ w2 ⟨rfl,hf2⟩;have hg2:=hf2.obj hg1 id;have hW2:=hf1.trans hf2;obtain⟨p,ep⟩:∃ p,p=w2.heap.size:=⟨_,rfl⟩
 refine Gz 7 ?_;refine TE (T9 rfl) rfl (fun h10=>?_) (fun h10=>?_)
 ·have hm:¬ gH F:=of_decide_eq_false h10;refine Gz 12 ?_;have e:eU F=([],1):=WI hm;rw[e];exact⟨_,rfl,none,0,rfl,V8,V6,hW2⟩
 have hm:gH F:=WV fun h=>h10 (WL h);refine Gz 7 ?_;refine cL (TC pM kW rfl rfl) ?_;refine S5 kW rfl ?_;intro w3 hg3 hs3 hf3;rw[←ep] at hg3 ⊢;refine sA rfl qF (by simp[Value.oneCell']) hg3 ?_;intro w4 hg4 hs4 hf4;have hF4:aA nob w2 w4:=hf3.tw hf4;refine Gz 4 ?_;refine Tu aH (cs:=(suM.map b8).toArray) zc5 rfl rfl rfl (by kernel_rfl) rfl ?_;intro w5 hg5 hs5 hf5;have ho5:=iB (e:=5) (enc:=b8) (xs:=suM) hg5 (by decide);refine UY aH ty5 (xs:=suM) rfl hg5 ho5.vw rfl ?_;intro w6 hv6 hs6 hf6;have hz4:=hF4.size;have hf46:aA nob w4 w6:=hf5.tw hf6;have hF6:=hF4.trans hf46;refine SZ JH rfl (lQ (fun k=>p≤k) p 0 [] _ _ suM w6 ((Wf hg4 (WT _)).WG hf46) (fun k hk=>by have:=hF6.size;omega) hv6 (by simp) (by decide)) rfl ?_;rintro _ u0 ⟨hP0,hQ0⟩;have hP0:WrR (fun k=>p≤k) u0.heap p 0 (suE F 0):=hP0;have hF0:aA nob w2 u0:=(hF6.any.trans hQ0).fresh (fun k hk=>by omega);refine Gz 5 ?_;refine cL (S2 aF rfl (aD (hF0.obj hg2 id) rfl)) ?_;refine SZ fV rfl (lE F hm 0 (by decide) (fun k=>p≤k) p u0 hP0 (fun k hk=>by have:=hF0.size;omega)) rfl ?_;rintro _ u1 ⟨hP1,hQ1⟩;have hF1:aA nob w2 u1:=(hF0.any.trans hQ1).fresh (fun k hk=>by omega);refine Gz 5 ?_;refine cL (S2 aF rfl (aD (hF1.obj hg2 id) rfl)) ?_;refine SZ fV rfl (lE F hm 1 (by decide) (fun k=>p≤k) p u1 hP1 (fun k hk=>by have:=hF1.size;omega)) rfl ?_;rintro _ u2 ⟨hP2,hQ2⟩;have hF2:aA nob w2 u2:=(hF1.any.trans hQ2).fresh (fun k hk=>by omega);refine Gz 5 ?_;refine cL (S2 aF rfl (aD (hF2.obj hg2 id) rfl)) ?_;refine SZ fV rfl (lE F hm 2 (by decide) (fun k=>p≤k) p u2 hP2 (fun k hk=>by have:=hF2.size;omega)) rfl ?_;rintro _ u3 ⟨hP3,hQ3⟩;have hF3:aA nob w2 u3:=(hF2.any.trans hQ3).fresh (fun k hk=>by omega);refine Gz 5 ?_;refine cL (S2 aF rfl (aD (hF3.obj hg2 id) rfl)) ?_;refine SZ fV rfl (lE F hm 3 (by decide) (fun k=>p≤k) p u3 hP3 (fun k hk=>by have:=hF3.size;omega)) rfl ?_;rintro _ u4 ⟨hP4,hQ4⟩;have hF4:aA nob w2 u4:=(hF3.any.trans hQ4).fresh (fun k hk=>by omega);refine Gz 5 ?_;refine cL (S2 aF rfl (aD (hF4.obj hg2 id) rfl)) ?_;refine SZ fV rfl (lE F hm 4 (by decide) (fun k=>p≤k) p u4 hP4 (fun k hk=>by have:=hF4.size;omega)) rfl ?_;rintro _ u5 ⟨hP5,hQ5⟩;have hF5:aA nob w2 u5:=(hF4.any.trans hQ5).fresh (fun k hk=>by omega);refine Gz 5 ?_;refine cL (S2 aF rfl (aD (hF5.obj hg2 id) rfl)) ?_;refine SZ fV rfl (lE F hm 5 (by decide) (fun k=>p≤k) p u5 hP5 (fun k hk=>by have:=hF5.size;omega)) rfl ?_;rintro _ u6 ⟨hP6,hQ6⟩;have hF6:aA nob w2 u6:=(hF5.any.trans hQ6).fresh (fun k hk=>by omega);refine Gz 5 ?_;refine cL (S2 aF rfl (aD (hF6.obj hg2 id) rfl)) ?_;refine SZ fV rfl (lE F hm 6 (by decide) (fun k=>p≤k) p u6 hP6 (fun k hk=>by have:=hF6.size;omega)) rfl ?_;rintro _ u7 ⟨hP7,hQ7⟩;have hF7:aA nob w2 u7:=(hF6.any.trans hQ7).fresh (fun k hk=>by omega);refine Gz 5 ?_;refine cL (S2 aF rfl (aD (hF7.obj hg2 id) rfl)) ?_;refine SZ fV rfl (lE F hm 7 (by decide) (fun k=>p≤k) p u7 hP7 (fun k hk=>by have:=hF7.size;omega)) rfl ?_;rintro _ u8 ⟨hP8,hQ8⟩;have hF8:aA nob w2 u8:=(hF7.any.trans hQ8).fresh (fun k hk=>by omega);refine Gz 5 ?_;refine cL (S2 aF rfl (aD (hF8.obj hg2 id) rfl)) ?_;refine SZ fV rfl (lE F hm 8 (by decide) (fun k=>p≤k) p u8 hP8 (fun k hk=>by have:=hF8.size;omega)) rfl ?_;rintro _ u9 ⟨hP9,hQ9⟩;have hF9:aA nob w2 u9:=(hF8.any.trans hQ9).fresh (fun k hk=>by omega);refine Gz 5 ?_;refine cL (S2 aF rfl (aD (hF9.obj hg2 id) rfl)) ?_;refine SZ fV rfl (lE F hm 9 (by decide) (fun k=>p≤k) p u9 hP9 (fun k hk=>by have:=hF9.size;omega)) rfl ?_;rintro _ u10 ⟨hP10,hQ10⟩;have hF10:aA nob w2 u10:=(hF9.any.trans hQ10).fresh (fun k hk=>by omega);refine Gz 5 ?_;have hPP:WrR (fun k=>p≤k) u10.heap p 0 (suH F):=hP10;obtain⟨ao,c,hobj,hown,hap,hDp,hDa⟩:=hPP;refine cA 1 OS (FD ao c (suH F) u10 hown.vw) ?_;rintro _ wq ⟨rfl,hwq⟩;subst wq;refine cL (Td (n:=((gD (suH F):Nat):Int)) Hi ty3 rfl (cN (by have:=mG (suH F);omega))) ?_;refine SZ fV rfl (lO (fun k=>p≤k) p (suH F) _ 4 u10 (fX (m:=4294967295) (by decide) (by decide) (Yv _) (by have:=mG (suH F);omega) (by decide)) ⟨ao,c,hobj,hown,hap,hDp,hDa⟩ (fun k hk=>by have:=hF10.size;omega) (by rw[qN];decide)) rfl ?_;rintro _ u11 ⟨hP11,hQ11⟩;have hF11:aA nob w2 u11:=(hF10.any.trans hQ11).fresh (fun k hk=>by omega);have hP11:WrR (fun k=>p≤k) u11.heap p 0 (suX F 0):=by rw[show suX F 0=suH F++le (gD (suH F):Nat) 4 by unfold suX;simp];exact hP11
 refine Gz 4 ?_;refine SZ BX rfl (hO (fun k=>p≤k) p 0 (suX F 0) u11 hP11 (by rw[jN];decide)) rfl ?_;rintro _ u12 ⟨o12,c12,rfl,ho12,hfr12,hf12⟩;refine Gz 5 ?_;refine S4 (β:=Nat×(Option Addr×Nat)) (fun⟨n,⟨o,c⟩⟩=>[(6,.slice o (suX F n).length c)]) (fun⟨n,⟨o,c⟩⟩ w=>n≤22∧Own b8 5 w.heap o c (suX F n)∧Fr W.heap.size o∧aA nob W w) (fun⟨n,⟨o,c⟩⟩=>22-n) ⟨0,⟨o12,c12⟩⟩ ⟨rfl,trivial⟩ ⟨WU _,ho12,hfr12.mono (by have:=hF11.size;have:=hW2.size;omega),(hW2.trans hF11).trans hf12⟩ ?_;rintro⟨n,⟨o,c⟩⟩ w ⟨hn22,ho,hfr,hF⟩;refine fK 5 ?_ ?_<;>intro h53
 ·have hn:n<22:=by rw[jN] at h53;omega
  refine Gz 1 ?_;refine aW [(6,_),(53,_)] ?_;refine Gz 7 ?_;refine TB (enc:=b8) (u:=(0:UInt8)) aH (aN _) rfl rfl ?_;intro v1 ho1 hs1 hvf1;refine S8 aN aH rfl rfl (ho.WG hvf1) ho1.vw (by rw[jN];simp only[WP];omega) (by rw[jN];simp only[WP];unfold maxLen;omega) rfl ?_;intro o2 c2 v2 ho2 hvf2 hr2 hn2;refine Gz 3 ?_;refine Ti ⟨n+1,⟨o2,c2⟩⟩ ⟨?_,trivial⟩ ⟨by omega,by rw[CD];exact ho2,cH hfr hr2 (by have:=hF.size;have:=hvf1.size;omega),(hF.trans hvf1).WD hvf2 (fun k ⟨a,ha,e⟩=>.inr (by have:=hfr a ha;omega))⟩ (by show 22-(n+1)<22-n;omega);show _=some (Value.slice o2 (suX F (n+1)).length c2);rw[CD];rfl
 have hn:n=22:=by rw[jN] at h53;omega
 refine Gz 1 ?_;refine aW [(6,_),(53,_)] ?_;refine Gz 16 ?_;subst hn;have e:eU F=(suX F 22,0):=WJ hm;rw[e];exact⟨_,rfl,o,c,rfl,ho,hfr,hF⟩
section
variable {P:Program}{N:Nt}{l:SF}{ty:TypeId}{pos:String}{aft:Array Edge}{CH:Array Obj→Prop}{x:Operand}{t t2 e:TypeId}{g:Option (Nat×Bool)}{dd:Option Nat}{n size bytes:Nat}
theorem Vm{parts:List (Nat×Operand)}{vs:List (Nat×Value)}{zc cs:Array Value}(hu:P.underlying t=some (.array n e))(ht:aX P t2 e size bytes)(hz:(P.info? t).map (fun i=>i.zero.map (·.cells))=some (some zc))
 (hx:evPs l parts=some vs)(hf:Instr.fill (fun i=>some (i*size,size)) zc vs=some cs):Cm P N CH l ⟨dd,.build t parts.toArray,ty,pos,aft,g⟩ (.agg cs):=fun a w ha _=>by
 obtain⟨i,hi,h1⟩:=Xc.1 hz;obtain⟨z,hz',rfl⟩:=Xc.1 h1;have hv:=ha.evPs hx;simp only[execOp,Instr.build,Sem.run_bind,zeroValue,typeInfo,run_program,Result.andThen_ok,hi,hz',run_underlying hu,Sem.run_pure,ht.size,List.map_toArray,hv];rw[hf];simp
theorem U7{ad:Addr}(hu:P.underlying t=some (.array n e))(ht:aX P t2 e size bytes)(hx:evL l x=some (.pointer (some ad))):Cm P N CH l ⟨dd,.slice t x none none none,ty,pos,aft,g⟩ (.slice (some ad) n n):=fun a w ha _=>by
 simp only[execOp,ha.ev hx,Instr.sliceAt,Sem.run_bind,run_underlying hu,Result.andThen_ok,Instr.sureAddr,Instr.sliceBounds,Sem.run_pure,ht.size];by_cases h:n=0
 ·simp[h]
 ·simp[h,Addr.add]
end
theorem H7(x:Int)(W:World):CA 173 [iV x] W fun v w'=>v=.bool false∧w'=W:=by
 refine cS 6 [(0,_)] Tryz.func173 ?_;refine Gz 9 ?_;refine cL (UU (Uq rfl rfl) (fun h=>h rfl)) ?_;refine Gz 5 ?_;exact⟨_,rfl,rfl,rfl⟩
theorem Ag(x y:Int)(W:World):CA 122 [iV x,iV y] W fun v w'=>v=.bool (decide (x<y))∧w'=W:=by
 refine cS 17 [(0,_),(1,_)] Tryz.func122 ?_;refine cA 8 Pw (H7 x W) ?_;rintro _ w1 ⟨rfl,hw1⟩;subst w1;refine Gz 8 ?_;refine cW (T1 rfl rfl) ?_;refine Gz 6 ?_;exact⟨_,rfl,rfl,rfl⟩
def upI(l:List Int):Prop:=∀ i,i+1<l.length→l.getD i 0≤l.getD (i+1) 0
instance (l:List Int):Decidable (upI l):=decidable_of_iff ((XV (l.length-1)).all (fun i=>decide (l.getD i 0≤l.getD (i+1) 0))=true) (by
 rw[Y4];exact⟨fun h i hi=>of_decide_eq_true (h i (by rw[Ys];omega)),fun h i hi=>WO (h i (by rw[Ys] at hi;omega))⟩)
theorem CE(lo:Option Addr)(lc:Nat)(l:List Int)(W:World)(hv:Vw i64 W.heap lo lc l) :
 CA 100 [.slice lo l.length lc] W fun v w'=>v=.bool (decide (upI l))∧aA nob W w':=by
 have h63:=hv.WF;refine cS 21 [(0,_)] Tryz.func100 ?_;refine Gz 15 ?_;refine S4 (β:=Int) (fun z=>[(0,.slice lo l.length lc),(3,iV z)]) (fun z w=>-1≤z∧z<l.length∧(∀ j:Nat,z≤j→j+1<l.length→l.getD j 0≤l.getD (j+1) 0)∧aA nob W w) (fun z=>z.toNat) ((l.length:Int)-1) ⟨rfl,rfl,trivial⟩ ⟨by omega,by omega,fun j h1 h2=>by omega,VZ _ _⟩ ?_;rintro z w ⟨hz1,hz2,hall,hF⟩;refine fK 4 ?_ ?_<;>intro h8
 ·refine Gz 8 ?_;refine Tc 9 (fun H=>Vw i64 H lo lc l) [9] [0,1,2,3,4,5,6,7,8,9] aI (by kernel_rfl) (hv.WG hF) ?_;refine Gz 2 ?_;refine xC rfl (SY aY rfl rfl hv.non (by omega)) ?_;refine xC rfl (S9 aF rfl (fun H hH=>hH.gz 0 z.toNat (by omega) (by omega))) ?_;refine Gz 3 ?_;refine xC rfl (SY aY rfl rfl hv.non (by omega)) ?_;refine xC rfl (S9 aF rfl (fun H hH=>hH.gz 0 (z-1).toNat (by omega) (by omega))) ?_;refine S7 rfl rfl (SZ Na rfl (Ag (l.getD z.toNat 0) (l.getD (z-1).toNat 0) _) rfl ?_);rintro _ w1 ⟨rfl,rfl⟩;refine Tx rfl ?_;by_cases h20:l.getD z.toNat 0<l.getD (z-1).toNat 0
  ·rw[WO h20];refine Gz 15 ?_;exact⟨_,rfl,by rw[WL (fun h=>by have:=h (z-1).toNat (by omega);rw[show (z-1).toNat+1=z.toNat by omega] at this;omega)],hF.draws 1⟩
  rw[WL h20];refine Gz 11 ?_;refine aG (z-1) ⟨by omega,by omega,fun j h1 h2=>?_,hF.draws 1⟩ (by show (z-1).toNat<z.toNat;omega);by_cases e:(j:Int)=z-1
  · have e1:(z-1).toNat=j:=by omega
    have e2:z.toNat=j+1:=by omega
    rw[e1,e2] at h20;omega
  ·exact hall j (by omega) h2
 refine Gz 15 ?_;exact⟨_,rfl,by rw[WO (show upI l from fun i hi=>hall i (by omega) hi)],hF⟩
section
variable {R:UInt8→Prop}[DecidablePred R]
theorem Eg(f:FuncId)(hf:fnB Tryz.prog f=true)(lo:Option Addr)(lc:Nat)(b:By)(W:World)(hv:Vw b8 W.heap lo lc b)
 (hc:∀ w c,Calls Tryz.prog f [b8 c].toArray w (Ret fun v w'=>v=.bool (decide (R c))∧w'=w)) :
 CA 102 [.slice lo b.length lc,.func (.func f) #[] #[]] W fun v w'=>∃ z:Int,v=iV z∧(0≤z↔∃ c∈b,R c)∧w'=W:=by
 have h63:=hv.WF;refine cS 19 [(0,_),(1,_)] Tryz.func102 ?_;refine Gz 14 ?_;refine S4 (β:=Nat) (fun i=>[(0,.slice lo b.length lc),(1,.func (.func f) #[] #[]),(7,iV b.length),(8,iV i)]) (fun i w=>i≤b.length∧(∀ j,j<i→¬ R (b.getD j 0))∧w=W) (fun i=>b.length-i) 0 ⟨rfl,rfl,rfl,rfl,trivial⟩ ⟨WU _,fun j hj=>by omega,rfl⟩ ?_;rintro i w ⟨hi,hno,hw⟩;subst w;refine fK 2 ?_ ?_<;>intro h9
 ·have hil:i<b.length:=by omega
  refine Gz 19 ?_;refine cL (SY aH rfl rfl hv.non (by omega)) ?_;refine cL (S2 nM rfl (hv.gz 0 i rfl hil)) ?_;refine Uh hf rfl rfl (hc W (b.getD i 0)) rfl ?_;rintro _ w1 ⟨rfl,hw1⟩;subst w1;by_cases h16:R (b.getD i 0)
  ·rw[WO h16];refine Gz 16 ?_;exact⟨_,rfl,i,rfl,⟨fun _=>⟨_,(by rw[WW,WK hil];exact XE hil),h16⟩,fun _=>by omega⟩,rfl⟩
  rw[WL h16];refine Gz 10 ?_;refine aG (i+1) ⟨by omega,fun j hj=>?_,rfl⟩ (by show b.length-(i+1)<b.length-i;omega);by_cases e:j=i
  ·subst e;exact h16
  ·exact hno j (by omega)
 have hie:i=b.length:=by omega
 refine Gz 16 ?_;exact⟨_,rfl,-1,rfl,⟨fun h=>by omega,fun⟨c,hc1,hc2⟩=>by obtain⟨j,hj,rfl⟩:=XF hc1;exact absurd hc2 (by have:=hno j (by omega);rwa[WW,WK hj] at this)⟩,rfl⟩
theorem zI(f:FuncId)(hf:fnB Tryz.prog f=true)(lo:Option Addr)(lc:Nat)(b:By)(W:World)(hv:Vw b8 W.heap lo lc b)
 (hc:∀ w c,Calls Tryz.prog f [b8 c].toArray w (Ret fun v w'=>v=.bool (decide (R c))∧w'=w)) :
 CA 50 [.slice lo b.length lc,.func (.func f) #[] #[]] W fun v w'=>v=.bool (decide (∃ c∈b,R c))∧w'=W:=by
 refine cS 9 [(0,_),(1,_)] Tryz.func50 ?_;refine cA 9 P8 (Eg f hf lo lc b W hv hc) ?_;rintro _ w1 ⟨z,rfl,hz,hw1⟩;subst w1;refine cL (Up rfl rfl) ?_;refine Gz 5 ?_;exact⟨_,rfl,congrArg _ (decide_eq_decide.2 hz),rfl⟩
end
theorem Ed(W:World)(c:UInt8):CA 51 [b8 c] W fun v w'=>v=.bool (decide (c≠0))∧w'=W:=by
 refine cS 5 [(0,_)] Tryz.func51 ?_;refine Gz 8 ?_;refine cL (Uq rfl rfl) ?_;refine Gz 5 ?_;refine⟨_,rfl,congrArg Value.bool (decide_eq_decide.2 (not_congr ⟨fun h=>?_,fun h=>by rw[h];rfl⟩)),rfl⟩;have h:((c.toNat:Nat):Int)=0:=h;exact UInt8.toNat_inj.1 (by show c.toNat=0;omega)
def pD(E:Int)(ys:By):Int:=if E≠0 then 0 else ys.length
theorem Ae{D:Nat→Prop}(p:Nat)(E:Int)(ys:By)(W:World)(hP:RdL D W.heap p E ys) :
 CA 46 [pT p] W fun v w'=>v=iV (pD E ys)∧w'=W:=by
 obtain⟨ao,c,hobj,hv,hap⟩:=hP;refine cS 14 [(0,_)] Tryz.func46 ?_;refine fK 13 ?_ ?_<;>intro h8
 ·refine Gz 11 ?_;exact⟨_,rfl,by unfold pD;rw[WJ h8],rfl⟩
 refine Gz 17 ?_;exact⟨_,rfl,by unfold pD;rw[WI h8],rfl⟩
theorem H6{D:Nat→Prop}(p:Nat)(E:Int)(ys:By)(W:World)(hP:RdL D W.heap p E ys) :
 CA 47 [pT p] W fun v w'=>v=iV E∧w'=W:=by
 obtain⟨ao,c,hobj,hv,hap⟩:=hP;refine cS 7 [(0,_)] Tryz.func47 ?_;refine Gz 16 ?_;exact⟨_,rfl,rfl,rfl⟩
theorem kX(x a b:Int)(W:World):CA 101 [iV x,iV a,iV b] W fun v w'=>v=.bool (decide (a≤x∧x≤b))∧w'=W:=by
 refine cS 15 [(0,_),(1,_),(2,_)] Tryz.func101 ?_;refine fK 9 ?_ ?_<;>intro h9
 ·refine fW 3 ?_ ?_<;>intro h13
  ·refine Gz 6 ?_;exact⟨_,rfl,by rw[WO ⟨h9,h13⟩],rfl⟩
  refine Gz 6 ?_;exact⟨_,rfl,by rw[WL (fun h:a≤x∧x≤b=>by omega)],rfl⟩
 refine Gz 10 ?_;exact⟨_,rfl,by rw[WL (fun h:a≤x∧x≤b=>by omega)],rfl⟩
theorem K8(F:Nat→Int)(W:World):CA 99 [.agg (cM F).toArray] W fun v w'=>v=.agg ((cT F).map i64).toArray∧aA nob W w':=by
 refine cS 16 [(0,_)] Tryz.func99 ?_;refine Gz 2 ?_;refine To rfl rfl ?_;intro w1 hg1 hs1 hf1;have hg1:w1.heap[W.heap.size]?=some (.cells (cM F).toArray 44 (0,0)):=hg1;obtain⟨g,eg⟩:∃ g,g=W.heap.size:=⟨_,rfl⟩
 rw[←eg] at hg1 ⊢;refine S5 HQ rfl ?_;intro w2 hg2a hs2 hf2;have hg2:=hf2.obj hg1 id;obtain⟨r,er⟩:∃ r,r=w1.heap.size:=⟨_,rfl⟩
 rw[←er] at hg2a ⊢;refine Gz 16 ?_;refine cL (Vm (n:=8) (cs:=((cT F).map i64).toArray) (by kernel_rfl) aY HQ rfl (by kernel_rfl)) ?_;refine sA rfl E4 (by intro v hv;obtain⟨z,_,rfl⟩:=Xq.1 hv;rfl) hg2a ?_;intro w3 hg3 hs3 hf3;refine Gz 3 ?_;refine UC (cs:=(cT F).map i64) rfl E4 rfl (fun j v hj=>aD hg3 hj) ?_;exact⟨_,rfl,rfl,(hf1.trans hf2).tw hf3⟩
theorem CC(F:Nat→Int)(W:World):CA 49 [.agg (cM F).toArray] W fun v w'=>v=.bool (decide (gH F))∧aA nob W w':=by
 refine cS 28 [(0,_)] Tryz.func49 ?_;refine Gz 2 ?_;refine To rfl rfl ?_;intro w1 hg1 hs1 hf1;have hg1:w1.heap[W.heap.size]?=some (.cells (cM F).toArray 44 (0,0)):=hg1;obtain⟨g,eg⟩:∃ g,g=W.heap.size:=⟨_,rfl⟩
 rw[←eg] at hg1 ⊢;refine Gz 5 ?_;refine cL (Tf (cs:=cM F) dT rfl (bI hg1 0 rfl)) ?_;refine cA 0 RS (K8 F w1) ?_;rintro _ w2 ⟨rfl,hf2⟩;refine S5 HQ rfl ?_;intro w3 hg3a hs3 hf3;refine sA rfl E4 (by intro v hv;obtain⟨z,_,rfl⟩:=Xq.1 hv;rfl) hg3a ?_;intro w3b hg3 hs3b hf3b;obtain⟨r,er⟩:∃ r,r=w2.heap.size:=⟨_,rfl⟩
 rw[←er] at hg3 hf3b ⊢;have hF3:aA nob w1 w3b:=(hf2.trans hf3).WD hf3b (fun k hk=>.inr (by have h:k=r:=hk;have:=hf2.size;omega));have hv3:Vw i64 w3b.heap (some ⟨r,0,none⟩) 8 (cT F):=⟨by show 8≤8;decide,by decide,fun _=>by simp,fun i x hx=>by
  have h1:((cT F).map i64)[i]?=some (i64 x):=by rw[Xv,hx];rfl
  exact aD hg3 h1⟩
 refine Gz 4 ?_;refine cL (U7 (n:=8) (by kernel_rfl) aY rfl) ?_;refine cA 0 P9 (CE (some ⟨r,0,none⟩) 8 (cT F) w3b hv3) ?_;rintro _ w4 ⟨rfl,hf4⟩;have hW4:=(hf1.trans hF3).trans hf4;have hg4:=(hF3.trans hf4).obj hg1 id;by_cases h7:upI (cT F)
 ·rw[WO h7];have hso:Ah F:=qP.2 (fun i hi=>h7 i hi);refine Gz 3 ?_;refine Tb rfl rfl Gj rfl (kX _ _ _ w4) rfl ?_;rintro _ w5 ⟨rfl,hw5⟩;subst w5;by_cases h11:1≤F 1∧F 1≤1024
  ·rw[WO h11];refine Gz 4 ?_;refine Tb rfl rfl Gj rfl (kX _ _ _ w4) rfl ?_;rintro _ w5 ⟨rfl,hw5⟩;subst w5;by_cases h16:1≤F 7∧F 7≤2048
   ·rw[WO h16];refine Gz 4 ?_;refine Tb rfl rfl Gj rfl (kX _ _ _ w4) rfl ?_;rintro _ w5 ⟨rfl,hw5⟩;subst w5;by_cases h21:0≤F 8∧F 8≤1024
    ·rw[WO h21];refine Gz 4 ?_;refine Tb rfl rfl Gj rfl (kX _ _ _ w4) rfl ?_;rintro _ w5 ⟨rfl,hw5⟩;subst w5;by_cases h26:0≤F 9∧F 9≤4294967295
     ·rw[WO h26];refine Gz 6 ?_;exact⟨_,rfl,by rw[WO ⟨hso,h11.1,h11.2,h16.1,h16.2,h21.1,h21.2,h26.1,h26.2⟩],hW4⟩
     rw[WL h26];refine Gz 6 ?_;exact⟨_,rfl,by rw[WL (fun h=>by first|exact hso h.1|(unfold gH at h;omega))],hW4⟩
    rw[WL h21];refine Gz 11 ?_;exact⟨_,rfl,by rw[WL (fun h=>by first|exact hso h.1|(unfold gH at h;omega))],hW4⟩
   rw[WL h16];refine Gz 16 ?_;exact⟨_,rfl,by rw[WL (fun h=>by first|exact hso h.1|(unfold gH at h;omega))],hW4⟩
  rw[WL h11];refine Gz 21 ?_;exact⟨_,rfl,by rw[WL (fun h=>by first|exact hso h.1|(unfold gH at h;omega))],hW4⟩
 rw[WL h7];have hso:¬ Ah F:=fun h=>h7 (fun i hi=>qP.1 h i hi);refine Gz 25 ?_;exact⟨_,rfl,by rw[WL (fun h=>by first|exact hso h.1|(unfold gH at h;omega))],hW4⟩
def ptO(g:Nat)(o:Nat):Value:=.pointer (some ⟨g,o,none⟩)
def oW:List Nat:=[0,2,3,4,5,6,9]
def oN:List Nat:=[1,7,8]
theorem FN{i:Nat}(h:i<7):oW.getD i 0=(suL.getD i fdZ).o∧(suL.getD i fdZ).b=4:=by
 match i,h with
|0,_|1,_|2,_|3,_|4,_|5,_|6,_=>exact⟨rfl,rfl⟩
theorem FO{i:Nat}(h:i<3):oN.getD i 0=(suL.getD (7+i) fdZ).o∧(suL.getD (7+i) fdZ).b=2:=by
 match i,h with
|0,_|1,_|2,_=>exact⟨rfl,rfl⟩
theorem Ad(g:Nat)(W:World):CA 43 [pT g] W fun v w'=>∃ q,v=.slice (some ⟨q,0,none⟩) oW.length 7∧Own (ptO g) 72 w'.heap (some ⟨q,0,none⟩) 7 oW∧W.heap.size≤q∧q<w'.heap.size∧aA nob W w':=by
 refine cS 25 [(0,_)] Tryz.func43 ?_;refine Gz 6 ?_;refine Tc 23 (fun _=>True) [21] [0,1,2,3,4,5,6,7,8,9,10,11,12,13,14,15,16,17,18,19,20,21,22] aI (by kernel_rfl) (trivial) ?_;refine Gz 21 ?_;refine S7 rfl rfl (Tu Bt (cs:=(oW.map (ptO g)).toArray) Ni rfl rfl rfl (by kernel_rfl) rfl ?_);intro w1 hg1 hs1 hf1;refine Tg (by exact trivial) ?_;refine Gz 5 ?_;exact⟨_,rfl,_,rfl,iB (xs:=oW) hg1 (by decide),WT _,by have h:w1.heap.size=W.heap.size+1:=hs1;show W.heap.size<_;omega,hf1.WE⟩
theorem uA(g:Nat)(W:World):CA 45 [pT g] W fun v w'=>∃ q,v=.slice (some ⟨q,0,none⟩) oN.length 3∧Own (ptO g) 72 w'.heap (some ⟨q,0,none⟩) 3 oN∧W.heap.size≤q∧q<w'.heap.size∧aA nob W w':=by
 refine cS 13 [(0,_)] Tryz.func45 ?_;refine Gz 6 ?_;refine Tc 11 (fun _=>True) [9] [0,1,2,3,4,5,6,7,8,9,10] aI (by kernel_rfl) (trivial) ?_;refine Gz 9 ?_;refine S7 rfl rfl (Tu Bt (cs:=(oN.map (ptO g)).toArray) Ni rfl rfl rfl (by kernel_rfl) rfl ?_);intro w1 hg1 hs1 hf1;refine Tg (by exact trivial) ?_;refine Gz 5 ?_;exact⟨_,rfl,_,rfl,iB (xs:=oN) hg1 (by decide),WT _,by have h:w1.heap.size=W.heap.size+1:=hs1;show W.heap.size<_;omega,hf1.WE⟩
end Go.Proofs.YthmmmagklhiiiaaGreatDoor
