/- table: the law on what is taken. No condition beyond the bounds that each states. -/
import Derived.Test.YtoaplldahbbaiaaTxCk
import Derived.Test.YtoaplldahbbaiaaTnBk
import Derived.Test.YtoaplldahbbaiaaTpDk
import Derived.Test.YtoaplldahbbaiaaLiftAk
namespace Go.Proofs.Ytoaplldahbbaiaa
open Go Go.RowKit
set_option linter.unusedVariables false

set_option maxHeartbeats 1000000 in
theorem same11_ok (xs : List Int) (ao bo : Option Addr) (ac bc : Nat) (W : World) (ha : Vw i64 W.heap ao ac xs) (hb : Vw i64 W.heap bo bc xs) :
    Calls Try.prog 33 [.slice ao xs.length ac, .slice bo xs.length bc].toArray W (Ret fun v w' => v = .bool true ∧ Foot nob W w') := by
  have hl := ha.len63
  refine calls_of_sc 26 [(0, _), (1, _)] Try.func33 rfl rfl rfl (enter_slots ⟨rfl, rfl, trivial⟩) ?_
  refine Sc.seq ?_
  refine Sc.region ?_
  refine Sl.calm (Cm.assign rfl) rfl ?_
  refine Sl.nil ?_
  refine At.go ?_
  refine Sc.seq ?_
  refine Sc.seq ?_
  refine Sc.region ?_
  refine Sl.calm (Cm.move rfl) rfl ?_
  refine Sl.calm (Cm.len sl22 rfl) rfl ?_
  refine Sl.calm (Cm.move rfl) rfl ?_
  refine Sl.calm (Cm.len sl22 rfl) rfl ?_
  refine Sl.calm (Cm.no (Cm.neq rfl rfl) (fun h => h rfl)) rfl ?_
  refine Sl.nil ?_
  refine At.weak [(0, _), (1, _), (4, _), (10, _)] ⟨rfl, rfl, rfl, rfl, trivial⟩ ?_
  refine At.go ?_
  refine Sc.cond_f rfl ?_
  refine Sc.skip ?_
  refine At.go ?_
  refine Sc.seq ?_
  refine Sc.seq ?_
  refine Sc.region ?_
  refine Sl.calm (Cm.assign rfl) rfl ?_
  refine Sl.nil ?_
  refine At.go ?_
  refine Sc.block ?_
  refine Sc.loop (β := Nat) (fun k => [(0, .slice ao xs.length ac), (1, .slice bo xs.length bc), (5, .int .i64 k)]) (fun k w => k ≤ xs.length ∧ Foot nob W w) (fun k => xs.length - k) 0 ⟨rfl, rfl, rfl, trivial⟩ ⟨Nat.zero_le _, Foot.refl _ _⟩ ?_
  rintro k w ⟨hk, hF⟩
  refine Sc.seq ?_
  refine Sc.seq ?_
  refine Sc.region ?_
  refine Sl.calm (Cm.move rfl) rfl ?_
  refine Sl.calm (Cm.move rfl) rfl ?_
  refine Sl.calm (Cm.len sl22 rfl) rfl ?_
  refine Sl.fork (Cm.lss rfl rfl) rfl (fun h14 => ?_) (fun h14 => ?_)
  ·
    refine Sl.nil ?_
    refine At.weak [(0, _), (1, _), (5, _), (14, _)] ⟨rfl, rfl, rfl, rfl, trivial⟩ ?_
    refine At.go ?_
    refine Sc.cond_t rfl ?_
    refine Sc.skip ?_
    refine At.go ?_
    refine Sc.seq ?_
    refine Sc.block ?_
    refine Sc.seq ?_
    refine Sc.quiet 9 [0, 1, 2, 3, 4, 5, 6, 7, 8] mixed (by kernel_rfl) ?_
    refine Sx.calm rfl rfl (Cm.move rfl) rfl ?_
    refine Sx.calm rfl rfl (Cm.move rfl) rfl ?_
    refine Sx.calm rfl rfl (Cm.indexAddr1 sl22 rfl rfl ha.non (by omega)) rfl ?_
    refine Sx.calm rfl rfl (Cm.ld sca3 rfl ((ha.grow hF).gz 0 k rfl (by omega))) rfl ?_
    refine Sx.calm rfl rfl (Cm.move rfl) rfl ?_
    refine Sx.calm rfl rfl (Cm.move rfl) rfl ?_
    refine Sx.calm rfl rfl (Cm.indexAddr1 sl22 rfl rfl hb.non (by omega)) rfl ?_
    refine Sx.calm rfl rfl (Cm.ld sca3 rfl ((hb.grow hF).gz 0 k rfl (by omega))) rfl ?_
    refine Sx.calm rfl rfl (Cm.no (Cm.neq rfl rfl) (fun h => h rfl)) rfl ?_
    refine Sx.nil ?_
    refine At.weak [(0, _), (1, _), (5, _), (14, _), (25, _)] ⟨rfl, rfl, rfl, rfl, rfl, trivial⟩ ?_
    refine At.go ?_
    refine Sc.cond_f rfl ?_
    refine Sc.skip ?_
    refine At.block_normal ?_
    refine At.go ?_
    refine Sc.region ?_
    refine Sl.calm (Cm.move rfl) rfl ?_
    refine Sl.calm (Cm.add64 rfl rfl (by omega)) rfl ?_
    refine Sl.calm (Cm.assign rfl) rfl ?_
    refine Sl.nil ?_
    exact At.again (k + 1) ⟨rfl, rfl, rfl, trivial⟩ ⟨by omega, hF.draws 1⟩ (by show xs.length - (k + 1) < xs.length - k; omega)
  ·
    refine Sl.nil ?_
    refine At.weak [(0, _), (1, _), (5, _), (14, _)] ⟨rfl, rfl, rfl, rfl, trivial⟩ ?_
    refine At.go ?_
    refine Sc.cond_f rfl ?_
    refine Sc.exit ?_
    refine At.then_exit ?_
    refine At.then_exit ?_
    refine At.block_hit ?_
    refine At.go ?_
    refine Sc.seq ?_
    refine Sc.region ?_
    refine Sl.calm (Cm.assign rfl) rfl ?_
    refine Sl.nil ?_
    refine At.go ?_
    refine Sc.ret ?_
    refine At.ret1 rfl rfl ?_
    exact ⟨_, rfl, rfl, hF⟩
set_option maxHeartbeats 1000000 in
theorem sameX_ok (X : List Xa) (ao bo : Option Addr) (ac bc : Nat) (W : World) (ha : XaV W.heap ao ac X) (hb : XaV W.heap bo bc X) :
    Calls Try.prog 34 [.slice ao X.length ac, .slice bo X.length bc].toArray W (Ret fun v w' => v = .bool true ∧ Foot nob W w') := by
  have hl := ha.len63
  refine calls_of_sc 43 [(0, _), (1, _)] Try.func34 rfl rfl rfl (enter_slots ⟨rfl, rfl, trivial⟩) ?_
  refine Sc.seq ?_
  refine Sc.region ?_
  refine Sl.calm (Cm.assign rfl) rfl ?_
  refine Sl.nil ?_
  refine At.go ?_
  refine Sc.seq ?_
  refine Sc.seq ?_
  refine Sc.region ?_
  refine Sl.calm (Cm.move rfl) rfl ?_
  refine Sl.calm (Cm.len sl23 rfl) rfl ?_
  refine Sl.calm (Cm.move rfl) rfl ?_
  refine Sl.calm (Cm.len sl23 rfl) rfl ?_
  refine Sl.calm (Cm.no (Cm.neq rfl rfl) (fun h => h rfl)) rfl ?_
  refine Sl.nil ?_
  refine At.weak [(0, _), (1, _), (4, _), (10, _)] ⟨rfl, rfl, rfl, rfl, trivial⟩ ?_
  refine At.go ?_
  refine Sc.cond_f rfl ?_
  refine Sc.skip ?_
  refine At.go ?_
  refine Sc.seq ?_
  refine Sc.seq ?_
  refine Sc.region ?_
  refine Sl.calm (Cm.assign rfl) rfl ?_
  refine Sl.nil ?_
  refine At.go ?_
  refine Sc.block ?_
  refine Sc.loop (β := Nat) (fun k => [(0, .slice ao X.length ac), (1, .slice bo X.length bc), (5, .int .i64 k)]) (fun k w => k ≤ X.length ∧ Foot nob W w) (fun k => X.length - k) 0 ⟨rfl, rfl, rfl, trivial⟩ ⟨Nat.zero_le _, Foot.refl _ _⟩ ?_
  rintro k w ⟨hk, hF⟩
  refine Sc.seq ?_
  refine Sc.seq ?_
  refine Sc.region ?_
  refine Sl.calm (Cm.move rfl) rfl ?_
  refine Sl.calm (Cm.move rfl) rfl ?_
  refine Sl.calm (Cm.len sl23 rfl) rfl ?_
  refine Sl.fork (Cm.lss rfl rfl) rfl (fun h14 => ?_) (fun h14 => ?_)
  ·
    obtain ⟨xa, xc, hrow, hxv, hnl⟩ := (ha.grow hF).at (i := k) rfl (by omega)
    obtain ⟨ya, yc, hrow2, hyv, _⟩ := (hb.grow hF).at (i := k) rfl (by omega)
    refine Sl.nil ?_
    refine At.weak [(0, _), (1, _), (5, _), (14, _)] ⟨rfl, rfl, rfl, rfl, trivial⟩ ?_
    refine At.go ?_
    refine Sc.cond_t rfl ?_
    refine Sc.skip ?_
    refine At.go ?_
    refine Sc.seq ?_
    refine Sc.block ?_
    refine Sc.seq ?_
    refine Sc.quiet 26 [0, 1, 2, 3, 4, 5, 6, 7, 8, 9, 10, 11, 12, 13, 14, 15, 16, 17, 18, 19, 20, 21, 22, 23, 24, 25] mixed (by kernel_rfl) ?_
    refine Sx.calm rfl rfl (Cm.move rfl) rfl ?_
    refine Sx.calm rfl rfl (Cm.move rfl) rfl ?_
    refine Sx.calm rfl rfl (Cm.indexAddr sl23 rfl rfl ha.non (by omega)) rfl ?_
    refine Sx.calm rfl rfl (Cm.field fld82_0 rfl) rfl ?_
    refine Sx.calm rfl rfl (Cm.ld sca9 rfl (hrow 0 _ rfl)) rfl ?_
    refine Sx.calm rfl rfl (Cm.move rfl) rfl ?_
    refine Sx.calm rfl rfl (Cm.move rfl) rfl ?_
    refine Sx.calm rfl rfl (Cm.indexAddr sl23 rfl rfl hb.non (by omega)) rfl ?_
    refine Sx.calm rfl rfl (Cm.field fld82_0 rfl) rfl ?_
    refine Sx.calm rfl rfl (Cm.ld sca9 rfl (hrow2 0 _ rfl)) rfl ?_
    refine Sx.calm rfl rfl (Cm.no (Cm.neqBs rfl rfl) (fun h => h rfl)) rfl ?_
    refine Sx.calm rfl rfl (Cm.move rfl) rfl ?_
    refine Sx.want rfl rfl rfl rfl (Cm.move rfl) rfl ?_
    refine Sx.want rfl rfl rfl rfl (Cm.move rfl) rfl ?_
    refine Sx.want rfl rfl rfl rfl (Cm.indexAddr sl23 rfl rfl ha.non (by omega)) rfl ?_
    refine Sx.want rfl rfl rfl rfl (Cm.field fld82_1 rfl) rfl ?_
    refine Sx.want rfl rfl rfl rfl (Cm.ld sca25 rfl (hrow 1 _ rfl)) rfl ?_
    refine Sx.want rfl rfl rfl rfl (Cm.strIn sl25 ty5 ty9 rfl hxv) rfl ?_
    refine Sx.want rfl rfl rfl rfl (Cm.move rfl) rfl ?_
    refine Sx.want rfl rfl rfl rfl (Cm.move rfl) rfl ?_
    refine Sx.want rfl rfl rfl rfl (Cm.indexAddr sl23 rfl rfl hb.non (by omega)) rfl ?_
    refine Sx.want rfl rfl rfl rfl (Cm.field fld82_1 rfl) rfl ?_
    refine Sx.want rfl rfl rfl rfl (Cm.ld sca25 rfl (hrow2 1 _ rfl)) rfl ?_
    refine Sx.want rfl rfl rfl rfl (Cm.strIn sl25 ty5 ty9 rfl hyv) rfl ?_
    refine Sx.want rfl rfl rfl rfl (Cm.no (Cm.neqBs rfl rfl) (fun h => h rfl)) rfl ?_
    refine Sx.calm rfl rfl (Cm.pick_f rfl rfl) rfl ?_
    refine Sx.nil ?_
    refine At.weak [(0, _), (1, _), (5, _), (14, _), (42, _)] ⟨rfl, rfl, rfl, rfl, rfl, trivial⟩ ?_
    refine At.go ?_
    refine Sc.cond_f rfl ?_
    refine Sc.skip ?_
    refine At.block_normal ?_
    refine At.go ?_
    refine Sc.region ?_
    refine Sl.calm (Cm.move rfl) rfl ?_
    refine Sl.calm (Cm.add64 rfl rfl (by omega)) rfl ?_
    refine Sl.calm (Cm.assign rfl) rfl ?_
    refine Sl.nil ?_
    exact At.again (k + 1) ⟨rfl, rfl, rfl, trivial⟩ ⟨by omega, hF.draws 1⟩ (by show X.length - (k + 1) < X.length - k; omega)
  ·
    refine Sl.nil ?_
    refine At.weak [(0, _), (1, _), (5, _), (14, _)] ⟨rfl, rfl, rfl, rfl, trivial⟩ ?_
    refine At.go ?_
    refine Sc.cond_f rfl ?_
    refine Sc.exit ?_
    refine At.then_exit ?_
    refine At.then_exit ?_
    refine At.block_hit ?_
    refine At.go ?_
    refine Sc.seq ?_
    refine Sc.region ?_
    refine Sl.calm (Cm.assign rfl) rfl ?_
    refine Sl.nil ?_
    refine At.go ?_
    refine Sc.ret ?_
    refine At.ret1 rfl rfl ?_
    exact ⟨_, rfl, rfl, hF⟩
theorem cutNt {α : Type} {ao : Option Addr} {c n : Nat} {b : List α} (h : (n : Int) < (b.length : Int)) (s : Nat) : some (Value.slice (cutAo ao c 0 s) n c) = some (.slice ao (b.take n).length c) := by
  rw [cutAo_zero, List.length_take, Nat.min_eq_left (by omega)]
theorem nocutNt {α : Type} {ao : Option Addr} {c n : Nat} {b : List α} (h : ¬ (n : Int) < (b.length : Int)) : some (Value.slice ao b.length c) = some (.slice ao (b.take n).length c) := by
  rw [List.take_of_length_le (by omega)]
def bdT3 (x : Int × Int × Int) : Prop := bdT x.1 ∧ bdT x.2.1 ∧ bdT x.2.2
set_option maxHeartbeats 4000000 in
theorem tableTakes_ok (io : Option Addr) (ic : Nat) (im0 : List UInt8) (lo : Option Addr) (lc : Nat) (L : List (Int × Int × Int)) (W : World) (hv0 : Vw b8 W.heap io ic im0) (hl0 : VwM 3 askV W.heap lo lc L) (hlb : ∀ x ∈ L, bdT3 x) :
    Calls Try.prog 8 [.slice io im0.length ic, .slice lo L.length lc].toArray W (Ret fun v w' => v = .bool true ∧ Foot nob W w') := by
  obtain ⟨im, him⟩ : ∃ b, b = im0.take 3000 := ⟨_, rfl⟩
  have himl : im.length ≤ 3000 := by rw [him, List.length_take]; omega
  have hv : Vw b8 W.heap io ic im := by rw [him]; exact hv0.take 3000
  have hle := hv0.le
  have hll := hl0.len63
  refine calls_of_sc 126 [(0, _), (1, _)] Try.func8 rfl rfl rfl (enter_slots ⟨rfl, rfl, trivial⟩) ?_
  refine Sc.seq ?_
  refine Sc.region ?_
  refine Sl.calm (Cm.assign rfl) rfl ?_
  refine Sl.nil ?_
  refine At.go ?_
  refine Sc.seq ?_
  refine Sc.region ?_
  refine Sl.call fn14 rfl (shown11_ok W) rfl ?_
  rintro _ w1 ⟨rfl, hf1⟩
  refine Sl.calm (Cm.assign rfl) rfl ?_
  refine Sl.nil ?_
  refine At.weak [(0, _), (1, _), (4, _), (5, _)] ⟨rfl, rfl, rfl, rfl, trivial⟩ ?_
  refine At.go ?_
  refine Sc.cut (β := Unit) (fun _u => [(0, .slice io im.length ic), (1, .slice lo L.length lc), (5, .bool true)]) (fun _u w => w = w1) ?_ ?_
  ·
    refine Sc.seq ?_
    refine Sc.region ?_
    refine Sl.calm (Cm.move rfl) rfl ?_
    refine Sl.calm (Cm.len sl25 rfl) rfl ?_
    refine Sl.fork (Cm.gtr rfl rfl) rfl (fun h23 => ?_) (fun h23 => ?_)
    ·
      refine Sl.nil ?_
      refine At.weak [(0, _), (1, _), (4, _), (5, _), (23, _)] ⟨rfl, rfl, rfl, rfl, rfl, trivial⟩ ?_
      refine At.go ?_
      refine Sc.cond_t rfl ?_
      refine Sc.region ?_
      refine Sl.calm (Cm.move rfl) rfl ?_
      refine Sl.calm (Cm.sliceH sl25 rfl rfl (by omega)) rfl ?_
      refine Sl.calm (Cm.assign rfl) rfl ?_
      refine Sl.nil ?_
      refine At.cut () ⟨by rw [him]; exact cutNt (n := 3000) (by omega) 1, rfl, rfl, trivial⟩ rfl
    ·
      refine Sl.nil ?_
      refine At.weak [(0, _), (1, _), (4, _), (5, _), (23, _)] ⟨rfl, rfl, rfl, rfl, rfl, trivial⟩ ?_
      refine At.go ?_
      refine Sc.cond_f rfl ?_
      refine Sc.skip ?_
      refine At.cut () ⟨by rw [him]; exact nocutNt (n := 3000) (by omega), rfl, rfl, trivial⟩ rfl
  ·
    rintro _ wq hwq
    subst wq
    refine Sc.seq ?_
    refine Sc.region ?_
    refine Sl.call fn27 rfl (crcnew_ok w1) rfl ?_
    rintro _ w3 ⟨rfl, hf3⟩
    refine Sl.allocC zc42 rfl ?_
    intro w4 hg4 hs4 hf4
    refine Sl.storeAll (vs := tab) aggTab rfl rfl tab_one hg4 (by rw [tab_len, List.length_replicate]) ?_
    intro w5 hg5 hs5 hf5
    obtain ⟨p, hp⟩ : ∃ p, p = w3.heap.size := ⟨_, rfl⟩
    have hF5 : Foot nob W w5 := ((hf1.trans hf3).trans hf4).trans_to hf5 (fun k hk => .inr (by have h : k = w3.heap.size := hk; have := (hf1.trans hf3).size; omega))
    rw [← hp] at hg5 ⊢
    have ht5 : TbV w5.heap p := hg5
    refine Sl.nil ?_
    refine At.weak [(0, _), (1, _), (5, _), (6, _)] ⟨rfl, rfl, rfl, rfl, trivial⟩ ?_
    refine At.go ?_
    refine Sc.seq ?_
    refine Sc.region ?_
    refine Sl.lit0 b8 sl25 rfl ?_
    intro w6 ho6 hs6 hf6
    refine Sl.calm (Cm.move rfl) rfl ?_
    refine Sl.append b8_one sl25 rfl rfl ho6 ((hv.grow hF5).grow hf6) (by simp only [List.length_nil]; omega) (by simp only [List.length_nil]; unfold maxLen; omega) rfl ?_
    intro o7 c7 w7 ho7 hf7 hr7 hn7
    rw [List.nil_append] at ho7 ⊢
    have hF57 : Foot nob w5 w7 := hf6.trans_to hf7 (fun k ⟨a, ha, hk⟩ => .inr (by cases ha; have h : w5.heap.size = k := hk; omega))
    refine Sl.calm (Cm.move rfl) rfl ?_
    refine Sl.calm (Cm.len sl25 rfl) rfl ?_
    refine Sl.call fn28 rfl (mopenA_ok p o7 c7 im 0 im.length w7 (hF57.obj ht5 id) ho7.vw (by omega)) rfl ?_
    rintro _ w8 ⟨h, rfl, hh, hR8, hf8⟩
    have hF8 := (hF5.trans hF57).trans hf8
    have hz8 := hf8.size
    refine Sl.calm (Cm.assign rfl) rfl ?_
    refine Sl.nil ?_
    refine At.weak [(0, _), (1, _), (5, _), (6, _), (7, _)] ⟨rfl, rfl, rfl, rfl, rfl, trivial⟩ ?_
    refine At.go ?_
    refine Sc.seq ?_
    refine Sc.region ?_
    refine Sl.calm (Cm.move rfl) rfl ?_
    refine Sl.calm (Cm.move rfl) rfl ?_
    refine Sl.calm (Cm.len sl25 rfl) rfl ?_
    refine Sl.calm (Cm.build (cs := #[.slice io im.length ic, .int .i64 0, .int .i64 im.length]) plc49 zc49 rfl (by kernel_rfl)) rfl ?_
    refine Sl.box rfl rfl ?_
    intro w9 hg9 hs9 hf9
    obtain ⟨y, hy⟩ : ∃ y, y = w8.heap.size := ⟨_, rfl⟩
    rw [← hy] at hg9 ⊢
    have hF9 := hF8.trans hf9
    have hY9 : RrV w9.heap y io ic im 0 im.length := ⟨hg9, hv.grow hF9⟩
    have hR9 := hR8.grow hf9
    have hz9 := hf9.size
    refine Sl.calm (Cm.assign rfl) rfl ?_
    refine Sl.nil ?_
    refine At.weak [(0, _), (1, _), (5, _), (6, _), (7, _), (8, _)] ⟨rfl, rfl, rfl, rfl, rfl, rfl, trivial⟩ ?_
    refine At.go ?_
    refine Sc.seq ?_
    refine Sc.seq ?_
    refine Sc.region ?_
    refine Sl.calm (Cm.move rfl) rfl ?_
    refine Sl.calm (Cm.not rfl) rfl ?_
    refine Sl.calm (Cm.move rfl) rfl ?_
    refine Sl.want rfl rfl (Cm.move rfl) rfl ?_
    refine Sl.want rfl rfl (Cm.eqlPtrNil ptr44 rfl rfl) rfl ?_
    refine Sl.calm (Cm.pick_f rfl rfl) rfl ?_
    refine Sl.nil ?_
    refine At.weak [(0, _), (1, _), (5, _), (6, _), (7, _), (8, _), (43, _)] ⟨rfl, rfl, rfl, rfl, rfl, rfl, rfl, trivial⟩ ?_
    refine At.go ?_
    refine Sc.cond_f rfl ?_
    refine Sc.skip ?_
    refine At.go ?_
    refine Sc.seq ?_
    refine Sc.seq ?_
    refine Sc.region ?_
    refine Sl.calm (Cm.assign rfl) rfl ?_
    refine Sl.nil ?_
    refine At.go ?_
    refine Sc.block ?_
    refine Sc.loop (β := Nat × (Nat → Prop)) (fun ⟨i, R⟩ => [(1, .slice lo L.length lc), (7, .pointer (some ⟨h, 0, none⟩)), (8, .pointer (some ⟨y, 0, none⟩)), (9, .int .i64 i)]) (fun ⟨i, R⟩ w => i ≤ 12 ∧ MrO R w.heap h p im 0 im.length ∧ (∀ k, R k → w7.heap.size ≤ k ∧ k < w.heap.size) ∧ ¬ R y ∧ RrV w.heap y io ic im 0 im.length ∧ Foot nob w7 w) (fun ⟨i, R⟩ => 12 - i) ⟨0, fun k => w7.heap.size ≤ k ∧ k < w8.heap.size⟩ ⟨rfl, rfl, rfl, rfl, trivial⟩ ⟨Nat.zero_le _, hR9, (fun k hk => ⟨hk.1, by have := hk.2; omega⟩), (fun hk => by have := hk.2; omega), hY9, hf8.trans hf9⟩ ?_
    rintro ⟨i, R⟩ w10 ⟨hi, hR10, hRd, hyR, hY10, hF710⟩
    refine Sc.seq ?_
    refine Sc.seq ?_
    refine Sc.region ?_
    refine Sl.calm (Cm.move rfl) rfl ?_
    refine Sl.calm (Cm.move rfl) rfl ?_
    refine Sl.calm (Cm.len sl39 rfl) rfl ?_
    refine Sl.fork (Cm.lss rfl rfl) rfl (fun h47 => ?_) (fun h47 => ?_)
    ·
      have hiL : i < L.length := by omega
      obtain ⟨x, hx⟩ : ∃ x, L[i]? = some x := ⟨_, List.getElem?_eq_getElem hiL⟩
      obtain ⟨b1, b2, b3⟩ := hlb x (List.mem_of_getElem? hx)
      have b1u := b1.2
      have hl10 := hl0.grow ((hF5.trans hF57).trans hF710)
      obtain ⟨T, hT⟩ : ∃ T, T = tnS im 0 im.length x.1 x.2.1 := ⟨_, rfl⟩
      obtain ⟨X, hX⟩ : ∃ X, X = rtXs im 0 im.length x.2.2 := ⟨_, rfl⟩
      refine Sl.calm (Cm.move rfl) rfl ?_
      refine Sl.want rfl rfl (Cm.move rfl) rfl ?_
      refine Sl.forkWant rfl rfl (Cm.lss rfl rfl) rfl (fun h50 => ?_) (fun h50 => ?_)
      ·
        refine Sl.calm (Cm.pick_t rfl rfl) rfl ?_
        refine Sl.nil ?_
        refine At.weak [(1, _), (7, _), (8, _), (9, _), (51, _)] ⟨rfl, rfl, rfl, rfl, rfl, trivial⟩ ?_
        refine At.go ?_
        refine Sc.cond_t rfl ?_
        refine Sc.skip ?_
        refine At.go ?_
        refine Sc.seq ?_
        refine Sc.block ?_
        refine Sc.seq ?_
        refine Sc.draw 17 (fun H => VwM 3 askV H lo lc L) [11] [0, 1, 2, 3, 4, 5, 6, 7, 8, 9, 10, 11, 12, 13, 14, 15, 16] mixed (by kernel_rfl) (hl10) ?_
        refine Sx.calm rfl rfl (Cm.move rfl) rfl ?_
        refine Sx.calm rfl rfl (Cm.move rfl) rfl ?_
        refine Sx.calm rfl rfl (Cm.move rfl) rfl ?_
        refine Sx.calm rfl rfl (Cm.indexAddr sl39 rfl rfl hl10.non (by omega)) rfl ?_
        refine Sx.calm rfl rfl (Cm.field fld53_0 rfl) rfl ?_
        refine Sx.calm rfl rfl (Cm.load sca3 rfl (fun H hH => hH.rowZ i rfl hx 0 _ rfl)) rfl ?_
        refine Sx.calm rfl rfl (Cm.move rfl) rfl ?_
        refine Sx.calm rfl rfl (Cm.move rfl) rfl ?_
        refine Sx.calm rfl rfl (Cm.indexAddr sl39 rfl rfl hl10.non (by omega)) rfl ?_
        refine Sx.calm rfl rfl (Cm.field fld53_1 rfl) rfl ?_
        refine Sx.calm rfl rfl (Cm.load sca3 rfl (fun H hH => hH.rowZ i rfl hx 1 _ rfl)) rfl ?_
        refine Sx.eff rfl rfl (Sl.call fn29 rfl (tnums_ok R h p im 0 im.length x.1 x.2.1 _ (hR10.grow (Foot.ofDraws 1)) (fun k hk => (hRd k hk).2) (by omega) b1u) rfl ?_)
        rw [← hT]
        intro _ w11 hP
        obtain ⟨o11, c11, rfl, ho11, hfr11, hR11, hF11⟩ := hP
        have hF11 := hF11.undraw
        have hfr11 : Fr w10.heap.size o11 := hfr11
        have hR11 : MrO (fun k => Nx R w10 w11 k ∧ ¬ blk o11 k) w11.heap h p im 0 im.length := hR11
        have hF711 : Foot nob w7 w11 := hF710.trans_to hF11 (fun k hk => .inr (hRd k hk).1)
        have hl11 := hl0.grow ((hF5.trans hF57).trans hF711)
        refine Sx.on (by exact hl11) ?_
        have hz11 := hF11.size
        have hY11 : RrV w11.heap y io ic im 0 im.length := ⟨hF11.obj hY10.1 hyR, hv.grow ((hF5.trans hF57).trans hF711)⟩
        refine Sx.calm rfl rfl (Cm.move rfl) rfl ?_
        refine Sx.calm rfl rfl (Cm.extract rfl rfl) rfl ?_
        refine Sx.calm rfl rfl (Cm.extract rfl rfl) rfl ?_
        refine Sx.calm rfl rfl (Cm.assign rfl) rfl ?_
        refine Sx.calm rfl rfl (Cm.assign rfl) rfl ?_
        refine Sx.nil ?_
        refine At.weak [(1, _), (7, _), (8, _), (9, _), (10, _), (11, _), (51, _)] ⟨rfl, rfl, rfl, rfl, rfl, rfl, rfl, trivial⟩ ?_
        refine At.go ?_
        refine Sc.seq ?_
        refine Sc.draw 17 (fun H => VwM 3 askV H lo lc L) [11] [0, 1, 2, 3, 4, 5, 6, 7, 8, 9, 10, 11, 12, 13, 14, 15, 16] mixed (by kernel_rfl) (hl11) ?_
        refine Sx.calm rfl rfl (Cm.move rfl) rfl ?_
        refine Sx.calm rfl rfl (Cm.move rfl) rfl ?_
        refine Sx.calm rfl rfl (Cm.move rfl) rfl ?_
        refine Sx.calm rfl rfl (Cm.indexAddr sl39 rfl rfl hl10.non (by omega)) rfl ?_
        refine Sx.calm rfl rfl (Cm.field fld53_0 rfl) rfl ?_
        refine Sx.calm rfl rfl (Cm.load sca3 rfl (fun H hH => hH.rowZ i rfl hx 0 _ rfl)) rfl ?_
        refine Sx.calm rfl rfl (Cm.move rfl) rfl ?_
        refine Sx.calm rfl rfl (Cm.move rfl) rfl ?_
        refine Sx.calm rfl rfl (Cm.indexAddr sl39 rfl rfl hl10.non (by omega)) rfl ?_
        refine Sx.calm rfl rfl (Cm.field fld53_1 rfl) rfl ?_
        refine Sx.calm rfl rfl (Cm.load sca3 rfl (fun H hH => hH.rowZ i rfl hx 1 _ rfl)) rfl ?_
        refine Sx.eff rfl rfl (Sl.call fn30 rfl (rtnums_ok y io ic im 0 im.length x.1 x.2.1 _ (hY11.grow (Foot.ofDraws _)) (by omega) b1u) rfl ?_)
        rw [← hT]
        intro _ w12 hP
        obtain ⟨o12, c12, rfl, ho12, hfr12, hf12⟩ := hP
        have hf12 := hf12.undraw
        have hl12 := hl11.grow hf12
        refine Sx.on (by exact hl12) ?_
        have hz12 := hf12.size
        have hR12 := hR11.grow hf12
        refine Sx.calm rfl rfl (Cm.move rfl) rfl ?_
        refine Sx.calm rfl rfl (Cm.extract rfl rfl) rfl ?_
        refine Sx.calm rfl rfl (Cm.extract rfl rfl) rfl ?_
        refine Sx.calm rfl rfl (Cm.assign rfl) rfl ?_
        refine Sx.calm rfl rfl (Cm.assign rfl) rfl ?_
        refine Sx.nil ?_
        refine At.weak [(1, _), (7, _), (8, _), (9, _), (10, _), (11, _), (12, _), (13, _), (51, _)] ⟨rfl, rfl, rfl, rfl, rfl, rfl, rfl, rfl, rfl, trivial⟩ ?_
        refine At.go ?_
        refine Sc.seq ?_
        refine Sc.region ?_
        refine Sl.calm (Cm.move rfl) rfl ?_
        refine Sl.calm (Cm.move rfl) rfl ?_
        refine Sl.calm (Cm.move rfl) rfl ?_
        refine Sl.calm (Cm.indexAddr sl39 rfl rfl hl10.non (by omega)) rfl ?_
        refine Sl.calm (Cm.field fld53_2 rfl) rfl ?_
        refine Sl.calm (Cm.ld sca3 rfl (hl12.rowZ i rfl hx 2 _ rfl)) rfl ?_
        refine Sl.call fn31 rfl (txattrs_ok (fun k => Nx R w10 w11 k ∧ ¬ blk o11 k) h p im 0 im.length x.2.2 _ hR12 (fun k hk => hk.1.elim (fun h => by have := (hRd k h).2; show k < w12.heap.size; omega) (fun h => by have := h.2; show k < w12.heap.size; omega)) (by omega) b3) rfl ?_
        rw [← hX]
        intro _ w13 hP
        obtain ⟨o13, c13, rfl, hx13, hR13, hF13⟩ := hP
        have hz13 := hF13.size
        have hyl := (Array.getElem?_eq_some_iff.1 hY10.1).1
        have hy1 : ¬ (Nx R w10 w11 y ∧ ¬ blk o11 y) := fun e => by rcases e.1 with h | h; exact hyR h; have := h.1; omega
        have hFR : ∀ k, (Nx R w10 w11 k ∧ ¬ blk o11 k) → w7.heap.size ≤ k := fun k hk => by rcases hk.1 with h | h; exact (hRd k h).1; have := h.1; have := hF710.size; omega
        have hF713 : Foot nob w7 w13 := (hF711.trans hf12).trans_to hF13 (fun k hk => .inr (hFR k hk))
        have hl13 := hl0.grow ((hF5.trans hF57).trans hF713)
        have hY13 : RrV w13.heap y io ic im 0 im.length := ⟨hF13.obj (hf12.obj hY11.1 id) hy1, hv.grow ((hF5.trans hF57).trans hF713)⟩
        have ho13 := (ho11.grow hf12).keep hF13 (fun a ha e => e.2 ⟨a, ha, rfl⟩)
        refine Sl.calm (Cm.move rfl) rfl ?_
        refine Sl.calm (Cm.extract rfl rfl) rfl ?_
        refine Sl.calm (Cm.extract rfl rfl) rfl ?_
        refine Sl.calm (Cm.assign rfl) rfl ?_
        refine Sl.calm (Cm.assign rfl) rfl ?_
        refine Sl.nil ?_
        refine At.weak [(1, _), (7, _), (8, _), (9, _), (10, _), (11, _), (12, _), (13, _), (14, _), (15, _), (51, _)] ⟨rfl, rfl, rfl, rfl, rfl, rfl, rfl, rfl, rfl, rfl, rfl, trivial⟩ ?_
        refine At.go ?_
        refine Sc.seq ?_
        refine Sc.region ?_
        refine Sl.calm (Cm.move rfl) rfl ?_
        refine Sl.calm (Cm.move rfl) rfl ?_
        refine Sl.calm (Cm.move rfl) rfl ?_
        refine Sl.calm (Cm.indexAddr sl39 rfl rfl hl10.non (by omega)) rfl ?_
        refine Sl.calm (Cm.field fld53_2 rfl) rfl ?_
        refine Sl.calm (Cm.ld sca3 rfl (hl13.rowZ i rfl hx 2 _ rfl)) rfl ?_
        refine Sl.call fn32 rfl (rtxattrs_ok y io ic im 0 im.length x.2.2 w13 hY13 (by omega) b3) rfl ?_
        rw [← hX]
        rintro _ w14 ⟨o14, c14, rfl, hx14, hf14⟩
        refine Sl.calm (Cm.move rfl) rfl ?_
        refine Sl.calm (Cm.extract rfl rfl) rfl ?_
        refine Sl.calm (Cm.extract rfl rfl) rfl ?_
        refine Sl.calm (Cm.assign rfl) rfl ?_
        refine Sl.calm (Cm.assign rfl) rfl ?_
        refine Sl.nil ?_
        refine At.weak [(1, _), (7, _), (8, _), (9, _), (10, _), (11, _), (12, _), (13, _), (14, _), (15, _), (16, _), (17, _), (51, _)] ⟨rfl, rfl, rfl, rfl, rfl, rfl, rfl, rfl, rfl, rfl, rfl, rfl, rfl, trivial⟩ ?_
        refine At.go ?_
        refine Sc.seq ?_
        refine Sc.region ?_
        refine Sl.calm (Cm.move rfl) rfl ?_
        refine Sl.calm (Cm.move rfl) rfl ?_
        refine Sl.call fn33 rfl (same11_ok T.1 o11 o12 c11 c12 w14 (ho13.grow hf14).vw (((ho12.keep hF13 (fun a ha e => by have h1 := hfr12 a ha; have h1 : w11.heap.size ≤ a.block := h1; rcases e.1 with h | h; have := (hRd _ h).2; omega; have := h.2; omega)).grow hf14).vw)) rfl ?_
        rintro _ w15 ⟨rfl, hf15⟩
        refine Sl.calm (Cm.assign rfl) rfl ?_
        refine Sl.nil ?_
        refine At.weak [(1, _), (7, _), (8, _), (9, _), (10, _), (11, _), (12, _), (13, _), (14, _), (15, _), (16, _), (17, _), (18, _), (51, _)] ⟨rfl, rfl, rfl, rfl, rfl, rfl, rfl, rfl, rfl, rfl, rfl, rfl, rfl, rfl, trivial⟩ ?_
        refine At.go ?_
        refine Sc.seq ?_
        refine Sc.region ?_
        refine Sl.calm (Cm.move rfl) rfl ?_
        refine Sl.calm (Cm.move rfl) rfl ?_
        refine Sl.call fn34 rfl (sameX_ok X.1 o13 o14 c13 c14 w15 ((hx13.grow hf14).grow hf15) (hx14.grow hf15)) rfl ?_
        rintro _ w16 ⟨rfl, hf16⟩
        refine Sl.calm (Cm.assign rfl) rfl ?_
        refine Sl.nil ?_
        refine At.weak [(1, _), (7, _), (8, _), (9, _), (10, _), (11, _), (12, _), (13, _), (14, _), (15, _), (16, _), (17, _), (18, _), (19, _), (51, _)] ⟨rfl, rfl, rfl, rfl, rfl, rfl, rfl, rfl, rfl, rfl, rfl, rfl, rfl, rfl, rfl, trivial⟩ ?_
        refine At.go ?_
        refine Sc.seq ?_
        refine Sc.region ?_
        refine Sl.calm (Cm.move rfl) rfl ?_
        refine Sl.calm (Cm.not rfl) rfl ?_
        refine Sl.calm (Cm.move rfl) rfl ?_
        refine Sl.want rfl rfl (Cm.move rfl) rfl ?_
        refine Sl.want rfl rfl (Cm.move rfl) rfl ?_
        refine Sl.want rfl rfl (Cm.no (Cm.neq rfl rfl) (fun h => h rfl)) rfl ?_
        refine Sl.calm (Cm.pick_f rfl rfl) rfl ?_
        refine Sl.calm (Cm.move rfl) rfl ?_
        refine Sl.want rfl rfl (Cm.move rfl) rfl ?_
        refine Sl.want rfl rfl (Cm.not rfl) rfl ?_
        refine Sl.calm (Cm.pick_f rfl rfl) rfl ?_
        refine Sl.calm (Cm.move rfl) rfl ?_
        refine Sl.want rfl rfl (Cm.move rfl) rfl ?_
        refine Sl.want rfl rfl (Cm.move rfl) rfl ?_
        refine Sl.want rfl rfl (Cm.no (Cm.neq rfl rfl) (fun h => h rfl)) rfl ?_
        refine Sl.calm (Cm.pick_f rfl rfl) rfl ?_
        refine Sl.nil ?_
        refine At.weak [(1, _), (7, _), (8, _), (9, _), (10, _), (11, _), (12, _), (13, _), (14, _), (15, _), (16, _), (17, _), (18, _), (19, _), (51, _), (125, _)] ⟨rfl, rfl, rfl, rfl, rfl, rfl, rfl, rfl, rfl, rfl, rfl, rfl, rfl, rfl, rfl, rfl, trivial⟩ ?_
        refine At.go ?_
        refine Sc.cond_f rfl ?_
        refine Sc.skip ?_
        refine At.block_normal ?_
        refine At.go ?_
        refine Sc.region ?_
        refine Sl.calm (Cm.move rfl) rfl ?_
        refine Sl.calm (Cm.add64 rfl rfl (by omega)) rfl ?_
        refine Sl.calm (Cm.assign rfl) rfl ?_
        refine Sl.nil ?_
        have hf1316 := (hf14.trans hf15).trans hf16
        have hz16 := hf1316.size
        exact At.again ⟨i + 1, Nx (fun k => Nx R w10 w11 k ∧ ¬ blk o11 k) w12 w13⟩ ⟨rfl, rfl, rfl, rfl, trivial⟩ ⟨by omega, hR13.grow hf1316, (fun k hk => by rcases hk with h | h; refine ⟨hFR k h, ?_⟩; rcases h.1 with h2 | h2; have := (hRd k h2).2; omega; have := h2.2; omega; have h1 := h.1; have h2 := h.2; have := hF710.size; exact ⟨by omega, by omega⟩), (fun hk => by rcases hk with h | h; exact hy1 h; have := h.1; omega), (hY13.grow hf1316), hF713.trans hf1316⟩ (by show 12 - (i + 1) < 12 - i; omega)
      ·
        refine Sl.calm (Cm.pick_t rfl rfl) rfl ?_
        refine Sl.nil ?_
        refine At.weak [(1, _), (7, _), (8, _), (9, _), (51, _)] ⟨rfl, rfl, rfl, rfl, rfl, trivial⟩ ?_
        refine At.go ?_
        refine Sc.cond_f rfl ?_
        refine Sc.exit ?_
        refine At.then_exit ?_
        refine At.then_exit ?_
        refine At.block_hit ?_
        refine At.go ?_
        refine Sc.seq ?_
        refine Sc.region ?_
        refine Sl.calm (Cm.assign rfl) rfl ?_
        refine Sl.nil ?_
        refine At.go ?_
        refine Sc.ret ?_
        refine At.ret1 rfl rfl ?_
        exact ⟨_, rfl, rfl, (hF5.trans hF57).trans hF710⟩
    ·
      refine Sl.calm (Cm.move rfl) rfl ?_
      refine Sl.skip rfl rfl rfl rfl ?_
      refine Sl.skip rfl rfl rfl rfl ?_
      refine Sl.calm (Cm.pick_f rfl rfl) rfl ?_
      refine Sl.nil ?_
      refine At.weak [(1, _), (7, _), (8, _), (9, _), (51, _)] ⟨rfl, rfl, rfl, rfl, rfl, trivial⟩ ?_
      refine At.go ?_
      refine Sc.cond_f rfl ?_
      refine Sc.exit ?_
      refine At.then_exit ?_
      refine At.then_exit ?_
      refine At.block_hit ?_
      refine At.go ?_
      refine Sc.seq ?_
      refine Sc.region ?_
      refine Sl.calm (Cm.assign rfl) rfl ?_
      refine Sl.nil ?_
      refine At.go ?_
      refine Sc.ret ?_
      refine At.ret1 rfl rfl ?_
      exact ⟨_, rfl, rfl, (hF5.trans hF57).trans hF710⟩
end Go.Proofs.Ytoaplldahbbaiaa
