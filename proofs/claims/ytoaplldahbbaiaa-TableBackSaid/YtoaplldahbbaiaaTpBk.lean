/- table: MayXattrs, PutXattrs, the program's and the reference's. No condition beyond the bounds that each states. -/
import Derived.Test.YtoaplldahbbaiaaTpAk
namespace Go.Proofs.Ytoaplldahbbaiaa
open Go Go.RowKit
set_option linter.unusedVariables false

/-! strings.IndexByte -/
theorem slite_ok (s : List UInt8) (c : Int) (W : World) : Calls Try.prog 76 [.string (bs s), .int .u8 c].toArray W (Ret fun v w' => v = .int .i64 (Lib.indexByte s c.toNat.toUInt8) ∧ w' = W) := by
  refine calls_of_sc 8 [(0, _), (1, _)] Try.func76 rfl rfl rfl (enter_slots ⟨rfl, rfl, trivial⟩) ?_
  refine Sc.seq ?_
  refine Sc.region ?_
  refine Sl.calm (Cm.assign rfl) rfl ?_
  refine Sl.nil ?_
  refine At.go ?_
  refine Sc.seq ?_
  refine Sc.region ?_
  refine Sl.calm (Cm.move rfl) rfl ?_
  refine Sl.calm (Cm.move rfl) rfl ?_
  refine Sl.calm (Cm.indexByte ib102 rfl rfl) rfl ?_
  refine Sl.calm (Cm.assign rfl) rfl ?_
  refine Sl.nil ?_
  refine At.weak [(0, _), (1, _), (4, _)] ⟨rfl, rfl, rfl, trivial⟩ ?_
  refine At.go ?_
  refine Sc.ret ?_
  refine At.ret1 rfl rfl ?_
  exact ⟨_, rfl, rfl, rfl⟩
theorem ixb_ok (s : List UInt8) (c : Int) (W : World) : Calls Try.prog 51 [.string (bs s), .int .u8 c].toArray W (Ret fun v w' => v = .int .i64 (Lib.indexByte s c.toNat.toUInt8) ∧ w' = W) := by
  refine calls_of_sc 8 [(0, _), (1, _)] Try.func51 rfl rfl rfl (enter_slots ⟨rfl, rfl, trivial⟩) ?_
  refine Sc.seq ?_
  refine Sc.region ?_
  refine Sl.calm (Cm.assign rfl) rfl ?_
  refine Sl.nil ?_
  refine At.go ?_
  refine Sc.seq ?_
  refine Sc.region ?_
  refine Sl.calm (Cm.move rfl) rfl ?_
  refine Sl.calm (Cm.move rfl) rfl ?_
  refine Sl.call fn76 rfl (slite_ok s c W) rfl ?_
  rintro _ w1 ⟨rfl, hw1⟩
  subst w1
  refine Sl.calm (Cm.assign rfl) rfl ?_
  refine Sl.nil ?_
  refine At.weak [(0, _), (1, _), (4, _)] ⟨rfl, rfl, rfl, trivial⟩ ?_
  refine At.go ?_
  refine Sc.ret ?_
  refine At.ret1 rfl rfl ?_
  exact ⟨_, rfl, rfl, rfl⟩
theorem nul_neg {s : List UInt8} (h : Lib.indexByte s (0 : Int).toNat.toUInt8 < 0) : (0 : UInt8) ∉ s := (indexByte_neg s 0).1 h
theorem nul_pos {s : List UInt8} (h : 0 ≤ Lib.indexByte s (0 : Int).toNat.toUInt8) : (0 : UInt8) ∈ s := by
  apply Classical.byContradiction; intro hn
  have := (indexByte_neg s 0).2 hn
  have h2 : Lib.indexByte s (0 : Int).toNat.toUInt8 = Lib.indexByte s 0 := rfl
  omega

theorem less_not : ∀ a b : List UInt8, (Op.bytesLess a b || a == b) = !Op.bytesLess b a
  | [], [] => rfl
  | [], _ :: _ => rfl
  | _ :: _, [] => rfl
  | x :: a, y :: b => by
    have ih := less_not a b
    unfold Op.bytesLess
    rcases Nat.lt_trichotomy x.toNat y.toNat with h | h | h
    · have h1 : x < y := UInt8.lt_iff_toNat_lt.2 h
      have h2 : ¬ y < x := by rw [UInt8.lt_iff_toNat_lt]; omega
      have h3 : x ≠ y := by intro e; subst e; omega
      simp [h1, h2, Ne.symm h3]
    · have h1 : x = y := UInt8.toNat_inj.1 h
      subst h1
      have h2 : ¬ x < x := by rw [UInt8.lt_iff_toNat_lt]; omega
      simpa [h2] using ih
    · have h1 : y < x := UInt8.lt_iff_toNat_lt.2 h
      have h2 : ¬ x < y := by rw [UInt8.lt_iff_toNat_lt]; omega
      have h3 : x ≠ y := by intro e; subst e; omega
      simp [h1, h2, h3]
theorem less_nil (a : List UInt8) : Op.bytesLess [] a = true ↔ a ≠ [] := by cases a <;> simp [Op.bytesLess]
theorem less_ne {a b : List UInt8} (h : Op.bytesLess a b = true) : b ≠ [] := by intro e; subst e; cases a <;> simp [Op.bytesLess] at h

/-! attributes -/
abbrev Xa := List UInt8 × List UInt8
def x0 : Xa := ([], [])
def encX (x : List UInt8 × Hd) : List Value := [.string (bs x.1), hd x.2]
theorem encX_cells : CellsM 2 encX := fun x => ⟨rfl, by simp [encX, Value.oneCell', hd]⟩
def XaV (H : Array Obj) (ao : Option Addr) (cap : Nat) (X : List Xa) : Prop :=
  ∃ xs : List (List UInt8 × Hd), VwM 2 encX H ao cap xs ∧ xs.length = X.length ∧ ∀ (i : Nat) (x : List UInt8 × Hd) (y : Xa), xs[i]? = some x → X[i]? = some y → x.1 = y.1 ∧ x.2.n = y.2.length ∧ Vw b8 H x.2.a x.2.c y.2 ∧ y.1.length ≤ maxLen
theorem Vw.grow' {α : Type} {enc : α → Value} {w w' : World} {ao : Option Addr} {cap : Nat} {xs : List α} (h : Vw enc w.heap ao cap xs) (f : Foot nob w w') : Vw enc w'.heap ao cap xs := h.grow f
theorem XaV.grow {w w' : World} {ao : Option Addr} {cap : Nat} {X : List Xa} (h : XaV w.heap ao cap X) (f : Foot nob w w') : XaV w'.heap ao cap X := by
  obtain ⟨xs, h1, h2, h3⟩ := h
  exact ⟨xs, h1.grow f, h2, fun i x y hx hy => ⟨(h3 i x y hx hy).1, (h3 i x y hx hy).2.1, (h3 i x y hx hy).2.2.1.grow f, (h3 i x y hx hy).2.2.2⟩⟩
theorem XaV.non {H : Array Obj} {ao : Option Addr} {cap : Nat} {X : List Xa} (h : XaV H ao cap X) : X.length ≠ 0 → ao ≠ none := by
  obtain ⟨xs, h1, h2, h3⟩ := h; rw [← h2]; exact h1.non
theorem XaV.len63 {H : Array Obj} {ao : Option Addr} {cap : Nat} {X : List Xa} (h : XaV H ao cap X) : (X.length : Int) ≤ 9223372036854775807 := by
  obtain ⟨xs, h1, h2, h3⟩ := h; rw [← h2]; exact h1.len63
theorem XaV.le {H : Array Obj} {ao : Option Addr} {cap : Nat} {X : List Xa} (h : XaV H ao cap X) : X.length ≤ cap := by
  obtain ⟨xs, h1, h2, h3⟩ := h; rw [← h2]; exact h1.le
theorem XaV.take {H : Array Obj} {ao : Option Addr} {cap : Nat} {X : List Xa} (h : XaV H ao cap X) (n : Nat) : XaV H ao cap (X.take n) := by
  obtain ⟨xs, h1, h2, h3⟩ := h
  refine ⟨xs.take n, h1.take n, by simp [h2], fun i x y hx hy => ?_⟩
  rw [List.getElem?_take] at hx hy
  by_cases hi : i < n
  · rw [if_pos hi] at hx hy; exact h3 i x y hx hy
  · rw [if_neg hi] at hx; cases hx
theorem XaV.at {H : Array Obj} {ao : Option Addr} {cap : Nat} {X : List Xa} (h : XaV H ao cap X) {i : Nat} {z : Int} (hz : z = i) (hi : i < X.length) :
    ∃ xa xc, (∀ j v, [Value.string (bs (X.getD i x0).1), .slice xa (X.getD i x0).2.length xc][j]? = some v → cellH H ((adr ao (z.toNat * 2)).add j) = some v) ∧ Vw b8 H xa xc (X.getD i x0).2 ∧ (X.getD i x0).1.length ≤ maxLen := by
  obtain ⟨xs, h1, h2, h3⟩ := h
  have hi2 : i < xs.length := by omega
  have e : X.getD i x0 = X[i] := by simp [List.getD, hi]
  rw [e]
  obtain ⟨e1, e2, e3, e4⟩ := h3 i xs[i] X[i] (List.getElem?_eq_getElem hi2) (List.getElem?_eq_getElem hi)
  have hrow := h1.rowZ i hz (List.getElem?_eq_getElem hi2)
  refine ⟨xs[i].2.a, xs[i].2.c, fun j v hv => hrow j v ?_, e3, e4⟩
  rw [← hv, ← e1, ← e2]; rfl

def prevX (X : List Xa) : Nat → List UInt8
  | 0 => []
  | i + 1 => (X.getD i x0).1
def goodX (X : List Xa) (i : Nat) : Prop := Op.bytesLess (prevX X i) (X.getD i x0).1 = true ∧ (X.getD i x0).1.length ≤ 40 ∧ (0 : UInt8) ∉ (X.getD i x0).1 ∧ (X.getD i x0).2.length ≤ 200
instance (X : List Xa) (i : Nat) : Decidable (goodX X i) := by unfold goodX; exact inferInstance
def mayX (X : List Xa) : Prop := (∀ i, i < X.length → goodX X i) ∧ X.length ≤ 8
instance (X : List Xa) : Decidable (mayX X) := by unfold mayX; exact inferInstance

set_option maxHeartbeats 1000000 in
theorem mayX_ok (xo : Option Addr) (xc : Nat) (X : List Xa) (W : World) (hv : XaV W.heap xo xc X) :
    Calls Try.prog 19 [.slice xo X.length xc].toArray W (Ret fun v w' => v = .bool (decide (mayX X)) ∧ Foot nob W w') := by
  have hl := hv.len63
  refine calls_of_sc 40 [(0, _)] Try.func19 rfl rfl rfl (enter_slots ⟨rfl, trivial⟩) ?_
  refine Sc.seq ?_
  refine Sc.region ?_
  refine Sl.calm (Cm.assign rfl) rfl ?_
  refine Sl.nil ?_
  refine At.go ?_
  refine Sc.seq ?_
  refine Sc.region ?_
  refine Sl.calm (Cm.assign rfl) rfl ?_
  refine Sl.nil ?_
  refine At.go ?_
  refine Sc.seq ?_
  refine Sc.seq ?_
  refine Sc.region ?_
  refine Sl.calm (Cm.move rfl) rfl ?_
  refine Sl.calm (Cm.len sl23 rfl) rfl ?_
  refine Sl.calm (Cm.move rfl) rfl ?_
  refine Sl.nil ?_
  refine At.go ?_
  refine Sc.block ?_
  refine Sc.loop (β := Nat) (fun k => [(0, .slice xo X.length xc), (3, .string (bs (prevX X k))), (6, .slice xo X.length xc), (7, .int .i64 X.length), (8, .int .i64 k)]) (fun k w => k ≤ X.length ∧ (∀ i, i < k → goodX X i) ∧ Foot nob W w) (fun k => X.length - k) 0 ⟨rfl, rfl, rfl, rfl, rfl, trivial⟩ ⟨Nat.zero_le _, by intro i hi; omega, Foot.refl _ _⟩ ?_
  rintro k w2 ⟨hk, hgood, hF2⟩
  refine Sc.seq ?_
  refine Sc.region ?_
  refine Sl.fork (Cm.lss rfl rfl) rfl (fun h9 => ?_) (fun h9 => ?_)
  ·
    refine Sl.nil ?_
    refine At.go ?_
    refine Sc.seq ?_
    refine Sc.cond_t rfl ?_
    refine Sc.skip ?_
    refine At.go ?_
    refine Sc.seq ?_
    refine Sc.block ?_
    refine Sc.seq ?_
    refine Sc.region ?_
    obtain ⟨xa, xc2, hrow, hxv, hnl⟩ := (hv.grow hF2).at (i := k) rfl (by omega)
    refine Sl.calm (Cm.indexAddr sl23 rfl rfl hv.non (by omega)) rfl ?_
    refine Sl.calm (Cm.ldM (cs := [.string (bs (X.getD k x0).1), .slice xa (X.getD k x0).2.length xc2]) agg82 rfl hrow) rfl ?_
    refine Sl.allocC zc82 rfl ?_
    intro w3 hg3 hs3 hf3
    refine Sl.storeAll (vs := [.string (bs (X.getD k x0).1), .slice xa (X.getD k x0).2.length xc2]) agg82 rfl rfl (by simp [Value.oneCell']) hg3 rfl ?_
    intro w4 hg4 hs4 hf4
    have hF4 : Foot nob W w4 := hF2.trans (hf3.trans_to hf4 (fun k hk => .inr (by omega)))
    refine Sl.nil ?_
    refine At.weak [(0, _), (3, _), (5, _), (6, _), (7, _), (8, _), (9, _)] ⟨rfl, rfl, rfl, rfl, rfl, rfl, rfl, trivial⟩ ?_
    refine At.go ?_
    refine Sc.seq ?_
    refine Sc.seq ?_
    refine Sc.region ?_
    refine Sl.calm (Cm.field fld82_0 rfl) rfl ?_
    refine Sl.calm (Cm.ld sca9 rfl (cellF hg4 rfl)) rfl ?_
    refine Sl.calm (Cm.move rfl) rfl ?_
    refine Sl.fork (Cm.ofBool (Cm.leqBs rfl rfl)) rfl (fun h15 => ?_) (fun h15 => ?_)
    ·
      have hbad : ¬ mayX X := fun h => by have := (h.1 k (by omega)).1; rw [less_not] at h15; rw [this] at h15; cases h15
      refine Sl.calm (Cm.move rfl) rfl ?_
      refine Sl.skip rfl rfl rfl rfl ?_
      refine Sl.skip rfl rfl rfl rfl ?_
      refine Sl.skip rfl rfl rfl rfl ?_
      refine Sl.skip rfl rfl rfl rfl ?_
      refine Sl.calm (Cm.pick_t rfl rfl) rfl ?_
      refine Sl.calm (Cm.move rfl) rfl ?_
      refine Sl.skip rfl rfl rfl rfl ?_
      refine Sl.skip rfl rfl rfl rfl ?_
      refine Sl.skip rfl rfl rfl rfl ?_
      refine Sl.skip rfl rfl rfl rfl ?_
      refine Sl.calm (Cm.pick_t rfl rfl) rfl ?_
      refine Sl.calm (Cm.move rfl) rfl ?_
      refine Sl.skip rfl rfl rfl rfl ?_
      refine Sl.skip rfl rfl rfl rfl ?_
      refine Sl.skip rfl rfl rfl rfl ?_
      refine Sl.skip rfl rfl rfl rfl ?_
      refine Sl.calm (Cm.pick_t rfl rfl) rfl ?_
      refine Sl.nil ?_
      refine At.weak [(0, _), (3, _), (5, _), (6, _), (7, _), (8, _), (9, _), (33, _)] ⟨rfl, rfl, rfl, rfl, rfl, rfl, rfl, rfl, trivial⟩ ?_
      refine At.go ?_
      refine Sc.cond_t rfl ?_
      refine Sc.seq ?_
      refine Sc.region ?_
      refine Sl.calm (Cm.assign rfl) rfl ?_
      refine Sl.nil ?_
      refine At.go ?_
      refine Sc.ret ?_
      refine At.then_ret ?_
      refine At.block_ret ?_
      refine At.then_ret ?_
      refine At.then_ret ?_
      refine At.block_ret ?_
      refine At.then_ret ?_
      refine At.ret1 rfl rfl ?_
      exact ⟨_, rfl, by rw [decide_eq_false hbad], hF4⟩
    ·
      have g1 : Op.bytesLess (prevX X k) (X.getD k x0).1 = true := by rw [less_not] at h15; revert h15; cases Op.bytesLess (prevX X k) (X.getD k x0).1 <;> simp
      refine Sl.calm (Cm.move rfl) rfl ?_
      refine Sl.want rfl rfl (Cm.field fld82_0 rfl) rfl ?_
      refine Sl.want rfl rfl (Cm.ld sca9 rfl (cellF hg4 rfl)) rfl ?_
      refine Sl.want rfl rfl (Cm.lenBs ty9 rfl) rfl ?_
      refine Sl.forkWant rfl rfl (Cm.gtr rfl rfl) rfl (fun h20 => ?_) (fun h20 => ?_)
      ·
        have hbad : ¬ mayX X := fun h => by have := (h.1 k (by omega)).2.1; omega
        refine Sl.calm (Cm.pick_f rfl rfl) rfl ?_
        refine Sl.calm (Cm.move rfl) rfl ?_
        refine Sl.skip rfl rfl rfl rfl ?_
        refine Sl.skip rfl rfl rfl rfl ?_
        refine Sl.skip rfl rfl rfl rfl ?_
        refine Sl.skip rfl rfl rfl rfl ?_
        refine Sl.calm (Cm.pick_t rfl rfl) rfl ?_
        refine Sl.calm (Cm.move rfl) rfl ?_
        refine Sl.skip rfl rfl rfl rfl ?_
        refine Sl.skip rfl rfl rfl rfl ?_
        refine Sl.skip rfl rfl rfl rfl ?_
        refine Sl.skip rfl rfl rfl rfl ?_
        refine Sl.calm (Cm.pick_t rfl rfl) rfl ?_
        refine Sl.nil ?_
        refine At.weak [(0, _), (3, _), (5, _), (6, _), (7, _), (8, _), (9, _), (33, _)] ⟨rfl, rfl, rfl, rfl, rfl, rfl, rfl, rfl, trivial⟩ ?_
        refine At.go ?_
        refine Sc.cond_t rfl ?_
        refine Sc.seq ?_
        refine Sc.region ?_
        refine Sl.calm (Cm.assign rfl) rfl ?_
        refine Sl.nil ?_
        refine At.go ?_
        refine Sc.ret ?_
        refine At.then_ret ?_
        refine At.block_ret ?_
        refine At.then_ret ?_
        refine At.then_ret ?_
        refine At.block_ret ?_
        refine At.then_ret ?_
        refine At.ret1 rfl rfl ?_
        exact ⟨_, rfl, by rw [decide_eq_false hbad], hF4⟩
      ·
        refine Sl.calm (Cm.pick_f rfl rfl) rfl ?_
        refine Sl.calm (Cm.move rfl) rfl ?_
        refine Sl.want rfl rfl (Cm.field fld82_0 rfl) rfl ?_
        refine Sl.want rfl rfl (Cm.ld sca9 rfl (cellF hg4 rfl)) rfl ?_
        refine Sl.callWant rfl rfl fn51 rfl (ixb_ok _ 0 w4) rfl ?_
        rintro _ w5 ⟨rfl, hw5⟩
        subst w5
        refine Sl.forkWant rfl rfl (Cm.geq rfl rfl) rfl (fun h26 => ?_) (fun h26 => ?_)
        ·
          have hbad : ¬ mayX X := fun h => (h.1 k (by omega)).2.2.1 (nul_pos h26)
          refine Sl.calm (Cm.pick_f rfl rfl) rfl ?_
          refine Sl.calm (Cm.move rfl) rfl ?_
          refine Sl.skip rfl rfl rfl rfl ?_
          refine Sl.skip rfl rfl rfl rfl ?_
          refine Sl.skip rfl rfl rfl rfl ?_
          refine Sl.skip rfl rfl rfl rfl ?_
          refine Sl.calm (Cm.pick_t rfl rfl) rfl ?_
          refine Sl.nil ?_
          refine At.weak [(0, _), (3, _), (5, _), (6, _), (7, _), (8, _), (9, _), (33, _)] ⟨rfl, rfl, rfl, rfl, rfl, rfl, rfl, rfl, trivial⟩ ?_
          refine At.go ?_
          refine Sc.cond_t rfl ?_
          refine Sc.seq ?_
          refine Sc.region ?_
          refine Sl.calm (Cm.assign rfl) rfl ?_
          refine Sl.nil ?_
          refine At.go ?_
          refine Sc.ret ?_
          refine At.then_ret ?_
          refine At.block_ret ?_
          refine At.then_ret ?_
          refine At.then_ret ?_
          refine At.block_ret ?_
          refine At.then_ret ?_
          refine At.ret1 rfl rfl ?_
          exact ⟨_, rfl, by rw [decide_eq_false hbad], hF4⟩
        ·
          have g3 := nul_neg (Int.not_le.1 h26)
          refine Sl.calm (Cm.pick_f rfl rfl) rfl ?_
          refine Sl.calm (Cm.move rfl) rfl ?_
          refine Sl.want rfl rfl (Cm.field fld82_1 rfl) rfl ?_
          refine Sl.want rfl rfl (Cm.ld sca25 rfl (cellF hg4 rfl)) rfl ?_
          refine Sl.want rfl rfl (Cm.len sl25 rfl) rfl ?_
          refine Sl.forkWant rfl rfl (Cm.gtr rfl rfl) rfl (fun h32 => ?_) (fun h32 => ?_)
          ·
            have hbad : ¬ mayX X := fun h => by have := (h.1 k (by omega)).2.2.2; omega
            refine Sl.calm (Cm.pick_f rfl rfl) rfl ?_
            refine Sl.nil ?_
            refine At.weak [(0, _), (3, _), (5, _), (6, _), (7, _), (8, _), (9, _), (33, _)] ⟨rfl, rfl, rfl, rfl, rfl, rfl, rfl, rfl, trivial⟩ ?_
            refine At.go ?_
            refine Sc.cond_t rfl ?_
            refine Sc.seq ?_
            refine Sc.region ?_
            refine Sl.calm (Cm.assign rfl) rfl ?_
            refine Sl.nil ?_
            refine At.go ?_
            refine Sc.ret ?_
            refine At.then_ret ?_
            refine At.block_ret ?_
            refine At.then_ret ?_
            refine At.then_ret ?_
            refine At.block_ret ?_
            refine At.then_ret ?_
            refine At.ret1 rfl rfl ?_
            exact ⟨_, rfl, by rw [decide_eq_false hbad], hF4⟩
          ·
            refine Sl.calm (Cm.pick_f rfl rfl) rfl ?_
            refine Sl.nil ?_
            refine At.weak [(0, _), (3, _), (5, _), (6, _), (7, _), (8, _), (9, _), (33, _)] ⟨rfl, rfl, rfl, rfl, rfl, rfl, rfl, rfl, trivial⟩ ?_
            refine At.go ?_
            refine Sc.cond_f rfl ?_
            refine Sc.skip ?_
            refine At.go ?_
            refine Sc.region ?_
            refine Sl.calm (Cm.field fld82_0 rfl) rfl ?_
            refine Sl.calm (Cm.ld sca9 rfl (cellF hg4 rfl)) rfl ?_
            refine Sl.calm (Cm.assign rfl) rfl ?_
            refine Sl.nil ?_
            refine At.block_normal ?_
            refine At.weak [(0, _), (3, _), (5, _), (6, _), (7, _), (8, _), (9, _), (33, _)] ⟨rfl, rfl, rfl, rfl, rfl, rfl, rfl, rfl, trivial⟩ ?_
            refine At.go ?_
            refine Sc.region ?_
            refine Sl.calm (Cm.add64 rfl rfl (by omega)) rfl ?_
            refine Sl.calm (Cm.move rfl) rfl ?_
            refine Sl.nil ?_
            refine At.again (k + 1) ⟨rfl, rfl, rfl, rfl, rfl, trivial⟩ ?_ (by show X.length - (k + 1) < X.length - k; omega)
            refine ⟨by omega, fun i hi => ?_, hF4⟩
            by_cases hik : i = k
            · subst hik; exact ⟨g1, by omega, g3, by omega⟩
            · exact hgood i (by omega)
  ·
    refine Sl.nil ?_
    refine At.go ?_
    refine Sc.seq ?_
    refine Sc.cond_f rfl ?_
    refine Sc.exit ?_
    refine At.then_exit ?_
    refine At.then_exit ?_
    refine At.block_hit ?_
    refine At.go ?_
    refine Sc.seq ?_
    refine Sc.region ?_
    refine Sl.calm (Cm.move rfl) rfl ?_
    refine Sl.calm (Cm.len sl23 rfl) rfl ?_
    refine Sl.calm (Cm.leq rfl rfl) rfl ?_
    refine Sl.calm (Cm.assign rfl) rfl ?_
    refine Sl.nil ?_
    refine At.weak [(0, _), (2, _), (3, _), (6, _), (7, _), (8, _), (9, _)] ⟨rfl, rfl, rfl, rfl, rfl, rfl, rfl, trivial⟩ ?_
    refine At.go ?_
    refine Sc.ret ?_
    refine At.ret1 rfl rfl ?_
    refine ⟨_, rfl, ?_, hF2⟩
    have hk2 : k = X.length := by omega
    subst hk2
    congr 1
    exact decide_eq_decide.2 ⟨fun h => ⟨hgood, by omega⟩, fun h => by have := h.2; omega⟩

theorem nul_ok (s : List UInt8) (W : World) (hs : s.length ≤ maxLen) : Calls Try.prog 74 [.string (bs s)].toArray W (Ret fun v w' => v = .bool (decide ((0 : UInt8) ∈ s)) ∧ w' = W) := by
  have hl : (s.length : Int) ≤ 9223372036854775807 := by unfold maxLen at hs; omega
  refine calls_of_sc 14 [(0, _)] Try.func74 rfl rfl rfl (enter_slots ⟨rfl, trivial⟩) ?_
  refine Sc.seq ?_
  refine Sc.region ?_
  refine Sl.calm (Cm.assign rfl) rfl ?_
  refine Sl.nil ?_
  refine At.go ?_
  refine Sc.seq ?_
  refine Sc.seq ?_
  refine Sc.region ?_
  refine Sl.calm (Cm.assign rfl) rfl ?_
  refine Sl.nil ?_
  refine At.go ?_
  refine Sc.block ?_
  refine Sc.loop (β := Nat) (fun k => [(0, .string (bs s)), (3, .int .i64 k)]) (fun k w => k ≤ s.length ∧ (∀ i, i < k → s.getD i 0 ≠ 0) ∧ w = W) (fun k => s.length - k) 0 ⟨rfl, rfl, trivial⟩ ⟨Nat.zero_le _, by intro i hi; omega, rfl⟩ ?_
  rintro k w2 ⟨hk, hgood, hw2⟩
  subst hw2
  refine Sc.seq ?_
  refine Sc.seq ?_
  refine Sc.region ?_
  refine Sl.calm (Cm.move rfl) rfl ?_
  refine Sl.calm (Cm.move rfl) rfl ?_
  refine Sl.calm (Cm.lenBs ty9 rfl) rfl ?_
  refine Sl.fork (Cm.lss rfl rfl) rfl (fun h7 => ?_) (fun h7 => ?_)
  ·
    refine Sl.nil ?_
    refine At.weak [(0, _), (3, _), (7, _)] ⟨rfl, rfl, rfl, trivial⟩ ?_
    refine At.go ?_
    refine Sc.cond_t rfl ?_
    refine Sc.skip ?_
    refine At.go ?_
    refine Sc.seq ?_
    refine Sc.block ?_
    refine Sc.seq ?_
    refine Sc.region ?_
    refine Sl.calm (Cm.move rfl) rfl ?_
    refine Sl.calm (Cm.move rfl) rfl ?_
    refine Sl.calm (Cm.idxS ty9 rfl rfl (by omega)) rfl ?_
    refine Sl.fork (Cm.eql rfl rfl) rfl (fun h13 => ?_) (fun h13 => ?_)
    ·
      refine Sl.nil ?_
      refine At.weak [(0, _), (3, _), (7, _), (13, _)] ⟨rfl, rfl, rfl, rfl, trivial⟩ ?_
      refine At.go ?_
      refine Sc.cond_t rfl ?_
      refine Sc.seq ?_
      refine Sc.region ?_
      refine Sl.calm (Cm.assign rfl) rfl ?_
      refine Sl.nil ?_
      refine At.go ?_
      refine Sc.ret ?_
      refine At.block_ret ?_
      refine At.then_ret ?_
      refine At.then_ret ?_
      refine At.block_ret ?_
      refine At.then_ret ?_
      refine At.ret1 rfl rfl ?_
      refine ⟨_, rfl, ?_, rfl⟩
      rw [decide_eq_true]
      have e : s.getD k 0 = 0 := UInt8.toNat_inj.1 (by have : ((s.getD ((k : Int)).toNat 0).toNat : Int) = 0 := h13; have e2 : ((k : Int)).toNat = k := rfl; rw [e2] at this; show _ = 0; omega)
      have hk2 : k < s.length := by omega
      rw [List.getD, List.getElem?_eq_getElem hk2] at e
      rw [← e]; exact List.getElem_mem hk2
    ·
      refine Sl.nil ?_
      refine At.weak [(0, _), (3, _), (7, _), (13, _)] ⟨rfl, rfl, rfl, rfl, trivial⟩ ?_
      refine At.go ?_
      refine Sc.cond_f rfl ?_
      refine Sc.skip ?_
      refine At.block_normal ?_
      refine At.go ?_
      refine Sc.region ?_
      refine Sl.calm (Cm.move rfl) rfl ?_
      refine Sl.calm (Cm.add64 rfl rfl (by omega)) rfl ?_
      refine Sl.calm (Cm.assign rfl) rfl ?_
      refine Sl.nil ?_
      refine At.again (k + 1) ⟨rfl, rfl, trivial⟩ ?_ (by show s.length - (k + 1) < s.length - k; omega)
      refine ⟨by omega, fun i hi => ?_, rfl⟩
      by_cases hik : i = k
      · subst hik; intro e; exact h13 (by rw [show ((i : Int)).toNat = i from rfl, e]; rfl)
      · exact hgood i (by omega)
  ·
    refine Sl.nil ?_
    refine At.weak [(0, _), (3, _), (7, _)] ⟨rfl, rfl, rfl, trivial⟩ ?_
    refine At.go ?_
    refine Sc.cond_f rfl ?_
    refine Sc.exit ?_
    refine At.then_exit ?_
    refine At.then_exit ?_
    refine At.block_hit ?_
    refine At.go ?_
    refine Sc.seq ?_
    refine Sc.region ?_
    refine Sl.calm (Cm.assign rfl) rfl ?_
    refine Sl.nil ?_
    refine At.go ?_
    refine Sc.ret ?_
    refine At.ret1 rfl rfl ?_
    refine ⟨_, rfl, ?_, rfl⟩
    rw [decide_eq_false]
    intro h0
    obtain ⟨i, hi, e⟩ := List.getElem_of_mem h0
    exact hgood i (by omega) (by simp [List.getD, hi, e])

set_option maxHeartbeats 1000000 in
theorem rmayX_ok (xo : Option Addr) (xc : Nat) (X : List Xa) (W : World) (hv : XaV W.heap xo xc X) :
    Calls Try.prog 49 [.slice xo X.length xc].toArray W (Ret fun v w' => v = .bool (decide (mayX X)) ∧ Foot nob W w') := by
  have hl := hv.len63
  refine calls_of_sc 56 [(0, _)] Try.func49 rfl rfl rfl (enter_slots ⟨rfl, trivial⟩) ?_
  refine Sc.seq ?_
  refine Sc.region ?_
  refine Sl.calm (Cm.assign rfl) rfl ?_
  refine Sl.nil ?_
  refine At.go ?_
  refine Sc.seq ?_
  refine Sc.seq ?_
  refine Sc.region ?_
  refine Sl.calm (Cm.assign rfl) rfl ?_
  refine Sl.nil ?_
  refine At.go ?_
  refine Sc.block ?_
  refine Sc.loop (β := Nat) (fun k => [(0, .slice xo X.length xc), (3, .int .i64 k)]) (fun k w => k ≤ X.length ∧ (∀ i, i < k → goodX X i) ∧ Foot nob W w) (fun k => X.length - k) 0 ⟨rfl, rfl, trivial⟩ ⟨Nat.zero_le _, by intro i hi; omega, Foot.refl _ _⟩ ?_
  rintro k w2 ⟨hk, hgood, hF2⟩
  refine Sc.seq ?_
  refine Sc.seq ?_
  refine Sc.region ?_
  refine Sl.calm (Cm.move rfl) rfl ?_
  refine Sl.calm (Cm.move rfl) rfl ?_
  refine Sl.calm (Cm.len sl23 rfl) rfl ?_
  refine Sl.fork (Cm.lss rfl rfl) rfl (fun h9 => ?_) (fun h9 => ?_)
  ·
    refine Sl.nil ?_
    refine At.weak [(0, _), (3, _), (9, _)] ⟨rfl, rfl, rfl, trivial⟩ ?_
    refine At.go ?_
    refine Sc.cond_t rfl ?_
    refine Sc.skip ?_
    refine At.go ?_
    refine Sc.seq ?_
    refine Sc.block ?_
    refine Sc.seq ?_
    refine Sc.region ?_
    refine Sl.calm (Cm.move rfl) rfl ?_
    refine Sl.calm (Cm.move rfl) rfl ?_
    obtain ⟨xa, xc2, hrow, hxv, hnl⟩ := (hv.grow hF2).at (i := k) rfl (by omega)
    refine Sl.calm (Cm.indexAddr sl23 rfl rfl hv.non (by omega)) rfl ?_
    refine Sl.calm (Cm.ldM (cs := [.string (bs (X.getD k x0).1), .slice xa (X.getD k x0).2.length xc2]) agg82 rfl hrow) rfl ?_
    refine Sl.allocC zc82 rfl ?_
    intro w3 hg3 hs3 hf3
    refine Sl.storeAll (vs := [.string (bs (X.getD k x0).1), .slice xa (X.getD k x0).2.length xc2]) agg82 rfl rfl (by simp [Value.oneCell']) hg3 rfl ?_
    intro w4 hg4 hs4 hf4
    have hF4 : Foot nob W w4 := hF2.trans (hf3.trans_to hf4 (fun k hk => .inr (by omega)))
    refine Sl.nil ?_
    refine At.weak [(0, _), (3, _), (4, _), (9, _)] ⟨rfl, rfl, rfl, rfl, trivial⟩ ?_
    refine At.go ?_
    refine Sc.seq ?_
    refine Sc.region ?_
    refine Sl.calm (Cm.field fld82_0 rfl) rfl ?_
    refine Sl.calm (Cm.ld sca9 rfl (cellF hg4 rfl)) rfl ?_
    refine Sl.call fn74 rfl (nul_ok _ w4 hnl) rfl ?_
    rintro _ w5 ⟨rfl, hw5⟩
    subst w5
    refine Sl.calm (Cm.assign rfl) rfl ?_
    refine Sl.nil ?_
    refine At.weak [(0, _), (3, _), (4, _), (5, _), (9, _)] ⟨rfl, rfl, rfl, rfl, rfl, trivial⟩ ?_
    refine At.go ?_
    refine Sc.seq ?_
    refine Sc.quiet 34 [0, 1, 2, 3, 4, 5, 6, 7, 8, 9, 10, 11, 12, 13, 14, 15, 16, 17, 18, 19, 20, 21, 22, 23, 24, 25, 26, 27, 28, 29, 30, 31, 32, 33] mixed (by kernel_rfl) ?_
    refine Sx.calm rfl rfl (Cm.field fld82_0 rfl) rfl ?_
    refine Sx.calm rfl rfl (Cm.ld sca9 rfl (cellF hg4 rfl)) rfl ?_
    refine Sx.calm rfl rfl (Cm.lenBs ty9 rfl) rfl ?_
    refine Sx.fork rfl rfl (Cm.lss rfl rfl) rfl (fun h22 => ?_) (fun h22 => ?_)
    ·
      have hbad : ¬ mayX X := fun h => by have := (h.1 k (by omega)).1; have := List.length_pos_iff.2 (less_ne this); omega
      refine Sx.calm rfl rfl (Cm.move rfl) rfl ?_
      refine Sx.skip rfl rfl rfl rfl rfl rfl ?_
      refine Sx.skip rfl rfl rfl rfl rfl rfl ?_
      refine Sx.skip rfl rfl rfl rfl rfl rfl ?_
      refine Sx.skip rfl rfl rfl rfl rfl rfl ?_
      refine Sx.calm rfl rfl (Cm.pick_t rfl rfl) rfl ?_
      refine Sx.calm rfl rfl (Cm.move rfl) rfl ?_
      refine Sx.skip rfl rfl rfl rfl rfl rfl ?_
      refine Sx.calm rfl rfl (Cm.pick_t rfl rfl) rfl ?_
      refine Sx.calm rfl rfl (Cm.move rfl) rfl ?_
      refine Sx.skip rfl rfl rfl rfl rfl rfl ?_
      refine Sx.skip rfl rfl rfl rfl rfl rfl ?_
      refine Sx.skip rfl rfl rfl rfl rfl rfl ?_
      refine Sx.skip rfl rfl rfl rfl rfl rfl ?_
      refine Sx.calm rfl rfl (Cm.pick_t rfl rfl) rfl ?_
      refine Sx.calm rfl rfl (Cm.move rfl) rfl ?_
      refine Sx.skip rfl rfl rfl rfl rfl rfl ?_
      refine Sx.skip rfl rfl rfl rfl rfl rfl ?_
      refine Sx.skip rfl rfl rfl rfl rfl rfl ?_
      refine Sx.skip rfl rfl rfl rfl rfl rfl ?_
      refine Sx.skip rfl rfl rfl rfl rfl rfl ?_
      refine Sx.skip rfl rfl rfl rfl rfl rfl ?_
      refine Sx.skip rfl rfl rfl rfl rfl rfl ?_
      refine Sx.skip rfl rfl rfl rfl rfl rfl ?_
      refine Sx.skip rfl rfl rfl rfl rfl rfl ?_
      refine Sx.skip rfl rfl rfl rfl rfl rfl ?_
      refine Sx.skip rfl rfl rfl rfl rfl rfl ?_
      refine Sx.skip rfl rfl rfl rfl rfl rfl ?_
      refine Sx.skip rfl rfl rfl rfl rfl rfl ?_
      refine Sx.calm rfl rfl (Cm.pick_t rfl rfl) rfl ?_
      refine Sx.nil ?_
      refine At.weak [(0, _), (3, _), (4, _), (5, _), (9, _), (52, _)] ⟨rfl, rfl, rfl, rfl, rfl, rfl, trivial⟩ ?_
      refine At.go ?_
      refine Sc.cond_t rfl ?_
      refine Sc.seq ?_
      refine Sc.region ?_
      refine Sl.calm (Cm.assign rfl) rfl ?_
      refine Sl.nil ?_
      refine At.go ?_
      refine Sc.ret ?_
      refine At.block_ret ?_
      refine At.then_ret ?_
      refine At.then_ret ?_
      refine At.block_ret ?_
      refine At.then_ret ?_
      refine At.ret1 rfl rfl ?_
      exact ⟨_, rfl, by rw [decide_eq_false hbad], hF4.draws 1⟩
    ·
      refine Sx.calm rfl rfl (Cm.move rfl) rfl ?_
      refine Sx.want rfl rfl rfl rfl (Cm.field fld82_0 rfl) rfl ?_
      refine Sx.want rfl rfl rfl rfl (Cm.ld sca9 rfl (cellF hg4 rfl)) rfl ?_
      refine Sx.want rfl rfl rfl rfl (Cm.lenBs ty9 rfl) rfl ?_
      refine Sx.forkWant rfl rfl rfl rfl (Cm.gtr rfl rfl) rfl (fun h27 => ?_) (fun h27 => ?_)
      ·
        have hbad : ¬ mayX X := fun h => by have := (h.1 k (by omega)).2.1; omega
        refine Sx.calm rfl rfl (Cm.pick_f rfl rfl) rfl ?_
        refine Sx.calm rfl rfl (Cm.move rfl) rfl ?_
        refine Sx.skip rfl rfl rfl rfl rfl rfl ?_
        refine Sx.calm rfl rfl (Cm.pick_t rfl rfl) rfl ?_
        refine Sx.calm rfl rfl (Cm.move rfl) rfl ?_
        refine Sx.skip rfl rfl rfl rfl rfl rfl ?_
        refine Sx.skip rfl rfl rfl rfl rfl rfl ?_
        refine Sx.skip rfl rfl rfl rfl rfl rfl ?_
        refine Sx.skip rfl rfl rfl rfl rfl rfl ?_
        refine Sx.calm rfl rfl (Cm.pick_t rfl rfl) rfl ?_
        refine Sx.calm rfl rfl (Cm.move rfl) rfl ?_
        refine Sx.skip rfl rfl rfl rfl rfl rfl ?_
        refine Sx.skip rfl rfl rfl rfl rfl rfl ?_
        refine Sx.skip rfl rfl rfl rfl rfl rfl ?_
        refine Sx.skip rfl rfl rfl rfl rfl rfl ?_
        refine Sx.skip rfl rfl rfl rfl rfl rfl ?_
        refine Sx.skip rfl rfl rfl rfl rfl rfl ?_
        refine Sx.skip rfl rfl rfl rfl rfl rfl ?_
        refine Sx.skip rfl rfl rfl rfl rfl rfl ?_
        refine Sx.skip rfl rfl rfl rfl rfl rfl ?_
        refine Sx.skip rfl rfl rfl rfl rfl rfl ?_
        refine Sx.skip rfl rfl rfl rfl rfl rfl ?_
        refine Sx.skip rfl rfl rfl rfl rfl rfl ?_
        refine Sx.skip rfl rfl rfl rfl rfl rfl ?_
        refine Sx.calm rfl rfl (Cm.pick_t rfl rfl) rfl ?_
        refine Sx.nil ?_
        refine At.weak [(0, _), (3, _), (4, _), (5, _), (9, _), (52, _)] ⟨rfl, rfl, rfl, rfl, rfl, rfl, trivial⟩ ?_
        refine At.go ?_
        refine Sc.cond_t rfl ?_
        refine Sc.seq ?_
        refine Sc.region ?_
        refine Sl.calm (Cm.assign rfl) rfl ?_
        refine Sl.nil ?_
        refine At.go ?_
        refine Sc.ret ?_
        refine At.block_ret ?_
        refine At.then_ret ?_
        refine At.then_ret ?_
        refine At.block_ret ?_
        refine At.then_ret ?_
        refine At.ret1 rfl rfl ?_
        exact ⟨_, rfl, by rw [decide_eq_false hbad], hF4.draws 1⟩
      ·
        refine Sx.calm rfl rfl (Cm.pick_f rfl rfl) rfl ?_
        refine Sx.calm rfl rfl (Cm.move rfl) rfl ?_
        refine Sx.forkWant rfl rfl rfl rfl (Cm.ofBool (Cm.move rfl)) rfl (fun h30 => ?_) (fun h30 => ?_)
        ·
          have hbad : ¬ mayX X := fun h => (h.1 k (by omega)).2.2.1 (of_decide_eq_true h30)
          refine Sx.calm rfl rfl (Cm.pick_f rfl rfl) rfl ?_
          refine Sx.calm rfl rfl (Cm.move rfl) rfl ?_
          refine Sx.skip rfl rfl rfl rfl rfl rfl ?_
          refine Sx.skip rfl rfl rfl rfl rfl rfl ?_
          refine Sx.skip rfl rfl rfl rfl rfl rfl ?_
          refine Sx.skip rfl rfl rfl rfl rfl rfl ?_
          refine Sx.calm rfl rfl (Cm.pick_t rfl rfl) rfl ?_
          refine Sx.calm rfl rfl (Cm.move rfl) rfl ?_
          refine Sx.skip rfl rfl rfl rfl rfl rfl ?_
          refine Sx.skip rfl rfl rfl rfl rfl rfl ?_
          refine Sx.skip rfl rfl rfl rfl rfl rfl ?_
          refine Sx.skip rfl rfl rfl rfl rfl rfl ?_
          refine Sx.skip rfl rfl rfl rfl rfl rfl ?_
          refine Sx.skip rfl rfl rfl rfl rfl rfl ?_
          refine Sx.skip rfl rfl rfl rfl rfl rfl ?_
          refine Sx.skip rfl rfl rfl rfl rfl rfl ?_
          refine Sx.skip rfl rfl rfl rfl rfl rfl ?_
          refine Sx.skip rfl rfl rfl rfl rfl rfl ?_
          refine Sx.skip rfl rfl rfl rfl rfl rfl ?_
          refine Sx.skip rfl rfl rfl rfl rfl rfl ?_
          refine Sx.skip rfl rfl rfl rfl rfl rfl ?_
          refine Sx.calm rfl rfl (Cm.pick_t rfl rfl) rfl ?_
          refine Sx.nil ?_
          refine At.weak [(0, _), (3, _), (4, _), (5, _), (9, _), (52, _)] ⟨rfl, rfl, rfl, rfl, rfl, rfl, trivial⟩ ?_
          refine At.go ?_
          refine Sc.cond_t rfl ?_
          refine Sc.seq ?_
          refine Sc.region ?_
          refine Sl.calm (Cm.assign rfl) rfl ?_
          refine Sl.nil ?_
          refine At.go ?_
          refine Sc.ret ?_
          refine At.block_ret ?_
          refine At.then_ret ?_
          refine At.then_ret ?_
          refine At.block_ret ?_
          refine At.then_ret ?_
          refine At.ret1 rfl rfl ?_
          exact ⟨_, rfl, by rw [decide_eq_false hbad], hF4.draws 1⟩
        ·
          have g3 : (0 : UInt8) ∉ (X.getD k x0).1 := fun h => h30 (decide_eq_true h)
          refine Sx.calm rfl rfl (Cm.pick_f rfl rfl) rfl ?_
          refine Sx.calm rfl rfl (Cm.move rfl) rfl ?_
          refine Sx.want rfl rfl rfl rfl (Cm.field fld82_1 rfl) rfl ?_
          refine Sx.want rfl rfl rfl rfl (Cm.ld sca25 rfl (cellF hg4 rfl)) rfl ?_
          refine Sx.want rfl rfl rfl rfl (Cm.len sl25 rfl) rfl ?_
          refine Sx.forkWant rfl rfl rfl rfl (Cm.gtr rfl rfl) rfl (fun h36 => ?_) (fun h36 => ?_)
          ·
            have hbad : ¬ mayX X := fun h => by have := (h.1 k (by omega)).2.2.2; omega
            refine Sx.calm rfl rfl (Cm.pick_f rfl rfl) rfl ?_
            refine Sx.calm rfl rfl (Cm.move rfl) rfl ?_
            refine Sx.skip rfl rfl rfl rfl rfl rfl ?_
            refine Sx.skip rfl rfl rfl rfl rfl rfl ?_
            refine Sx.skip rfl rfl rfl rfl rfl rfl ?_
            refine Sx.skip rfl rfl rfl rfl rfl rfl ?_
            refine Sx.skip rfl rfl rfl rfl rfl rfl ?_
            refine Sx.skip rfl rfl rfl rfl rfl rfl ?_
            refine Sx.skip rfl rfl rfl rfl rfl rfl ?_
            refine Sx.skip rfl rfl rfl rfl rfl rfl ?_
            refine Sx.skip rfl rfl rfl rfl rfl rfl ?_
            refine Sx.skip rfl rfl rfl rfl rfl rfl ?_
            refine Sx.skip rfl rfl rfl rfl rfl rfl ?_
            refine Sx.skip rfl rfl rfl rfl rfl rfl ?_
            refine Sx.skip rfl rfl rfl rfl rfl rfl ?_
            refine Sx.calm rfl rfl (Cm.pick_t rfl rfl) rfl ?_
            refine Sx.nil ?_
            refine At.weak [(0, _), (3, _), (4, _), (5, _), (9, _), (52, _)] ⟨rfl, rfl, rfl, rfl, rfl, rfl, trivial⟩ ?_
            refine At.go ?_
            refine Sc.cond_t rfl ?_
            refine Sc.seq ?_
            refine Sc.region ?_
            refine Sl.calm (Cm.assign rfl) rfl ?_
            refine Sl.nil ?_
            refine At.go ?_
            refine Sc.ret ?_
            refine At.block_ret ?_
            refine At.then_ret ?_
            refine At.then_ret ?_
            refine At.block_ret ?_
            refine At.then_ret ?_
            refine At.ret1 rfl rfl ?_
            exact ⟨_, rfl, by rw [decide_eq_false hbad], hF4.draws 1⟩
          ·
            refine Sx.calm rfl rfl (Cm.pick_f rfl rfl) rfl ?_
            refine Sx.calm rfl rfl (Cm.move rfl) rfl ?_
            refine Sx.want rfl rfl rfl rfl (Cm.move rfl) rfl ?_
            refine Sx.forkWant rfl rfl rfl rfl (Cm.gtr rfl rfl) rfl (fun h40 => ?_) (fun h40 => ?_)
            ·
              refine Sx.want rfl rfl rfl rfl (Cm.move rfl) rfl ?_
              refine Sx.want rfl rfl rfl rfl (Cm.move rfl) rfl ?_
              refine Sx.want rfl rfl rfl rfl (Cm.move rfl) rfl ?_
              refine Sx.want rfl rfl rfl rfl (Cm.sub64 rfl rfl (by omega)) rfl ?_
              obtain ⟨k, rfl⟩ : ∃ q, k = q + 1 := ⟨k - 1, by omega⟩
              obtain ⟨pa, pc2, prow, pxv, pnl⟩ := (hv.grow hF4).at (i := k) (z := ((k + 1 : Nat) : Int) - 1) (by omega) (by omega)
              refine Sx.want rfl rfl rfl rfl (Cm.indexAddr sl23 rfl rfl hv.non (by omega)) rfl ?_
              refine Sx.want rfl rfl rfl rfl (Cm.field fld82_0 rfl) rfl ?_
              refine Sx.want rfl rfl rfl rfl (Cm.ld sca9 rfl (prow 0 _ rfl)) rfl ?_
              refine Sx.want rfl rfl rfl rfl (Cm.field fld82_0 rfl) rfl ?_
              refine Sx.want rfl rfl rfl rfl (Cm.ld sca9 rfl (cellF hg4 rfl)) rfl ?_
              refine Sx.forkWant rfl rfl rfl rfl (Cm.ofBool (Cm.geqBs rfl rfl)) rfl (fun h50 => ?_) (fun h50 => ?_)
              ·
                have hbad : ¬ mayX X := fun h => by have : Op.bytesLess (X.getD k x0).1 (X.getD (k + 1) x0).1 = true := (h.1 (k + 1) (by omega)).1; rw [this] at h50; cases h50
                refine Sx.want rfl rfl rfl rfl (Cm.pick_t rfl rfl) rfl ?_
                refine Sx.calm rfl rfl (Cm.pick_f rfl rfl) rfl ?_
                refine Sx.nil ?_
                refine At.weak [(0, _), (3, _), (4, _), (5, _), (9, _), (52, _)] ⟨rfl, rfl, rfl, rfl, rfl, rfl, trivial⟩ ?_
                refine At.go ?_
                refine Sc.cond_t rfl ?_
                refine Sc.seq ?_
                refine Sc.region ?_
                refine Sl.calm (Cm.assign rfl) rfl ?_
                refine Sl.nil ?_
                refine At.go ?_
                refine Sc.ret ?_
                refine At.block_ret ?_
                refine At.then_ret ?_
                refine At.then_ret ?_
                refine At.block_ret ?_
                refine At.then_ret ?_
                refine At.ret1 rfl rfl ?_
                exact ⟨_, rfl, by rw [decide_eq_false hbad], hF4.draws 1⟩
              ·
                have g1 : Op.bytesLess (X.getD k x0).1 (X.getD (k + 1) x0).1 = true := by revert h50; cases Op.bytesLess (X.getD k x0).1 (X.getD (k + 1) x0).1 <;> simp
                refine Sx.want rfl rfl rfl rfl (Cm.pick_t rfl rfl) rfl ?_
                refine Sx.calm rfl rfl (Cm.pick_f rfl rfl) rfl ?_
                refine Sx.nil ?_
                refine At.weak [(0, _), (3, _), (4, _), (5, _), (9, _), (52, _)] ⟨rfl, rfl, rfl, rfl, rfl, rfl, trivial⟩ ?_
                refine At.go ?_
                refine Sc.cond_f rfl ?_
                refine Sc.skip ?_
                refine At.block_normal ?_
                refine At.go ?_
                refine Sc.region ?_
                refine Sl.calm (Cm.move rfl) rfl ?_
                refine Sl.calm (Cm.add64 rfl rfl (by omega)) rfl ?_
                refine Sl.calm (Cm.assign rfl) rfl ?_
                refine Sl.nil ?_
                first
                  | (refine At.again (k + 1 + 1) ⟨rfl, rfl, trivial⟩ ?_ (by show X.length - (k + 1 + 1) < X.length - (k + 1); omega)
                     refine ⟨by omega, fun i hi => ?_, hF4.draws 1⟩
                     by_cases hik : i = k + 1
                     · subst hik; exact ⟨g1, by omega, g3, by omega⟩
                     · exact hgood i (by omega))
                  | (refine At.again (k + 1) ⟨rfl, rfl, trivial⟩ ?_ (by show X.length - (k + 1) < X.length - k; omega)
                     refine ⟨by omega, fun i hi => ?_, hF4.draws 1⟩
                     by_cases hik : i = k
                     · subst hik; have hi0 : i = 0 := by omega
                       subst hi0; exact ⟨(less_nil _).2 (by intro e; rw [e] at h22; simp at h22), by omega, g3, by omega⟩
                     · exact hgood i (by omega))
            ·
              refine Sx.want rfl rfl rfl rfl (Cm.move rfl) rfl ?_
              refine Sx.skip rfl rfl rfl rfl rfl rfl ?_
              refine Sx.skip rfl rfl rfl rfl rfl rfl ?_
              refine Sx.skip rfl rfl rfl rfl rfl rfl ?_
              refine Sx.skip rfl rfl rfl rfl rfl rfl ?_
              refine Sx.skip rfl rfl rfl rfl rfl rfl ?_
              refine Sx.skip rfl rfl rfl rfl rfl rfl ?_
              refine Sx.skip rfl rfl rfl rfl rfl rfl ?_
              refine Sx.skip rfl rfl rfl rfl rfl rfl ?_
              refine Sx.skip rfl rfl rfl rfl rfl rfl ?_
              refine Sx.want rfl rfl rfl rfl (Cm.pick_f rfl rfl) rfl ?_
              refine Sx.calm rfl rfl (Cm.pick_f rfl rfl) rfl ?_
              refine Sx.nil ?_
              refine At.weak [(0, _), (3, _), (4, _), (5, _), (9, _), (52, _)] ⟨rfl, rfl, rfl, rfl, rfl, rfl, trivial⟩ ?_
              refine At.go ?_
              refine Sc.cond_f rfl ?_
              refine Sc.skip ?_
              refine At.block_normal ?_
              refine At.go ?_
              refine Sc.region ?_
              refine Sl.calm (Cm.move rfl) rfl ?_
              refine Sl.calm (Cm.add64 rfl rfl (by omega)) rfl ?_
              refine Sl.calm (Cm.assign rfl) rfl ?_
              refine Sl.nil ?_
              first
                | (refine At.again (k + 1 + 1) ⟨rfl, rfl, trivial⟩ ?_ (by show X.length - (k + 1 + 1) < X.length - (k + 1); omega)
                   refine ⟨by omega, fun i hi => ?_, hF4.draws 1⟩
                   by_cases hik : i = k + 1
                   · subst hik; exact ⟨g1, by omega, g3, by omega⟩
                   · exact hgood i (by omega))
                | (refine At.again (k + 1) ⟨rfl, rfl, trivial⟩ ?_ (by show X.length - (k + 1) < X.length - k; omega)
                   refine ⟨by omega, fun i hi => ?_, hF4.draws 1⟩
                   by_cases hik : i = k
                   · subst hik; have hi0 : i = 0 := by omega
                     subst hi0; exact ⟨(less_nil _).2 (by intro e; rw [e] at h22; simp at h22), by omega, g3, by omega⟩
                   · exact hgood i (by omega))
  ·
    refine Sl.nil ?_
    refine At.weak [(0, _), (3, _), (9, _)] ⟨rfl, rfl, rfl, trivial⟩ ?_
    refine At.go ?_
    refine Sc.cond_f rfl ?_
    refine Sc.exit ?_
    refine At.then_exit ?_
    refine At.then_exit ?_
    refine At.block_hit ?_
    refine At.go ?_
    refine Sc.seq ?_
    refine Sc.region ?_
    refine Sl.calm (Cm.move rfl) rfl ?_
    refine Sl.calm (Cm.len sl23 rfl) rfl ?_
    refine Sl.calm (Cm.leq rfl rfl) rfl ?_
    refine Sl.calm (Cm.assign rfl) rfl ?_
    refine Sl.nil ?_
    refine At.weak [(0, _), (2, _), (3, _), (9, _)] ⟨rfl, rfl, rfl, rfl, trivial⟩ ?_
    refine At.go ?_
    refine Sc.ret ?_
    refine At.ret1 rfl rfl ?_
    refine ⟨_, rfl, ?_, hF2⟩
    have hk2 : k = X.length := by omega
    subst hk2
    congr 1
    exact decide_eq_decide.2 ⟨fun h => ⟨hgood, by omega⟩, fun h => by have := h.2; omega⟩
end Go.Proofs.Ytoaplldahbbaiaa
