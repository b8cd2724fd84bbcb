/- tree: the order of names; Compare, the reference's Less and Same. No condition beyond the bounds that each states. -/
import Derived.Test.YtpnfjfbfgaiolaaTrN
namespace Go.Proofs.Ytpnfjfbfgaiolaa
open Go Go.RowKit Go.Maps
set_option linter.unusedVariables false

/-! bytes -/
theorem bl_irrefl : ∀ a : List UInt8, Op.bytesLess a a = false
  | [] => rfl
  | x :: a => by
    have ih := bl_irrefl a
    have h : ¬ x < x := by rw [UInt8.lt_iff_toNat_lt]; omega
    simp [Op.bytesLess, h, ih]
theorem bl_trans : ∀ {a b c : List UInt8}, Op.bytesLess a b = true → Op.bytesLess b c = true → Op.bytesLess a c = true
  | _, [], _, h, _ => by simp [Op.bytesLess] at h
  | _, _ :: _, [], _, h => by simp [Op.bytesLess] at h
  | [], _ :: _, _ :: _, _, _ => by simp [Op.bytesLess]
  | x :: a, y :: b, z :: c, h1, h2 => by
    simp only [Op.bytesLess, Bool.or_eq_true, decide_eq_true_eq, Bool.and_eq_true, beq_iff_eq] at h1 h2 ⊢
    rcases h1 with h1 | ⟨rfl, h1⟩
    · rcases h2 with h2 | ⟨rfl, h2⟩
      · left; rw [UInt8.lt_iff_toNat_lt] at *; omega
      · exact .inl h1
    · rcases h2 with h2 | ⟨rfl, h2⟩
      · exact .inl h2
      · exact .inr ⟨rfl, bl_trans h1 h2⟩
theorem bl_asymm {a b : List UInt8} (h : Op.bytesLess a b = true) : Op.bytesLess b a = false := by
  cases h2 : Op.bytesLess b a with
  | false => rfl
  | true => have := bl_trans h h2; rw [bl_irrefl] at this; cases this
theorem bl_tot {a b : List UInt8} (hne : a ≠ b) (h : Op.bytesLess a b = false) : Op.bytesLess b a = true := by
  have := less_not a b
  rw [h] at this
  have hb : (a == b) = false := by simpa using hne
  rw [hb] at this
  revert this; cases Op.bytesLess b a <;> simp

/-! rows of names -/
def cmpL : List (List UInt8) → List (List UInt8) → Int
  | [], [] => 0
  | [], _ :: _ => -1
  | _ :: _, [] => 1
  | x :: a, y :: b => if x = y then cmpL a b else if Op.bytesLess x y = true then -1 else 1
theorem cmpL_self : ∀ a, cmpL a a = 0
  | [] => rfl
  | x :: a => by unfold cmpL; rw [if_pos rfl]; exact cmpL_self a
theorem cmpL_zero : ∀ {a b : List (List UInt8)}, cmpL a b = 0 → a = b
  | [], [], _ => rfl
  | [], _ :: _, h => by simp [cmpL] at h
  | _ :: _, [], h => by simp [cmpL] at h
  | x :: a, y :: b, h => by
    unfold cmpL at h
    split at h
    · rename_i e; rw [e, cmpL_zero h]
    · split at h <;> simp at h
theorem cmpL_neg : ∀ a b : List (List UInt8), cmpL b a = - cmpL a b
  | [], [] => rfl
  | [], _ :: _ => rfl
  | _ :: _, [] => rfl
  | x :: a, y :: b => by
    unfold cmpL
    by_cases e : x = y
    · rw [if_pos e, if_pos e.symm]; exact cmpL_neg a b
    · rw [if_neg e, if_neg (fun h => e h.symm)]
      by_cases h : Op.bytesLess x y = true
      · rw [if_pos h, if_neg (by rw [bl_asymm h]; decide)]; rfl
      · rw [if_neg h, if_pos (bl_tot e (by simpa using h))]
theorem cmpL_trans : ∀ {a b c : List (List UInt8)}, cmpL a b < 0 → cmpL b c < 0 → cmpL a c < 0
  | _, _ :: _, [], _, h => by simp [cmpL] at h
  | [], _ :: _, _ :: _, _, _ => by simp [cmpL]
  | [], [], _, h, _ => by simp [cmpL] at h
  | _ :: _, [], _, h, _ => by simp [cmpL] at h
  | x :: a, y :: b, z :: c, h1, h2 => by
    unfold cmpL at h1 h2 ⊢
    by_cases e1 : x = y
    · subst e1
      rw [if_pos rfl] at h1
      by_cases e2 : x = z
      · subst e2
        rw [if_pos rfl] at h2 ⊢
        exact cmpL_trans h1 h2
      · rw [if_neg e2] at h2 ⊢; exact h2
    · rw [if_neg e1] at h1
      have l1 : Op.bytesLess x y = true := by
        by_cases h : Op.bytesLess x y = true
        · exact h
        · rw [if_neg h] at h1; simp at h1
      by_cases e2 : y = z
      · subst e2; rw [if_neg e1, if_pos l1]; decide
      · rw [if_neg e2] at h2
        have l2 : Op.bytesLess y z = true := by
          by_cases h : Op.bytesLess y z = true
          · exact h
          · rw [if_neg h] at h2; simp at h2
        have l3 := bl_trans l1 l2
        rw [if_neg (fun e => by subst e; rw [bl_irrefl] at l3; cases l3), if_pos l3]; decide
theorem cmpL_app : ∀ (p a b : List (List UInt8)), cmpL (p ++ a) (p ++ b) = cmpL a b
  | [], a, b => rfl
  | x :: p, a, b => by
    show (if x = x then cmpL (p ++ a) (p ++ b) else if Op.bytesLess x x = true then -1 else 1) = _
    rw [if_pos rfl]; exact cmpL_app p a b
theorem drop_at {α : Type} {l : List α} {k : Nat} {x : α} (h : l[k]? = some x) : l.drop k = x :: l.drop (k + 1) := by
  rw [List.drop_eq_getElem_cons (List.getElem?_eq_some_iff.1 h).1, (List.getElem?_eq_some_iff.1 h).2]
theorem cmpL_split {a b : List (List UInt8)} {k : Nat} (h : a.take k = b.take k) : cmpL a b = cmpL (a.drop k) (b.drop k) := by
  conv => lhs; rw [← List.take_append_drop k a, ← List.take_append_drop k b, h]
  exact cmpL_app _ _ _
theorem cmpL_at {a b : List (List UInt8)} {k : Nat} {x y : List UInt8} (h : a.take k = b.take k) (hx : a[k]? = some x) (hy : b[k]? = some y) (hne : x ≠ y) : cmpL a b = if Op.bytesLess x y = true then -1 else 1 := by
  rw [cmpL_split h, drop_at hx, drop_at hy]; unfold cmpL; rw [if_neg hne]
theorem cmpL_long {a b : List (List UInt8)} {k : Nat} {x : List UInt8} (h : a.take k = b.take k) (hx : a[k]? = some x) (hy : b.length ≤ k) : cmpL a b = 1 := by
  rw [cmpL_split h, drop_at hx, List.drop_of_length_le hy]; rfl
theorem cmpL_end {a b : List (List UInt8)} {k : Nat} (h : a.take k = b.take k) (hx : a.length ≤ k) : cmpL a b = if a.length < b.length then -1 else 0 := by
  rw [cmpL_split h, List.drop_of_length_le hx]
  by_cases hl : a.length < b.length
  · rw [if_pos hl]
    have h2 : (b.take k).length = a.length := by rw [← h, List.length_take]; omega
    cases hd : b.drop k with
    | nil => have := congrArg List.length hd; rw [List.length_take] at h2; simp at this; omega
    | cons y r => rfl
  · rw [if_neg hl, List.drop_of_length_le (by have := congrArg List.length h; simp only [List.length_take] at this; omega)]; rfl
theorem take_snocL {a b : List (List UInt8)} {k : Nat} {x : List UInt8} (h : a.take k = b.take k) (hx : a[k]? = some x) (hy : b[k]? = some x) : a.take (k + 1) = b.take (k + 1) := by rw [tkL hx, tkL hy, h]

theorem isNaN_ok (x : List UInt8) (W : World) : Calls Try.prog 75 [.string (bs x)].toArray W (Ret fun v w' => v = .bool false ∧ w' = W) := by
  refine calls_of_sc 6 [(0, _)] Try.func75 rfl rfl rfl (enter_slots ⟨rfl, trivial⟩) ?_
  refine Sc.seq ?_
  refine Sc.region ?_
  refine Sl.calm (Cm.assign rfl) rfl ?_
  refine Sl.nil ?_
  refine At.go ?_
  refine Sc.seq ?_
  refine Sc.region ?_
  refine Sl.calm (Cm.move rfl) rfl ?_
  refine Sl.calm (Cm.move rfl) rfl ?_
  refine Sl.fork (Cm.neqBs rfl rfl) rfl (fun h5 => ?_) (fun h5 => ?_)
  ·
    exact absurd rfl h5
  ·
    refine Sl.calm (Cm.assign rfl) rfl ?_
    refine Sl.nil ?_
    refine At.weak [(0, _), (2, _)] ⟨rfl, rfl, trivial⟩ ?_
    refine At.go ?_
    refine Sc.ret ?_
    refine At.ret1 rfl rfl ?_
    exact ⟨_, rfl, rfl, rfl⟩
def cmpB (x y : List UInt8) : Int := if Op.bytesLess x y = true then -1 else if x = y then 0 else 1
theorem cmpB_zero {x y : List UInt8} (h : cmpB x y = 0) : x = y := by
  unfold cmpB at h
  split at h
  · cases h
  · split at h
    · assumption
    · cases h
theorem cmpS_ok (x y : List UInt8) (W : World) : Calls Try.prog 64 [.string (bs x), .string (bs y)].toArray W (Ret fun v w' => v = .int .i64 (cmpB x y) ∧ w' = W) := by
  refine calls_of_sc 20 [(0, _), (1, _)] Try.func64 rfl rfl rfl (enter_slots ⟨rfl, rfl, trivial⟩) ?_
  refine Sc.seq ?_
  refine Sc.region ?_
  refine Sl.calm (Cm.assign rfl) rfl ?_
  refine Sl.nil ?_
  refine At.go ?_
  refine Sc.seq ?_
  refine Sc.region ?_
  refine Sl.calm (Cm.move rfl) rfl ?_
  refine Sl.call fn75 rfl (isNaN_ok x W) rfl ?_
  rintro _ w1 ⟨rfl, hw1⟩
  subst w1
  refine Sl.calm (Cm.assign rfl) rfl ?_
  refine Sl.nil ?_
  refine At.weak [(0, _), (1, _), (4, _), (5, _)] ⟨rfl, rfl, rfl, rfl, trivial⟩ ?_
  refine At.go ?_
  refine Sc.seq ?_
  refine Sc.region ?_
  refine Sl.calm (Cm.move rfl) rfl ?_
  refine Sl.call fn75 rfl (isNaN_ok y W) rfl ?_
  rintro _ w1 ⟨rfl, hw1⟩
  subst w1
  refine Sl.calm (Cm.assign rfl) rfl ?_
  refine Sl.nil ?_
  refine At.weak [(0, _), (1, _), (4, _), (5, _), (6, _)] ⟨rfl, rfl, rfl, rfl, rfl, trivial⟩ ?_
  refine At.go ?_
  refine Sc.seq ?_
  refine Sc.seq ?_
  refine Sc.region ?_
  refine Sl.calm (Cm.move rfl) rfl ?_
  refine Sl.nil ?_
  refine At.go ?_
  refine Sc.cond_f rfl ?_
  refine Sc.skip ?_
  refine At.go ?_
  refine Sc.seq ?_
  refine Sc.seq ?_
  refine Sc.region ?_
  refine Sl.calm (Cm.move rfl) rfl ?_
  refine Sl.nil ?_
  refine At.go ?_
  refine Sc.cond_f rfl ?_
  refine Sc.skip ?_
  refine At.go ?_
  refine Sc.seq ?_
  refine Sc.seq ?_
  refine Sc.region ?_
  refine Sl.calm (Cm.move rfl) rfl ?_
  refine Sl.calm (Cm.move rfl) rfl ?_
  refine Sl.fork (Cm.ofBool (Cm.lssBs (a := x) (b := y) rfl rfl)) rfl (fun h16 => ?_) (fun h16 => ?_)
  ·
    refine Sl.nil ?_
    refine At.weak [(0, _), (1, _), (4, _), (5, _), (6, _), (11, _), (13, _), (16, _)] ⟨rfl, rfl, rfl, rfl, rfl, rfl, rfl, rfl, trivial⟩ ?_
    refine At.go ?_
    refine Sc.cond_t rfl ?_
    refine Sc.seq ?_
    refine Sc.region ?_
    refine Sl.calm (Cm.assign rfl) rfl ?_
    refine Sl.nil ?_
    refine At.go ?_
    refine Sc.ret ?_
    refine At.then_ret ?_
    refine At.ret1 rfl rfl ?_
    exact ⟨_, rfl, by unfold cmpB; rw [if_pos h16], rfl⟩
  ·
    refine Sl.nil ?_
    refine At.weak [(0, _), (1, _), (4, _), (5, _), (6, _), (11, _), (13, _), (16, _)] ⟨rfl, rfl, rfl, rfl, rfl, rfl, rfl, rfl, trivial⟩ ?_
    refine At.go ?_
    refine Sc.cond_f rfl ?_
    refine Sc.skip ?_
    refine At.go ?_
    refine Sc.seq ?_
    refine Sc.seq ?_
    refine Sc.region ?_
    refine Sl.calm (Cm.move rfl) rfl ?_
    refine Sl.calm (Cm.move rfl) rfl ?_
    refine Sl.fork (Cm.ofBool (Cm.gtrBs (a := x) (b := y) rfl rfl)) rfl (fun h19 => ?_) (fun h19 => ?_)
    ·
      refine Sl.nil ?_
      refine At.weak [(0, _), (1, _), (4, _), (5, _), (6, _), (11, _), (13, _), (16, _), (19, _)] ⟨rfl, rfl, rfl, rfl, rfl, rfl, rfl, rfl, rfl, trivial⟩ ?_
      refine At.go ?_
      refine Sc.cond_t rfl ?_
      refine Sc.seq ?_
      refine Sc.region ?_
      refine Sl.calm (Cm.assign rfl) rfl ?_
      refine Sl.nil ?_
      refine At.go ?_
      refine Sc.ret ?_
      refine At.then_ret ?_
      refine At.ret1 rfl rfl ?_
      exact ⟨_, rfl, by unfold cmpB; rw [if_neg h16, if_neg (fun e => by subst e; simp at h19)], rfl⟩
    ·
      refine Sl.nil ?_
      refine At.weak [(0, _), (1, _), (4, _), (5, _), (6, _), (11, _), (13, _), (16, _), (19, _)] ⟨rfl, rfl, rfl, rfl, rfl, rfl, rfl, rfl, rfl, trivial⟩ ?_
      refine At.go ?_
      refine Sc.cond_f rfl ?_
      refine Sc.skip ?_
      refine At.go ?_
      refine Sc.seq ?_
      refine Sc.region ?_
      refine Sl.calm (Cm.assign rfl) rfl ?_
      refine Sl.nil ?_
      refine At.go ?_
      refine Sc.ret ?_
      refine At.ret1 rfl rfl ?_
      exact ⟨_, rfl, by unfold cmpB; rw [if_neg h16, if_pos (by simpa [h16] using h19)], rfl⟩
set_option maxHeartbeats 1000000 in
theorem compare_ok (ao bo : Option Addr) (ac bc : Nat) (a b : List (List UInt8)) (W : World) (ha : Vw strE W.heap ao ac a) (hb : Vw strE W.heap bo bc b) :
    Calls Try.prog 41 [.slice ao a.length ac, .slice bo b.length bc].toArray W (Ret fun v w' => v = .int .i64 (cmpL a b) ∧ w' = W) := by
  have h63 := ha.len63
  refine calls_of_sc 36 [(0, _), (1, _)] Try.func41 rfl rfl rfl (enter_slots ⟨rfl, rfl, trivial⟩) ?_
  refine Sc.seq ?_
  refine Sc.region ?_
  refine Sl.calm (Cm.assign rfl) rfl ?_
  refine Sl.nil ?_
  refine At.go ?_
  refine Sc.seq ?_
  refine Sc.seq ?_
  refine Sc.region ?_
  refine Sl.calm (Cm.move rfl) rfl ?_
  refine Sl.calm (Cm.len sl28 rfl) rfl ?_
  refine Sl.calm (Cm.move rfl) rfl ?_
  refine Sl.nil ?_
  refine At.go ?_
  refine Sc.block ?_
  refine Sc.loop (β := Nat) (fun k => [(0, .slice ao a.length ac), (1, .slice bo b.length bc), (9, .slice ao a.length ac), (10, .int .i64 a.length), (11, .int .i64 k)]) (fun k w => k ≤ a.length ∧ a.take k = b.take k ∧ w = W) (fun k => a.length - k) 0 ⟨rfl, rfl, rfl, rfl, rfl, trivial⟩ ⟨Nat.zero_le _, by simp, rfl⟩ ?_
  rintro k w ⟨hk, hsm, rfl⟩
  refine Sc.seq ?_
  refine Sc.region ?_
  refine Sl.fork (Cm.lss rfl rfl) rfl (fun h12 => ?_) (fun h12 => ?_)
  ·
    have hka : k < a.length := by omega
    obtain ⟨x, hx⟩ : ∃ x, a[k]? = some x := ⟨_, List.getElem?_eq_getElem hka⟩
    refine Sl.nil ?_
    refine At.go ?_
    refine Sc.seq ?_
    refine Sc.cond_t rfl ?_
    refine Sc.skip ?_
    refine At.go ?_
    refine Sc.seq ?_
    refine Sc.block ?_
    refine Sc.seq ?_
    refine Sc.region ?_
    refine Sl.calm (Cm.move rfl) rfl ?_
    refine Sl.calm (Cm.indexAddr1 sl28 rfl rfl ha.non (by omega)) rfl ?_
    refine Sl.calm (Cm.ld sca9 rfl (ha.get k x hx)) rfl ?_
    refine Sl.calm (Cm.assign rfl) rfl ?_
    refine Sl.calm (Cm.assign rfl) rfl ?_
    refine Sl.nil ?_
    refine At.weak [(0, _), (1, _), (5, _), (6, _), (9, _), (10, _), (11, _), (12, _)] ⟨rfl, rfl, rfl, rfl, rfl, rfl, rfl, rfl, trivial⟩ ?_
    refine At.go ?_
    refine Sc.seq ?_
    refine Sc.seq ?_
    refine Sc.region ?_
    refine Sl.calm (Cm.move rfl) rfl ?_
    refine Sl.calm (Cm.move rfl) rfl ?_
    refine Sl.calm (Cm.len sl28 rfl) rfl ?_
    refine Sl.fork (Cm.geq rfl rfl) rfl (fun h19 => ?_) (fun h19 => ?_)
    ·
      refine Sl.nil ?_
      refine At.weak [(0, _), (1, _), (5, _), (6, _), (9, _), (10, _), (11, _), (12, _), (19, _)] ⟨rfl, rfl, rfl, rfl, rfl, rfl, rfl, rfl, rfl, trivial⟩ ?_
      refine At.go ?_
      refine Sc.cond_t rfl ?_
      refine Sc.seq ?_
      refine Sc.region ?_
      refine Sl.calm (Cm.assign rfl) rfl ?_
      refine Sl.nil ?_
      refine At.go ?_
      refine Sc.ret ?_
      refine At.then_ret ?_
      refine At.block_ret ?_
      refine At.then_ret ?_
      refine At.then_ret ?_
      refine At.block_ret ?_
      refine At.then_ret ?_
      refine At.ret1 rfl rfl ?_
      exact ⟨_, rfl, by rw [cmpL_long hsm hx (by omega)], rfl⟩
    ·
      obtain ⟨y, hy⟩ : ∃ y, b[k]? = some y := ⟨_, List.getElem?_eq_getElem (by omega)⟩
      refine Sl.nil ?_
      refine At.weak [(0, _), (1, _), (5, _), (6, _), (9, _), (10, _), (11, _), (12, _), (19, _)] ⟨rfl, rfl, rfl, rfl, rfl, rfl, rfl, rfl, rfl, trivial⟩ ?_
      refine At.go ?_
      refine Sc.cond_f rfl ?_
      refine Sc.skip ?_
      refine At.go ?_
      refine Sc.seq ?_
      refine Sc.region ?_
      refine Sl.calm (Cm.move rfl) rfl ?_
      refine Sl.calm (Cm.move rfl) rfl ?_
      refine Sl.calm (Cm.indexAddr1 sl28 rfl rfl hb.non (by omega)) rfl ?_
      refine Sl.calm (Cm.ld sca9 rfl (hb.get k y hy)) rfl ?_
      refine Sl.calm (Cm.assign rfl) rfl ?_
      refine Sl.nil ?_
      refine At.weak [(0, _), (1, _), (5, _), (6, _), (7, _), (9, _), (10, _), (11, _), (12, _), (19, _)] ⟨rfl, rfl, rfl, rfl, rfl, rfl, rfl, rfl, rfl, rfl, trivial⟩ ?_
      refine At.go ?_
      refine Sc.seq ?_
      refine Sc.region ?_
      refine Sl.calm (Cm.move rfl) rfl ?_
      refine Sl.calm (Cm.move rfl) rfl ?_
      refine Sl.call fn64 rfl (cmpS_ok x y w) rfl ?_
      rintro _ w1 ⟨rfl, hw1⟩
      subst w1
      refine Sl.calm (Cm.assign rfl) rfl ?_
      refine Sl.nil ?_
      refine At.weak [(0, _), (1, _), (5, _), (6, _), (7, _), (8, _), (9, _), (10, _), (11, _), (12, _), (19, _)] ⟨rfl, rfl, rfl, rfl, rfl, rfl, rfl, rfl, rfl, rfl, rfl, trivial⟩ ?_
      refine At.go ?_
      refine Sc.seq ?_
      refine Sc.region ?_
      refine Sl.calm (Cm.move rfl) rfl ?_
      refine Sl.fork (Cm.neq rfl rfl) rfl (fun h28 => ?_) (fun h28 => ?_)
      ·
        refine Sl.nil ?_
        refine At.weak [(0, _), (1, _), (5, _), (6, _), (7, _), (8, _), (9, _), (10, _), (11, _), (12, _), (19, _), (28, _)] ⟨rfl, rfl, rfl, rfl, rfl, rfl, rfl, rfl, rfl, rfl, rfl, rfl, trivial⟩ ?_
        refine At.go ?_
        refine Sc.cond_t rfl ?_
        refine Sc.seq ?_
        refine Sc.region ?_
        refine Sl.calm (Cm.move rfl) rfl ?_
        refine Sl.calm (Cm.assign rfl) rfl ?_
        refine Sl.nil ?_
        refine At.weak [(0, _), (1, _), (4, _), (5, _), (6, _), (7, _), (8, _), (9, _), (10, _), (11, _), (12, _), (19, _), (28, _)] ⟨rfl, rfl, rfl, rfl, rfl, rfl, rfl, rfl, rfl, rfl, rfl, rfl, rfl, trivial⟩ ?_
        refine At.go ?_
        refine Sc.ret ?_
        refine At.block_ret ?_
        refine At.then_ret ?_
        refine At.then_ret ?_
        refine At.block_ret ?_
        refine At.then_ret ?_
        refine At.ret1 rfl rfl ?_
        refine ⟨_, rfl, ?_, rfl⟩
        have hne : x ≠ y := fun e => h28 (by unfold cmpB; rw [if_neg (by rw [e, bl_irrefl]; decide), if_pos e])
        rw [cmpL_at hsm hx hy hne]; unfold cmpB; rw [if_neg hne]
      ·
        have hxy : x = y := cmpB_zero (Classical.not_not.1 h28)
        refine Sl.nil ?_
        refine At.weak [(0, _), (1, _), (5, _), (6, _), (7, _), (8, _), (9, _), (10, _), (11, _), (12, _), (19, _), (28, _)] ⟨rfl, rfl, rfl, rfl, rfl, rfl, rfl, rfl, rfl, rfl, rfl, rfl, trivial⟩ ?_
        refine At.go ?_
        refine Sc.cond_f rfl ?_
        refine Sc.skip ?_
        refine At.block_normal ?_
        refine At.go ?_
        refine Sc.region ?_
        refine Sl.calm (Cm.add64 rfl rfl (by omega)) rfl ?_
        refine Sl.calm (Cm.move rfl) rfl ?_
        refine Sl.nil ?_
        exact At.again (k + 1) ⟨rfl, rfl, rfl, rfl, rfl, trivial⟩ ⟨by omega, take_snocL hsm hx (hxy ▸ hy), rfl⟩ (by show a.length - (k + 1) < a.length - k; omega)
  ·
    refine Sl.nil ?_
    refine At.go ?_
    refine Sc.seq ?_
    refine Sc.cond_f rfl ?_
    refine Sc.exit ?_
    refine At.then_exit ?_
    refine At.then_exit ?_
    refine At.block_hit ?_
    refine At.go ?_
    refine Sc.seq ?_
    refine Sc.seq ?_
    refine Sc.region ?_
    refine Sl.calm (Cm.move rfl) rfl ?_
    refine Sl.calm (Cm.len sl28 rfl) rfl ?_
    refine Sl.calm (Cm.move rfl) rfl ?_
    refine Sl.calm (Cm.len sl28 rfl) rfl ?_
    refine Sl.fork (Cm.lss rfl rfl) rfl (fun h35 => ?_) (fun h35 => ?_)
    ·
      refine Sl.nil ?_
      refine At.weak [(0, _), (1, _), (9, _), (10, _), (11, _), (12, _), (35, _)] ⟨rfl, rfl, rfl, rfl, rfl, rfl, rfl, trivial⟩ ?_
      refine At.go ?_
      refine Sc.cond_t rfl ?_
      refine Sc.seq ?_
      refine Sc.region ?_
      refine Sl.calm (Cm.assign rfl) rfl ?_
      refine Sl.nil ?_
      refine At.go ?_
      refine Sc.ret ?_
      refine At.then_ret ?_
      refine At.ret1 rfl rfl ?_
      exact ⟨_, rfl, by rw [cmpL_end hsm (by omega), if_pos (by omega)], rfl⟩
    ·
      refine Sl.nil ?_
      refine At.weak [(0, _), (1, _), (9, _), (10, _), (11, _), (12, _), (35, _)] ⟨rfl, rfl, rfl, rfl, rfl, rfl, rfl, trivial⟩ ?_
      refine At.go ?_
      refine Sc.cond_f rfl ?_
      refine Sc.skip ?_
      refine At.go ?_
      refine Sc.seq ?_
      refine Sc.region ?_
      refine Sl.calm (Cm.assign rfl) rfl ?_
      refine Sl.nil ?_
      refine At.go ?_
      refine Sc.ret ?_
      refine At.ret1 rfl rfl ?_
      exact ⟨_, rfl, by rw [cmpL_end hsm (by omega), if_neg (by omega)], rfl⟩
def lessN (a b : List (List UInt8)) : Bool := decide (cmpL a b < 0)
set_option maxHeartbeats 1000000 in
theorem rless_ok (ao bo : Option Addr) (ac bc : Nat) (a b : List (List UInt8)) (W : World) (ha : Vw strE W.heap ao ac a) (hb : Vw strE W.heap bo bc b) :
    Calls Try.prog 25 [.slice ao a.length ac, .slice bo b.length bc].toArray W (Ret fun v w' => v = .bool (lessN a b) ∧ Foot nob W w') := by
  have h63 := ha.len63
  refine calls_of_sc 41 [(0, _), (1, _)] Try.func25 rfl rfl rfl (enter_slots ⟨rfl, rfl, trivial⟩) ?_
  refine Sc.seq ?_
  refine Sc.region ?_
  refine Sl.calm (Cm.assign rfl) rfl ?_
  refine Sl.nil ?_
  refine At.go ?_
  refine Sc.seq ?_
  refine Sc.seq ?_
  refine Sc.region ?_
  refine Sl.calm (Cm.assign rfl) rfl ?_
  refine Sl.nil ?_
  refine At.go ?_
  refine Sc.block ?_
  refine Sc.loop (β := Nat) (fun k => [(0, .slice ao a.length ac), (1, .slice bo b.length bc), (5, .int .i64 k)]) (fun k w => k ≤ a.length ∧ k ≤ b.length ∧ a.take k = b.take k ∧ Foot nob W w) (fun k => a.length - k) 0 ⟨rfl, rfl, rfl, trivial⟩ ⟨Nat.zero_le _, Nat.zero_le _, by simp, Foot.refl _ _⟩ ?_
  rintro k w2 ⟨hk, hkb, hsm, hF2⟩
  refine Sc.seq ?_
  refine Sc.seq ?_
  refine Sc.region ?_
  refine Sl.calm (Cm.move rfl) rfl ?_
  refine Sl.calm (Cm.move rfl) rfl ?_
  refine Sl.calm (Cm.len sl28 rfl) rfl ?_
  refine Sl.fork (Cm.lss rfl rfl) rfl (fun h9 => ?_) (fun h9 => ?_)
  ·
    refine Sl.calm (Cm.move rfl) rfl ?_
    refine Sl.want rfl rfl (Cm.move rfl) rfl ?_
    refine Sl.want rfl rfl (Cm.move rfl) rfl ?_
    refine Sl.want rfl rfl (Cm.len sl28 rfl) rfl ?_
    refine Sl.forkWant rfl rfl (Cm.lss rfl rfl) rfl (fun h14 => ?_) (fun h14 => ?_)
    ·
      have hka : k < a.length := by omega
      have hkb : k < b.length := by omega
      have ha2 := ha.grow hF2
      have hb2 := hb.grow hF2
      obtain ⟨x, hx⟩ : ∃ x, a[k]? = some x := ⟨_, List.getElem?_eq_getElem hka⟩
      obtain ⟨y, hy⟩ : ∃ y, b[k]? = some y := ⟨_, List.getElem?_eq_getElem hkb⟩
      refine Sl.calm (Cm.pick_t rfl rfl) rfl ?_
      refine Sl.nil ?_
      refine At.weak [(0, _), (1, _), (5, _), (15, _)] ⟨rfl, rfl, rfl, rfl, trivial⟩ ?_
      refine At.go ?_
      refine Sc.cond_t rfl ?_
      refine Sc.skip ?_
      refine At.go ?_
      refine Sc.seq ?_
      refine Sc.block ?_
      refine Sc.seq ?_
      refine Sc.quiet 9 [0, 1, 2, 3, 4, 5, 6, 7, 8] mixed (by kernel_rfl) ?_
      refine Sx.calm rfl rfl (Cm.move rfl) rfl ?_
      refine Sx.calm rfl rfl (Cm.move rfl) rfl ?_
      refine Sx.calm rfl rfl (Cm.indexAddr1 sl28 rfl rfl ha2.non (by omega)) rfl ?_
      refine Sx.calm rfl rfl (Cm.ld sca9 rfl (ha2.get k x hx)) rfl ?_
      refine Sx.calm rfl rfl (Cm.move rfl) rfl ?_
      refine Sx.calm rfl rfl (Cm.move rfl) rfl ?_
      refine Sx.calm rfl rfl (Cm.indexAddr1 sl28 rfl rfl hb2.non (by omega)) rfl ?_
      refine Sx.calm rfl rfl (Cm.ld sca9 rfl (hb2.get k y hy)) rfl ?_
      refine Sx.fork rfl rfl (Cm.neqBs rfl rfl) rfl (fun h26 => ?_) (fun h26 => ?_)
      ·
        refine Sx.nil ?_
        refine At.weak [(0, _), (1, _), (5, _), (15, _), (26, _)] ⟨rfl, rfl, rfl, rfl, rfl, trivial⟩ ?_
        refine At.go ?_
        refine Sc.cond_t rfl ?_
        refine Sc.seq ?_
        refine Sc.quiet 10 [0, 1, 2, 3, 4, 5, 6, 7, 8, 9] mixed (by kernel_rfl) ?_
        refine Sx.calm rfl rfl (Cm.move rfl) rfl ?_
        refine Sx.calm rfl rfl (Cm.move rfl) rfl ?_
        refine Sx.calm rfl rfl (Cm.indexAddr1 sl28 rfl rfl ha2.non (by omega)) rfl ?_
        refine Sx.calm rfl rfl (Cm.ld sca9 rfl (ha2.get k x hx)) rfl ?_
        refine Sx.calm rfl rfl (Cm.move rfl) rfl ?_
        refine Sx.calm rfl rfl (Cm.move rfl) rfl ?_
        refine Sx.calm rfl rfl (Cm.indexAddr1 sl28 rfl rfl hb2.non (by omega)) rfl ?_
        refine Sx.calm rfl rfl (Cm.ld sca9 rfl (hb2.get k y hy)) rfl ?_
        refine Sx.calm rfl rfl (Cm.lssBs (a := x) (b := y) rfl rfl) rfl ?_
        refine Sx.calm rfl rfl (Cm.assign rfl) rfl ?_
        refine Sx.nil ?_
        refine At.weak [(0, _), (1, _), (4, _), (5, _), (15, _), (26, _)] ⟨rfl, rfl, rfl, rfl, rfl, rfl, trivial⟩ ?_
        refine At.go ?_
        refine Sc.ret ?_
        refine At.block_ret ?_
        refine At.then_ret ?_
        refine At.then_ret ?_
        refine At.block_ret ?_
        refine At.then_ret ?_
        refine At.ret1 rfl rfl ?_
        first
          | (refine ⟨_, rfl, ?_, (hF2.draws 1).draws 1⟩
             unfold lessN; rw [cmpL_at hsm hx hy h26]
             cases hl : Op.bytesLess x y <;> simp)
          | (refine ⟨_, rfl, ?_, hF2⟩
             unfold lessN
             by_cases hka : a.length ≤ k
             · rw [cmpL_end hsm hka]; by_cases hl : a.length < b.length
               · rw [if_pos hl]; simp; omega
               · rw [if_neg hl]; simp; omega
             · obtain ⟨x, hx⟩ : ∃ x, a[k]? = some x := ⟨_, List.getElem?_eq_getElem (by omega)⟩
               rw [cmpL_long hsm hx (by omega)]; simp; omega)
      ·
        refine Sx.nil ?_
        refine At.weak [(0, _), (1, _), (5, _), (15, _), (26, _)] ⟨rfl, rfl, rfl, rfl, rfl, trivial⟩ ?_
        refine At.go ?_
        refine Sc.cond_f rfl ?_
        refine Sc.skip ?_
        refine At.block_normal ?_
        refine At.go ?_
        refine Sc.region ?_
        refine Sl.calm (Cm.move rfl) rfl ?_
        refine Sl.calm (Cm.add64 rfl rfl (by omega)) rfl ?_
        refine Sl.calm (Cm.assign rfl) rfl ?_
        refine Sl.nil ?_
        exact At.again (k + 1) ⟨rfl, rfl, rfl, trivial⟩ ⟨by omega, by omega, take_snocL hsm hx (by rw [Classical.not_not.1 h26]; exact hy), hF2.draws 1⟩ (by show a.length - (k + 1) < a.length - k; omega)
    ·
      refine Sl.calm (Cm.pick_t rfl rfl) rfl ?_
      refine Sl.nil ?_
      refine At.weak [(0, _), (1, _), (5, _), (15, _)] ⟨rfl, rfl, rfl, rfl, trivial⟩ ?_
      refine At.go ?_
      refine Sc.cond_f rfl ?_
      refine Sc.exit ?_
      refine At.then_exit ?_
      refine At.then_exit ?_
      refine At.block_hit ?_
      refine At.go ?_
      refine Sc.seq ?_
      refine Sc.region ?_
      refine Sl.calm (Cm.move rfl) rfl ?_
      refine Sl.calm (Cm.len sl28 rfl) rfl ?_
      refine Sl.calm (Cm.move rfl) rfl ?_
      refine Sl.calm (Cm.len sl28 rfl) rfl ?_
      refine Sl.calm (Cm.lss rfl rfl) rfl ?_
      refine Sl.calm (Cm.assign rfl) rfl ?_
      refine Sl.nil ?_
      refine At.weak [(0, _), (1, _), (4, _), (5, _), (15, _)] ⟨rfl, rfl, rfl, rfl, rfl, trivial⟩ ?_
      refine At.go ?_
      refine Sc.ret ?_
      refine At.ret1 rfl rfl ?_
      first
        | (refine ⟨_, rfl, ?_, (hF2.draws 1).draws 1⟩
           unfold lessN; rw [cmpL_at hsm hx hy h26]
           cases hl : Op.bytesLess x y <;> simp)
        | (refine ⟨_, rfl, ?_, hF2⟩
           unfold lessN
           by_cases hka : a.length ≤ k
           · rw [cmpL_end hsm hka]; by_cases hl : a.length < b.length
             · rw [if_pos hl]; simp; omega
             · rw [if_neg hl]; simp; omega
           · obtain ⟨x, hx⟩ : ∃ x, a[k]? = some x := ⟨_, List.getElem?_eq_getElem (by omega)⟩
             rw [cmpL_long hsm hx (by omega)]; simp; omega)
  ·
    refine Sl.calm (Cm.move rfl) rfl ?_
    refine Sl.skip rfl rfl rfl rfl ?_
    refine Sl.skip rfl rfl rfl rfl ?_
    refine Sl.skip rfl rfl rfl rfl ?_
    refine Sl.skip rfl rfl rfl rfl ?_
    refine Sl.calm (Cm.pick_f rfl rfl) rfl ?_
    refine Sl.nil ?_
    refine At.weak [(0, _), (1, _), (5, _), (15, _)] ⟨rfl, rfl, rfl, rfl, trivial⟩ ?_
    refine At.go ?_
    refine Sc.cond_f rfl ?_
    refine Sc.exit ?_
    refine At.then_exit ?_
    refine At.then_exit ?_
    refine At.block_hit ?_
    refine At.go ?_
    refine Sc.seq ?_
    refine Sc.region ?_
    refine Sl.calm (Cm.move rfl) rfl ?_
    refine Sl.calm (Cm.len sl28 rfl) rfl ?_
    refine Sl.calm (Cm.move rfl) rfl ?_
    refine Sl.calm (Cm.len sl28 rfl) rfl ?_
    refine Sl.calm (Cm.lss rfl rfl) rfl ?_
    refine Sl.calm (Cm.assign rfl) rfl ?_
    refine Sl.nil ?_
    refine At.weak [(0, _), (1, _), (4, _), (5, _), (15, _)] ⟨rfl, rfl, rfl, rfl, rfl, trivial⟩ ?_
    refine At.go ?_
    refine Sc.ret ?_
    refine At.ret1 rfl rfl ?_
    first
      | (refine ⟨_, rfl, ?_, (hF2.draws 1).draws 1⟩
         unfold lessN; rw [cmpL_at hsm hx hy h26]
         cases hl : Op.bytesLess x y <;> simp)
      | (refine ⟨_, rfl, ?_, hF2⟩
         unfold lessN
         by_cases hka : a.length ≤ k
         · rw [cmpL_end hsm hka]; by_cases hl : a.length < b.length
           · rw [if_pos hl]; simp; omega
           · rw [if_neg hl]; simp; omega
         · obtain ⟨x, hx⟩ : ∃ x, a[k]? = some x := ⟨_, List.getElem?_eq_getElem (by omega)⟩
           rw [cmpL_long hsm hx (by omega)]; simp; omega)
end Go.Proofs.Ytpnfjfbfgaiolaa
