/- tree: the order of names; Compare, the reference's Less and Same. No condition beyond the bounds that each states. -/
import Derived.Test.YtpamandneifemaaKL
import Derived.Test.YtpamandneifemaaMtk
namespace Go.Proofs.Ytpamandneifemaa
open Go Go.RowKit Go.Maps
set_option linter.unusedVariables false

/-! bytes -/
theorem bl_irrefl : ∀ a : List UInt8, Op.bytesLess a a = false
  | [] => rfl
  | x :: a => by
    have ih := bl_irrefl a
    have h : ¬ x < x := by rw [UInt8.lt_iff_toNat_lt]; omega
    simp [Op.bytesLess, h, ih]
theorem bl_trans : ∀ {a b c : List UInt8}, Op.bytesLess a b = true → Op.bytesLess b c = true → Op.bytesLess a c = true
  | _, [], _, h, _ => by simp [Op.bytesLess] at h
  | _, _ :: _, [], _, h => by simp [Op.bytesLess] at h
  | [], _ :: _, _ :: _, _, _ => by simp [Op.bytesLess]
  | x :: a, y :: b, z :: c, h1, h2 => by
    simp only [Op.bytesLess, Bool.or_eq_true, decide_eq_true_eq, Bool.and_eq_true, beq_iff_eq] at h1 h2 ⊢
    rcases h1 with h1 | ⟨rfl, h1⟩
    · rcases h2 with h2 | ⟨rfl, h2⟩
      · left; rw [UInt8.lt_iff_toNat_lt] at *; omega
      · exact .inl h1
    · rcases h2 with h2 | ⟨rfl, h2⟩
      · exact .inl h2
      · exact .inr ⟨rfl, bl_trans h1 h2⟩
theorem bl_asymm {a b : List UInt8} (h : Op.bytesLess a b = true) : Op.bytesLess b a = false := by
  cases h2 : Op.bytesLess b a with
  | false => rfl
  | true => have := bl_trans h h2; rw [bl_irrefl] at this; cases this
theorem bl_tot {a b : List UInt8} (hne : a ≠ b) (h : Op.bytesLess a b = false) : Op.bytesLess b a = true := by
  have := less_not a b
  rw [h] at this
  have hb : (a == b) = false := by simpa using hne
  rw [hb] at this
  revert this; cases Op.bytesLess b a <;> simp

/-! rows of names -/
def cmpL : List (List UInt8) → List (List UInt8) → Int
  | [], [] => 0
  | [], _ :: _ => -1
  | _ :: _, [] => 1
  | x :: a, y :: b => if x = y then cmpL a b else if Op.bytesLess x y = true then -1 else 1
theorem cmpL_self : ∀ a, cmpL a a = 0
  | [] => rfl
  | x :: a => by unfold cmpL; rw [if_pos rfl]; exact cmpL_self a
theorem cmpL_zero : ∀ {a b : List (List UInt8)}, cmpL a b = 0 → a = b
  | [], [], _ => rfl
  | [], _ :: _, h => by simp [cmpL] at h
  | _ :: _, [], h => by simp [cmpL] at h
  | x :: a, y :: b, h => by
    unfold cmpL at h
    split at h
    · rename_i e; rw [e, cmpL_zero h]
    · split at h <;> simp at h
theorem cmpL_neg : ∀ a b : List (List UInt8), cmpL b a = - cmpL a b
  | [], [] => rfl
  | [], _ :: _ => rfl
  | _ :: _, [] => rfl
  | x :: a, y :: b => by
    unfold cmpL
    by_cases e : x = y
    · rw [if_pos e, if_pos e.symm]; exact cmpL_neg a b
    · rw [if_neg e, if_neg (fun h => e h.symm)]
      by_cases h : Op.bytesLess x y = true
      · rw [if_pos h, if_neg (by rw [bl_asymm h]; decide)]; rfl
      · rw [if_neg h, if_pos (bl_tot e (by simpa using h))]
theorem cmpL_trans : ∀ {a b c : List (List UInt8)}, cmpL a b < 0 → cmpL b c < 0 → cmpL a c < 0
  | _, _ :: _, [], _, h => by simp [cmpL] at h
  | [], _ :: _, _ :: _, _, _ => by simp [cmpL]
  | [], [], _, h, _ => by simp [cmpL] at h
  | _ :: _, [], _, h, _ => by simp [cmpL] at h
  | x :: a, y :: b, z :: c, h1, h2 => by
    unfold cmpL at h1 h2 ⊢
    by_cases e1 : x = y
    · subst e1
      rw [if_pos rfl] at h1
      by_cases e2 : x = z
      · subst e2
        rw [if_pos rfl] at h2 ⊢
        exact cmpL_trans h1 h2
      · rw [if_neg e2] at h2 ⊢; exact h2
    · rw [if_neg e1] at h1
      have l1 : Op.bytesLess x y = true := by
        by_cases h : Op.bytesLess x y = true
        · exact h
        · rw [if_neg h] at h1; simp at h1
      by_cases e2 : y = z
      · subst e2; rw [if_neg e1, if_pos l1]; decide
      · rw [if_neg e2] at h2
        have l2 : Op.bytesLess y z = true := by
          by_cases h : Op.bytesLess y z = true
          · exact h
          · rw [if_neg h] at h2; simp at h2
        have l3 := bl_trans l1 l2
        rw [if_neg (fun e => by subst e; rw [bl_irrefl] at l3; cases l3), if_pos l3]; decide
theorem cmpL_app : ∀ (p a b : List (List UInt8)), cmpL (p ++ a) (p ++ b) = cmpL a b
  | [], a, b => rfl
  | x :: p, a, b => by
    show (if x = x then cmpL (p ++ a) (p ++ b) else if Op.bytesLess x x = true then -1 else 1) = _
    rw [if_pos rfl]; exact cmpL_app p a b
theorem drop_at {α : Type} {l : List α} {k : Nat} {x : α} (h : l[k]? = some x) : l.drop k = x :: l.drop (k + 1) := by
  rw [List.drop_eq_getElem_cons (List.getElem?_eq_some_iff.1 h).1, (List.getElem?_eq_some_iff.1 h).2]
theorem cmpL_split {a b : List (List UInt8)} {k : Nat} (h : a.take k = b.take k) : cmpL a b = cmpL (a.drop k) (b.drop k) := by
  conv => lhs; rw [← List.take_append_drop k a, ← List.take_append_drop k b, h]
  exact cmpL_app _ _ _
theorem cmpL_at {a b : List (List UInt8)} {k : Nat} {x y : List UInt8} (h : a.take k = b.take k) (hx : a[k]? = some x) (hy : b[k]? = some y) (hne : x ≠ y) : cmpL a b = if Op.bytesLess x y = true then -1 else 1 := by
  rw [cmpL_split h, drop_at hx, drop_at hy]; unfold cmpL; rw [if_neg hne]
theorem cmpL_long {a b : List (List UInt8)} {k : Nat} {x : List UInt8} (h : a.take k = b.take k) (hx : a[k]? = some x) (hy : b.length ≤ k) : cmpL a b = 1 := by
  rw [cmpL_split h, drop_at hx, List.drop_of_length_le hy]; rfl
theorem cmpL_end {a b : List (List UInt8)} {k : Nat} (h : a.take k = b.take k) (hx : a.length ≤ k) : cmpL a b = if a.length < b.length then -1 else 0 := by
  rw [cmpL_split h, List.drop_of_length_le hx]
  by_cases hl : a.length < b.length
  · rw [if_pos hl]
    have h2 : (b.take k).length = a.length := by rw [← h, List.length_take]; omega
    cases hd : b.drop k with
    | nil => have := congrArg List.length hd; rw [List.length_take] at h2; simp at this; omega
    | cons y r => rfl
  · rw [if_neg hl, List.drop_of_length_le (by have := congrArg List.length h; simp only [List.length_take] at this; omega)]; rfl
theorem take_snocL {a b : List (List UInt8)} {k : Nat} {x : List UInt8} (h : a.take k = b.take k) (hx : a[k]? = some x) (hy : b[k]? = some x) : a.take (k + 1) = b.take (k + 1) := by rw [tkL hx, tkL hy, h]

theorem isNaN_ok (x : List UInt8) (W : World) : Calls Try.prog 66 [.string (bs x)].toArray W (Ret fun v w' => v = .bool false ∧ w' = W) := by
  refine calls_of_sc 6 [(0, _)] Try.func66 rfl rfl rfl (enter_slots ⟨rfl, trivial⟩) ?_
  refine Sc.seq ?_
  refine Sc.region ?_
  refine Sl.calm (Cm.assign rfl) rfl ?_
  refine Sl.nil ?_
  refine At.go ?_
  refine Sc.seq ?_
  refine Sc.region ?_
  refine Sl.calm (Cm.move rfl) rfl ?_
  refine Sl.calm (Cm.move rfl) rfl ?_
  refine Sl.fork (Cm.neqBs rfl rfl) rfl (fun h5 => ?_) (fun h5 => ?_)
  ·
    exact absurd rfl h5
  ·
    refine Sl.calm (Cm.assign rfl) rfl ?_
    refine Sl.nil ?_
    refine At.weak [(0, _), (2, _)] ⟨rfl, rfl, trivial⟩ ?_
    refine At.go ?_
    refine Sc.ret ?_
    refine At.ret1 rfl rfl ?_
    exact ⟨_, rfl, rfl, rfl⟩
def cmpB (x y : List UInt8) : Int := if Op.bytesLess x y = true then -1 else if x = y then 0 else 1
theorem cmpB_zero {x y : List UInt8} (h : cmpB x y = 0) : x = y := by
  unfold cmpB at h
  split at h
  · cases h
  · split at h
    · assumption
    · cases h
theorem cmpS_ok (x y : List UInt8) (W : World) : Calls Try.prog 51 [.string (bs x), .string (bs y)].toArray W (Ret fun v w' => v = .int .i64 (cmpB x y) ∧ w' = W) := by
  refine calls_of_sc 20 [(0, _), (1, _)] Try.func51 rfl rfl rfl (enter_slots ⟨rfl, rfl, trivial⟩) ?_
  refine Sc.seq ?_
  refine Sc.region ?_
  refine Sl.calm (Cm.assign rfl) rfl ?_
  refine Sl.nil ?_
  refine At.go ?_
  refine Sc.seq ?_
  refine Sc.region ?_
  refine Sl.calm (Cm.move rfl) rfl ?_
  refine Sl.call fn66 rfl (isNaN_ok x W) rfl ?_
  rintro _ w1 ⟨rfl, hw1⟩
  subst w1
  refine Sl.calm (Cm.assign rfl) rfl ?_
  refine Sl.nil ?_
  refine At.weak [(0, _), (1, _), (4, _), (5, _)] ⟨rfl, rfl, rfl, rfl, trivial⟩ ?_
  refine At.go ?_
  refine Sc.seq ?_
  refine Sc.region ?_
  refine Sl.calm (Cm.move rfl) rfl ?_
  refine Sl.call fn66 rfl (isNaN_ok y W) rfl ?_
  rintro _ w1 ⟨rfl, hw1⟩
  subst w1
  refine Sl.calm (Cm.assign rfl) rfl ?_
  refine Sl.nil ?_
  refine At.weak [(0, _), (1, _), (4, _), (5, _), (6, _)] ⟨rfl, rfl, rfl, rfl, rfl, trivial⟩ ?_
  refine At.go ?_
  refine Sc.seq ?_
  refine Sc.seq ?_
  refine Sc.region ?_
  refine Sl.calm (Cm.move rfl) rfl ?_
  refine Sl.nil ?_
  refine At.go ?_
  refine Sc.cond_f rfl ?_
  refine Sc.skip ?_
  refine At.go ?_
  refine Sc.seq ?_
  refine Sc.seq ?_
  refine Sc.region ?_
  refine Sl.calm (Cm.move rfl) rfl ?_
  refine Sl.nil ?_
  refine At.go ?_
  refine Sc.cond_f rfl ?_
  refine Sc.skip ?_
  refine At.go ?_
  refine Sc.seq ?_
  refine Sc.seq ?_
  refine Sc.region ?_
  refine Sl.calm (Cm.move rfl) rfl ?_
  refine Sl.calm (Cm.move rfl) rfl ?_
  refine Sl.fork (Cm.ofBool (Cm.lssBs (a := x) (b := y) rfl rfl)) rfl (fun h16 => ?_) (fun h16 => ?_)
  ·
    refine Sl.nil ?_
    refine At.weak [(0, _), (1, _), (4, _), (5, _), (6, _), (11, _), (13, _), (16, _)] ⟨rfl, rfl, rfl, rfl, rfl, rfl, rfl, rfl, trivial⟩ ?_
    refine At.go ?_
    refine Sc.cond_t rfl ?_
    refine Sc.seq ?_
    refine Sc.region ?_
    refine Sl.calm (Cm.assign rfl) rfl ?_
    refine Sl.nil ?_
    refine At.go ?_
    refine Sc.ret ?_
    refine At.then_ret ?_
    refine At.ret1 rfl rfl ?_
    exact ⟨_, rfl, by unfold cmpB; rw [if_pos h16], rfl⟩
  ·
    refine Sl.nil ?_
    refine At.weak [(0, _), (1, _), (4, _), (5, _), (6, _), (11, _), (13, _), (16, _)] ⟨rfl, rfl, rfl, rfl, rfl, rfl, rfl, rfl, trivial⟩ ?_
    refine At.go ?_
    refine Sc.cond_f rfl ?_
    refine Sc.skip ?_
    refine At.go ?_
    refine Sc.seq ?_
    refine Sc.seq ?_
    refine Sc.region ?_
    refine Sl.calm (Cm.move rfl) rfl ?_
    refine Sl.calm (Cm.move rfl) rfl ?_
    refine Sl.fork (Cm.ofBool (Cm.gtrBs (a := x) (b := y) rfl rfl)) rfl (fun h19 => ?_) (fun h19 => ?_)
    ·
      refine Sl.nil ?_
      refine At.weak [(0, _), (1, _), (4, _), (5, _), (6, _), (11, _), (13, _), (16, _), (19, _)] ⟨rfl, rfl, rfl, rfl, rfl, rfl, rfl, rfl, rfl, trivial⟩ ?_
      refine At.go ?_
      refine Sc.cond_t rfl ?_
      refine Sc.seq ?_
      refine Sc.region ?_
      refine Sl.calm (Cm.assign rfl) rfl ?_
      refine Sl.nil ?_
      refine At.go ?_
      refine Sc.ret ?_
      refine At.then_ret ?_
      refine At.ret1 rfl rfl ?_
      exact ⟨_, rfl, by unfold cmpB; rw [if_neg h16, if_neg (fun e => by subst e; simp at h19)], rfl⟩
    ·
      refine Sl.nil ?_
      refine At.weak [(0, _), (1, _), (4, _), (5, _), (6, _), (11, _), (13, _), (16, _), (19, _)] ⟨rfl, rfl, rfl, rfl, rfl, rfl, rfl, rfl, rfl, trivial⟩ ?_
      refine At.go ?_
      refine Sc.cond_f rfl ?_
      refine Sc.skip ?_
      refine At.go ?_
      refine Sc.seq ?_
      refine Sc.region ?_
      refine Sl.calm (Cm.assign rfl) rfl ?_
      refine Sl.nil ?_
      refine At.go ?_
      refine Sc.ret ?_
      refine At.ret1 rfl rfl ?_
      exact ⟨_, rfl, by unfold cmpB; rw [if_neg h16, if_pos (by simpa [h16] using h19)], rfl⟩
set_option maxHeartbeats 1000000 in
theorem compare_ok (ao bo : Option Addr) (ac bc : Nat) (a b : List (List UInt8)) (W : World) (ha : Vw strE W.heap ao ac a) (hb : Vw strE W.heap bo bc b) :
    Calls Try.prog 35 [.slice ao a.length ac, .slice bo b.length bc].toArray W (Ret fun v w' => v = .int .i64 (cmpL a b) ∧ w' = W) := by
  have h63 := ha.len63
  refine calls_of_sc 36 [(0, _), (1, _)] Try.func35 rfl rfl rfl (enter_slots ⟨rfl, rfl, trivial⟩) ?_
  refine Sc.seq ?_
  refine Sc.region ?_
  refine Sl.calm (Cm.assign rfl) rfl ?_
  refine Sl.nil ?_
  refine At.go ?_
  refine Sc.seq ?_
  refine Sc.seq ?_
  refine Sc.region ?_
  refine Sl.calm (Cm.move rfl) rfl ?_
  refine Sl.calm (Cm.len sl29 rfl) rfl ?_
  refine Sl.calm (Cm.move rfl) rfl ?_
  refine Sl.nil ?_
  refine At.go ?_
  refine Sc.block ?_
  refine Sc.loop (β := Nat) (fun k => [(0, .slice ao a.length ac), (1, .slice bo b.length bc), (9, .slice ao a.length ac), (10, .int .i64 a.length), (11, .int .i64 k)]) (fun k w => k ≤ a.length ∧ a.take k = b.take k ∧ w = W) (fun k => a.length - k) 0 ⟨rfl, rfl, rfl, rfl, rfl, trivial⟩ ⟨Nat.zero_le _, by simp, rfl⟩ ?_
  rintro k w ⟨hk, hsm, rfl⟩
  refine Sc.seq ?_
  refine Sc.region ?_
  refine Sl.fork (Cm.lss rfl rfl) rfl (fun h12 => ?_) (fun h12 => ?_)
  ·
    have hka : k < a.length := by omega
    obtain ⟨x, hx⟩ : ∃ x, a[k]? = some x := ⟨_, List.getElem?_eq_getElem hka⟩
    refine Sl.nil ?_
    refine At.go ?_
    refine Sc.seq ?_
    refine Sc.cond_t rfl ?_
    refine Sc.skip ?_
    refine At.go ?_
    refine Sc.seq ?_
    refine Sc.block ?_
    refine Sc.seq ?_
    refine Sc.region ?_
    refine Sl.calm (Cm.move rfl) rfl ?_
    refine Sl.calm (Cm.indexAddr1 sl29 rfl rfl ha.non (by omega)) rfl ?_
    refine Sl.calm (Cm.ld sca9 rfl (ha.get k x hx)) rfl ?_
    refine Sl.calm (Cm.assign rfl) rfl ?_
    refine Sl.calm (Cm.assign rfl) rfl ?_
    refine Sl.nil ?_
    refine At.weak [(0, _), (1, _), (5, _), (6, _), (9, _), (10, _), (11, _), (12, _)] ⟨rfl, rfl, rfl, rfl, rfl, rfl, rfl, rfl, trivial⟩ ?_
    refine At.go ?_
    refine Sc.seq ?_
    refine Sc.seq ?_
    refine Sc.region ?_
    refine Sl.calm (Cm.move rfl) rfl ?_
    refine Sl.calm (Cm.move rfl) rfl ?_
    refine Sl.calm (Cm.len sl29 rfl) rfl ?_
    refine Sl.fork (Cm.geq rfl rfl) rfl (fun h19 => ?_) (fun h19 => ?_)
    ·
      refine Sl.nil ?_
      refine At.weak [(0, _), (1, _), (5, _), (6, _), (9, _), (10, _), (11, _), (12, _), (19, _)] ⟨rfl, rfl, rfl, rfl, rfl, rfl, rfl, rfl, rfl, trivial⟩ ?_
      refine At.go ?_
      refine Sc.cond_t rfl ?_
      refine Sc.seq ?_
      refine Sc.region ?_
      refine Sl.calm (Cm.assign rfl) rfl ?_
      refine Sl.nil ?_
      refine At.go ?_
      refine Sc.ret ?_
      refine At.then_ret ?_
      refine At.block_ret ?_
      refine At.then_ret ?_
      refine At.then_ret ?_
      refine At.block_ret ?_
      refine At.then_ret ?_
      refine At.ret1 rfl rfl ?_
      exact ⟨_, rfl, by rw [cmpL_long hsm hx (by omega)], rfl⟩
    ·
      obtain ⟨y, hy⟩ : ∃ y, b[k]? = some y := ⟨_, List.getElem?_eq_getElem (by omega)⟩
      refine Sl.nil ?_
      refine At.weak [(0, _), (1, _), (5, _), (6, _), (9, _), (10, _), (11, _), (12, _), (19, _)] ⟨rfl, rfl, rfl, rfl, rfl, rfl, rfl, rfl, rfl, trivial⟩ ?_
      refine At.go ?_
      refine Sc.cond_f rfl ?_
      refine Sc.skip ?_
      refine At.go ?_
      refine Sc.seq ?_
      refine Sc.region ?_
      refine Sl.calm (Cm.move rfl) rfl ?_
      refine Sl.calm (Cm.move rfl) rfl ?_
      refine Sl.calm (Cm.indexAddr1 sl29 rfl rfl hb.non (by omega)) rfl ?_
      refine Sl.calm (Cm.ld sca9 rfl (hb.get k y hy)) rfl ?_
      refine Sl.calm (Cm.assign rfl) rfl ?_
      refine Sl.nil ?_
      refine At.weak [(0, _), (1, _), (5, _), (6, _), (7, _), (9, _), (10, _), (11, _), (12, _), (19, _)] ⟨rfl, rfl, rfl, rfl, rfl, rfl, rfl, rfl, rfl, rfl, trivial⟩ ?_
      refine At.go ?_
      refine Sc.seq ?_
      refine Sc.region ?_
      refine Sl.calm (Cm.move rfl) rfl ?_
      refine Sl.calm (Cm.move rfl) rfl ?_
      refine Sl.call fn51 rfl (cmpS_ok x y w) rfl ?_
      rintro _ w1 ⟨rfl, hw1⟩
      subst w1
      refine Sl.calm (Cm.assign rfl) rfl ?_
      refine Sl.nil ?_
      refine At.weak [(0, _), (1, _), (5, _), (6, _), (7, _), (8, _), (9, _), (10, _), (11, _), (12, _), (19, _)] ⟨rfl, rfl, rfl, rfl, rfl, rfl, rfl, rfl, rfl, rfl, rfl, trivial⟩ ?_
      refine At.go ?_
      refine Sc.seq ?_
      refine Sc.region ?_
      refine Sl.calm (Cm.move rfl) rfl ?_
      refine Sl.fork (Cm.neq rfl rfl) rfl (fun h28 => ?_) (fun h28 => ?_)
      ·
        refine Sl.nil ?_
        refine At.weak [(0, _), (1, _), (5, _), (6, _), (7, _), (8, _), (9, _), (10, _), (11, _), (12, _), (19, _), (28, _)] ⟨rfl, rfl, rfl, rfl, rfl, rfl, rfl, rfl, rfl, rfl, rfl, rfl, trivial⟩ ?_
        refine At.go ?_
        refine Sc.cond_t rfl ?_
        refine Sc.seq ?_
        refine Sc.region ?_
        refine Sl.calm (Cm.move rfl) rfl ?_
        refine Sl.calm (Cm.assign rfl) rfl ?_
        refine Sl.nil ?_
        refine At.weak [(0, _), (1, _), (4, _), (5, _), (6, _), (7, _), (8, _), (9, _), (10, _), (11, _), (12, _), (19, _), (28, _)] ⟨rfl, rfl, rfl, rfl, rfl, rfl, rfl, rfl, rfl, rfl, rfl, rfl, rfl, trivial⟩ ?_
        refine At.go ?_
        refine Sc.ret ?_
        refine At.block_ret ?_
        refine At.then_ret ?_
        refine At.then_ret ?_
        refine At.block_ret ?_
        refine At.then_ret ?_
        refine At.ret1 rfl rfl ?_
        refine ⟨_, rfl, ?_, rfl⟩
        have hne : x ≠ y := fun e => h28 (by unfold cmpB; rw [if_neg (by rw [e, bl_irrefl]; decide), if_pos e])
        rw [cmpL_at hsm hx hy hne]; unfold cmpB; rw [if_neg hne]
      ·
        have hxy : x = y := cmpB_zero (Classical.not_not.1 h28)
        refine Sl.nil ?_
        refine At.weak [(0, _), (1, _), (5, _), (6, _), (7, _), (8, _), (9, _), (10, _), (11, _), (12, _), (19, _), (28, _)] ⟨rfl, rfl, rfl, rfl, rfl, rfl, rfl, rfl, rfl, rfl, rfl, rfl, trivial⟩ ?_
        refine At.go ?_
        refine Sc.cond_f rfl ?_
        refine Sc.skip ?_
        refine At.block_normal ?_
        refine At.go ?_
        refine Sc.region ?_
        refine Sl.calm (Cm.add64 rfl rfl (by omega)) rfl ?_
        refine Sl.calm (Cm.move rfl) rfl ?_
        refine Sl.nil ?_
        exact At.again (k + 1) ⟨rfl, rfl, rfl, rfl, rfl, trivial⟩ ⟨by omega, take_snocL hsm hx (hxy ▸ hy), rfl⟩ (by show a.length - (k + 1) < a.length - k; omega)
  ·
    refine Sl.nil ?_
    refine At.go ?_
    refine Sc.seq ?_
    refine Sc.cond_f rfl ?_
    refine Sc.exit ?_
    refine At.then_exit ?_
    refine At.then_exit ?_
    refine At.block_hit ?_
    refine At.go ?_
    refine Sc.seq ?_
    refine Sc.seq ?_
    refine Sc.region ?_
    refine Sl.calm (Cm.move rfl) rfl ?_
    refine Sl.calm (Cm.len sl29 rfl) rfl ?_
    refine Sl.calm (Cm.move rfl) rfl ?_
    refine Sl.calm (Cm.len sl29 rfl) rfl ?_
    refine Sl.fork (Cm.lss rfl rfl) rfl (fun h35 => ?_) (fun h35 => ?_)
    ·
      refine Sl.nil ?_
      refine At.weak [(0, _), (1, _), (9, _), (10, _), (11, _), (12, _), (35, _)] ⟨rfl, rfl, rfl, rfl, rfl, rfl, rfl, trivial⟩ ?_
      refine At.go ?_
      refine Sc.cond_t rfl ?_
      refine Sc.seq ?_
      refine Sc.region ?_
      refine Sl.calm (Cm.assign rfl) rfl ?_
      refine Sl.nil ?_
      refine At.go ?_
      refine Sc.ret ?_
      refine At.then_ret ?_
      refine At.ret1 rfl rfl ?_
      exact ⟨_, rfl, by rw [cmpL_end hsm (by omega), if_pos (by omega)], rfl⟩
    ·
      refine Sl.nil ?_
      refine At.weak [(0, _), (1, _), (9, _), (10, _), (11, _), (12, _), (35, _)] ⟨rfl, rfl, rfl, rfl, rfl, rfl, rfl, trivial⟩ ?_
      refine At.go ?_
      refine Sc.cond_f rfl ?_
      refine Sc.skip ?_
      refine At.go ?_
      refine Sc.seq ?_
      refine Sc.region ?_
      refine Sl.calm (Cm.assign rfl) rfl ?_
      refine Sl.nil ?_
      refine At.go ?_
      refine Sc.ret ?_
      refine At.ret1 rfl rfl ?_
      exact ⟨_, rfl, by rw [cmpL_end hsm (by omega), if_neg (by omega)], rfl⟩
def lessN (a b : List (List UInt8)) : Bool := decide (cmpL a b < 0)
set_option maxHeartbeats 1000000 in
theorem rless_ok (ao bo : Option Addr) (ac bc : Nat) (a b : List (List UInt8)) (W : World) (ha : Vw strE W.heap ao ac a) (hb : Vw strE W.heap bo bc b) :
    Calls Try.prog 39 [.slice ao a.length ac, .slice bo b.length bc].toArray W (Ret fun v w' => v = .bool (lessN a b) ∧ Foot nob W w') := by
  have h63 := ha.len63
  refine calls_of_sc 41 [(0, _), (1, _)] Try.func39 rfl rfl rfl (enter_slots ⟨rfl, rfl, trivial⟩) ?_
  refine Sc.seq ?_
  refine Sc.region ?_
  refine Sl.calm (Cm.assign rfl) rfl ?_
  refine Sl.nil ?_
  refine At.go ?_
  refine Sc.seq ?_
  refine Sc.seq ?_
  refine Sc.region ?_
  refine Sl.calm (Cm.assign rfl) rfl ?_
  refine Sl.nil ?_
  refine At.go ?_
  refine Sc.block ?_
  refine Sc.loop (β := Nat) (fun k => [(0, .slice ao a.length ac), (1, .slice bo b.length bc), (5, .int .i64 k)]) (fun k w => k ≤ a.length ∧ k ≤ b.length ∧ a.take k = b.take k ∧ Foot nob W w) (fun k => a.length - k) 0 ⟨rfl, rfl, rfl, trivial⟩ ⟨Nat.zero_le _, Nat.zero_le _, by simp, Foot.refl _ _⟩ ?_
  rintro k w2 ⟨hk, hkb, hsm, hF2⟩
  refine Sc.seq ?_
  refine Sc.seq ?_
  refine Sc.region ?_
  refine Sl.calm (Cm.move rfl) rfl ?_
  refine Sl.calm (Cm.move rfl) rfl ?_
  refine Sl.calm (Cm.len sl29 rfl) rfl ?_
  refine Sl.fork (Cm.lss rfl rfl) rfl (fun h9 => ?_) (fun h9 => ?_)
  ·
    refine Sl.calm (Cm.move rfl) rfl ?_
    refine Sl.want rfl rfl (Cm.move rfl) rfl ?_
    refine Sl.want rfl rfl (Cm.move rfl) rfl ?_
    refine Sl.want rfl rfl (Cm.len sl29 rfl) rfl ?_
    refine Sl.forkWant rfl rfl (Cm.lss rfl rfl) rfl (fun h14 => ?_) (fun h14 => ?_)
    ·
      have hka : k < a.length := by omega
      have hkb : k < b.length := by omega
      have ha2 := ha.grow hF2
      have hb2 := hb.grow hF2
      obtain ⟨x, hx⟩ : ∃ x, a[k]? = some x := ⟨_, List.getElem?_eq_getElem hka⟩
      obtain ⟨y, hy⟩ : ∃ y, b[k]? = some y := ⟨_, List.getElem?_eq_getElem hkb⟩
      refine Sl.calm (Cm.pick_t rfl rfl) rfl ?_
      refine Sl.nil ?_
      refine At.weak [(0, _), (1, _), (5, _), (15, _)] ⟨rfl, rfl, rfl, rfl, trivial⟩ ?_
      refine At.go ?_
      refine Sc.cond_t rfl ?_
      refine Sc.skip ?_
      refine At.go ?_
      refine Sc.seq ?_
      refine Sc.block ?_
      refine Sc.seq ?_
      refine Sc.quiet 9 [0, 1, 2, 3, 4, 5, 6, 7, 8] mixed (by kernel_rfl) ?_
      refine Sx.calm rfl rfl (Cm.move rfl) rfl ?_
      refine Sx.calm rfl rfl (Cm.move rfl) rfl ?_
      refine Sx.calm rfl rfl (Cm.indexAddr1 sl29 rfl rfl ha2.non (by omega)) rfl ?_
      refine Sx.calm rfl rfl (Cm.ld sca9 rfl (ha2.get k x hx)) rfl ?_
      refine Sx.calm rfl rfl (Cm.move rfl) rfl ?_
      refine Sx.calm rfl rfl (Cm.move rfl) rfl ?_
      refine Sx.calm rfl rfl (Cm.indexAddr1 sl29 rfl rfl hb2.non (by omega)) rfl ?_
      refine Sx.calm rfl rfl (Cm.ld sca9 rfl (hb2.get k y hy)) rfl ?_
      refine Sx.fork rfl rfl (Cm.neqBs rfl rfl) rfl (fun h26 => ?_) (fun h26 => ?_)
      ·
        refine Sx.nil ?_
        refine At.weak [(0, _), (1, _), (5, _), (15, _), (26, _)] ⟨rfl, rfl, rfl, rfl, rfl, trivial⟩ ?_
        refine At.go ?_
        refine Sc.cond_t rfl ?_
        refine Sc.seq ?_
        refine Sc.quiet 10 [0, 1, 2, 3, 4, 5, 6, 7, 8, 9] mixed (by kernel_rfl) ?_
        refine Sx.calm rfl rfl (Cm.move rfl) rfl ?_
        refine Sx.calm rfl rfl (Cm.move rfl) rfl ?_
        refine Sx.calm rfl rfl (Cm.indexAddr1 sl29 rfl rfl ha2.non (by omega)) rfl ?_
        refine Sx.calm rfl rfl (Cm.ld sca9 rfl (ha2.get k x hx)) rfl ?_
        refine Sx.calm rfl rfl (Cm.move rfl) rfl ?_
        refine Sx.calm rfl rfl (Cm.move rfl) rfl ?_
        refine Sx.calm rfl rfl (Cm.indexAddr1 sl29 rfl rfl hb2.non (by omega)) rfl ?_
        refine Sx.calm rfl rfl (Cm.ld sca9 rfl (hb2.get k y hy)) rfl ?_
        refine Sx.calm rfl rfl (Cm.lssBs (a := x) (b := y) rfl rfl) rfl ?_
        refine Sx.calm rfl rfl (Cm.assign rfl) rfl ?_
        refine Sx.nil ?_
        refine At.weak [(0, _), (1, _), (4, _), (5, _), (15, _), (26, _)] ⟨rfl, rfl, rfl, rfl, rfl, rfl, trivial⟩ ?_
        refine At.go ?_
        refine Sc.ret ?_
        refine At.block_ret ?_
        refine At.then_ret ?_
        refine At.then_ret ?_
        refine At.block_ret ?_
        refine At.then_ret ?_
        refine At.ret1 rfl rfl ?_
        first
          | (refine ⟨_, rfl, ?_, (hF2.draws 1).draws 1⟩
             unfold lessN; rw [cmpL_at hsm hx hy h26]
             cases hl : Op.bytesLess x y <;> simp)
          | (refine ⟨_, rfl, ?_, hF2⟩
             unfold lessN
             by_cases hka : a.length ≤ k
             · rw [cmpL_end hsm hka]; by_cases hl : a.length < b.length
               · rw [if_pos hl]; simp; omega
               · rw [if_neg hl]; simp; omega
             · obtain ⟨x, hx⟩ : ∃ x, a[k]? = some x := ⟨_, List.getElem?_eq_getElem (by omega)⟩
               rw [cmpL_long hsm hx (by omega)]; simp; omega)
      ·
        refine Sx.nil ?_
        refine At.weak [(0, _), (1, _), (5, _), (15, _), (26, _)] ⟨rfl, rfl, rfl, rfl, rfl, trivial⟩ ?_
        refine At.go ?_
        refine Sc.cond_f rfl ?_
        refine Sc.skip ?_
        refine At.block_normal ?_
        refine At.go ?_
        refine Sc.region ?_
        refine Sl.calm (Cm.move rfl) rfl ?_
        refine Sl.calm (Cm.add64 rfl rfl (by omega)) rfl ?_
        refine Sl.calm (Cm.assign rfl) rfl ?_
        refine Sl.nil ?_
        exact At.again (k + 1) ⟨rfl, rfl, rfl, trivial⟩ ⟨by omega, by omega, take_snocL hsm hx (by rw [Classical.not_not.1 h26]; exact hy), hF2.draws 1⟩ (by show a.length - (k + 1) < a.length - k; omega)
    ·
      refine Sl.calm (Cm.pick_t rfl rfl) rfl ?_
      refine Sl.nil ?_
      refine At.weak [(0, _), (1, _), (5, _), (15, _)] ⟨rfl, rfl, rfl, rfl, trivial⟩ ?_
      refine At.go ?_
      refine Sc.cond_f rfl ?_
      refine Sc.exit ?_
      refine At.then_exit ?_
      refine At.then_exit ?_
      refine At.block_hit ?_
      refine At.go ?_
      refine Sc.seq ?_
      refine Sc.region ?_
      refine Sl.calm (Cm.move rfl) rfl ?_
      refine Sl.calm (Cm.len sl29 rfl) rfl ?_
      refine Sl.calm (Cm.move rfl) rfl ?_
      refine Sl.calm (Cm.len sl29 rfl) rfl ?_
      refine Sl.calm (Cm.lss rfl rfl) rfl ?_
      refine Sl.calm (Cm.assign rfl) rfl ?_
      refine Sl.nil ?_
      refine At.weak [(0, _), (1, _), (4, _), (5, _), (15, _)] ⟨rfl, rfl, rfl, rfl, rfl, trivial⟩ ?_
      refine At.go ?_
      refine Sc.ret ?_
      refine At.ret1 rfl rfl ?_
      first
        | (refine ⟨_, rfl, ?_, (hF2.draws 1).draws 1⟩
           unfold lessN; rw [cmpL_at hsm hx hy h26]
           cases hl : Op.bytesLess x y <;> simp)
        | (refine ⟨_, rfl, ?_, hF2⟩
           unfold lessN
           by_cases hka : a.length ≤ k
           · rw [cmpL_end hsm hka]; by_cases hl : a.length < b.length
             · rw [if_pos hl]; simp; omega
             · rw [if_neg hl]; simp; omega
           · obtain ⟨x, hx⟩ : ∃ x, a[k]? = some x := ⟨_, List.getElem?_eq_getElem (by omega)⟩
             rw [cmpL_long hsm hx (by omega)]; simp; omega)
  ·
    refine Sl.calm (Cm.move rfl) rfl ?_
    refine Sl.skip rfl rfl rfl rfl ?_
    refine Sl.skip rfl rfl rfl rfl ?_
    refine Sl.skip rfl rfl rfl rfl ?_
    refine Sl.skip rfl rfl rfl rfl ?_
    refine Sl.calm (Cm.pick_f rfl rfl) rfl ?_
    refine Sl.nil ?_
    refine At.weak [(0, _), (1, _), (5, _), (15, _)] ⟨rfl, rfl, rfl, rfl, trivial⟩ ?_
    refine At.go ?_
    refine Sc.cond_f rfl ?_
    refine Sc.exit ?_
    refine At.then_exit ?_
    refine At.then_exit ?_
    refine At.block_hit ?_
    refine At.go ?_
    refine Sc.seq ?_
    refine Sc.region ?_
    refine Sl.calm (Cm.move rfl) rfl ?_
    refine Sl.calm (Cm.len sl29 rfl) rfl ?_
    refine Sl.calm (Cm.move rfl) rfl ?_
    refine Sl.calm (Cm.len sl29 rfl) rfl ?_
    refine Sl.calm (Cm.lss rfl rfl) rfl ?_
    refine Sl.calm (Cm.assign rfl) rfl ?_
    refine Sl.nil ?_
    refine At.weak [(0, _), (1, _), (4, _), (5, _), (15, _)] ⟨rfl, rfl, rfl, rfl, rfl, trivial⟩ ?_
    refine At.go ?_
    refine Sc.ret ?_
    refine At.ret1 rfl rfl ?_
    first
      | (refine ⟨_, rfl, ?_, (hF2.draws 1).draws 1⟩
         unfold lessN; rw [cmpL_at hsm hx hy h26]
         cases hl : Op.bytesLess x y <;> simp)
      | (refine ⟨_, rfl, ?_, hF2⟩
         unfold lessN
         by_cases hka : a.length ≤ k
         · rw [cmpL_end hsm hka]; by_cases hl : a.length < b.length
           · rw [if_pos hl]; simp; omega
           · rw [if_neg hl]; simp; omega
         · obtain ⟨x, hx⟩ : ∃ x, a[k]? = some x := ⟨_, List.getElem?_eq_getElem (by omega)⟩
           rw [cmpL_long hsm hx (by omega)]; simp; omega)
end Go.Proofs.Ytpamandneifemaa
/- tree: the reference's Same, Sorted, Numbered, Canon. No condition beyond the bounds that each states. -/
namespace Go.Proofs.Ytpamandneifemaa
open Go Go.RowKit Go.Maps
set_option linter.unusedVariables false

theorem nd_ext {a b : Nd} : a = b ↔ a.names = b.names ∧ Alk a b ∧ a.ino = b.ino := by
  constructor
  · rintro rfl; exact ⟨rfl, Alk.refl _, rfl⟩
  · rintro ⟨h1, ⟨h2, ⟨h3, h4, h5⟩, h6, h7, h8, h9⟩, h10⟩
    cases a; cases b; simp_all
variable {D D' : Nat → Prop}
set_option maxHeartbeats 2000000 in
theorem rsameN_ok (lo mo : Option Addr) (lc mc : Nat) (ps qs : List (NdH × Nd)) (W : World) (hp : NodesV D W.heap lo lc ps) (hq : NodesV D' W.heap mo mc qs) :
    Calls Try.prog 14 [.slice lo ps.length lc, .slice mo qs.length mc].toArray W (Ret fun v w' => (v = .bool true ↔ nds ps = nds qs) ∧ (∃ b, v = .bool b) ∧ Foot nob W w') := by
  have h63 := hp.1.len63
  have hll : (nds ps).length = ps.length := by simp
  have hlq : (nds qs).length = qs.length := by simp
  have no : ∀ w', ¬ nds ps = nds qs → Foot nob W w' → Ret (fun v w' => (v = .bool true ↔ nds ps = nds qs) ∧ (∃ b, v = .bool b) ∧ Foot nob W w') (.returned (.bool false)) w' := fun w' h f => ⟨_, rfl, ⟨fun e => by simp at e, fun e => absurd e h⟩, ⟨_, rfl⟩, f⟩
  refine calls_of_sc 58 [(0, _), (1, _)] Try.func14 rfl rfl rfl (enter_slots ⟨rfl, rfl, trivial⟩) ?_
  refine Sc.seq ?_
  refine Sc.region ?_
  refine Sl.calm (Cm.assign rfl) rfl ?_
  refine Sl.nil ?_
  refine At.go ?_
  refine Sc.seq ?_
  refine Sc.seq ?_
  refine Sc.region ?_
  refine Sl.calm (Cm.move rfl) rfl ?_
  refine Sl.calm (Cm.len sl25 rfl) rfl ?_
  refine Sl.calm (Cm.move rfl) rfl ?_
  refine Sl.calm (Cm.len sl25 rfl) rfl ?_
  refine Sl.fork (Cm.neq rfl rfl) rfl (fun h12 => ?_) (fun h12 => ?_)
  ·
    refine Sl.nil ?_
    refine At.weak [(0, _), (1, _), (4, _), (12, _)] ⟨rfl, rfl, rfl, rfl, trivial⟩ ?_
    refine At.go ?_
    refine Sc.cond_t rfl ?_
    refine Sc.seq ?_
    refine Sc.region ?_
    refine Sl.calm (Cm.assign rfl) rfl ?_
    refine Sl.nil ?_
    refine At.go ?_
    refine Sc.ret ?_
    refine At.then_ret ?_
    refine At.ret1 rfl rfl ?_
    first
      | exact no _ (fun e => by have := congrArg List.length e; omega) (Foot.refl _ _)
      | (refine no _ (fun e => ?_) (hF4.draws 1)
         have e2 := nds_get hpi
         rw [e, nds_get hqi] at e2
         have e3 := nd_ext.1 (Option.some.inj e2)
         first
           | exact h39 e3.1.symm
           | exact h42 e3.2.1.symm
           | exact h56 e3.2.2.symm)
      | exact ⟨_, rfl, ⟨fun _ => opt_all (by omega) (by omega) hsm, fun _ => rfl⟩, ⟨_, rfl⟩, hF2⟩
  ·
    refine Sl.nil ?_
    refine At.weak [(0, _), (1, _), (4, _), (12, _)] ⟨rfl, rfl, rfl, rfl, trivial⟩ ?_
    refine At.go ?_
    refine Sc.cond_f rfl ?_
    refine Sc.skip ?_
    refine At.go ?_
    refine Sc.seq ?_
    refine Sc.seq ?_
    refine Sc.region ?_
    refine Sl.calm (Cm.assign rfl) rfl ?_
    refine Sl.nil ?_
    refine At.go ?_
    refine Sc.block ?_
    have hle : ps.length = qs.length := by omega
    refine Sc.loop (β := Nat) (fun i => [(0, .slice lo ps.length lc), (1, .slice mo qs.length mc), (5, .int .i64 i)]) (fun i w => i ≤ ps.length ∧ (∀ j : Nat, j < i → (nds ps)[j]? = (nds qs)[j]?) ∧ Foot nob W w) (fun i => ps.length - i) 0 ⟨rfl, rfl, rfl, trivial⟩ ⟨Nat.zero_le _, fun j hj => by omega, Foot.refl _ _⟩ ?_
    rintro i w2 ⟨hi, hsm, hF2⟩
    refine Sc.seq ?_
    refine Sc.seq ?_
    refine Sc.region ?_
    refine Sl.calm (Cm.move rfl) rfl ?_
    refine Sl.calm (Cm.move rfl) rfl ?_
    refine Sl.calm (Cm.len sl25 rfl) rfl ?_
    refine Sl.fork (Cm.lss rfl rfl) rfl (fun h16 => ?_) (fun h16 => ?_)
    ·
      have hil : i < ps.length := by omega
      obtain ⟨p, hpi⟩ : ∃ p, ps[i]? = some p := ⟨_, List.getElem?_eq_getElem hil⟩
      obtain ⟨q, hqi⟩ : ∃ q, qs[i]? = some q := ⟨_, List.getElem?_eq_getElem (by omega)⟩
      have hpm := List.mem_of_getElem? hpi
      have hqm := List.mem_of_getElem? hqi
      have hp2 := hp.grow hF2
      have hq2 := hq.grow hF2
      have hpn := (hp2.2 p hpm).1
      have hqn := (hq2.2 q hqm).1
      refine Sl.nil ?_
      refine At.weak [(0, _), (1, _), (5, _), (16, _)] ⟨rfl, rfl, rfl, rfl, trivial⟩ ?_
      refine At.go ?_
      refine Sc.cond_t rfl ?_
      refine Sc.skip ?_
      refine At.go ?_
      refine Sc.seq ?_
      refine Sc.block ?_
      refine Sc.seq ?_
      refine Sc.draw 12 (fun H => VwM 10 encN H lo lc ps ∧ VwM 10 encN H mo mc qs) [10] [0, 1, 2, 3, 4, 5, 6, 7, 8, 9, 10, 11] mixed (by kernel_rfl) (⟨hp2.1, hq2.1⟩) ?_
      refine Sx.calm rfl rfl (Cm.move rfl) rfl ?_
      refine Sx.calm rfl rfl (Cm.move rfl) rfl ?_
      refine Sx.calm rfl rfl (Cm.indexAddr sl25 rfl rfl hp2.1.non (by omega)) rfl ?_
      refine Sx.calm rfl rfl (Cm.field fld35_0 rfl) rfl ?_
      refine Sx.calm rfl rfl (Cm.load sca29 rfl (fun H hH => hH.1.rowZ i rfl hpi 0 _ rfl)) rfl ?_
      refine Sx.calm rfl rfl (Cm.move rfl) rfl ?_
      refine Sx.calm rfl rfl (Cm.move rfl) rfl ?_
      refine Sx.calm rfl rfl (Cm.indexAddr sl25 rfl rfl hq2.1.non (by omega)) rfl ?_
      refine Sx.calm rfl rfl (Cm.field fld35_0 rfl) rfl ?_
      refine Sx.calm rfl rfl (Cm.load sca29 rfl (fun H hH => hH.2.rowZ i rfl hqi 0 _ rfl)) rfl ?_
      refine Sx.eff rfl rfl (Sl.call fn18 rfl ((by show Calls _ _ [Value.slice p.1.names.a p.1.names.n p.1.names.c, Value.slice q.1.names.a q.1.names.n q.1.names.c].toArray _ _; rw [hpn.1, hqn.1]; exact rsame_ok _ _ _ _ p.2.names q.2.names _ hpn.2.1 hqn.2.1)) rfl ?_)
      rintro _ w3 ⟨rfl, hf3⟩
      have hF3 := (hF2.draws 1).trans hf3
      have hp3 := hp.grow hF3
      have hq3 := hq.grow hF3
      refine Sx.on (by exact ⟨hp3.1, hq3.1⟩) ?_
      refine Sx.calm rfl rfl (Cm.assign rfl) rfl ?_
      refine Sx.nil ?_
      refine At.weak [(0, _), (1, _), (5, _), (6, _), (16, _)] ⟨rfl, rfl, rfl, rfl, rfl, trivial⟩ ?_
      refine At.go ?_
      refine Sc.seq ?_
      refine Sc.draw 10 (fun H => VwM 10 encN H lo lc ps ∧ VwM 10 encN H mo mc qs) [8] [0, 1, 2, 3, 4, 5, 6, 7, 8, 9] mixed (by kernel_rfl) (⟨hp3.1, hq3.1⟩) ?_
      refine Sx.calm rfl rfl (Cm.move rfl) rfl ?_
      refine Sx.calm rfl rfl (Cm.move rfl) rfl ?_
      refine Sx.calm rfl rfl (Cm.indexAddr sl25 rfl rfl hp3.1.non (by omega)) rfl ?_
      refine Sx.calm rfl rfl (Cm.loadM (cs := encN p) agg35 rfl (fun H hH j v hj => hH.1.rowZ i rfl hpi j v hj)) rfl ?_
      refine Sx.calm rfl rfl (Cm.move rfl) rfl ?_
      refine Sx.calm rfl rfl (Cm.move rfl) rfl ?_
      refine Sx.calm rfl rfl (Cm.indexAddr sl25 rfl rfl hq3.1.non (by omega)) rfl ?_
      refine Sx.calm rfl rfl (Cm.loadM (cs := encN q) agg35 rfl (fun H hH j v hj => hH.2.rowZ i rfl hqi j v hj)) rfl ?_
      refine Sx.eff rfl rfl (Sl.call fn19 rfl (ralike_ok (D := fun k => D k ∨ D' k) p q _ (NdV.mono (hp3.2 p hpm) (fun k h => .inl h)) (NdV.mono (hq3.2 q hqm) (fun k h => .inr h))) rfl ?_)
      rintro _ w4 ⟨rfl, hf4⟩
      have hF4 := (hF3.draws 1).trans hf4
      have hp4 := hp.grow hF4
      have hq4 := hq.grow hF4
      refine Sx.on (by exact ⟨hp4.1, hq4.1⟩) ?_
      refine Sx.calm rfl rfl (Cm.assign rfl) rfl ?_
      refine Sx.nil ?_
      refine At.weak [(0, _), (1, _), (5, _), (6, _), (7, _), (16, _)] ⟨rfl, rfl, rfl, rfl, rfl, rfl, trivial⟩ ?_
      refine At.go ?_
      refine Sc.seq ?_
      refine Sc.quiet 19 [0, 1, 2, 3, 4, 5, 6, 7, 8, 9, 10, 11, 12, 13, 14, 15, 16, 17, 18] mixed (by kernel_rfl) ?_
      refine Sx.calm rfl rfl (Cm.move rfl) rfl ?_
      by_cases h39 : p.2.names = q.2.names
      ·
        rw [decide_eq_true h39]
        refine Sx.calm rfl rfl (Cm.not rfl) rfl ?_
        refine Sx.calm rfl rfl (Cm.move rfl) rfl ?_
        refine Sx.want rfl rfl rfl rfl (Cm.move rfl) rfl ?_
        by_cases h42 : Alk p.2 q.2
        ·
          rw [decide_eq_true h42]
          refine Sx.want rfl rfl rfl rfl (Cm.not rfl) rfl ?_
          refine Sx.calm rfl rfl (Cm.pick_f rfl rfl) rfl ?_
          refine Sx.calm rfl rfl (Cm.move rfl) rfl ?_
          refine Sx.want rfl rfl rfl rfl (Cm.move rfl) rfl ?_
          refine Sx.want rfl rfl rfl rfl (Cm.move rfl) rfl ?_
          refine Sx.want rfl rfl rfl rfl (Cm.indexAddr sl25 rfl rfl hp4.1.non (by omega)) rfl ?_
          refine Sx.want rfl rfl rfl rfl (Cm.field fld35_1 rfl) rfl ?_
          refine Sx.want rfl rfl rfl rfl (Cm.ld sca3 rfl (hp4.1.rowZ i rfl hpi 1 _ rfl)) rfl ?_
          refine Sx.want rfl rfl rfl rfl (Cm.move rfl) rfl ?_
          refine Sx.want rfl rfl rfl rfl (Cm.move rfl) rfl ?_
          refine Sx.want rfl rfl rfl rfl (Cm.indexAddr sl25 rfl rfl hq4.1.non (by omega)) rfl ?_
          refine Sx.want rfl rfl rfl rfl (Cm.field fld35_1 rfl) rfl ?_
          refine Sx.want rfl rfl rfl rfl (Cm.ld sca3 rfl (hq4.1.rowZ i rfl hqi 1 _ rfl)) rfl ?_
          refine Sx.forkWant rfl rfl rfl rfl (Cm.neq rfl rfl) rfl (fun h56 => ?_) (fun h56 => ?_)
          ·
            refine Sx.calm rfl rfl (Cm.pick_f rfl rfl) rfl ?_
            refine Sx.nil ?_
            refine At.weak [(0, _), (1, _), (5, _), (6, _), (7, _), (16, _), (57, _)] ⟨rfl, rfl, rfl, rfl, rfl, rfl, rfl, trivial⟩ ?_
            refine At.go ?_
            refine Sc.cond_t rfl ?_
            refine Sc.seq ?_
            refine Sc.region ?_
            refine Sl.calm (Cm.assign rfl) rfl ?_
            refine Sl.nil ?_
            refine At.go ?_
            refine Sc.ret ?_
            refine At.block_ret ?_
            refine At.then_ret ?_
            refine At.then_ret ?_
            refine At.block_ret ?_
            refine At.then_ret ?_
            refine At.ret1 rfl rfl ?_
            first
              | exact no _ (fun e => by have := congrArg List.length e; omega) (Foot.refl _ _)
              | (refine no _ (fun e => ?_) (hF4.draws 1)
                 have e2 := nds_get hpi
                 rw [e, nds_get hqi] at e2
                 have e3 := nd_ext.1 (Option.some.inj e2)
                 first
                   | exact h39 e3.1.symm
                   | exact h42 e3.2.1.symm
                   | exact h56 e3.2.2.symm)
              | exact ⟨_, rfl, ⟨fun _ => opt_all (by omega) (by omega) hsm, fun _ => rfl⟩, ⟨_, rfl⟩, hF2⟩
          ·
            refine Sx.calm rfl rfl (Cm.pick_f rfl rfl) rfl ?_
            refine Sx.nil ?_
            refine At.weak [(0, _), (1, _), (5, _), (6, _), (7, _), (16, _), (57, _)] ⟨rfl, rfl, rfl, rfl, rfl, rfl, rfl, trivial⟩ ?_
            refine At.go ?_
            refine Sc.cond_f rfl ?_
            refine Sc.skip ?_
            refine At.block_normal ?_
            refine At.go ?_
            refine Sc.region ?_
            refine Sl.calm (Cm.move rfl) rfl ?_
            refine Sl.calm (Cm.add64 rfl rfl (by omega)) rfl ?_
            refine Sl.calm (Cm.assign rfl) rfl ?_
            refine Sl.nil ?_
            refine At.again (i + 1) ⟨rfl, rfl, rfl, trivial⟩ ⟨by omega, fun j hj => ?_, hF4.draws 1⟩ (by show ps.length - (i + 1) < ps.length - i; omega)
            by_cases e : j = i
            · subst e; rw [nds_get hpi, nds_get hqi]; exact congrArg _ (nd_ext.2 ⟨h39, h42, Classical.not_not.1 h56⟩)
            · exact hsm j (by omega)
        ·
          rw [decide_eq_false h42]
          refine Sx.want rfl rfl rfl rfl (Cm.not rfl) rfl ?_
          refine Sx.calm rfl rfl (Cm.pick_f rfl rfl) rfl ?_
          refine Sx.calm rfl rfl (Cm.move rfl) rfl ?_
          refine Sx.skip rfl rfl rfl rfl rfl rfl ?_
          refine Sx.skip rfl rfl rfl rfl rfl rfl ?_
          refine Sx.skip rfl rfl rfl rfl rfl rfl ?_
          refine Sx.skip rfl rfl rfl rfl rfl rfl ?_
          refine Sx.skip rfl rfl rfl rfl rfl rfl ?_
          refine Sx.skip rfl rfl rfl rfl rfl rfl ?_
          refine Sx.skip rfl rfl rfl rfl rfl rfl ?_
          refine Sx.skip rfl rfl rfl rfl rfl rfl ?_
          refine Sx.skip rfl rfl rfl rfl rfl rfl ?_
          refine Sx.skip rfl rfl rfl rfl rfl rfl ?_
          refine Sx.skip rfl rfl rfl rfl rfl rfl ?_
          refine Sx.calm rfl rfl (Cm.pick_t rfl rfl) rfl ?_
          refine Sx.nil ?_
          refine At.weak [(0, _), (1, _), (5, _), (6, _), (7, _), (16, _), (57, _)] ⟨rfl, rfl, rfl, rfl, rfl, rfl, rfl, trivial⟩ ?_
          refine At.go ?_
          refine Sc.cond_t rfl ?_
          refine Sc.seq ?_
          refine Sc.region ?_
          refine Sl.calm (Cm.assign rfl) rfl ?_
          refine Sl.nil ?_
          refine At.go ?_
          refine Sc.ret ?_
          refine At.block_ret ?_
          refine At.then_ret ?_
          refine At.then_ret ?_
          refine At.block_ret ?_
          refine At.then_ret ?_
          refine At.ret1 rfl rfl ?_
          first
            | exact no _ (fun e => by have := congrArg List.length e; omega) (Foot.refl _ _)
            | (refine no _ (fun e => ?_) (hF4.draws 1)
               have e2 := nds_get hpi
               rw [e, nds_get hqi] at e2
               have e3 := nd_ext.1 (Option.some.inj e2)
               first
                 | exact h39 e3.1.symm
                 | exact h42 e3.2.1.symm
                 | exact h56 e3.2.2.symm)
            | exact ⟨_, rfl, ⟨fun _ => opt_all (by omega) (by omega) hsm, fun _ => rfl⟩, ⟨_, rfl⟩, hF2⟩
      ·
        rw [decide_eq_false h39]
        refine Sx.calm rfl rfl (Cm.not rfl) rfl ?_
        refine Sx.calm rfl rfl (Cm.move rfl) rfl ?_
        refine Sx.skip rfl rfl rfl rfl rfl rfl ?_
        refine Sx.skip rfl rfl rfl rfl rfl rfl ?_
        refine Sx.calm rfl rfl (Cm.pick_t rfl rfl) rfl ?_
        refine Sx.calm rfl rfl (Cm.move rfl) rfl ?_
        refine Sx.skip rfl rfl rfl rfl rfl rfl ?_
        refine Sx.skip rfl rfl rfl rfl rfl rfl ?_
        refine Sx.skip rfl rfl rfl rfl rfl rfl ?_
        refine Sx.skip rfl rfl rfl rfl rfl rfl ?_
        refine Sx.skip rfl rfl rfl rfl rfl rfl ?_
        refine Sx.skip rfl rfl rfl rfl rfl rfl ?_
        refine Sx.skip rfl rfl rfl rfl rfl rfl ?_
        refine Sx.skip rfl rfl rfl rfl rfl rfl ?_
        refine Sx.skip rfl rfl rfl rfl rfl rfl ?_
        refine Sx.skip rfl rfl rfl rfl rfl rfl ?_
        refine Sx.skip rfl rfl rfl rfl rfl rfl ?_
        refine Sx.calm rfl rfl (Cm.pick_t rfl rfl) rfl ?_
        refine Sx.nil ?_
        refine At.weak [(0, _), (1, _), (5, _), (6, _), (7, _), (16, _), (57, _)] ⟨rfl, rfl, rfl, rfl, rfl, rfl, rfl, trivial⟩ ?_
        refine At.go ?_
        refine Sc.cond_t rfl ?_
        refine Sc.seq ?_
        refine Sc.region ?_
        refine Sl.calm (Cm.assign rfl) rfl ?_
        refine Sl.nil ?_
        refine At.go ?_
        refine Sc.ret ?_
        refine At.block_ret ?_
        refine At.then_ret ?_
        refine At.then_ret ?_
        refine At.block_ret ?_
        refine At.then_ret ?_
        refine At.ret1 rfl rfl ?_
        first
          | exact no _ (fun e => by have := congrArg List.length e; omega) (Foot.refl _ _)
          | (refine no _ (fun e => ?_) (hF4.draws 1)
             have e2 := nds_get hpi
             rw [e, nds_get hqi] at e2
             have e3 := nd_ext.1 (Option.some.inj e2)
             first
               | exact h39 e3.1.symm
               | exact h42 e3.2.1.symm
               | exact h56 e3.2.2.symm)
          | exact ⟨_, rfl, ⟨fun _ => opt_all (by omega) (by omega) hsm, fun _ => rfl⟩, ⟨_, rfl⟩, hF2⟩
    ·
      have hie : i = ps.length := by omega
      subst hie
      refine Sl.nil ?_
      refine At.weak [(0, _), (1, _), (5, _), (16, _)] ⟨rfl, rfl, rfl, rfl, trivial⟩ ?_
      refine At.go ?_
      refine Sc.cond_f rfl ?_
      refine Sc.exit ?_
      refine At.then_exit ?_
      refine At.then_exit ?_
      refine At.block_hit ?_
      refine At.go ?_
      refine Sc.seq ?_
      refine Sc.region ?_
      refine Sl.calm (Cm.assign rfl) rfl ?_
      refine Sl.nil ?_
      refine At.go ?_
      refine Sc.ret ?_
      refine At.ret1 rfl rfl ?_
      first
        | exact no _ (fun e => by have := congrArg List.length e; omega) (Foot.refl _ _)
        | (refine no _ (fun e => ?_) (hF4.draws 1)
           have e2 := nds_get hpi
           rw [e, nds_get hqi] at e2
           have e3 := nd_ext.1 (Option.some.inj e2)
           first
             | exact h39 e3.1.symm
             | exact h42 e3.2.1.symm
             | exact h56 e3.2.2.symm)
        | exact ⟨_, rfl, ⟨fun _ => opt_all (by omega) (by omega) hsm, fun _ => rfl⟩, ⟨_, rfl⟩, hF2⟩

/-! in order -/
theorem lessN_irr (a : List (List UInt8)) : lessN a a = false := by unfold lessN; rw [cmpL_self]; rfl
theorem lessN_not {a b : List (List UInt8)} : lessN a b = false ↔ a = b ∨ lessN b a = true := by
  unfold lessN
  rw [cmpL_neg a b]
  constructor
  · intro h
    by_cases e : cmpL a b = 0
    · exact .inl (cmpL_zero e)
    · right; simp at h ⊢; omega
  · rintro (rfl | h)
    · rw [cmpL_self]; rfl
    · simp at h ⊢; omega
theorem lessN_asym {a b : List (List UInt8)} (h : lessN a b = true) : lessN b a = false := lessN_not.2 (.inr h)
theorem lessN_trans {a b c : List (List UInt8)} (h1 : lessN a b = true) (h2 : lessN b c = true) : lessN a c = true := by
  unfold lessN at *
  simp at *
  exact cmpL_trans h1 h2
theorem lessN_nt {a b c : List (List UInt8)} (h1 : lessN a b = false) (h2 : lessN b c = false) : lessN a c = false := by
  rcases lessN_not.1 h1 with rfl | h1
  · exact h2
  · rcases lessN_not.1 h2 with rfl | h2
    · exact lessN_asym h1
    · exact lessN_asym (lessN_trans h2 h1)
def ordP (p q : NdH × Nd) : Prop := lessN q.2.names p.2.names = false
theorem ins_ord {ys : List (NdH × Nd)} {k : Nat} {p : NdH × Nd} (h : ys.Pairwise ordP) (hk : k ≤ ys.length) (h1 : ∀ j q, k ≤ j → ys[j]? = some q → lessN p.2.names q.2.names = true) (h2 : ∀ q, 0 < k → ys[k - 1]? = some q → lessN p.2.names q.2.names = false) :
    (ys.take k ++ p :: ys.drop k).Pairwise ordP := by
  have hall := List.take_append_drop k ys
  rw [← hall] at h
  obtain ⟨a1, a2, a3⟩ := List.pairwise_append.1 h
  refine List.pairwise_append.2 ⟨a1, List.pairwise_cons.2 ⟨fun q hq => ?_, a2⟩, fun a ha b hb => ?_⟩
  · obtain ⟨j, hj⟩ := List.getElem?_of_mem hq
    rw [List.getElem?_drop] at hj
    exact lessN_asym (h1 _ q (by omega) hj)
  · rcases List.mem_cons.1 hb with rfl | hb
    · have hk0 : 0 < k := by
        rcases Nat.eq_zero_or_pos k with h | h
        · subst h; simp at ha
        · exact h
      have hy : ys[k - 1]? = some (ys[k - 1]'(by omega)) := List.getElem?_eq_getElem (by omega)
      have hb2 := h2 _ hk0 hy
      obtain ⟨j, hj⟩ := List.getElem?_of_mem ha
      rw [List.getElem?_take] at hj
      split at hj
      · rename_i hjk
        by_cases e : j = k - 1
        · subst e; rw [hy] at hj; cases hj; exact hb2
        · have hpw := List.pairwise_iff_getElem.1 (hall ▸ h) j (k - 1) (by omega) (by omega) (by omega)
          rw [(List.getElem?_eq_some_iff.1 hj).2] at hpw
          exact lessN_nt hb2 hpw
      · cases hj
    · exact a3 a ha b hb
theorem ins_perm {α : Type} {ys zs : List α} {k : Nat} {p : α} (h : ys.Perm zs) : (ys.take k ++ p :: ys.drop k).Perm (zs ++ [p]) := by
  refine List.perm_middle.trans ?_
  rw [List.take_append_drop]
  exact (List.Perm.cons p h).trans (List.perm_append_comm (l₁ := [p]) (l₂ := zs))
def srtP (ps : List (NdH × Nd)) : List (NdH × Nd) := ps.mergeSort (fun p q => !lessN q.2.names p.2.names)
theorem srt_perm (ps : List (NdH × Nd)) : (srtP ps).Perm ps := List.mergeSort_perm _ _
theorem srt_ord (ps : List (NdH × Nd)) : (srtP ps).Pairwise ordP := by
  have h := List.pairwise_mergeSort (le := fun p q : NdH × Nd => !lessN q.2.names p.2.names) (fun a b c h1 h2 => by
    simp only [Bool.not_eq_true'] at *
    exact lessN_nt h2 h1) (fun a b => by
    simp only [Bool.or_eq_true, Bool.not_eq_true']
    cases h : lessN b.2.names a.2.names with
    | false => exact .inl rfl
    | true => exact .inr (lessN_asym h)) ps
  exact h.imp (fun h => by simpa [ordP] using h)
theorem names_inj {ps : List (NdH × Nd)} (ht : ¬ twiceL (nds ps)) {p q : NdH × Nd} (hp : p ∈ ps) (hq : q ∈ ps) (e : p.2.names = q.2.names) : p = q := by
  obtain ⟨i, hi⟩ := List.getElem?_of_mem hp
  obtain ⟨j, hj⟩ := List.getElem?_of_mem hq
  rcases Nat.lt_trichotomy i j with h | h | h
  · exact absurd ((twice_iff ps).2 ⟨i, j, p, q, h, hi, hj, e⟩) ht
  · subst h; rw [hi] at hj; exact Option.some.inj hj
  · exact absurd ((twice_iff ps).2 ⟨j, i, q, p, h, hj, hi, e.symm⟩) ht
theorem srt_uniq {ps qs : List (NdH × Nd)} (ht : ¬ twiceL (nds ps)) (hp : qs.Perm ps) (hs : qs.Pairwise ordP) : qs = srtP ps :=
  List.Perm.eq_of_pairwise (le := ordP) (fun a b ha hb h1 h2 => by
    have ha' := hp.mem_iff.1 ha
    have hb' := (srt_perm ps).mem_iff.1 hb
    refine names_inj ht ha' hb' ?_
    rcases lessN_not.1 h2 with e | h2
    · exact e
    · unfold ordP at h1; rw [h1] at h2; cases h2) hs (srt_ord ps) (hp.trans (srt_perm ps).symm)
end Go.Proofs.Ytpamandneifemaa
/- tree: the reference's Sorted. No condition beyond the bounds that each states. -/
namespace Go.Proofs.Ytpamandneifemaa
open Go Go.RowKit Go.Maps
set_option linter.unusedVariables false

variable {D D' : Nat → Prop}
theorem VwM.dropK {α : Type} {k : Nat} {enc : α → List Value} {H : Array Obj} {ao : Option Addr} {cap : Nat} {xs : List α} (v : VwM k enc H ao cap xs) {l : Nat} (hl : l ≤ xs.length) : VwM k enc H (cutAo ao cap l k) (cap - l) (xs.drop l) := by
  have h := v.cut (l := l) (h := xs.length) (m := cap) hl (Nat.le_refl _) v.le (Nat.le_refl _)
  rwa [List.take_of_length_le (by rw [List.length_drop]; exact Nat.le_refl _)] at h
set_option maxHeartbeats 8000000 in
theorem rsorted_ok (lo : Option Addr) (lc : Nat) (ps : List (NdH × Nd)) (W : World) (hv : NodesV D W.heap lo lc ps) (h1000 : ps.length ≤ 1024) :
    Calls Try.prog 16 [.slice lo ps.length lc].toArray W (Ret fun v w' => ∃ o c ys, v = .slice o (List.length (α := NdH × Nd) ys) c ∧ OwnM 10 encN 35 w'.heap o c ys ∧ Fr W.heap.size o ∧ ys.Perm ps ∧ ys.Pairwise ordP ∧ Foot nob W w') := by
  have h63 := hv.1.len63
  refine calls_of_sc 53 [(0, _)] Try.func16 rfl rfl rfl (enter_slots ⟨rfl, trivial⟩) ?_
  refine Sc.seq ?_
  refine Sc.region ?_
  refine Sl.calm (Cm.assign rfl) rfl ?_
  refine Sl.nil ?_
  refine At.go ?_
  refine Sc.seq ?_
  refine Sc.region ?_
  refine Sl.lit0M encN_cells sl25 rfl ?_
  intro w1 ho1 hs1 hf1
  refine Sl.calm (Cm.assign rfl) rfl ?_
  refine Sl.nil ?_
  refine At.weak [(0, _), (2, _), (3, _)] ⟨rfl, rfl, rfl, trivial⟩ ?_
  refine At.go ?_
  refine Sc.seq ?_
  refine Sc.seq ?_
  refine Sc.region ?_
  refine Sl.calm (Cm.assign rfl) rfl ?_
  refine Sl.nil ?_
  refine At.go ?_
  refine Sc.block ?_
  refine Sc.loop (β := Nat × Option Addr × Nat × List (NdH × Nd)) (fun ⟨i, o, c, ys⟩ => [(0, .slice lo ps.length lc), (3, .slice o ys.length c), (4, .int .i64 i)]) (fun ⟨i, o, c, ys⟩ w => i ≤ ps.length ∧ OwnM 10 encN 35 w.heap o c ys ∧ Fr W.heap.size o ∧ ys.Perm (ps.take i) ∧ ys.Pairwise ordP ∧ Foot nob W w) (fun ⟨i, o, c, ys⟩ => ps.length - i) ⟨0, some ⟨W.heap.size, 0, none⟩, 0, []⟩ ⟨rfl, rfl, rfl, trivial⟩ ⟨Nat.zero_le _, ho1, fun a ha => by cases ha; exact Nat.le_refl _, by simp, by simp, hf1⟩ ?_
  rintro ⟨i, o, c, ys⟩ w2 ⟨hi, ho2, hfo, hpe, hor, hF2⟩
  refine Sc.seq ?_
  refine Sc.seq ?_
  refine Sc.region ?_
  refine Sl.calm (Cm.move rfl) rfl ?_
  refine Sl.calm (Cm.move rfl) rfl ?_
  refine Sl.calm (Cm.len sl25 rfl) rfl ?_
  refine Sl.fork (Cm.lss rfl rfl) rfl (fun h11 => ?_) (fun h11 => ?_)
  ·
    have hil : i < ps.length := by omega
    obtain ⟨p, hp⟩ : ∃ p, ps[i]? = some p := ⟨_, List.getElem?_eq_getElem hil⟩
    have hpm := List.mem_of_getElem? hp
    have hv2 := hv.grow hF2
    have hyl : ys.length = i := by rw [hpe.length_eq, List.length_take]; omega
    have hym : ∀ q ∈ ys, q ∈ ps := fun q hq => List.mem_of_mem_take (hpe.mem_iff.1 hq)
    have hvy2 := ho2.vw encN_cells
    refine Sl.nil ?_
    refine At.weak [(0, _), (3, _), (4, _), (11, _)] ⟨rfl, rfl, rfl, rfl, trivial⟩ ?_
    refine At.go ?_
    refine Sc.cond_t rfl ?_
    refine Sc.skip ?_
    refine At.go ?_
    refine Sc.seq ?_
    refine Sc.block ?_
    refine Sc.seq ?_
    refine Sc.region ?_
    refine Sl.calm (Cm.move rfl) rfl ?_
    refine Sl.calm (Cm.len sl25 rfl) rfl ?_
    refine Sl.calm (Cm.assign rfl) rfl ?_
    refine Sl.nil ?_
    refine At.weak [(0, _), (3, _), (4, _), (5, _), (11, _)] ⟨rfl, rfl, rfl, rfl, rfl, trivial⟩ ?_
    refine At.go ?_
    refine Sc.cut (β := Nat) (fun k => [(0, .slice lo ps.length lc), (3, .slice o ys.length c), (4, .int .i64 i), (5, .int .i64 k)]) (fun k w => k ≤ ys.length ∧ (∀ (j : Nat) (q : NdH × Nd), k ≤ j → ys[j]? = some q → lessN p.2.names q.2.names = true) ∧ (∀ q : NdH × Nd, 0 < k → ys[k - 1]? = some q → lessN p.2.names q.2.names = false) ∧ Foot nob w2 w) ?_ ?_
    ·
      refine Sc.block ?_
      refine Sc.loop (β := Nat) (fun k => [(0, .slice lo ps.length lc), (3, .slice o ys.length c), (4, .int .i64 i), (5, .int .i64 k)]) (fun k w => k ≤ ys.length ∧ (∀ (j : Nat) (q : NdH × Nd), k ≤ j → ys[j]? = some q → lessN p.2.names q.2.names = true) ∧ Foot nob w2 w) (fun k => k) ys.length ⟨rfl, rfl, rfl, rfl, trivial⟩ ⟨Nat.le_refl _, fun j q hj hq => by have := (List.getElem?_eq_some_iff.1 hq).1; omega, Foot.refl _ _⟩ ?_
      rintro k w3 ⟨hkl, hbe, hF3⟩
      refine Sc.seq ?_
      refine Sc.seq ?_
      have hv3 := hv2.grow hF3
      have hvy3 := hvy2.keep' hF3 (fun _ _ _ => id)
      refine Sc.draw 16 (fun H => VwM 10 encN H lo lc ps ∧ VwM 10 encN H o c ys) [14] [0, 1, 2, 3, 4, 5, 6, 7, 8, 9, 10, 11, 12, 13, 14, 15] mixed (by kernel_rfl) (⟨hv3.1, hvy3⟩) ?_
      refine Sx.calm rfl rfl (Cm.move rfl) rfl ?_
      refine Sx.fork rfl rfl (Cm.gtr rfl rfl) rfl (fun h17 => ?_) (fun h17 => ?_)
      ·
        obtain ⟨q, hq⟩ : ∃ q, ys[k - 1]? = some q := ⟨_, List.getElem?_eq_getElem (by omega)⟩
        have hqm := hym q (List.mem_of_getElem? hq)
        refine Sx.calm rfl rfl (Cm.move rfl) rfl ?_
        refine Sx.want rfl rfl rfl rfl (Cm.move rfl) rfl ?_
        refine Sx.want rfl rfl rfl rfl (Cm.move rfl) rfl ?_
        refine Sx.want rfl rfl rfl rfl (Cm.indexAddr sl25 rfl rfl hv3.1.non (by omega)) rfl ?_
        refine Sx.want rfl rfl rfl rfl (Cm.field fld35_0 rfl) rfl ?_
        refine Sx.want rfl rfl rfl rfl (Cm.load sca29 rfl (fun H hH => hH.1.rowZ i rfl hp 0 _ rfl)) rfl ?_
        refine Sx.want rfl rfl rfl rfl (Cm.move rfl) rfl ?_
        refine Sx.want rfl rfl rfl rfl (Cm.move rfl) rfl ?_
        refine Sx.want rfl rfl rfl rfl (Cm.sub64 rfl rfl (by omega)) rfl ?_
        refine Sx.want rfl rfl rfl rfl (Cm.indexAddr sl25 rfl rfl hvy3.non (by omega)) rfl ?_
        refine Sx.want rfl rfl rfl rfl (Cm.field fld35_0 rfl) rfl ?_
        refine Sx.want rfl rfl rfl rfl (Cm.load sca29 rfl (fun H hH => hH.2.rowZ (k - 1) (by omega) hq 0 _ rfl)) rfl ?_
        have hpn := (hv3.2 p hpm).1
        have hqn := (hv3.2 q hqm).1
        refine Sx.eff rfl rfl (Sl.callWant rfl rfl fn39 rfl ((by show Calls _ _ [Value.slice p.1.names.a p.1.names.n p.1.names.c, Value.slice q.1.names.a q.1.names.n q.1.names.c].toArray _ _; rw [hpn.1, hqn.1]; exact rless_ok _ _ _ _ p.2.names q.2.names _ hpn.2.1 hqn.2.1)) rfl ?_)
        rintro _ w4 ⟨rfl, hf4⟩
        rw [show lessN p.2.names q.2.names = decide (lessN p.2.names q.2.names = true) by simp]
        have hF4 : Foot nob w2 w4 := (hF3.draws 1).trans hf4
        refine Sx.on (by exact ⟨hv2.1.keep' hF4 (fun _ _ _ => id), hvy2.keep' hF4 (fun _ _ _ => id)⟩) ?_
        by_cases h30 : lessN p.2.names q.2.names = true
        ·
          rw [decide_eq_true h30]
          refine Sx.calm rfl rfl (Cm.pick_t rfl rfl) rfl ?_
          refine Sx.nil ?_
          refine At.weak [(0, _), (3, _), (4, _), (5, _), (31, _)] ⟨rfl, rfl, rfl, rfl, rfl, trivial⟩ ?_
          refine At.go ?_
          refine Sc.cond_t rfl ?_
          refine Sc.skip ?_
          refine At.go ?_
          refine Sc.block ?_
          refine Sc.region ?_
          refine Sl.calm (Cm.move rfl) rfl ?_
          refine Sl.calm (Cm.sub64 rfl rfl (by omega)) rfl ?_
          refine Sl.calm (Cm.assign rfl) rfl ?_
          refine Sl.nil ?_
          refine At.block_normal ?_
          refine At.again (k - 1) ⟨rfl, rfl, rfl, congrArg (fun z : Int => some (Value.int .i64 z)) (by omega), trivial⟩ ⟨by omega, fun j r hj hr => ?_, hF4⟩ (by show k - 1 < k; omega)
          by_cases e : j = k - 1
          · subst e; rw [hq] at hr; cases hr; exact h30
          · exact hbe j r (by omega) hr
        ·
          rw [decide_eq_false h30]
          have hstop : ∀ q : NdH × Nd, 0 < k → ys[k - 1]? = some q → lessN p.2.names q.2.names = false := fun q2 _ h2 => by rw [hq] at h2; cases h2; simpa using h30
          refine Sx.calm rfl rfl (Cm.pick_t rfl rfl) rfl ?_
          refine Sx.nil ?_
          refine At.weak [(0, _), (3, _), (4, _), (5, _), (31, _)] ⟨rfl, rfl, rfl, rfl, rfl, trivial⟩ ?_
          refine At.go ?_
          refine Sc.cond_f rfl ?_
          refine Sc.exit ?_
          refine At.then_exit ?_
          refine At.then_exit ?_
          refine At.block_hit ?_
          first
            | exact At.cut k ⟨rfl, rfl, rfl, rfl, trivial⟩ ⟨hkl, hbe, hstop, hF4⟩
            | exact At.cut k ⟨rfl, rfl, rfl, rfl, trivial⟩ ⟨hkl, hbe, hstop, hF3.draws 1⟩
      ·
        have hstop : ∀ q : NdH × Nd, 0 < k → ys[k - 1]? = some q → lessN p.2.names q.2.names = false := fun q h => by omega
        refine Sx.calm rfl rfl (Cm.move rfl) rfl ?_
        refine Sx.skip rfl rfl rfl rfl rfl rfl ?_
        refine Sx.skip rfl rfl rfl rfl rfl rfl ?_
        refine Sx.skip rfl rfl rfl rfl rfl rfl ?_
        refine Sx.skip rfl rfl rfl rfl rfl rfl ?_
        refine Sx.skip rfl rfl rfl rfl rfl rfl ?_
        refine Sx.skip rfl rfl rfl rfl rfl rfl ?_
        refine Sx.skip rfl rfl rfl rfl rfl rfl ?_
        refine Sx.skip rfl rfl rfl rfl rfl rfl ?_
        refine Sx.skip rfl rfl rfl rfl rfl rfl ?_
        refine Sx.skip rfl rfl rfl rfl rfl rfl ?_
        refine Sx.skip rfl rfl rfl rfl rfl rfl ?_
        refine Sx.eff rfl rfl (Sl.skip rfl rfl rfl rfl ?_)
        refine Sx.on (by exact ⟨hv3.1, hvy3⟩) ?_
        refine Sx.calm rfl rfl (Cm.pick_f rfl rfl) rfl ?_
        refine Sx.nil ?_
        refine At.weak [(0, _), (3, _), (4, _), (5, _), (31, _)] ⟨rfl, rfl, rfl, rfl, rfl, trivial⟩ ?_
        refine At.go ?_
        refine Sc.cond_f rfl ?_
        refine Sc.exit ?_
        refine At.then_exit ?_
        refine At.then_exit ?_
        refine At.block_hit ?_
        first
          | exact At.cut k ⟨rfl, rfl, rfl, rfl, trivial⟩ ⟨hkl, hbe, hstop, hF4⟩
          | exact At.cut k ⟨rfl, rfl, rfl, rfl, trivial⟩ ⟨hkl, hbe, hstop, hF3.draws 1⟩
    ·
      rintro k w4 ⟨hkl, hbe, hstop, hF4⟩
      refine Sc.seq ?_
      refine Sc.region ?_
      refine Sl.lit0M encN_cells sl25 rfl ?_
      intro w5 ho5 hs5 hf5
      have hoy5 := (ho2.grow hF4).grow hf5
      have hvy5 := hoy5.vw encN_cells
      obtain ⟨g5, hg5⟩ : ∃ g5, g5 = w4.heap.size := ⟨_, rfl⟩
      rw [← hg5] at ho5 ⊢
      have hy5 : ∀ a, o = some a → a.block < g5 := fun a ha => by rw [hg5]; exact (ho2.grow hF4).lt a ha
      have hle := hvy5.le
      refine Sl.calm (Cm.move rfl) rfl ?_
      refine Sl.calm (Cm.move rfl) rfl ?_
      refine Sl.calm (Cm.ofEq (u := .slice (cutAo o c k 10) (ys.drop k).length (c - k)) (Cm.sliceL sl25 rfl rfl (by omega)) (by rw [List.length_drop]; rfl)) rfl ?_
      refine Sl.appendM encN_cells rfl sl25 rfl rfl ho5 (hvy5.dropK hkl) (by simp only [List.length_nil, List.length_drop]; omega) (by simp only [List.length_nil, List.length_drop]; unfold maxLen; omega) rfl ?_
      intro o6 c6 w6 ho6 hf6 hr6 hn6
      rw [List.nil_append] at ho6 ⊢
      have hF6 : Foot nob w2 w6 := (hF4.trans hf5).trans_to hf6 (fun j ⟨a, ha, e⟩ => .inr (by cases ha; have e : g5 = j := e; have := hF4.size; omega))
      have hoy6 := hoy5.keep hf6 (fun a ha ⟨b, hb, e⟩ => by cases hb; have e : g5 = a.block := e; have := hy5 a ha; omega)
      refine Sl.calm (Cm.assign rfl) rfl ?_
      refine Sl.nil ?_
      refine At.weak [(0, _), (3, _), (4, _), (5, _), (6, _)] ⟨rfl, rfl, rfl, rfl, rfl, trivial⟩ ?_
      refine At.go ?_
      refine Sc.drawT (fun H => VwM 10 encN H lo lc ps) [0, 4, 9, 10, 12] [1, 2, 3, 5, 6, 7, 8, 11] (.alt 0 [] (.alt 4 [] (.alt 9 [] (.alt 10 [] (.alt 12 [13] .fin .stop) .stop) .stop) (.alt 9 [] (.alt 4 [] (.alt 10 [] (.alt 12 [13] .fin .stop) .stop) .stop) .stop)) (.alt 9 [] (.alt 0 [] (.alt 4 [] (.alt 10 [] (.alt 12 [13] .fin .stop) .stop) .stop) .stop) .stop)) mixed (by kernel_rfl) (hv2.1.keep' hF6 (fun _ _ _ => id)) ?_
      have hG0 : Foot nob w2 (w6.drewN 1) := hF6.draws 1
      have hoy0 : OwnM 10 encN 35 (w6.drewN 1).heap o c ys := hoy6
      have hor0 : OwnM 10 encN 35 (w6.drewN 1).heap o6 c6 (ys.drop k) := ho6
      generalize w6.drewN 1 = v0 at hG0 hoy0 hor0 ⊢
      refine Sy.calm rfl rfl (Cm.move rfl) rfl ?_
      refine Sy.calm rfl rfl (Cm.move rfl) rfl ?_
      refine Sy.calm rfl rfl (Cm.ofEq (u := .slice o (ys.take k).length c) (Cm.sliceH sl25 rfl rfl (by omega)) (by rw [cutAo_zero, List.length_take, Nat.min_eq_left (by omega)]; rfl)) rfl ?_
      refine Sy.calm rfl rfl (Cm.move rfl) rfl ?_
      refine Sy.calm rfl rfl (Cm.move rfl) rfl ?_
      refine Sy.calm rfl rfl (Cm.indexAddr sl25 rfl rfl hv2.1.non (by omega)) rfl ?_
      refine Sy.calm rfl rfl (Cm.loadM (cs := encN p) agg35 rfl (fun H hH j v hj => hH.rowZ i rfl hp j v hj)) rfl ?_
      refine Sy.calm rfl rfl (Cm.move rfl) rfl ?_
      refine Sy.alt ?_ ?_
      ·
        refine Sy.eff rfl rfl (Sl.lit0M encN_cells sl25 rfl ?_)
        intro v1 hoa1 hsa hfa
        have hG1 := hG0.trans hfa
        have hoy1 := hoy0.grow hfa
        have hor1 := hor0.grow hfa
        obtain ⟨ga, hga⟩ : ∃ ga, ga = v0.heap.size := ⟨_, rfl⟩
        rw [← hga] at hoa1 ⊢
        have hgs1 : ga < v1.heap.size := hoa1.lt _ rfl
        have hgy : ∀ a, o = some a → a.block < ga := fun a ha => by rw [hga]; exact hoy0.lt a ha
        have hgr : ∀ a, o6 = some a → a.block < ga := fun a ha => by rw [hga]; exact hor0.lt a ha
        have hgW : w2.heap.size ≤ ga := by rw [hga]; exact hG0.size
        refine Sy.on (by exact hv2.1.keep' hG1 (fun _ _ _ => id)) ?_
        refine Sy.alt ?_ ?_
        ·
          refine Sy.eff rfl rfl (Sl.appendM encN_cells rfl sl25 rfl rfl hoa1 ((hoy1.vw encN_cells).take k) (by simp only [List.length_nil, List.length_take]; omega) (by simp only [List.length_nil, List.length_take]; unfold maxLen; omega) rfl ?_)
          intro o43 c43 v2 ho43_2 hf43 hr43 hn43
          rw [List.nil_append] at ho43_2 ⊢
          have hG2 : Foot nob w2 v2 := hG1.trans_to hf43 (fun j ⟨a, ha, e⟩ => .inr (by cases ha; have e : ga = j := e; omega))
          have hoy2 := hoy1.keep hf43 (fun a ha ⟨b, hb, e⟩ => by cases hb; have e : ga = a.block := e; have := hgy a ha; omega)
          have hor2 := hor1.keep hf43 (fun a ha ⟨b, hb, e⟩ => by cases hb; have e : ga = a.block := e; have := hgr a ha; omega)
          have hgs2 : ga < v2.heap.size := Nat.lt_of_lt_of_le hgs1 hf43.size
          have hfr43 : Fr ga o43 := fr_app (o := some ⟨ga, 0, none⟩) (fun a ha => by cases ha; exact Nat.le_refl _) hr43 (by omega)
          refine Sy.on (by exact hv2.1.keep' hG2 (fun _ _ _ => id)) ?_
          refine Sy.alt ?_ ?_
          ·
            refine Sy.eff rfl rfl (Sl.litG sl25 (cs := (encN p).toArray) zc35 rfl rfl rfl (by kernel_rfl) rfl ?_)
            intro v3 hgl hsl hfl
            have hob3 : OwnM 10 encN 35 v3.heap (some ⟨v2.heap.size, 0, none⟩) 1 [p] := ownM_new (xs := [p]) encN_cells (by simpa using hgl) (by show 1 ≤ maxLen; decide)
            obtain ⟨gb, hgbe⟩ : ∃ gb, gb = v2.heap.size := ⟨_, rfl⟩
            rw [← hgbe] at hob3 ⊢
            have hG3 := hG2.trans hfl
            have hoy3 := hoy2.grow hfl
            have hor3 := hor2.grow hfl
            have hgs3 : ga < v3.heap.size := Nat.lt_of_lt_of_le hgs2 hfl.size
            have ho43_3 := ho43_2.grow hfl
            refine Sy.on (by exact hv2.1.keep' hG3 (fun _ _ _ => id)) ?_
            refine Sy.alt ?_ ?_
            ·
              refine Sy.eff rfl rfl (Sl.appendM encN_cells rfl sl25 rfl rfl ho43_3 (hob3.vw encN_cells) (by simp only [List.length_singleton, List.length_take]; omega) (by simp only [List.length_singleton, List.length_take]; unfold maxLen; omega) rfl ?_)
              intro o49 c49 v4 ho49 hf49 hr49 hn49
              have hG4 : Foot nob w2 v4 := hG3.trans_to hf49 (fun j ⟨a, ha, e⟩ => .inr (by have := hfr43 a ha; omega))
              have hor4 := hor3.keep hf49 (fun a ha ⟨b, hb, e⟩ => by have := hfr43 b hb; have := hgr a ha; omega)
              have hgs4 : ga < v4.heap.size := Nat.lt_of_lt_of_le hgs3 hf49.size
              have hfr49 : Fr ga o49 := fr_app hfr43 hr49 (by omega)
              refine Sy.on (by exact hv2.1.keep' hG4 (fun _ _ _ => id)) ?_
              refine Sy.alt ?_ ?_
              ·
                refine Sy.eff rfl rfl (Sl.appendM encN_cells rfl sl25 rfl rfl ho49 (hor4.vw encN_cells) (by simp only [List.length_append, List.length_singleton, List.length_take, List.length_drop]; omega) (by simp only [List.length_append, List.length_singleton, List.length_take, List.length_drop]; unfold maxLen; omega) rfl ?_)
                intro o51 c51 v5 ho51 hf51 hr51 hn51
                rw [List.append_assoc] at ho51 ⊢
                have hG5 : Foot nob w2 v5 := hG4.trans_to hf51 (fun j ⟨a, ha, e⟩ => .inr (by have := hfr49 a ha; omega))
                have hfr51 : Fr ga o51 := fr_app hfr49 hr51 (by omega)
                refine Sy.on (by exact hv2.1.keep' hG5 (fun _ _ _ => id)) ?_
                refine Sy.calm rfl rfl (Cm.assign rfl) rfl ?_
                refine Sy.nil ?_
                refine At.block_normal ?_
                refine At.weak [(0, _), (3, _), (4, _), (5, _), (6, _)] ⟨rfl, rfl, rfl, rfl, rfl, trivial⟩ ?_
                refine At.go ?_
                refine Sc.region ?_
                refine Sl.calm (Cm.move rfl) rfl ?_
                refine Sl.calm (Cm.add64 rfl rfl (by omega)) rfl ?_
                refine Sl.calm (Cm.assign rfl) rfl ?_
                refine Sl.nil ?_
                exact At.again ⟨i + 1, o51, c51, ys.take k ++ p :: ys.drop k⟩ ⟨rfl, rfl, rfl, trivial⟩ ⟨by omega, ho51, fun a ha => by have := hfr51 a ha; have := hF2.size; omega, by rw [tkL hp]; exact ins_perm hpe, ins_ord hor hkl hbe hstop, hF2.trans hG5⟩ (by show ps.length - (i + 1) < ps.length - i; omega)
              exact Sy.stop
            exact Sy.stop
          exact Sy.stop
        refine Sy.alt ?_ ?_
        ·
          refine Sy.eff rfl rfl (Sl.litG sl25 (cs := (encN p).toArray) zc35 rfl rfl rfl (by kernel_rfl) rfl ?_)
          intro v2 hgl hsl hfl
          have hob2 : OwnM 10 encN 35 v2.heap (some ⟨v1.heap.size, 0, none⟩) 1 [p] := ownM_new (xs := [p]) encN_cells (by simpa using hgl) (by show 1 ≤ maxLen; decide)
          obtain ⟨gb, hgbe⟩ : ∃ gb, gb = v1.heap.size := ⟨_, rfl⟩
          rw [← hgbe] at hob2 ⊢
          have hG2 := hG1.trans hfl
          have hoy2 := hoy1.grow hfl
          have hor2 := hor1.grow hfl
          have hgs2 : ga < v2.heap.size := Nat.lt_of_lt_of_le hgs1 hfl.size
          have hoa2 := hoa1.grow hfl
          have hgb : ga < gb := by rw [hgbe]; exact hoa1.lt _ rfl
          refine Sy.on (by exact hv2.1.keep' hG2 (fun _ _ _ => id)) ?_
          refine Sy.alt ?_ ?_
          ·
            refine Sy.eff rfl rfl (Sl.appendM encN_cells rfl sl25 rfl rfl hoa2 ((hoy2.vw encN_cells).take k) (by simp only [List.length_nil, List.length_take]; omega) (by simp only [List.length_nil, List.length_take]; unfold maxLen; omega) rfl ?_)
            intro o43 c43 v3 ho43_3 hf43 hr43 hn43
            rw [List.nil_append] at ho43_3 ⊢
            have hG3 : Foot nob w2 v3 := hG2.trans_to hf43 (fun j ⟨a, ha, e⟩ => .inr (by cases ha; have e : ga = j := e; omega))
            have hoy3 := hoy2.keep hf43 (fun a ha ⟨b, hb, e⟩ => by cases hb; have e : ga = a.block := e; have := hgy a ha; omega)
            have hor3 := hor2.keep hf43 (fun a ha ⟨b, hb, e⟩ => by cases hb; have e : ga = a.block := e; have := hgr a ha; omega)
            have hgs3 : ga < v3.heap.size := Nat.lt_of_lt_of_le hgs2 hf43.size
            have hfr43 : Fr ga o43 := fr_app (o := some ⟨ga, 0, none⟩) (fun a ha => by cases ha; exact Nat.le_refl _) hr43 (by omega)
            have hob3 := hob2.keep hf43 (fun a ha ⟨b, hb, e⟩ => by cases hb; cases ha; have e : ga = gb := e; omega)
            refine Sy.on (by exact hv2.1.keep' hG3 (fun _ _ _ => id)) ?_
            refine Sy.alt ?_ ?_
            ·
              refine Sy.eff rfl rfl (Sl.appendM encN_cells rfl sl25 rfl rfl ho43_3 (hob3.vw encN_cells) (by simp only [List.length_singleton, List.length_take]; omega) (by simp only [List.length_singleton, List.length_take]; unfold maxLen; omega) rfl ?_)
              intro o49 c49 v4 ho49 hf49 hr49 hn49
              have hG4 : Foot nob w2 v4 := hG3.trans_to hf49 (fun j ⟨a, ha, e⟩ => .inr (by have := hfr43 a ha; omega))
              have hor4 := hor3.keep hf49 (fun a ha ⟨b, hb, e⟩ => by have := hfr43 b hb; have := hgr a ha; omega)
              have hgs4 : ga < v4.heap.size := Nat.lt_of_lt_of_le hgs3 hf49.size
              have hfr49 : Fr ga o49 := fr_app hfr43 hr49 (by omega)
              refine Sy.on (by exact hv2.1.keep' hG4 (fun _ _ _ => id)) ?_
              refine Sy.alt ?_ ?_
              ·
                refine Sy.eff rfl rfl (Sl.appendM encN_cells rfl sl25 rfl rfl ho49 (hor4.vw encN_cells) (by simp only [List.length_append, List.length_singleton, List.length_take, List.length_drop]; omega) (by simp only [List.length_append, List.length_singleton, List.length_take, List.length_drop]; unfold maxLen; omega) rfl ?_)
                intro o51 c51 v5 ho51 hf51 hr51 hn51
                rw [List.append_assoc] at ho51 ⊢
                have hG5 : Foot nob w2 v5 := hG4.trans_to hf51 (fun j ⟨a, ha, e⟩ => .inr (by have := hfr49 a ha; omega))
                have hfr51 : Fr ga o51 := fr_app hfr49 hr51 (by omega)
                refine Sy.on (by exact hv2.1.keep' hG5 (fun _ _ _ => id)) ?_
                refine Sy.calm rfl rfl (Cm.assign rfl) rfl ?_
                refine Sy.nil ?_
                refine At.block_normal ?_
                refine At.weak [(0, _), (3, _), (4, _), (5, _), (6, _)] ⟨rfl, rfl, rfl, rfl, rfl, trivial⟩ ?_
                refine At.go ?_
                refine Sc.region ?_
                refine Sl.calm (Cm.move rfl) rfl ?_
                refine Sl.calm (Cm.add64 rfl rfl (by omega)) rfl ?_
                refine Sl.calm (Cm.assign rfl) rfl ?_
                refine Sl.nil ?_
                exact At.again ⟨i + 1, o51, c51, ys.take k ++ p :: ys.drop k⟩ ⟨rfl, rfl, rfl, trivial⟩ ⟨by omega, ho51, fun a ha => by have := hfr51 a ha; have := hF2.size; omega, by rw [tkL hp]; exact ins_perm hpe, ins_ord hor hkl hbe hstop, hF2.trans hG5⟩ (by show ps.length - (i + 1) < ps.length - i; omega)
              exact Sy.stop
            exact Sy.stop
          exact Sy.stop
        exact Sy.stop
      refine Sy.alt ?_ ?_
      ·
        refine Sy.eff rfl rfl (Sl.litG sl25 (cs := (encN p).toArray) zc35 rfl rfl rfl (by kernel_rfl) rfl ?_)
        intro v1 hgl hsl hfl
        have hob1 : OwnM 10 encN 35 v1.heap (some ⟨v0.heap.size, 0, none⟩) 1 [p] := ownM_new (xs := [p]) encN_cells (by simpa using hgl) (by show 1 ≤ maxLen; decide)
        obtain ⟨gb, hgbe⟩ : ∃ gb, gb = v0.heap.size := ⟨_, rfl⟩
        rw [← hgbe] at hob1 ⊢
        have hG1 := hG0.trans hfl
        have hoy1 := hoy0.grow hfl
        have hor1 := hor0.grow hfl
        refine Sy.on (by exact hv2.1.keep' hG1 (fun _ _ _ => id)) ?_
        refine Sy.alt ?_ ?_
        ·
          refine Sy.eff rfl rfl (Sl.lit0M encN_cells sl25 rfl ?_)
          intro v2 hoa2 hsa hfa
          have hG2 := hG1.trans hfa
          have hoy2 := hoy1.grow hfa
          have hor2 := hor1.grow hfa
          obtain ⟨ga, hga⟩ : ∃ ga, ga = v1.heap.size := ⟨_, rfl⟩
          rw [← hga] at hoa2 ⊢
          have hgs2 : ga < v2.heap.size := hoa2.lt _ rfl
          have hgy : ∀ a, o = some a → a.block < ga := fun a ha => by rw [hga]; exact hoy1.lt a ha
          have hgr : ∀ a, o6 = some a → a.block < ga := fun a ha => by rw [hga]; exact hor1.lt a ha
          have hgW : w2.heap.size ≤ ga := by rw [hga]; exact hG1.size
          have hob2 := hob1.grow hfa
          have hgb : gb < ga := by rw [hga]; exact hob1.lt _ rfl
          refine Sy.on (by exact hv2.1.keep' hG2 (fun _ _ _ => id)) ?_
          refine Sy.alt ?_ ?_
          ·
            refine Sy.eff rfl rfl (Sl.appendM encN_cells rfl sl25 rfl rfl hoa2 ((hoy2.vw encN_cells).take k) (by simp only [List.length_nil, List.length_take]; omega) (by simp only [List.length_nil, List.length_take]; unfold maxLen; omega) rfl ?_)
            intro o43 c43 v3 ho43_3 hf43 hr43 hn43
            rw [List.nil_append] at ho43_3 ⊢
            have hG3 : Foot nob w2 v3 := hG2.trans_to hf43 (fun j ⟨a, ha, e⟩ => .inr (by cases ha; have e : ga = j := e; omega))
            have hoy3 := hoy2.keep hf43 (fun a ha ⟨b, hb, e⟩ => by cases hb; have e : ga = a.block := e; have := hgy a ha; omega)
            have hor3 := hor2.keep hf43 (fun a ha ⟨b, hb, e⟩ => by cases hb; have e : ga = a.block := e; have := hgr a ha; omega)
            have hgs3 : ga < v3.heap.size := Nat.lt_of_lt_of_le hgs2 hf43.size
            have hfr43 : Fr ga o43 := fr_app (o := some ⟨ga, 0, none⟩) (fun a ha => by cases ha; exact Nat.le_refl _) hr43 (by omega)
            have hob3 := hob2.keep hf43 (fun a ha ⟨b, hb, e⟩ => by cases hb; cases ha; have e : ga = gb := e; omega)
            refine Sy.on (by exact hv2.1.keep' hG3 (fun _ _ _ => id)) ?_
            refine Sy.alt ?_ ?_
            ·
              refine Sy.eff rfl rfl (Sl.appendM encN_cells rfl sl25 rfl rfl ho43_3 (hob3.vw encN_cells) (by simp only [List.length_singleton, List.length_take]; omega) (by simp only [List.length_singleton, List.length_take]; unfold maxLen; omega) rfl ?_)
              intro o49 c49 v4 ho49 hf49 hr49 hn49
              have hG4 : Foot nob w2 v4 := hG3.trans_to hf49 (fun j ⟨a, ha, e⟩ => .inr (by have := hfr43 a ha; omega))
              have hor4 := hor3.keep hf49 (fun a ha ⟨b, hb, e⟩ => by have := hfr43 b hb; have := hgr a ha; omega)
              have hgs4 : ga < v4.heap.size := Nat.lt_of_lt_of_le hgs3 hf49.size
              have hfr49 : Fr ga o49 := fr_app hfr43 hr49 (by omega)
              refine Sy.on (by exact hv2.1.keep' hG4 (fun _ _ _ => id)) ?_
              refine Sy.alt ?_ ?_
              ·
                refine Sy.eff rfl rfl (Sl.appendM encN_cells rfl sl25 rfl rfl ho49 (hor4.vw encN_cells) (by simp only [List.length_append, List.length_singleton, List.length_take, List.length_drop]; omega) (by simp only [List.length_append, List.length_singleton, List.length_take, List.length_drop]; unfold maxLen; omega) rfl ?_)
                intro o51 c51 v5 ho51 hf51 hr51 hn51
                rw [List.append_assoc] at ho51 ⊢
                have hG5 : Foot nob w2 v5 := hG4.trans_to hf51 (fun j ⟨a, ha, e⟩ => .inr (by have := hfr49 a ha; omega))
                have hfr51 : Fr ga o51 := fr_app hfr49 hr51 (by omega)
                refine Sy.on (by exact hv2.1.keep' hG5 (fun _ _ _ => id)) ?_
                refine Sy.calm rfl rfl (Cm.assign rfl) rfl ?_
                refine Sy.nil ?_
                refine At.block_normal ?_
                refine At.weak [(0, _), (3, _), (4, _), (5, _), (6, _)] ⟨rfl, rfl, rfl, rfl, rfl, trivial⟩ ?_
                refine At.go ?_
                refine Sc.region ?_
                refine Sl.calm (Cm.move rfl) rfl ?_
                refine Sl.calm (Cm.add64 rfl rfl (by omega)) rfl ?_
                refine Sl.calm (Cm.assign rfl) rfl ?_
                refine Sl.nil ?_
                exact At.again ⟨i + 1, o51, c51, ys.take k ++ p :: ys.drop k⟩ ⟨rfl, rfl, rfl, trivial⟩ ⟨by omega, ho51, fun a ha => by have := hfr51 a ha; have := hF2.size; omega, by rw [tkL hp]; exact ins_perm hpe, ins_ord hor hkl hbe hstop, hF2.trans hG5⟩ (by show ps.length - (i + 1) < ps.length - i; omega)
              exact Sy.stop
            exact Sy.stop
          exact Sy.stop
        exact Sy.stop
      exact Sy.stop
  ·
    have hie : i = ps.length := by omega
    subst hie
    rw [List.take_length] at hpe
    refine Sl.nil ?_
    refine At.weak [(0, _), (3, _), (4, _), (11, _)] ⟨rfl, rfl, rfl, rfl, trivial⟩ ?_
    refine At.go ?_
    refine Sc.cond_f rfl ?_
    refine Sc.exit ?_
    refine At.then_exit ?_
    refine At.then_exit ?_
    refine At.block_hit ?_
    refine At.go ?_
    refine Sc.seq ?_
    refine Sc.region ?_
    refine Sl.calm (Cm.move rfl) rfl ?_
    refine Sl.calm (Cm.assign rfl) rfl ?_
    refine Sl.nil ?_
    refine At.weak [(0, _), (2, _), (3, _), (4, _), (11, _)] ⟨rfl, rfl, rfl, rfl, rfl, trivial⟩ ?_
    refine At.go ?_
    refine Sc.ret ?_
    refine At.ret1 rfl rfl ?_
    exact ⟨_, rfl, o, c, ys, rfl, ho2, hfo, hpe, hor, hF2⟩
end Go.Proofs.Ytpamandneifemaa
/- tree: the reference's Numbered and Canon. No condition beyond the bounds that each states. -/
namespace Go.Proofs.Ytpamandneifemaa
open Go Go.RowKit Go.Maps
set_option linter.unusedVariables false

/-! numbers as they come first -/
def addS (s : List Int) (z : Int) : List Int := if z ∈ s then s else s ++ [z]
def seenOf (zs : List Int) : List Int := zs.foldl addS []
def numZ (zs : List Int) (z : Int) : Int := ((seenOf zs).idxOf z : Nat) + 1
theorem addS_mem {s : List Int} {z x : Int} : x ∈ addS s z ↔ x ∈ s ∨ x = z := by
  unfold addS
  split
  · rename_i h; exact ⟨.inl, fun g => g.elim id (fun e => e ▸ h)⟩
  · simp
theorem fold_mem : ∀ (zs s : List Int) (x : Int), x ∈ zs.foldl addS s ↔ x ∈ s ∨ x ∈ zs
  | [], s, x => by simp
  | z :: zs, s, x => by
    rw [List.foldl_cons, fold_mem zs, addS_mem, List.mem_cons]
    exact or_assoc
theorem seen_mem {zs : List Int} {x : Int} : x ∈ seenOf zs ↔ x ∈ zs := by unfold seenOf; rw [fold_mem]; simp
theorem fold_ext : ∀ (zs s : List Int), ∃ r, zs.foldl addS s = s ++ r
  | [], s => ⟨[], by simp⟩
  | z :: zs, s => by
    obtain ⟨r, h⟩ := fold_ext zs (addS s z)
    rw [List.foldl_cons, h]
    unfold addS
    split
    · exact ⟨r, rfl⟩
    · exact ⟨z :: r, by simp⟩
theorem seen_app (a b : List Int) : ∃ r, seenOf (a ++ b) = seenOf a ++ r := by
  unfold seenOf; rw [List.foldl_append]; exact fold_ext _ _
theorem seen_snoc (a : List Int) (z : Int) : seenOf (a ++ [z]) = addS (seenOf a) z := by unfold seenOf; rw [List.foldl_append]; rfl
theorem numZ_new {a b : List Int} {z : Int} (h : z ∉ a) : numZ (a ++ z :: b) z = ((seenOf a).length : Nat) + 1 := by
  obtain ⟨r, hr⟩ := seen_app (a ++ [z]) b
  have e : a ++ z :: b = (a ++ [z]) ++ b := by simp
  have hs : z ∉ seenOf a := fun g => h (seen_mem.1 g)
  unfold numZ
  rw [e, hr, seen_snoc]
  unfold addS
  rw [if_neg hs, List.append_assoc, List.idxOf_append, if_neg hs]
  show ((List.idxOf z (z :: r) + (seenOf a).length : Nat) : Int) + 1 = _
  rw [List.idxOf_cons_self, Nat.zero_add]
theorem seen_len_new {a : List Int} {z : Int} (h : z ∉ a) : (seenOf (a ++ [z])).length = (seenOf a).length + 1 := by
  rw [seen_snoc]; unfold addS; rw [if_neg (fun g => h (seen_mem.1 g))]; simp
theorem seen_len_old {a : List Int} {z : Int} (h : z ∈ a) : (seenOf (a ++ [z])).length = (seenOf a).length := by
  rw [seen_snoc]; unfold addS; rw [if_pos (seen_mem.2 h)]
theorem addS_le (s : List Int) (z : Int) : (addS s z).length ≤ s.length + 1 := by unfold addS; split <;> simp
theorem seen_le (zs : List Int) : (seenOf zs).length ≤ zs.length := by
  have : ∀ (zs s : List Int), (zs.foldl addS s).length ≤ s.length + zs.length := fun zs => by
    induction zs with
    | nil => intro s; simp
    | cons z zs ih => intro s; rw [List.foldl_cons, List.length_cons]; have := ih (addS s z); have := addS_le s z; omega
  have := this zs []
  simpa [seenOf] using this
def inosOf (ps : List (NdH × Nd)) : List Int := ps.map (·.2.ino)
def renP (zs : List Int) (p : NdH × Nd) : NdH × Nd := (p.1, { p.2 with ino := numZ zs p.2.ino })
def numP (ps : List (NdH × Nd)) : List (NdH × Nd) := ps.map (renP (inosOf ps))
theorem inos_split {ps : List (NdH × Nd)} {i : Nat} {p : NdH × Nd} (hp : ps[i]? = some p) : inosOf ps = inosOf (ps.take i) ++ p.2.ino :: inosOf (ps.drop (i + 1)) := by
  conv => lhs; rw [← List.take_append_drop i ps, drop_at hp]
  simp [inosOf]
theorem inos_tk {ps : List (NdH × Nd)} {i : Nat} {p : NdH × Nd} (hp : ps[i]? = some p) : inosOf (ps.take (i + 1)) = inosOf (ps.take i) ++ [p.2.ino] := by rw [tkL hp]; simp [inosOf]
theorem ino_mem {ps : List (NdH × Nd)} {i : Nat} {z : Int} : z ∈ inosOf (ps.take i) ↔ ∃ (k : Nat) (q : NdH × Nd), k < i ∧ ps[k]? = some q ∧ q.2.ino = z := by
  unfold inosOf
  constructor
  · intro h
    obtain ⟨q, hq, e⟩ := List.mem_map.1 h
    obtain ⟨k, hk⟩ := List.getElem?_of_mem hq
    rw [List.getElem?_take] at hk
    split at hk
    · exact ⟨k, q, by assumption, hk, e⟩
    · cases hk
  · rintro ⟨k, q, hk, hq, e⟩
    exact List.mem_map.2 ⟨q, List.mem_of_getElem? (i := k) (by rw [List.getElem?_take, if_pos hk]; exact hq), e⟩
theorem renTk {zs : List Int} {ps : List (NdH × Nd)} {i : Nat} {p : NdH × Nd} (hp : ps[i]? = some p) : (ps.take (i + 1)).map (renP zs) = (ps.take i).map (renP zs) ++ [renP zs p] := by rw [tkL hp]; simp
theorem numZ_pos (zs : List Int) (z : Int) : 1 ≤ numZ zs z := by unfold numZ; omega
variable {D : Nat → Prop}
set_option maxHeartbeats 4000000 in
theorem rnum_ok (lo : Option Addr) (lc : Nat) (ps : List (NdH × Nd)) (W : World) (hv : VwM 10 encN W.heap lo lc ps) (h1000 : ps.length ≤ 1024) :
    Calls Try.prog 15 [.slice lo ps.length lc].toArray W (Ret fun v w' => ∃ o c, v = .slice o (numP ps).length c ∧ OwnM 10 encN 35 w'.heap o c (numP ps) ∧ Fr W.heap.size o ∧ Foot nob W w') := by
  have h63 := hv.len63
  obtain ⟨Z, hZ⟩ : ∃ Z, Z = inosOf ps := ⟨_, rfl⟩
  refine calls_of_sc 54 [(0, _)] Try.func15 rfl rfl rfl (enter_slots ⟨rfl, trivial⟩) ?_
  refine Sc.seq ?_
  refine Sc.region ?_
  refine Sl.calm (Cm.assign rfl) rfl ?_
  refine Sl.nil ?_
  refine At.go ?_
  refine Sc.seq ?_
  refine Sc.region ?_
  refine Sl.lit0M encN_cells sl25 rfl ?_
  intro w1 ho1 hs1 hf1
  refine Sl.calm (Cm.assign rfl) rfl ?_
  refine Sl.nil ?_
  refine At.weak [(0, _), (2, _), (3, _)] ⟨rfl, rfl, rfl, trivial⟩ ?_
  refine At.go ?_
  refine Sc.seq ?_
  refine Sc.region ?_
  refine Sl.calm (Cm.assign rfl) rfl ?_
  refine Sl.nil ?_
  refine At.go ?_
  refine Sc.seq ?_
  refine Sc.seq ?_
  refine Sc.region ?_
  refine Sl.calm (Cm.assign rfl) rfl ?_
  refine Sl.nil ?_
  refine At.go ?_
  refine Sc.block ?_
  refine Sc.loop (β := Nat × Option Addr × Nat) (fun ⟨i, o, c⟩ => [(0, .slice lo ps.length lc), (3, .slice o ((ps.take i).map (renP Z)).length c), (4, .int .i64 (((seenOf (inosOf (ps.take i))).length : Nat) + 1)), (5, .int .i64 i)]) (fun ⟨i, o, c⟩ w => i ≤ ps.length ∧ OwnM 10 encN 35 w.heap o c ((ps.take i).map (renP Z)) ∧ Fr W.heap.size o ∧ Foot nob W w) (fun ⟨i, o, c⟩ => ps.length - i) ⟨0, some ⟨W.heap.size, 0, none⟩, 0⟩ ⟨rfl, rfl, rfl, rfl, trivial⟩ ⟨Nat.zero_le _, ho1, fun a ha => by cases ha; exact Nat.le_refl _, hf1⟩ ?_
  rintro ⟨i, o, c⟩ w2 ⟨hi, ho2, hfo, hF2⟩
  refine Sc.seq ?_
  refine Sc.seq ?_
  refine Sc.region ?_
  refine Sl.calm (Cm.move rfl) rfl ?_
  refine Sl.calm (Cm.move rfl) rfl ?_
  refine Sl.calm (Cm.len sl25 rfl) rfl ?_
  refine Sl.fork (Cm.lss rfl rfl) rfl (fun h12 => ?_) (fun h12 => ?_)
  ·
    have hil : i < ps.length := by omega
    obtain ⟨p, hp⟩ : ∃ p, ps[i]? = some p := ⟨_, List.getElem?_eq_getElem hil⟩
    have hv2 := hv.keep' hF2 (fun _ _ _ => id)
    have hsl := seen_le (inosOf (ps.take i))
    have hil2 : (inosOf (ps.take i)).length = i := by simp [inosOf]; omega
    refine Sl.nil ?_
    refine At.weak [(0, _), (3, _), (4, _), (5, _), (12, _)] ⟨rfl, rfl, rfl, rfl, rfl, trivial⟩ ?_
    refine At.go ?_
    refine Sc.cond_t rfl ?_
    refine Sc.skip ?_
    refine At.go ?_
    refine Sc.seq ?_
    refine Sc.block ?_
    refine Sc.seq ?_
    refine Sc.region ?_
    refine Sl.calm (Cm.move rfl) rfl ?_
    refine Sl.calm (Cm.move rfl) rfl ?_
    refine Sl.calm (Cm.indexAddr sl25 rfl rfl hv2.non (by omega)) rfl ?_
    refine Sl.calm (Cm.ldM (cs := encN p) agg35 rfl (fun j v hj => hv2.rowZ i rfl hp j v hj)) rfl ?_
    refine Sl.allocC zc35 rfl ?_
    intro w3 hg3 hs3 hf3
    obtain ⟨q, hq⟩ : ∃ q, q = w2.heap.size := ⟨_, rfl⟩
    rw [← hq] at hg3 ⊢
    have hoq : ∀ a, o = some a → ¬ a.block = q := fun a ha => by have := ho2.lt a ha; omega
    refine Sl.storeAll (vs := encN p) agg35 rfl rfl (encN_cells p).2 hg3 rfl ?_
    intro w4 hg4 hs4 hf4
    have hf24 : Foot nob w2 w4 := hf3.trans_to hf4 (fun k e => .inr (by have e : k = q := e; omega))
    refine Sl.nil ?_
    refine At.weak [(0, _), (3, _), (4, _), (5, _), (6, _), (12, _)] ⟨rfl, rfl, rfl, rfl, rfl, rfl, trivial⟩ ?_
    refine At.go ?_
    refine Sc.seq ?_
    refine Sc.region ?_
    refine Sl.calm (Cm.field fld35_1 rfl) rfl ?_
    refine Sl.store sca3 rfl rfl rfl hg4 rfl ?_
    intro w5 hg5 hs5 hf5
    have hf25 : Foot nob w2 w5 := hf24.trans_to hf5 (fun k e => .inr (by have e : k = q := e; omega))
    refine Sl.nil ?_
    refine At.weak [(0, _), (3, _), (4, _), (5, _), (6, _), (12, _)] ⟨rfl, rfl, rfl, rfl, rfl, rfl, trivial⟩ ?_
    refine At.go ?_
    refine Sc.seq ?_
    refine Sc.seq ?_
    refine Sc.region ?_
    refine Sl.calm (Cm.assign rfl) rfl ?_
    refine Sl.nil ?_
    refine At.go ?_
    refine Sc.block ?_
    refine Sc.loop (β := Nat × Int) (fun ⟨k, z⟩ => [(0, .slice lo ps.length lc), (3, .slice o ((ps.take i).map (renP Z)).length c), (4, .int .i64 (((seenOf (inosOf (ps.take i))).length : Nat) + 1)), (5, .int .i64 i), (6, .pointer (some ⟨q, 0, none⟩)), (7, .int .i64 k)]) (fun ⟨k, z⟩ w => k ≤ i ∧ w.heap[q]? = some (.cells (encN (p.1, { p.2 with ino := z })).toArray 35 (0, 0)) ∧ ((p.2.ino ∉ inosOf (ps.take k) → z = 0) ∧ (p.2.ino ∈ inosOf (ps.take k) → z = numZ Z p.2.ino)) ∧ Foot nob w2 w) (fun ⟨k, z⟩ => i - k) ⟨0, 0⟩ ⟨rfl, rfl, rfl, rfl, rfl, rfl, trivial⟩ ⟨Nat.zero_le _, hg5, ⟨fun _ => rfl, fun h => by simp [inosOf] at h⟩, hf25⟩ ?_
    rintro ⟨k, z⟩ w6 ⟨hk, hg6, hzc, hF6⟩
    refine Sc.seq ?_
    refine Sc.seq ?_
    refine Sc.region ?_
    refine Sl.calm (Cm.move rfl) rfl ?_
    refine Sl.calm (Cm.move rfl) rfl ?_
    refine Sl.fork (Cm.lss rfl rfl) rfl (fun h22 => ?_) (fun h22 => ?_)
    ·
      have hki : k < i := by omega
      obtain ⟨r, hr⟩ : ∃ r, ps[k]? = some r := ⟨_, List.getElem?_eq_getElem (by omega)⟩
      have hv6 := hv2.keep' hF6 (fun _ _ _ => id)
      have ho6 := ho2.grow hF6
      refine Sl.nil ?_
      refine At.weak [(0, _), (3, _), (4, _), (5, _), (6, _), (7, _), (22, _)] ⟨rfl, rfl, rfl, rfl, rfl, rfl, rfl, trivial⟩ ?_
      refine At.go ?_
      refine Sc.cond_t rfl ?_
      refine Sc.skip ?_
      refine At.go ?_
      refine Sc.seq ?_
      refine Sc.block ?_
      refine Sc.seq ?_
      refine Sc.quiet 11 [0, 1, 2, 3, 4, 5, 6, 7, 8, 9, 10] mixed (by kernel_rfl) ?_
      refine Sx.calm rfl rfl (Cm.move rfl) rfl ?_
      refine Sx.calm rfl rfl (Cm.move rfl) rfl ?_
      refine Sx.calm rfl rfl (Cm.indexAddr sl25 rfl rfl hv6.non (by omega)) rfl ?_
      refine Sx.calm rfl rfl (Cm.field fld35_1 rfl) rfl ?_
      refine Sx.calm rfl rfl (Cm.ld sca3 rfl (hv6.rowZ k rfl hr 1 _ rfl)) rfl ?_
      refine Sx.calm rfl rfl (Cm.move rfl) rfl ?_
      refine Sx.calm rfl rfl (Cm.move rfl) rfl ?_
      refine Sx.calm rfl rfl (Cm.indexAddr sl25 rfl rfl hv6.non (by omega)) rfl ?_
      refine Sx.calm rfl rfl (Cm.field fld35_1 rfl) rfl ?_
      refine Sx.calm rfl rfl (Cm.ld sca3 rfl (hv6.rowZ i rfl hp 1 _ rfl)) rfl ?_
      refine Sx.fork rfl rfl (Cm.eql rfl rfl) rfl (fun h35 => ?_) (fun h35 => ?_)
      ·
        refine Sx.nil ?_
        refine At.weak [(0, _), (3, _), (4, _), (5, _), (6, _), (7, _), (22, _), (35, _)] ⟨rfl, rfl, rfl, rfl, rfl, rfl, rfl, rfl, trivial⟩ ?_
        refine At.go ?_
        refine Sc.cond_t rfl ?_
        refine Sc.region ?_
        refine Sl.calm (Cm.move rfl) rfl ?_
        refine Sl.calm (Cm.move rfl) rfl ?_
        have hvo := ho6.vw encN_cells
        have hrk : ((ps.take i).map (renP Z))[k]? = some (renP Z r) := by rw [List.getElem?_map, List.getElem?_take, if_pos hki, hr]; rfl
        refine Sl.calm (Cm.indexAddr sl25 rfl rfl hvo.non (by rw [List.length_map, List.length_take]; omega)) rfl ?_
        refine Sl.calm (Cm.field fld35_1 rfl) rfl ?_
        refine Sl.calm (Cm.ld sca3 rfl (hvo.rowZ k rfl hrk 1 _ rfl)) rfl ?_
        refine Sl.calm (Cm.field fld35_1 rfl) rfl ?_
        refine Sl.store sca3 rfl rfl rfl hg6 rfl ?_
        intro w7 hg7 hs7 hf7
        have hF7 : Foot nob w2 w7 := (hF6.draws 1).trans_to hf7 (fun k e => .inr (by have e : k = q := e; omega))
        refine Sl.nil ?_
        refine At.block_normal ?_
        refine At.weak [(0, _), (3, _), (4, _), (5, _), (6, _), (7, _), (22, _), (35, _)] ⟨rfl, rfl, rfl, rfl, rfl, rfl, rfl, rfl, trivial⟩ ?_
        refine At.go ?_
        refine Sc.region ?_
        refine Sl.calm (Cm.move rfl) rfl ?_
        refine Sl.calm (Cm.add64 rfl rfl (by omega)) rfl ?_
        refine Sl.calm (Cm.assign rfl) rfl ?_
        refine Sl.nil ?_
        first
          | (refine At.again ⟨k + 1, numZ Z r.2.ino⟩ ⟨rfl, rfl, rfl, rfl, rfl, rfl, trivial⟩ ⟨by omega, hg7, ?_, hF7⟩ (by show i - (k + 1) < i - k; omega)
             rw [h35]
             exact ⟨fun h => absurd (by rw [inos_tk hr, List.mem_append]; exact .inr (by rw [h35]; exact List.mem_singleton.2 rfl)) h, fun _ => rfl⟩)
          | (refine At.again ⟨k + 1, z⟩ ⟨rfl, rfl, rfl, rfl, rfl, rfl, trivial⟩ ⟨by omega, hg6, ?_, hF6.draws 1⟩ (by show i - (k + 1) < i - k; omega)
             rw [inos_tk hr, List.mem_append, List.mem_singleton]
             exact ⟨fun h => hzc.1 (fun g => h (.inl g)), fun h => h.elim hzc.2 (fun e => absurd e.symm h35)⟩)
      ·
        refine Sx.nil ?_
        refine At.weak [(0, _), (3, _), (4, _), (5, _), (6, _), (7, _), (22, _), (35, _)] ⟨rfl, rfl, rfl, rfl, rfl, rfl, rfl, rfl, trivial⟩ ?_
        refine At.go ?_
        refine Sc.cond_f rfl ?_
        refine Sc.skip ?_
        refine At.block_normal ?_
        refine At.go ?_
        refine Sc.region ?_
        refine Sl.calm (Cm.move rfl) rfl ?_
        refine Sl.calm (Cm.add64 rfl rfl (by omega)) rfl ?_
        refine Sl.calm (Cm.assign rfl) rfl ?_
        refine Sl.nil ?_
        first
          | (refine At.again ⟨k + 1, numZ Z r.2.ino⟩ ⟨rfl, rfl, rfl, rfl, rfl, rfl, trivial⟩ ⟨by omega, hg7, ?_, hF7⟩ (by show i - (k + 1) < i - k; omega)
             rw [h35]
             exact ⟨fun h => absurd (by rw [inos_tk hr, List.mem_append]; exact .inr (by rw [h35]; exact List.mem_singleton.2 rfl)) h, fun _ => rfl⟩)
          | (refine At.again ⟨k + 1, z⟩ ⟨rfl, rfl, rfl, rfl, rfl, rfl, trivial⟩ ⟨by omega, hg6, ?_, hF6.draws 1⟩ (by show i - (k + 1) < i - k; omega)
             rw [inos_tk hr, List.mem_append, List.mem_singleton]
             exact ⟨fun h => hzc.1 (fun g => h (.inl g)), fun h => h.elim hzc.2 (fun e => absurd e.symm h35)⟩)
    ·
      have hke : k = i := by omega
      subst hke
      refine Sl.nil ?_
      refine At.weak [(0, _), (3, _), (4, _), (5, _), (6, _), (7, _), (22, _)] ⟨rfl, rfl, rfl, rfl, rfl, rfl, rfl, trivial⟩ ?_
      refine At.go ?_
      refine Sc.cond_f rfl ?_
      refine Sc.exit ?_
      refine At.then_exit ?_
      refine At.then_exit ?_
      refine At.block_hit ?_
      refine At.go ?_
      refine Sc.cut (β := Unit) (fun _u => [(0, .slice lo ps.length lc), (3, .slice o ((ps.take k).map (renP Z)).length c), (4, .int .i64 (((seenOf (inosOf (ps.take (k + 1)))).length : Nat) + 1)), (5, .int .i64 k), (6, .pointer (some ⟨q, 0, none⟩))]) (fun _u w => w.heap[q]? = some (.cells (encN (renP Z p)).toArray 35 (0, 0)) ∧ Foot nob w2 w) ?_ ?_
      ·
        refine Sc.seq ?_
        refine Sc.region ?_
        refine Sl.calm (Cm.field fld35_1 rfl) rfl ?_
        refine Sl.calm (Cm.ofEq (u := .int .i64 z) (Cm.ld sca3 rfl (cellF hg6 rfl)) rfl) rfl ?_
        refine Sl.fork (Cm.eql rfl rfl) rfl (fun h44 => ?_) (fun h44 => ?_)
        ·
          have hn : p.2.ino ∉ inosOf (ps.take k) := fun h => by have := hzc.2 h; have := numZ_pos Z p.2.ino; omega
          have hzz : numZ Z p.2.ino = ((seenOf (inosOf (ps.take k))).length : Nat) + 1 := by rw [hZ, inos_split hp]; exact numZ_new hn
          refine Sl.nil ?_
          refine At.weak [(0, _), (3, _), (4, _), (5, _), (6, _), (7, _), (22, _), (44, _)] ⟨rfl, rfl, rfl, rfl, rfl, rfl, rfl, rfl, trivial⟩ ?_
          refine At.go ?_
          refine Sc.cond_t rfl ?_
          refine Sc.seq ?_
          refine Sc.region ?_
          refine Sl.calm (Cm.move rfl) rfl ?_
          refine Sl.calm (Cm.field fld35_1 rfl) rfl ?_
          refine Sl.store sca3 rfl rfl rfl hg6 rfl ?_
          intro w8 hg8 hs8 hf8
          have hgR : w8.heap[q]? = some (.cells (encN (renP Z p)).toArray 35 (0, 0)) := by unfold renP; rw [hzz]; exact hg8
          have hF8 : Foot nob w2 w8 := hF6.trans_to hf8 (fun k e => .inr (by have e : k = q := e; omega))
          refine Sl.nil ?_
          refine At.weak [(0, _), (3, _), (4, _), (5, _), (6, _), (7, _), (22, _), (44, _)] ⟨rfl, rfl, rfl, rfl, rfl, rfl, rfl, rfl, trivial⟩ ?_
          refine At.go ?_
          refine Sc.region ?_
          refine Sl.calm (Cm.move rfl) rfl ?_
          refine Sl.calm (Cm.add64 rfl rfl (by omega)) rfl ?_
          refine Sl.calm (Cm.assign rfl) rfl ?_
          refine Sl.nil ?_
          first
            | exact At.cut () ⟨rfl, rfl, congrArg (fun z : Int => some (Value.int .i64 z)) (by rw [inos_tk hp, seen_len_new hn]; omega), rfl, rfl, trivial⟩ ⟨hgR, hF8⟩
            | exact At.cut () ⟨rfl, rfl, congrArg (fun z : Int => some (Value.int .i64 z)) (by rw [inos_tk hp, seen_len_old hin]), rfl, rfl, trivial⟩ ⟨by unfold renP; rw [← hzz]; exact hg6, hF6⟩
        ·
          have hin : p.2.ino ∈ inosOf (ps.take k) := by
            apply Classical.byContradiction
            intro hn
            exact h44 (hzc.1 hn)
          have hzz : z = numZ Z p.2.ino := hzc.2 hin
          refine Sl.nil ?_
          refine At.weak [(0, _), (3, _), (4, _), (5, _), (6, _), (7, _), (22, _), (44, _)] ⟨rfl, rfl, rfl, rfl, rfl, rfl, rfl, rfl, trivial⟩ ?_
          refine At.go ?_
          refine Sc.cond_f rfl ?_
          refine Sc.skip ?_
          first
            | exact At.cut () ⟨rfl, rfl, congrArg (fun z : Int => some (Value.int .i64 z)) (by rw [inos_tk hp, seen_len_new hn]; omega), rfl, rfl, trivial⟩ ⟨hgR, hF8⟩
            | exact At.cut () ⟨rfl, rfl, congrArg (fun z : Int => some (Value.int .i64 z)) (by rw [inos_tk hp, seen_len_old hin]), rfl, rfl, trivial⟩ ⟨by unfold renP; rw [← hzz]; exact hg6, hF6⟩
      ·
        rintro _ w8 ⟨hgR, hF8⟩
        refine Sc.region ?_
        refine Sl.calm (Cm.move rfl) rfl ?_
        refine Sl.calm (Cm.ldM (cs := encN (renP Z p)) agg35 rfl (cellsF hgR 0 rfl)) rfl ?_
        obtain ⟨y, hy⟩ : ∃ y, y = renP Z p := ⟨_, rfl⟩
        rw [← hy]
        refine Sl.litG sl25 (cs := (encN y).toArray) zc35 rfl rfl rfl (by kernel_rfl) rfl ?_
        intro w9 hg9 hs9 hf9
        have ho9 : OwnM 10 encN 35 w9.heap (some ⟨w8.heap.size, 0, none⟩) 1 [y] := ownM_new (xs := [y]) encN_cells (by simpa using hg9) (by show 1 ≤ maxLen; decide)
        refine Sl.appendM encN_cells rfl sl25 rfl rfl ((ho2.grow hF8).grow hf9) (ho9.vw encN_cells) (by simp only [List.length_singleton, List.length_map, List.length_take]; omega) (by simp only [List.length_singleton, List.length_map, List.length_take]; unfold maxLen; omega) rfl ?_
        intro o9 c9 w10 hoA hfA hrA hnA
        rw [hy, ← renTk hp] at hoA ⊢
        have hFA : Foot nob W w10 := (hF2.trans (hF8.trans hf9)).trans_to hfA hfo.step
        have hfo9 : Fr W.heap.size o9 := fr_app hfo hrA (by have := hF2.size; have := hF8.size; have := hf9.size; omega)
        refine Sl.calm (Cm.assign rfl) rfl ?_
        refine Sl.nil ?_
        refine At.block_normal ?_
        refine At.weak [(0, _), (3, _), (4, _), (5, _), (6, _)] ⟨rfl, rfl, rfl, rfl, rfl, trivial⟩ ?_
        refine At.go ?_
        refine Sc.region ?_
        refine Sl.calm (Cm.move rfl) rfl ?_
        refine Sl.calm (Cm.add64 rfl rfl (by omega)) rfl ?_
        refine Sl.calm (Cm.assign rfl) rfl ?_
        refine Sl.nil ?_
        exact At.again ⟨k + 1, o9, c9⟩ ⟨rfl, rfl, rfl, rfl, trivial⟩ ⟨by omega, hoA, hfo9, hFA⟩ (by show ps.length - (k + 1) < ps.length - k; omega)
  ·
    have hie : i = ps.length := by omega
    subst hie
    rw [List.take_length] at ho2
    refine Sl.nil ?_
    refine At.weak [(0, _), (3, _), (4, _), (5, _), (12, _)] ⟨rfl, rfl, rfl, rfl, rfl, trivial⟩ ?_
    refine At.go ?_
    refine Sc.cond_f rfl ?_
    refine Sc.exit ?_
    refine At.then_exit ?_
    refine At.then_exit ?_
    refine At.block_hit ?_
    refine At.go ?_
    refine Sc.seq ?_
    refine Sc.region ?_
    refine Sl.calm (Cm.move rfl) rfl ?_
    refine Sl.calm (Cm.assign rfl) rfl ?_
    refine Sl.nil ?_
    refine At.weak [(0, _), (2, _), (3, _), (4, _), (5, _), (12, _)] ⟨rfl, rfl, rfl, rfl, rfl, rfl, trivial⟩ ?_
    refine At.go ?_
    refine Sc.ret ?_
    refine At.ret1 rfl rfl ?_
    refine ⟨_, rfl, o, c, ?_, ?_, hfo, hF2⟩
    · rw [List.take_length, hZ]; rfl
    · unfold numP; rw [← hZ]; exact ho2
theorem num_v {H : Array Obj} {ps : List (NdH × Nd)} (h : ∀ p ∈ ps, NdV D H p) : ∀ p ∈ numP ps, NdV D H p := by
  intro p hp
  obtain ⟨q, hq, rfl⟩ := List.mem_map.1 hp
  exact h q hq
def canP (ps : List (NdH × Nd)) : List (NdH × Nd) := numP (srtP ps)
theorem chk_len {l : List Nd} (h : chk l = 0) : l.length ≤ 1024 := by
  unfold chk at h
  by_cases h1 : 1024 < l.length
  · rw [if_pos h1] at h; cases h
  · omega
theorem chk_plc0 {l : List Nd} (h : chk l = 0) : plc l = 0 := by
  rw [chk_plc] at h
  by_cases h1 : plc l = 0
  · exact h1
  · rw [if_pos h1] at h; exact absurd h h1
theorem plc_nmd0 {l : List Nd} (h : plc l = 0) : nmd l = 0 := by
  unfold plc at h
  by_cases h0 : 1024 < l.length
  · rw [if_pos h0] at h; cases h
  · rw [if_neg h0] at h
    by_cases h1 : nmd l = 0
    · exact h1
    · rw [if_pos h1] at h; exact absurd h h1
theorem chk_twice {l : List Nd} (h : chk l = 0) : ¬ twiceL l := (nmd_zero (plc_nmd0 (chk_plc0 h))).2.2
end Go.Proofs.Ytpamandneifemaa
/- tree: Clone at four types; a store into a field of an element. No condition beyond the bounds that each states. -/
namespace Go.Proofs.Ytpamandneifemaa
open Go Go.RowKit Go.Maps
set_option linter.unusedVariables false

theorem flatMap_set {α : Type} {K j : Nat} {enc : α → List Value} (hk : ∀ x, (enc x).length = K) (hj : j < K) {v : Value} {x' : α} : ∀ (xs : List α) (i : Nat) (y : α), xs[i]? = some y → enc x' = (enc y).set j v → (xs.set i x').flatMap enc = (xs.flatMap enc).set (i * K + j) v
  | [], i, y, h, _ => by simp at h
  | z :: r, 0, y, h, he => by
    simp at h; subst h
    rw [List.set_cons_zero, List.flatMap_cons, List.flatMap_cons, he, List.set_append, if_pos (by rw [hk]; omega), Nat.zero_mul, Nat.zero_add]
  | z :: r, i + 1, y, h, he => by
    have ih := flatMap_set hk hj r i y (by simpa using h) he
    have e1 : (i + 1) * K + j = K + (i * K + j) := by rw [Nat.add_mul]; omega
    rw [List.set_cons_succ, List.flatMap_cons, List.flatMap_cons, ih, List.set_append, if_neg (by rw [hk]; omega), hk, e1, Nat.add_sub_cancel_left]
section
variable {P : Program} {N : Nt} {Q : Exit → Act → World → Prop} {l : SF} {w : World} {ops : Array Oper} {rest : List Oper} {ty : TypeId} {pos : String} {aft : Array Edge} {x y : Operand} {t : TypeId} {v : Value}
theorem Sl.storeF {α : Type} {K : Nat} {enc : α → List Value} (henc : CellsM K enc) {T : TypeId} {ao : Option Addr} {cap : Nat} {xs : List α} {i j : Nat} {x' x0 : α} {ad : Addr} (hi : xs[i]? = some x0) (hj : j < K) (he : enc x' = (enc x0).set j v)
    (ht : scaB P t = true) (hx : evL l x = some (.pointer (some ad))) (had : ad = (adr ao (i * K)).add j) (hy : evL l y = some v) (h1 : v.oneCell' = true) (ho : OwnM K enc T w.heap ao cap xs)
    (h : ∀ w', OwnM K enc T w'.heap ao cap (xs.set i x') → w'.heap.size = w.heap.size → Foot (blk ao) w w' → Sl P N ops Q rest l w') :
    Sl P N ops Q (⟨none, .store t x y, ty, pos, aft, none⟩ :: rest) l w := by
  have hil := (List.getElem?_eq_some_iff.1 hi).1
  rcases ho with ⟨rfl, rfl, rfl⟩ | ⟨g, cur, rfl, hg, g1, g2, g3, g4⟩
  · simp at hil
  · have hK : xs.length * K ≤ cap * K := Nat.mul_le_mul_right K g1
    have hiK : (i + 1) * K ≤ xs.length * K := Nat.mul_le_mul_right K (by omega)
    have hlt : i * K + j < cur.toList.length := by rw [Array.length_toList, g3]; rw [Nat.add_mul, Nat.one_mul] at hiK; omega
    have hadr : ad = ⟨g, i * K + j, none⟩ := by
      rw [had]
      show ((⟨g, 0, none⟩ : Addr).add (i * K)).add j = _
      rw [Addr.add_add, Addr.add_lit, Nat.zero_add]
    subst hadr
    refine Sl.store (cur := cur.toList) ht hx hy h1 (by simpa using hg) (by simpa [Nat.blt_eq] using hlt) (fun w' q1 q2 q3 => h w' ?_ q2 ?_)
    · refine .inr ⟨g, _, rfl, q1, by simpa using g1, g2, by simpa using g3, ?_⟩
      rw [List.length_set, flatMap_set (fun x => (henc x).1) hj xs i x0 hi he, ← g4]
      simp only [List.take_set]
    · exact q3.mono (fun k e => ⟨⟨g, 0, none⟩, rfl, e.symm⟩)
end
theorem fr_at2 (n : Nat) : Fr n (some ⟨n, 0, none⟩) := fun a ha => by cases ha; exact Nat.le_refl _
theorem cloneS_ok (ao : Option Addr) (c : Nat) (L : List (List UInt8)) (W : World) (hv : Vw strE W.heap ao c L) (hl : L.length ≤ 1024) :
    Calls Try.prog 37 [.slice ao L.length c].toArray W (Ret fun v w' => ∃ o c', v = .slice o L.length c' ∧ Own strE 9 w'.heap o c' L ∧ Fr W.heap.size o ∧ Foot nob W w') := by
  refine calls_of_sc 8 [(0, _)] Try.func37 rfl rfl rfl (enter_slots ⟨rfl, trivial⟩) ?_
  refine Sc.seq ?_
  refine Sc.region ?_
  refine Sl.calm (Cm.assign rfl) rfl ?_
  refine Sl.nil ?_
  refine At.go ?_
  refine Sc.seq ?_
  refine Sc.seq ?_
  refine Sc.region ?_
  refine Sl.calm (Cm.move rfl) rfl ?_
  refine Sl.fork (Cm.ofBool (Cm.eqlSlNil sl29 rfl rfl)) rfl (fun h4 => ?_) (fun h4 => ?_)
  ·
    refine Sl.nil ?_
    refine At.weak [(0, _), (2, _), (4, _)] ⟨rfl, rfl, rfl, trivial⟩ ?_
    refine At.go ?_
    refine Sc.cond_t rfl ?_
    refine Sc.seq ?_
    refine Sc.region ?_
    refine Sl.calm (Cm.assign rfl) rfl ?_
    refine Sl.nil ?_
    refine At.go ?_
    refine Sc.ret ?_
    refine At.then_ret ?_
    refine At.ret1 rfl rfl ?_
    obtain rfl : L = [] := by
      apply Classical.byContradiction
      intro hne
      have h0 : ao = none := by simpa using h4
      exact hv.non (by have := List.length_pos_iff.2 hne; omega) h0
    exact ⟨_, rfl, none, 0, rfl, .inl ⟨rfl, rfl, rfl⟩, Fr.none, Foot.refl _ _⟩
  ·
    refine Sl.nil ?_
    refine At.weak [(0, _), (2, _), (4, _)] ⟨rfl, rfl, rfl, trivial⟩ ?_
    refine At.go ?_
    refine Sc.cond_f rfl ?_
    refine Sc.skip ?_
    refine At.go ?_
    refine Sc.seq ?_
    refine Sc.region ?_
    refine Sl.lit0 strE sl29 rfl ?_
    intro w1 ho1 hs1 hf1
    refine Sl.calm (Cm.move rfl) rfl ?_
    refine Sl.append strE_one sl29 rfl rfl ho1 (hv.grow hf1) (by simp only [List.length_nil]; omega) (by simp only [List.length_nil]; unfold maxLen; omega) rfl ?_
    intro o2 c2 w2 ho2 hf2 hr2 hn2
    rw [List.nil_append] at ho2 ⊢
    refine Sl.calm (Cm.assign rfl) rfl ?_
    refine Sl.nil ?_
    refine At.weak [(0, _), (2, _), (4, _)] ⟨rfl, rfl, rfl, trivial⟩ ?_
    refine At.go ?_
    refine Sc.ret ?_
    refine At.ret1 rfl rfl ?_
    exact ⟨_, rfl, o2, c2, rfl, ho2, fr_app (fr_at2 _) hr2 hf1.size, hf1.trans_to hf2 (fr_at2 _).step⟩
end Go.Proofs.Ytpamandneifemaa
