/- names: Valid, the program's and the reference's. No condition beyond the bounds that each states. -/
import Derived.Test.YtpamandneifemaaRnk
import Derived.Test.YtpamandneifemaaTrPk
namespace Go.Proofs.Ytpamandneifemaa
open Go Go.RowKit
set_option linter.unusedVariables false

theorem vErr_long {s : List UInt8} (h : (255 : Int) < s.length) : vErr s = 23 := by unfold vErr; rw [if_pos (by omega)]
theorem vErr_bad {s : List UInt8} (h : ¬ (255 : Int) < s.length) (h2 : s = [] ∨ s = [46] ∨ s = [46, 46] ∨ (0 : UInt8) ∈ s ∨ (47 : UInt8) ∈ s) : vErr s = 22 := by unfold vErr; rw [if_neg (by omega), if_pos h2]
theorem vErr_good {s : List UInt8} (h : ¬ (255 : Int) < s.length) (h1 : ¬ s = []) (h2 : ¬ s = [46]) (h3 : ¬ s = [46, 46]) (h4 : (0 : UInt8) ∉ s ∧ (47 : UInt8) ∉ s) : vErr s = 0 := by
  unfold vErr; rw [if_neg (by omega), if_neg (fun e => e.elim h1 fun e => e.elim h2 fun e => e.elim h3 fun e => e.elim h4.1 h4.2)]

theorem rvalid_ok (s : List UInt8) (W : World) (hs : s.length ≤ maxLen) : Calls Try.prog 42 [.string (bs s)].toArray W (Ret fun v w' => v = .int .i64 (vErr s) ∧ w' = W) := by
  have hl : (s.length : Int) ≤ 9223372036854775807 := by unfold maxLen at hs; omega
  refine calls_of_sc 33 [(0, _)] Try.func42 rfl rfl rfl (enter_slots ⟨rfl, trivial⟩) ?_
  refine Sc.seq ?_
  refine Sc.region ?_
  refine Sl.calm (Cm.assign rfl) rfl ?_
  refine Sl.nil ?_
  refine At.go ?_
  refine Sc.seq ?_
  refine Sc.seq ?_
  refine Sc.region ?_
  refine Sl.calm (Cm.move rfl) rfl ?_
  refine Sl.calm (Cm.lenBs ty9 rfl) rfl ?_
  refine Sl.fork (Cm.gtr rfl rfl) rfl (fun h6 => ?_) (fun h6 => ?_)
  ·
    refine Sl.nil ?_
    refine At.weak [(0, _), (2, _), (6, _)] ⟨rfl, rfl, rfl, trivial⟩ ?_
    refine At.go ?_
    refine Sc.cond_t rfl ?_
    refine Sc.seq ?_
    refine Sc.region ?_
    refine Sl.calm (Cm.assign rfl) rfl ?_
    refine Sl.nil ?_
    refine At.go ?_
    refine Sc.ret ?_
    refine At.then_ret ?_
    refine At.ret1 rfl rfl ?_
    exact ⟨_, rfl, by rw [vErr_long h6], rfl⟩
  ·
    refine Sl.nil ?_
    refine At.weak [(0, _), (2, _), (6, _)] ⟨rfl, rfl, rfl, trivial⟩ ?_
    refine At.go ?_
    refine Sc.cond_f rfl ?_
    refine Sc.skip ?_
    refine At.go ?_
    refine Sc.seq ?_
    refine Sc.seq ?_
    refine Sc.region ?_
    refine Sl.calm (Cm.assign rfl) rfl ?_
    refine Sl.nil ?_
    refine At.go ?_
    refine Sc.block ?_
    refine Sc.loop (β := Nat) (fun k => [(0, .string (bs s)), (3, .int .i64 k)]) (fun k w => k ≤ s.length ∧ cleanTo s k ∧ w = W) (fun k => s.length - k) 0 ⟨rfl, rfl, trivial⟩ ⟨Nat.zero_le _, fun k hk => by omega, rfl⟩ ?_
    rintro k w2 ⟨hk, hcl, hw2⟩
    subst hw2
    refine Sc.seq ?_
    refine Sc.seq ?_
    refine Sc.region ?_
    refine Sl.calm (Cm.move rfl) rfl ?_
    refine Sl.calm (Cm.move rfl) rfl ?_
    refine Sl.calm (Cm.lenBs ty9 rfl) rfl ?_
    refine Sl.fork (Cm.lss rfl rfl) rfl (fun h10 => ?_) (fun h10 => ?_)
    ·
      refine Sl.nil ?_
      refine At.weak [(0, _), (3, _), (10, _)] ⟨rfl, rfl, rfl, trivial⟩ ?_
      refine At.go ?_
      refine Sc.cond_t rfl ?_
      refine Sc.skip ?_
      refine At.go ?_
      refine Sc.seq ?_
      refine Sc.block ?_
      refine Sc.seq ?_
      refine Sc.region ?_
      refine Sl.calm (Cm.move rfl) rfl ?_
      refine Sl.calm (Cm.move rfl) rfl ?_
      refine Sl.calm (Cm.idxS ty9 rfl rfl (by omega)) rfl ?_
      refine Sl.fork (Cm.eql rfl rfl) rfl (fun h16 => ?_) (fun h16 => ?_)
      ·
        have hm : (0 : UInt8) ∈ s := by have e : s.getD k 0 = 0 := UInt8.toNat_inj.1 (by have h16 : ((s.getD ((k : Int)).toNat 0).toNat : Int) = 0 := h16; have e2 : ((k : Int)).toNat = k := rfl; rw [e2] at h16; show _ = 0; omega); have hk2 : k < s.length := (by omega); rw [List.getD, List.getElem?_eq_getElem hk2] at e; rw [← e]; exact List.getElem_mem hk2
        refine Sl.calm (Cm.move rfl) rfl ?_
        refine Sl.skip rfl rfl rfl rfl ?_
        refine Sl.skip rfl rfl rfl rfl ?_
        refine Sl.skip rfl rfl rfl rfl ?_
        refine Sl.skip rfl rfl rfl rfl ?_
        refine Sl.calm (Cm.pick_t rfl rfl) rfl ?_
        refine Sl.nil ?_
        refine At.weak [(0, _), (3, _), (10, _), (22, _)] ⟨rfl, rfl, rfl, rfl, trivial⟩ ?_
        refine At.go ?_
        refine Sc.cond_t rfl ?_
        refine Sc.seq ?_
        refine Sc.region ?_
        refine Sl.calm (Cm.assign rfl) rfl ?_
        refine Sl.nil ?_
        refine At.go ?_
        refine Sc.ret ?_
        refine At.block_ret ?_
        refine At.then_ret ?_
        refine At.then_ret ?_
        refine At.block_ret ?_
        refine At.then_ret ?_
        refine At.ret1 rfl rfl ?_
        exact ⟨_, rfl, by rw [vErr_bad h6 (.inr (.inr (.inr (.inl hm))))], rfl⟩
      ·
        have g1 : s.getD k 0 ≠ 0 := by intro e; apply h16; show ((s.getD k 0).toNat : Int) = 0; rw [e]; rfl
        refine Sl.calm (Cm.move rfl) rfl ?_
        refine Sl.want rfl rfl (Cm.move rfl) rfl ?_
        refine Sl.want rfl rfl (Cm.move rfl) rfl ?_
        refine Sl.want rfl rfl (Cm.idxS ty9 rfl rfl (by omega)) rfl ?_
        refine Sl.forkWant rfl rfl (Cm.eql rfl rfl) rfl (fun h21 => ?_) (fun h21 => ?_)
        ·
          have hm : (47 : UInt8) ∈ s := by have e : s.getD k 0 = 47 := UInt8.toNat_inj.1 (by have h21 : ((s.getD ((k : Int)).toNat 0).toNat : Int) = 47 := h21; have e2 : ((k : Int)).toNat = k := rfl; rw [e2] at h21; show _ = 47; omega); have hk2 : k < s.length := (by omega); rw [List.getD, List.getElem?_eq_getElem hk2] at e; rw [← e]; exact List.getElem_mem hk2
          refine Sl.calm (Cm.pick_f rfl rfl) rfl ?_
          refine Sl.nil ?_
          refine At.weak [(0, _), (3, _), (10, _), (22, _)] ⟨rfl, rfl, rfl, rfl, trivial⟩ ?_
          refine At.go ?_
          refine Sc.cond_t rfl ?_
          refine Sc.seq ?_
          refine Sc.region ?_
          refine Sl.calm (Cm.assign rfl) rfl ?_
          refine Sl.nil ?_
          refine At.go ?_
          refine Sc.ret ?_
          refine At.block_ret ?_
          refine At.then_ret ?_
          refine At.then_ret ?_
          refine At.block_ret ?_
          refine At.then_ret ?_
          refine At.ret1 rfl rfl ?_
          exact ⟨_, rfl, by rw [vErr_bad h6 (.inr (.inr (.inr (.inr hm))))], rfl⟩
        ·
          have g2 : s.getD k 0 ≠ 47 := by intro e; apply h21; show ((s.getD k 0).toNat : Int) = 47; rw [e]; rfl
          refine Sl.calm (Cm.pick_f rfl rfl) rfl ?_
          refine Sl.nil ?_
          refine At.weak [(0, _), (3, _), (10, _), (22, _)] ⟨rfl, rfl, rfl, rfl, trivial⟩ ?_
          refine At.go ?_
          refine Sc.cond_f rfl ?_
          refine Sc.skip ?_
          refine At.block_normal ?_
          refine At.go ?_
          refine Sc.region ?_
          refine Sl.calm (Cm.move rfl) rfl ?_
          refine Sl.calm (Cm.add64 rfl rfl (by omega)) rfl ?_
          refine Sl.calm (Cm.assign rfl) rfl ?_
          refine Sl.nil ?_
          refine At.again (k + 1) ⟨rfl, rfl, trivial⟩ ⟨by omega, fun i hi => ?_, rfl⟩ (by show s.length - (k + 1) < s.length - k; omega)
          by_cases hik : i = k
          · subst hik; exact ⟨g1, g2⟩
          · exact hcl i (by omega)
    ·
      refine Sl.nil ?_
      refine At.weak [(0, _), (3, _), (10, _)] ⟨rfl, rfl, rfl, trivial⟩ ?_
      refine At.go ?_
      refine Sc.cond_f rfl ?_
      refine Sc.exit ?_
      refine At.then_exit ?_
      refine At.then_exit ?_
      refine At.block_hit ?_
      refine At.go ?_
      refine Sc.seq ?_
      refine Sc.seq ?_
      refine Sc.region ?_
      refine Sl.calm (Cm.move rfl) rfl ?_
      refine Sl.fork (Cm.eqlBs rfl rfl) rfl (fun h24 => ?_) (fun h24 => ?_)
      ·
        refine Sl.calm (Cm.move rfl) rfl ?_
        refine Sl.skip rfl rfl rfl rfl ?_
        refine Sl.skip rfl rfl rfl rfl ?_
        refine Sl.calm (Cm.pick_t rfl rfl) rfl ?_
        refine Sl.calm (Cm.move rfl) rfl ?_
        refine Sl.skip rfl rfl rfl rfl ?_
        refine Sl.skip rfl rfl rfl rfl ?_
        refine Sl.calm (Cm.pick_t rfl rfl) rfl ?_
        refine Sl.nil ?_
        refine At.weak [(0, _), (3, _), (10, _), (32, _)] ⟨rfl, rfl, rfl, rfl, trivial⟩ ?_
        refine At.go ?_
        refine Sc.cond_t rfl ?_
        refine Sc.seq ?_
        refine Sc.region ?_
        refine Sl.calm (Cm.assign rfl) rfl ?_
        refine Sl.nil ?_
        refine At.go ?_
        refine Sc.ret ?_
        refine At.then_ret ?_
        refine At.ret1 rfl rfl ?_
        exact ⟨_, rfl, by rw [vErr_bad h6 (.inl h24)], rfl⟩
      ·
        refine Sl.calm (Cm.move rfl) rfl ?_
        refine Sl.want rfl rfl (Cm.move rfl) rfl ?_
        refine Sl.forkWant rfl rfl (Cm.eqlBs rfl rfl) rfl (fun h27 => ?_) (fun h27 => ?_)
        ·
          refine Sl.calm (Cm.pick_f rfl rfl) rfl ?_
          refine Sl.calm (Cm.move rfl) rfl ?_
          refine Sl.skip rfl rfl rfl rfl ?_
          refine Sl.skip rfl rfl rfl rfl ?_
          refine Sl.calm (Cm.pick_t rfl rfl) rfl ?_
          refine Sl.nil ?_
          refine At.weak [(0, _), (3, _), (10, _), (32, _)] ⟨rfl, rfl, rfl, rfl, trivial⟩ ?_
          refine At.go ?_
          refine Sc.cond_t rfl ?_
          refine Sc.seq ?_
          refine Sc.region ?_
          refine Sl.calm (Cm.assign rfl) rfl ?_
          refine Sl.nil ?_
          refine At.go ?_
          refine Sc.ret ?_
          refine At.then_ret ?_
          refine At.ret1 rfl rfl ?_
          exact ⟨_, rfl, by rw [vErr_bad h6 (.inr (.inl h27))], rfl⟩
        ·
          refine Sl.calm (Cm.pick_f rfl rfl) rfl ?_
          refine Sl.calm (Cm.move rfl) rfl ?_
          refine Sl.want rfl rfl (Cm.move rfl) rfl ?_
          refine Sl.forkWant rfl rfl (Cm.eqlBs rfl rfl) rfl (fun h31 => ?_) (fun h31 => ?_)
          ·
            refine Sl.calm (Cm.pick_f rfl rfl) rfl ?_
            refine Sl.nil ?_
            refine At.weak [(0, _), (3, _), (10, _), (32, _)] ⟨rfl, rfl, rfl, rfl, trivial⟩ ?_
            refine At.go ?_
            refine Sc.cond_t rfl ?_
            refine Sc.seq ?_
            refine Sc.region ?_
            refine Sl.calm (Cm.assign rfl) rfl ?_
            refine Sl.nil ?_
            refine At.go ?_
            refine Sc.ret ?_
            refine At.then_ret ?_
            refine At.ret1 rfl rfl ?_
            exact ⟨_, rfl, by rw [vErr_bad h6 (.inr (.inr (.inl h31)))], rfl⟩
          ·
            refine Sl.calm (Cm.pick_f rfl rfl) rfl ?_
            refine Sl.nil ?_
            refine At.weak [(0, _), (3, _), (10, _), (32, _)] ⟨rfl, rfl, rfl, rfl, trivial⟩ ?_
            refine At.go ?_
            refine Sc.cond_f rfl ?_
            refine Sc.skip ?_
            refine At.go ?_
            refine Sc.seq ?_
            refine Sc.region ?_
            refine Sl.calm (Cm.assign rfl) rfl ?_
            refine Sl.nil ?_
            refine At.go ?_
            refine Sc.ret ?_
            refine At.ret1 rfl rfl ?_
            have hke : k = s.length := by omega
            subst hke
            exact ⟨_, rfl, by rw [vErr_good h6 h24 h27 h31 (clean_all hcl)], rfl⟩

end Go.Proofs.Ytpamandneifemaa
/- tree, the reference: Same, Find, named, Placed. No condition beyond the bounds that each states. -/
namespace Go.Proofs.Ytpamandneifemaa
open Go Go.RowKit
set_option linter.unusedVariables false

theorem add2 (a : Addr) (i j : Nat) : (a.add i).add j = a.add (i + j) := Addr.add_add a i j
theorem list_cmp {α : Type} {a b : List α} (hl : a.length = b.length) {k : Nat} (hk : a.length ≤ k) (d : α) (h : ∀ i, i < k → i < a.length → a.getD i d = b.getD i d) : a = b := by
  apply List.ext_getElem hl
  intro i h1 h2
  have := h i (by omega) h1
  simpa [List.getD, h1, h2] using this
set_option maxHeartbeats 1000000 in
theorem rsame_ok (ao bo : Option Addr) (ac bc : Nat) (a b : List (List UInt8)) (W : World) (ha : Vw strE W.heap ao ac a) (hb : Vw strE W.heap bo bc b) :
    Calls Try.prog 18 [.slice ao a.length ac, .slice bo b.length bc].toArray W (Ret fun v w' => v = .bool (decide (a = b)) ∧ Foot nob W w') := by
  have h63 := ha.len63
  refine calls_of_sc 26 [(0, _), (1, _)] Try.func18 rfl rfl rfl (enter_slots ⟨rfl, rfl, trivial⟩) ?_
  refine Sc.seq ?_
  refine Sc.region ?_
  refine Sl.calm (Cm.assign rfl) rfl ?_
  refine Sl.nil ?_
  refine At.go ?_
  refine Sc.seq ?_
  refine Sc.seq ?_
  refine Sc.region ?_
  refine Sl.calm (Cm.move rfl) rfl ?_
  refine Sl.calm (Cm.len sl29 rfl) rfl ?_
  refine Sl.calm (Cm.move rfl) rfl ?_
  refine Sl.calm (Cm.len sl29 rfl) rfl ?_
  refine Sl.fork (Cm.neq rfl rfl) rfl (fun h10 => ?_) (fun h10 => ?_)
  ·
    refine Sl.nil ?_
    refine At.weak [(0, _), (1, _), (4, _), (10, _)] ⟨rfl, rfl, rfl, rfl, trivial⟩ ?_
    refine At.go ?_
    refine Sc.cond_t rfl ?_
    refine Sc.seq ?_
    refine Sc.region ?_
    refine Sl.calm (Cm.assign rfl) rfl ?_
    refine Sl.nil ?_
    refine At.go ?_
    refine Sc.ret ?_
    refine At.then_ret ?_
    refine At.ret1 rfl rfl ?_
    exact ⟨_, rfl, by rw [decide_eq_false (fun e => by subst e; exact h10 rfl)], Foot.refl _ _⟩
  ·
    refine Sl.nil ?_
    refine At.weak [(0, _), (1, _), (4, _), (10, _)] ⟨rfl, rfl, rfl, rfl, trivial⟩ ?_
    refine At.go ?_
    refine Sc.cond_f rfl ?_
    refine Sc.skip ?_
    refine At.go ?_
    refine Sc.seq ?_
    refine Sc.seq ?_
    refine Sc.region ?_
    refine Sl.calm (Cm.assign rfl) rfl ?_
    refine Sl.nil ?_
    refine At.go ?_
    refine Sc.block ?_
    refine Sc.loop (β := Nat) (fun k => [(0, .slice ao a.length ac), (1, .slice bo b.length bc), (5, .int .i64 k)]) (fun k w => k ≤ a.length ∧ (∀ i, i < k → i < a.length → a.getD i [] = b.getD i []) ∧ Foot nob W w) (fun k => a.length - k) 0 ⟨rfl, rfl, rfl, trivial⟩ ⟨Nat.zero_le _, fun i hi => by omega, Foot.refl _ _⟩ ?_
    rintro k w2 ⟨hk, hsm, hF2⟩
    refine Sc.seq ?_
    refine Sc.seq ?_
    refine Sc.region ?_
    refine Sl.calm (Cm.move rfl) rfl ?_
    refine Sl.calm (Cm.move rfl) rfl ?_
    refine Sl.calm (Cm.len sl29 rfl) rfl ?_
    refine Sl.fork (Cm.lss rfl rfl) rfl (fun h14 => ?_) (fun h14 => ?_)
    ·
      have hka : k < a.length := by omega
      have hkb : k < b.length := by omega
      have ha2 := ha.grow hF2
      have hb2 := hb.grow hF2
      refine Sl.nil ?_
      refine At.weak [(0, _), (1, _), (5, _), (14, _)] ⟨rfl, rfl, rfl, rfl, trivial⟩ ?_
      refine At.go ?_
      refine Sc.cond_t rfl ?_
      refine Sc.skip ?_
      refine At.go ?_
      refine Sc.seq ?_
      refine Sc.block ?_
      refine Sc.seq ?_
      refine Sc.quiet 9 [0, 1, 2, 3, 4, 5, 6, 7, 8] mixed (by kernel_rfl) ?_
      refine Sx.calm rfl rfl (Cm.move rfl) rfl ?_
      refine Sx.calm rfl rfl (Cm.move rfl) rfl ?_
      refine Sx.calm rfl rfl (Cm.indexAddr1 sl29 rfl rfl ha2.non (by omega)) rfl ?_
      refine Sx.calm rfl rfl (Cm.ld sca9 rfl (ha2.get k (a.getD k []) (by simp [List.getD, hka]))) rfl ?_
      refine Sx.calm rfl rfl (Cm.move rfl) rfl ?_
      refine Sx.calm rfl rfl (Cm.move rfl) rfl ?_
      refine Sx.calm rfl rfl (Cm.indexAddr1 sl29 rfl rfl hb2.non (by omega)) rfl ?_
      refine Sx.calm rfl rfl (Cm.ld sca9 rfl (hb2.get k (b.getD k []) (by simp [List.getD, hkb]))) rfl ?_
      refine Sx.fork rfl rfl (Cm.neqBs rfl rfl) rfl (fun h25 => ?_) (fun h25 => ?_)
      ·
        refine Sx.nil ?_
        refine At.weak [(0, _), (1, _), (5, _), (14, _), (25, _)] ⟨rfl, rfl, rfl, rfl, rfl, trivial⟩ ?_
        refine At.go ?_
        refine Sc.cond_t rfl ?_
        refine Sc.seq ?_
        refine Sc.region ?_
        refine Sl.calm (Cm.assign rfl) rfl ?_
        refine Sl.nil ?_
        refine At.go ?_
        refine Sc.ret ?_
        refine At.block_ret ?_
        refine At.then_ret ?_
        refine At.then_ret ?_
        refine At.block_ret ?_
        refine At.then_ret ?_
        refine At.ret1 rfl rfl ?_
        exact ⟨_, rfl, by rw [decide_eq_false (fun e => h25 (by rw [e]))], hF2.draws 1⟩
      ·
        refine Sx.nil ?_
        refine At.weak [(0, _), (1, _), (5, _), (14, _), (25, _)] ⟨rfl, rfl, rfl, rfl, rfl, trivial⟩ ?_
        refine At.go ?_
        refine Sc.cond_f rfl ?_
        refine Sc.skip ?_
        refine At.block_normal ?_
        refine At.go ?_
        refine Sc.region ?_
        refine Sl.calm (Cm.move rfl) rfl ?_
        refine Sl.calm (Cm.add64 rfl rfl (by omega)) rfl ?_
        refine Sl.calm (Cm.assign rfl) rfl ?_
        refine Sl.nil ?_
        refine At.again (k + 1) ⟨rfl, rfl, rfl, trivial⟩ ⟨by omega, fun i hi hia => ?_, hF2.draws 1⟩ (by show a.length - (k + 1) < a.length - k; omega)
        by_cases hik : i = k
        · subst hik; exact Classical.not_not.1 h25
        · exact hsm i (by omega) hia
    ·
      refine Sl.nil ?_
      refine At.weak [(0, _), (1, _), (5, _), (14, _)] ⟨rfl, rfl, rfl, rfl, trivial⟩ ?_
      refine At.go ?_
      refine Sc.cond_f rfl ?_
      refine Sc.exit ?_
      refine At.then_exit ?_
      refine At.then_exit ?_
      refine At.block_hit ?_
      refine At.go ?_
      refine Sc.seq ?_
      refine Sc.region ?_
      refine Sl.calm (Cm.assign rfl) rfl ?_
      refine Sl.nil ?_
      refine At.go ?_
      refine Sc.ret ?_
      refine At.ret1 rfl rfl ?_
      exact ⟨_, rfl, by rw [decide_eq_true (list_cmp (by omega) (k := k) (by omega) [] hsm)], hF2⟩
/-- where names come up first -/
def findP (ps : List (NdH × Nd)) (s : List (List UInt8)) : Int := match ps.findIdx? (fun p => decide (p.2.names = s)) with | some i => i | none => -1
theorem findP_hit {ps : List (NdH × Nd)} {s : List (List UInt8)} {i : Nat} {p : NdH × Nd} (hp : ps[i]? = some p) (h1 : p.2.names = s) (h2 : ∀ j q, j < i → ps[j]? = some q → q.2.names ≠ s) : findP ps s = i := by
  have hi := (List.getElem?_eq_some_iff.1 hp).1
  have : ps.findIdx? (fun p => decide (p.2.names = s)) = some i := by
    rw [List.findIdx?_eq_some_iff_getElem]
    refine ⟨hi, by rw [(List.getElem?_eq_some_iff.1 hp).2]; exact decide_eq_true h1, fun j hj => ?_⟩
    have := h2 j _ hj (List.getElem?_eq_getElem (by omega))
    simpa using this
  unfold findP; rw [this]
theorem findP_miss {ps : List (NdH × Nd)} {s : List (List UInt8)} (h : ∀ p ∈ ps, p.2.names ≠ s) : findP ps s = -1 := by
  have : ps.findIdx? (fun p => decide (p.2.names = s)) = none := by
    rw [List.findIdx?_eq_none_iff]
    intro p hp
    exact decide_eq_false (h p hp)
  unfold findP; rw [this]
theorem findP_spec (ps : List (NdH × Nd)) (s : List (List UInt8)) : (findP ps s = -1 ∧ ∀ p ∈ ps, p.2.names ≠ s) ∨ ∃ (i : Nat) (p : NdH × Nd), findP ps s = i ∧ ps[i]? = some p ∧ p.2.names = s ∧ ∀ j q, j < i → ps[j]? = some q → q.2.names ≠ s := by
  by_cases h : ∃ p ∈ ps, p.2.names = s
  · right
    obtain ⟨i, hi⟩ : ∃ i, ps.findIdx? (fun p => decide (p.2.names = s)) = some i := by
      cases hf : ps.findIdx? (fun p => decide (p.2.names = s)) with
      | some i => exact ⟨i, rfl⟩
      | none =>
        rw [List.findIdx?_eq_none_iff] at hf
        obtain ⟨p, hp, e⟩ := h
        have := hf p hp
        simp [e] at this
    obtain ⟨h1, h2, h3⟩ := List.findIdx?_eq_some_iff_getElem.1 hi
    refine ⟨i, ps[i], by unfold findP; rw [hi], List.getElem?_eq_getElem h1, by simpa using h2, fun j q hj hq => ?_⟩
    have := h3 j hj
    rw [(List.getElem?_eq_some_iff.1 hq).2] at this
    simpa using this
  · left
    have h' : ∀ p ∈ ps, p.2.names ≠ s := fun p hp e => h ⟨p, hp, e⟩
    exact ⟨findP_miss h', h'⟩
variable {D : Nat → Prop}
set_option maxHeartbeats 1000000 in
theorem rfind_ok (lo : Option Addr) (lc : Nat) (ps : List (NdH × Nd)) (so : Option Addr) (sc : Nat) (s : List (List UInt8)) (W : World) (hv : NodesV D W.heap lo lc ps) (hs : Vw strE W.heap so sc s) :
    Calls Try.prog 17 [.slice lo ps.length lc, .slice so s.length sc].toArray W (Ret fun v w' => v = .int .i64 (findP ps s) ∧ Foot nob W w') := by
  have h63 := hv.1.len63
  refine calls_of_sc 22 [(0, _), (1, _)] Try.func17 rfl rfl rfl (enter_slots ⟨rfl, rfl, trivial⟩) ?_
  refine Sc.seq ?_
  refine Sc.region ?_
  refine Sl.calm (Cm.assign rfl) rfl ?_
  refine Sl.nil ?_
  refine At.go ?_
  refine Sc.seq ?_
  refine Sc.seq ?_
  refine Sc.region ?_
  refine Sl.calm (Cm.assign rfl) rfl ?_
  refine Sl.nil ?_
  refine At.go ?_
  refine Sc.block ?_
  refine Sc.loop (β := Nat) (fun k => [(0, .slice lo ps.length lc), (1, .slice so s.length sc), (5, .int .i64 k)]) (fun k w => k ≤ ps.length ∧ (∀ j q, j < k → ps[j]? = some q → q.2.names ≠ s) ∧ Foot nob W w) (fun k => ps.length - k) 0 ⟨rfl, rfl, rfl, trivial⟩ ⟨Nat.zero_le _, fun i q hi => by omega, Foot.refl _ _⟩ ?_
  rintro k w2 ⟨hk, hno, hF2⟩
  refine Sc.seq ?_
  refine Sc.seq ?_
  refine Sc.region ?_
  refine Sl.calm (Cm.move rfl) rfl ?_
  refine Sl.calm (Cm.move rfl) rfl ?_
  refine Sl.calm (Cm.len sl25 rfl) rfl ?_
  refine Sl.fork (Cm.lss rfl rfl) rfl (fun h10 => ?_) (fun h10 => ?_)
  ·
    obtain ⟨p, hp⟩ : ∃ p, ps[k]? = some p := ⟨_, List.getElem?_eq_getElem (by omega)⟩
    have hv2 := hv.grow hF2
    have hn2 := (hv2.2 p (List.mem_of_getElem? hp)).1
    obtain ⟨p1, p2⟩ := p
    refine Sl.nil ?_
    refine At.weak [(0, _), (1, _), (5, _), (10, _)] ⟨rfl, rfl, rfl, rfl, trivial⟩ ?_
    refine At.go ?_
    refine Sc.cond_t rfl ?_
    refine Sc.skip ?_
    refine At.go ?_
    refine Sc.seq ?_
    refine Sc.block ?_
    refine Sc.seq ?_
    refine Sc.region ?_
    refine Sl.calm (Cm.move rfl) rfl ?_
    refine Sl.calm (Cm.move rfl) rfl ?_
    refine Sl.calm (Cm.indexAddr sl25 rfl rfl hv2.1.non (by omega)) rfl ?_
    refine Sl.calm (Cm.field fld35_0 rfl) rfl ?_
    refine Sl.calm (Cm.ld sca29 rfl (hv2.1.rowZ k rfl hp 0 _ rfl)) rfl ?_
    refine Sl.calm (Cm.move rfl) rfl ?_
    refine Sl.call fn18 rfl ((by show Calls _ _ [Value.slice p1.names.a p1.names.n p1.names.c, _].toArray _ _; rw [hn2.1]; exact rsame_ok p1.names.a so p1.names.c sc p2.names s w2 hn2.2.1 (hs.grow hF2))) rfl ?_
    rintro _ w3 ⟨rfl, hf3⟩
    by_cases h19 : p2.names = s
    ·
      rw [decide_eq_true h19]
      refine Sl.calm (Cm.assign rfl) rfl ?_
      refine Sl.nil ?_
      refine At.weak [(0, _), (1, _), (5, _), (6, _), (10, _)] ⟨rfl, rfl, rfl, rfl, rfl, trivial⟩ ?_
      refine At.go ?_
      refine Sc.seq ?_
      refine Sc.region ?_
      refine Sl.calm (Cm.move rfl) rfl ?_
      refine Sl.nil ?_
      refine At.go ?_
      refine Sc.cond_t rfl ?_
      refine Sc.seq ?_
      refine Sc.region ?_
      refine Sl.calm (Cm.move rfl) rfl ?_
      refine Sl.calm (Cm.assign rfl) rfl ?_
      refine Sl.nil ?_
      refine At.weak [(0, _), (1, _), (4, _), (5, _), (6, _), (10, _), (20, _)] ⟨rfl, rfl, rfl, rfl, rfl, rfl, rfl, trivial⟩ ?_
      refine At.go ?_
      refine Sc.ret ?_
      refine At.block_ret ?_
      refine At.then_ret ?_
      refine At.then_ret ?_
      refine At.block_ret ?_
      refine At.then_ret ?_
      refine At.ret1 rfl rfl ?_
      exact ⟨_, rfl, by rw [findP_hit hp h19 hno], hF2.trans hf3⟩
    ·
      rw [decide_eq_false h19]
      refine Sl.calm (Cm.assign rfl) rfl ?_
      refine Sl.nil ?_
      refine At.weak [(0, _), (1, _), (5, _), (6, _), (10, _)] ⟨rfl, rfl, rfl, rfl, rfl, trivial⟩ ?_
      refine At.go ?_
      refine Sc.seq ?_
      refine Sc.region ?_
      refine Sl.calm (Cm.move rfl) rfl ?_
      refine Sl.nil ?_
      refine At.go ?_
      refine Sc.cond_f rfl ?_
      refine Sc.skip ?_
      refine At.block_normal ?_
      refine At.go ?_
      refine Sc.region ?_
      refine Sl.calm (Cm.move rfl) rfl ?_
      refine Sl.calm (Cm.add64 rfl rfl (by omega)) rfl ?_
      refine Sl.calm (Cm.assign rfl) rfl ?_
      refine Sl.nil ?_
      refine At.again (k + 1) ⟨rfl, rfl, rfl, trivial⟩ ⟨by omega, fun j q hj hq => ?_, hF2.trans hf3⟩ (by show ps.length - (k + 1) < ps.length - k; omega)
      by_cases hjk : j = k
      · subst hjk; rw [hp] at hq; cases hq; exact h19
      · exact hno j q (by omega) hq
  ·
    have hke : k = ps.length := by omega
    subst hke
    refine Sl.nil ?_
    refine At.weak [(0, _), (1, _), (5, _), (10, _)] ⟨rfl, rfl, rfl, rfl, trivial⟩ ?_
    refine At.go ?_
    refine Sc.cond_f rfl ?_
    refine Sc.exit ?_
    refine At.then_exit ?_
    refine At.then_exit ?_
    refine At.block_hit ?_
    refine At.go ?_
    refine Sc.seq ?_
    refine Sc.region ?_
    refine Sl.calm (Cm.assign rfl) rfl ?_
    refine Sl.nil ?_
    refine At.go ?_
    refine Sc.ret ?_
    refine At.ret1 rfl rfl ?_
    refine ⟨_, rfl, ?_, hF2⟩
    rw [findP_miss (fun q hq => by obtain ⟨j, hj⟩ := List.getElem?_of_mem hq; exact hno j q (List.getElem?_eq_some_iff.1 hj).1 hj)]
def isDirP (ps : List (NdH × Nd)) (s : List (List UInt8)) : Prop := 0 ≤ findP ps s ∧ (ps.getD (findP ps s).toNat (ndh0, nd0)).2.kind = 1
instance (ps : List (NdH × Nd)) (s : List (List UInt8)) : Decidable (isDirP ps s) := by unfold isDirP; exact inferInstance
theorem isDirP_iff (ps : List (NdH × Nd)) (s : List (List UInt8)) : isDirP ps s ↔ ∃ (i : Nat) (p : NdH × Nd), findP ps s = i ∧ ps[i]? = some p ∧ p.2.kind = 1 := by
  rcases findP_spec ps s with ⟨h1, h2⟩ | ⟨i, p, h1, h2, h3, h4⟩
  · constructor
    · intro h; have := h.1; omega
    · rintro ⟨i, p, e, _⟩; omega
  · have e : ps.getD (findP ps s).toNat (ndh0, nd0) = p := by rw [h1, List.getD, Int.toNat_natCast, h2]; rfl
    constructor
    · intro h; exact ⟨i, p, h1, h2, by rw [← e]; exact h.2⟩
    · rintro ⟨j, q, e1, hq, hk⟩
      have : j = i := by omega
      subst this; rw [h2] at hq; cases hq
      exact ⟨by omega, by rw [e]; exact hk⟩
theorem risdir_ok (lo : Option Addr) (lc : Nat) (ps : List (NdH × Nd)) (so : Option Addr) (sc : Nat) (s : List (List UInt8)) (W : World) (hv : NodesV D W.heap lo lc ps) (hs : Vw strE W.heap so sc s) :
    Calls Try.prog 53 [.slice lo ps.length lc, .slice so s.length sc].toArray W (Ret fun v w' => v = .bool (decide (isDirP ps s)) ∧ Foot nob W w') := by
  have hsp := findP_spec ps s
  obtain ⟨F, hF⟩ : ∃ F, F = findP ps s := ⟨_, rfl⟩
  refine calls_of_sc 19 [(0, _), (1, _)] Try.func53 rfl rfl rfl (enter_slots ⟨rfl, rfl, trivial⟩) ?_
  refine Sc.seq ?_
  refine Sc.region ?_
  refine Sl.calm (Cm.assign rfl) rfl ?_
  refine Sl.nil ?_
  refine At.go ?_
  refine Sc.seq ?_
  refine Sc.region ?_
  refine Sl.calm (Cm.move rfl) rfl ?_
  refine Sl.calm (Cm.move rfl) rfl ?_
  refine Sl.call fn17 rfl (rfind_ok lo lc ps so sc s W hv hs) rfl ?_
  rintro _ w2 ⟨rfl, hf2⟩
  rw [← hF] at hsp ⊢
  refine Sl.calm (Cm.assign rfl) rfl ?_
  refine Sl.nil ?_
  refine At.weak [(0, _), (1, _), (4, _), (5, _)] ⟨rfl, rfl, rfl, rfl, trivial⟩ ?_
  refine At.go ?_
  refine Sc.seq ?_
  refine Sc.region ?_
  refine Sl.calm (Cm.move rfl) rfl ?_
  refine Sl.fork (Cm.geq rfl rfl) rfl (fun h10 => ?_) (fun h10 => ?_)
  ·
    obtain ⟨i, p, h1, hp, h3, h4⟩ : ∃ (i : Nat) (p : NdH × Nd), F = i ∧ ps[i]? = some p ∧ p.2.names = s ∧ ∀ j q, j < i → ps[j]? = some q → q.2.names ≠ s := hsp.resolve_left (fun h => by have := h.1; omega)
    have hil := (List.getElem?_eq_some_iff.1 hp).1
    refine Sl.calm (Cm.move rfl) rfl ?_
    refine Sl.want rfl rfl (Cm.move rfl) rfl ?_
    refine Sl.want rfl rfl (Cm.move rfl) rfl ?_
    refine Sl.want rfl rfl (Cm.indexAddr sl25 rfl rfl hv.1.non (by omega)) rfl ?_
    refine Sl.want rfl rfl (Cm.field fld35_2 rfl) rfl ?_
    refine Sl.want rfl rfl (Cm.ld sca3 rfl ((hv.1.grow hf2).rowZ i h1 hp 2 _ rfl)) rfl ?_
    refine Sl.forkWant rfl rfl (Cm.eql rfl rfl) rfl (fun h17 => ?_) (fun h17 => ?_)
    ·
      have hyes : isDirP ps s := (isDirP_iff ps s).2 ⟨i, p, by rw [← hF]; exact h1, hp, h17⟩
      refine Sl.calm (Cm.pick_t rfl rfl) rfl ?_
      refine Sl.calm (Cm.assign rfl) rfl ?_
      refine Sl.nil ?_
      refine At.weak [(0, _), (1, _), (4, _), (5, _)] ⟨rfl, rfl, rfl, rfl, trivial⟩ ?_
      refine At.go ?_
      refine Sc.ret ?_
      refine At.ret1 rfl rfl ?_
      first
        | exact ⟨_, rfl, by rw [decide_eq_true hyes], hf2⟩
        | exact ⟨_, rfl, by rw [decide_eq_false hno], hf2⟩
    ·
      have hno : ¬ isDirP ps s := fun h => by
        obtain ⟨j, q, e, hq, hk⟩ := (isDirP_iff ps s).1 h
        rw [← hF, h1] at e
        have e : i = j := by omega
        subst e; rw [hp] at hq; cases hq; exact h17 hk
      refine Sl.calm (Cm.pick_t rfl rfl) rfl ?_
      refine Sl.calm (Cm.assign rfl) rfl ?_
      refine Sl.nil ?_
      refine At.weak [(0, _), (1, _), (4, _), (5, _)] ⟨rfl, rfl, rfl, rfl, trivial⟩ ?_
      refine At.go ?_
      refine Sc.ret ?_
      refine At.ret1 rfl rfl ?_
      first
        | exact ⟨_, rfl, by rw [decide_eq_true hyes], hf2⟩
        | exact ⟨_, rfl, by rw [decide_eq_false hno], hf2⟩
  ·
    have hno : ¬ isDirP ps s := fun h => by have := h.1; rw [← hF] at this; omega
    refine Sl.calm (Cm.move rfl) rfl ?_
    refine Sl.skip rfl rfl rfl rfl ?_
    refine Sl.skip rfl rfl rfl rfl ?_
    refine Sl.skip rfl rfl rfl rfl ?_
    refine Sl.skip rfl rfl rfl rfl ?_
    refine Sl.skip rfl rfl rfl rfl ?_
    refine Sl.skip rfl rfl rfl rfl ?_
    refine Sl.calm (Cm.pick_f rfl rfl) rfl ?_
    refine Sl.calm (Cm.assign rfl) rfl ?_
    refine Sl.nil ?_
    refine At.weak [(0, _), (1, _), (4, _), (5, _)] ⟨rfl, rfl, rfl, rfl, trivial⟩ ?_
    refine At.go ?_
    refine Sc.ret ?_
    refine At.ret1 rfl rfl ?_
    first
      | exact ⟨_, rfl, by rw [decide_eq_true hyes], hf2⟩
      | exact ⟨_, rfl, by rw [decide_eq_false hno], hf2⟩
end Go.Proofs.Ytpamandneifemaa
/- tree, the reference: what is wrong with names; what stands where. No condition beyond the bounds that each states. -/
namespace Go.Proofs.Ytpamandneifemaa
open Go Go.RowKit
set_option linter.unusedVariables false

/-! plain -/
def nmd (l : List Nd) : Int := if nmErr (allNm l) ≠ 0 then nmErr (allNm l) else if ∃ n ∈ l, 16 < n.names.length then 9 else if twiceL l then 6 else 0
def plc (l : List Nd) : Int := if 1024 < l.length then 3 else if nmd l ≠ 0 then nmd l else if ¬ dirAt l [] then 4 else if ∃ n ∈ l, n.names ≠ [] ∧ ¬ dirAt l n.names.dropLast then 5 else 0
theorem chk_plc (l : List Nd) : chk l = if plc l ≠ 0 then plc l else if ∃ n ∈ l, ¬ mayN n then 7 else if l.Pairwise lnkR then 0 else 8 := by
  unfold chk plc nmd
  by_cases h1 : 1024 < l.length
  · simp [h1]
  · by_cases h2 : nmErr (allNm l) = 0
    · by_cases h3 : ∃ n ∈ l, 16 < n.names.length
      · simp [h1, h2, h3]
      · by_cases h4 : twiceL l
        · simp [h1, h2, h3, h4]
        · by_cases h5 : dirAt l []
          · by_cases h6 : ∃ n ∈ l, n.names ≠ [] ∧ ¬ dirAt l n.names.dropLast
            · simp [h1, h2, h3, h4, h5, h6]
            · simp only [h1, h2, h3, h4, h5, h6, if_false, ne_eq, not_true_eq_false]
          · simp [h1, h2, h3, h4, h5]
    · simp [h1, h2]
abbrev nds (ps : List (NdH × Nd)) : List Nd := ps.map (·.2)
theorem nds_get {ps : List (NdH × Nd)} {i : Nat} {p : NdH × Nd} (h : ps[i]? = some p) : (nds ps)[i]? = some p.2 := by simp [nds, h]
theorem nds_take (ps : List (NdH × Nd)) (i : Nat) : nds (ps.take i) = (nds ps).take i := by simp [nds, List.map_take]
theorem twice_iff (ps : List (NdH × Nd)) : twiceL (nds ps) ↔ ∃ (i j : Nat) (p q : NdH × Nd), i < j ∧ ps[i]? = some p ∧ ps[j]? = some q ∧ p.2.names = q.2.names := by
  unfold twiceL
  rw [List.pairwise_iff_getElem]
  constructor
  · intro h
    simp only [Classical.not_forall] at h
    obtain ⟨i, j, h1, h2, h3, h4⟩ := h
    rw [List.length_map] at h1 h2
    exact ⟨i, j, ps[i], ps[j], h3, List.getElem?_eq_getElem h1, List.getElem?_eq_getElem h2, by simpa using h4⟩
  · rintro ⟨i, j, p, q, h1, h2, h3, h4⟩ h
    have e2 := (List.getElem?_eq_some_iff.1 h2)
    have e3 := (List.getElem?_eq_some_iff.1 h3)
    refine h i j (by simpa using e2.1) (by simpa using e3.1) h1 ?_
    simp only [List.getElem_map, e2.2, e3.2]; exact h4
theorem find_le {ps : List (NdH × Nd)} {i : Nat} {p : NdH × Nd} (h : ps[i]? = some p) : 0 ≤ findP ps p.2.names ∧ findP ps p.2.names ≤ i := by
  rcases findP_spec ps p.2.names with ⟨h1, h2⟩ | ⟨j, q, h1, h2, h3, h4⟩
  · exact absurd rfl (h2 p (List.mem_of_getElem? h))
  · refine ⟨by omega, ?_⟩
    by_cases hj : j ≤ i
    · omega
    · exact absurd rfl (h4 i p (by omega) h)
theorem twice_of {ps : List (NdH × Nd)} {i : Nat} {p : NdH × Nd} (h : ps[i]? = some p) (hf : findP ps p.2.names < i) : twiceL (nds ps) := by
  rcases findP_spec ps p.2.names with ⟨h1, h2⟩ | ⟨j, q, h1, h2, h3, h4⟩
  · exact absurd rfl (h2 p (List.mem_of_getElem? h))
  · exact (twice_iff ps).2 ⟨j, i, q, p, by omega, h2, h, h3⟩
theorem twice_not {ps : List (NdH × Nd)} (h : ∀ (i : Nat) (p : NdH × Nd), ps[i]? = some p → ¬ findP ps p.2.names < i) : ¬ twiceL (nds ps) := by
  intro ht
  obtain ⟨i, j, p, q, h1, h2, h3, h4⟩ := (twice_iff ps).1 ht
  have := (find_le h2).2
  have g := h j q h3
  rw [← h4] at g
  omega
theorem dir_iff {ps : List (NdH × Nd)} (ht : ¬ twiceL (nds ps)) (s : List (List UInt8)) : isDirP ps s ↔ dirAt (nds ps) s := by
  rw [isDirP_iff]
  constructor
  · rintro ⟨i, p, h1, h2, h3⟩
    refine ⟨p.2, List.mem_of_getElem? (nds_get h2), ?_, h3⟩
    rcases findP_spec ps s with ⟨g1, _⟩ | ⟨j, q, g1, g2, g3, _⟩
    · omega
    · have : j = i := by omega
      subst this; rw [h2] at g2; cases g2; exact g3
  · rintro ⟨n, hn, h1, h2⟩
    obtain ⟨i, hi⟩ := List.getElem?_of_mem hn
    obtain ⟨p, hp, rfl⟩ : ∃ p, ps[i]? = some p ∧ p.2 = n := by
      simp only [nds, List.getElem?_map, Option.map_eq_some_iff] at hi
      exact hi
    rcases findP_spec ps s with ⟨g1, g2⟩ | ⟨j, q, g1, g2, g3, g4⟩
    · exact absurd h1 (g2 p (List.mem_of_getElem? hp))
    · have : j = i := by
        apply Classical.byContradiction
        intro hne
        rcases Nat.lt_or_gt_of_ne hne with hlt | hgt
        · exact ht ((twice_iff ps).2 ⟨j, i, q, p, hlt, g2, hp, g3.trans h1.symm⟩)
        · exact g4 i p hgt hp h1
      subst this; rw [hp] at g2; cases g2
      exact ⟨j, p, g1, hp, h2⟩

theorem tkN {ps : List (NdH × Nd)} {i : Nat} {p : NdH × Nd} (h : ps[i]? = some p) : (nds ps).take (i + 1) = (nds ps).take i ++ [p.2] := tkL (nds_get h)
theorem allT {ps : List (NdH × Nd)} {i : Nat} {p : NdH × Nd} {R : Nd → Prop} (hp : ps[i]? = some p) (h : ∀ n ∈ (nds ps).take i, R n) (hn : R p.2) : ∀ n ∈ (nds ps).take (i + 1), R n := by
  intro n hm
  rw [tkN hp, List.mem_append, List.mem_singleton] at hm
  rcases hm with hm | rfl
  · exact h n hm
  · exact hn
variable {D : Nat → Prop}
set_option maxHeartbeats 2000000 in
theorem rnamed_ok (lo : Option Addr) (lc : Nat) (ps : List (NdH × Nd)) (W : World) (hv : NodesV D W.heap lo lc ps) (hsm : ∀ p ∈ ps, smN p.2) :
    Calls Try.prog 52 [.slice lo ps.length lc].toArray W (Ret fun v w' => v = .int .i64 (nmd (nds ps)) ∧ Foot nob W w') := by
  have h63 := hv.1.len63
  refine calls_of_sc 64 [(0, _)] Try.func52 rfl rfl rfl (enter_slots ⟨rfl, trivial⟩) ?_
  refine Sc.seq ?_
  refine Sc.region ?_
  refine Sl.calm (Cm.assign rfl) rfl ?_
  refine Sl.nil ?_
  refine At.go ?_
  refine Sc.seq ?_
  refine Sc.seq ?_
  refine Sc.region ?_
  refine Sl.calm (Cm.assign rfl) rfl ?_
  refine Sl.nil ?_
  refine At.go ?_
  refine Sc.block ?_
  refine Sc.loop (β := Nat) (fun i => [(0, .slice lo ps.length lc), (3, .int .i64 i)]) (fun i w => i ≤ ps.length ∧ (∀ s ∈ allNm ((nds ps).take i), vErr s = 0) ∧ Foot nob W w) (fun i => ps.length - i) 0 ⟨rfl, rfl, trivial⟩ ⟨Nat.zero_le _, by simp [allNm], Foot.refl _ _⟩ ?_
  rintro i w2 ⟨hi, hok, hF2⟩
  refine Sc.seq ?_
  refine Sc.seq ?_
  refine Sc.region ?_
  refine Sl.calm (Cm.move rfl) rfl ?_
  refine Sl.calm (Cm.move rfl) rfl ?_
  refine Sl.calm (Cm.len sl25 rfl) rfl ?_
  refine Sl.fork (Cm.lss rfl rfl) rfl (fun h11 => ?_) (fun h11 => ?_)
  ·
    have hil : i < ps.length := by omega
    obtain ⟨p, hp⟩ : ∃ p, ps[i]? = some p := ⟨_, List.getElem?_eq_getElem hil⟩
    have hpm := List.mem_of_getElem? hp
    refine Sl.nil ?_
    refine At.weak [(0, _), (3, _), (11, _)] ⟨rfl, rfl, rfl, trivial⟩ ?_
    refine At.go ?_
    refine Sc.cond_t rfl ?_
    refine Sc.skip ?_
    refine At.go ?_
    refine Sc.seq ?_
    refine Sc.block ?_
    refine Sc.seq ?_
    refine Sc.region ?_
    refine Sl.calm (Cm.assign rfl) rfl ?_
    refine Sl.nil ?_
    refine At.go ?_
    refine Sc.block ?_
    refine Sc.loop (β := Nat) (fun k => [(0, .slice lo ps.length lc), (3, .int .i64 i), (4, .int .i64 k)]) (fun k w => k ≤ p.2.names.length ∧ (∀ s ∈ p.2.names.take k, vErr s = 0) ∧ Foot nob W w) (fun k => p.2.names.length - k) 0 ⟨rfl, rfl, rfl, trivial⟩ ⟨Nat.zero_le _, by simp, hF2⟩ ?_
    rintro k w3 ⟨hk, hok2, hF3⟩
    refine Sc.seq ?_
    refine Sc.seq ?_
    refine Sc.region ?_
    refine Sl.calm (Cm.move rfl) rfl ?_
    refine Sl.calm (Cm.move rfl) rfl ?_
    refine Sl.calm (Cm.move rfl) rfl ?_
    have hv3 := hv.grow hF3
    have hn3 := (hv3.2 p hpm).1
    refine Sl.calm (Cm.indexAddr sl25 rfl rfl hv3.1.non (by omega)) rfl ?_
    refine Sl.calm (Cm.field fld35_0 rfl) rfl ?_
    refine Sl.calm (Cm.ld sca29 rfl (hv3.1.rowZ i rfl hp 0 _ rfl)) rfl ?_
    refine Sl.calm (Cm.len sl29 rfl) rfl ?_
    rw [hn3.1]
    refine Sl.fork (Cm.lss rfl rfl) rfl (fun h21 => ?_) (fun h21 => ?_)
    ·
      have hkl : k < p.2.names.length := by omega
      have hl63 := hn3.2.1.len63
      obtain ⟨s, hs⟩ : ∃ s, p.2.names[k]? = some s := ⟨_, List.getElem?_eq_getElem hkl⟩
      refine Sl.nil ?_
      refine At.weak [(0, _), (3, _), (4, _), (21, _)] ⟨rfl, rfl, rfl, rfl, trivial⟩ ?_
      refine At.go ?_
      refine Sc.cond_t rfl ?_
      refine Sc.skip ?_
      refine At.go ?_
      refine Sc.seq ?_
      refine Sc.block ?_
      refine Sc.seq ?_
      refine Sc.region ?_
      refine Sl.calm (Cm.move rfl) rfl ?_
      refine Sl.calm (Cm.move rfl) rfl ?_
      refine Sl.calm (Cm.indexAddr sl25 rfl rfl hv3.1.non (by omega)) rfl ?_
      refine Sl.calm (Cm.field fld35_0 rfl) rfl ?_
      refine Sl.calm (Cm.ld sca29 rfl (hv3.1.rowZ i rfl hp 0 _ rfl)) rfl ?_
      refine Sl.calm (Cm.move rfl) rfl ?_
      refine Sl.calm (Cm.indexAddr1 sl29 rfl rfl (by rw [hn3.1]; exact hn3.2.1.non) (by have := hn3.1; omega)) rfl ?_
      refine Sl.calm (Cm.ld sca9 rfl (hn3.2.1.get k s hs)) rfl ?_
      refine Sl.call fn42 rfl (rvalid_ok s w3 ((hsm p hpm).2.1 s (List.mem_of_getElem? hs))) rfl ?_
      rintro _ w4 ⟨rfl, rfl⟩
      refine Sl.calm (Cm.assign rfl) rfl ?_
      refine Sl.nil ?_
      refine At.weak [(0, _), (3, _), (4, _), (5, _), (21, _)] ⟨rfl, rfl, rfl, rfl, rfl, trivial⟩ ?_
      refine At.go ?_
      refine Sc.seq ?_
      refine Sc.region ?_
      refine Sl.calm (Cm.move rfl) rfl ?_
      refine Sl.fork (Cm.neq rfl rfl) rfl (fun h34 => ?_) (fun h34 => ?_)
      ·
        refine Sl.nil ?_
        refine At.weak [(0, _), (3, _), (4, _), (5, _), (21, _), (34, _)] ⟨rfl, rfl, rfl, rfl, rfl, rfl, trivial⟩ ?_
        refine At.go ?_
        refine Sc.cond_t rfl ?_
        refine Sc.seq ?_
        refine Sc.region ?_
        refine Sl.calm (Cm.move rfl) rfl ?_
        refine Sl.calm (Cm.assign rfl) rfl ?_
        refine Sl.nil ?_
        refine At.weak [(0, _), (2, _), (3, _), (4, _), (5, _), (21, _), (34, _)] ⟨rfl, rfl, rfl, rfl, rfl, rfl, rfl, trivial⟩ ?_
        refine At.go ?_
        refine Sc.ret ?_
        refine At.block_ret ?_
        refine At.then_ret ?_
        refine At.then_ret ?_
        refine At.block_ret ?_
        refine At.block_ret ?_
        refine At.then_ret ?_
        refine At.then_ret ?_
        refine At.block_ret ?_
        refine At.then_ret ?_
        refine At.ret1 rfl rfl ?_
        have e := nmErr_at (nds_get hp) hs hok hok2 h34
        refine ⟨_, rfl, ?_, hF3⟩
        unfold nmd; rw [e, if_pos h34]
      ·
        refine Sl.nil ?_
        refine At.weak [(0, _), (3, _), (4, _), (5, _), (21, _), (34, _)] ⟨rfl, rfl, rfl, rfl, rfl, rfl, trivial⟩ ?_
        refine At.go ?_
        refine Sc.cond_f rfl ?_
        refine Sc.skip ?_
        refine At.block_normal ?_
        refine At.go ?_
        refine Sc.region ?_
        refine Sl.calm (Cm.move rfl) rfl ?_
        refine Sl.calm (Cm.add64 rfl rfl (by omega)) rfl ?_
        refine Sl.calm (Cm.assign rfl) rfl ?_
        refine Sl.nil ?_
        refine At.again (k + 1) ⟨rfl, rfl, rfl, trivial⟩ ⟨by omega, fun t ht => ?_, hF3⟩ (by show p.2.names.length - (k + 1) < p.2.names.length - k; omega)
        rw [tkL hs, List.mem_append, List.mem_singleton] at ht
        rcases ht with ht | rfl
        · exact hok2 t ht
        · exact Classical.not_not.1 h34
    ·
      have hke : k = p.2.names.length := by omega
      subst hke
      rw [List.take_length] at hok2
      refine Sl.nil ?_
      refine At.weak [(0, _), (3, _), (4, _), (21, _)] ⟨rfl, rfl, rfl, rfl, trivial⟩ ?_
      refine At.go ?_
      refine Sc.cond_f rfl ?_
      refine Sc.exit ?_
      refine At.then_exit ?_
      refine At.then_exit ?_
      refine At.block_hit ?_
      refine At.block_normal ?_
      refine At.go ?_
      refine Sc.region ?_
      refine Sl.calm (Cm.move rfl) rfl ?_
      refine Sl.calm (Cm.add64 rfl rfl (by omega)) rfl ?_
      refine Sl.calm (Cm.assign rfl) rfl ?_
      refine Sl.nil ?_
      refine At.again (i + 1) ⟨rfl, rfl, trivial⟩ ⟨by omega, fun s hs => ?_, hF3⟩ (by show ps.length - (i + 1) < ps.length - i; omega)
      rw [tkN hp, allNm_snoc, List.mem_append] at hs
      exact hs.elim (hok s) (hok2 s)
  ·
    have hie : i = ps.length := by omega
    subst hie
    rw [List.take_of_length_le (by simp)] at hok
    refine Sl.nil ?_
    refine At.weak [(0, _), (3, _), (11, _)] ⟨rfl, rfl, rfl, trivial⟩ ?_
    refine At.go ?_
    refine Sc.cond_f rfl ?_
    refine Sc.exit ?_
    refine At.then_exit ?_
    refine At.then_exit ?_
    refine At.block_hit ?_
    refine At.go ?_
    refine Sc.seq ?_
    refine Sc.seq ?_
    refine Sc.region ?_
    refine Sl.calm (Cm.assign rfl) rfl ?_
    refine Sl.nil ?_
    refine At.go ?_
    refine Sc.block ?_
    have hz : nmErr (allNm (nds ps)) = 0 := nmErr_zero hok
    refine Sc.loop (β := Nat) (fun j => [(0, .slice lo ps.length lc), (6, .int .i64 j)]) (fun j w => j ≤ ps.length ∧ (∀ n ∈ (nds ps).take j, ¬ 16 < n.names.length) ∧ Foot nob W w) (fun j => ps.length - j) 0 ⟨rfl, rfl, trivial⟩ ⟨Nat.zero_le _, by simp, hF2⟩ ?_
    rintro j w3 ⟨hj, hdp, hF3⟩
    refine Sc.seq ?_
    refine Sc.seq ?_
    refine Sc.region ?_
    refine Sl.calm (Cm.move rfl) rfl ?_
    refine Sl.calm (Cm.move rfl) rfl ?_
    refine Sl.calm (Cm.len sl25 rfl) rfl ?_
    refine Sl.fork (Cm.lss rfl rfl) rfl (fun h39 => ?_) (fun h39 => ?_)
    ·
      have hjl : j < ps.length := by omega
      obtain ⟨p, hp⟩ : ∃ p, ps[j]? = some p := ⟨_, List.getElem?_eq_getElem hjl⟩
      have hpm := List.mem_of_getElem? hp
      have hv3 := hv.grow hF3
      have hn3 := (hv3.2 p hpm).1
      refine Sl.nil ?_
      refine At.weak [(0, _), (6, _), (39, _)] ⟨rfl, rfl, rfl, trivial⟩ ?_
      refine At.go ?_
      refine Sc.cond_t rfl ?_
      refine Sc.skip ?_
      refine At.go ?_
      refine Sc.seq ?_
      refine Sc.block ?_
      refine Sc.seq ?_
      refine Sc.region ?_
      refine Sl.calm (Cm.move rfl) rfl ?_
      refine Sl.calm (Cm.move rfl) rfl ?_
      refine Sl.calm (Cm.indexAddr sl25 rfl rfl hv3.1.non (by omega)) rfl ?_
      refine Sl.calm (Cm.field fld35_0 rfl) rfl ?_
      refine Sl.calm (Cm.ld sca29 rfl (hv3.1.rowZ j rfl hp 0 _ rfl)) rfl ?_
      refine Sl.calm (Cm.len sl29 rfl) rfl ?_
      rw [hn3.1]
      refine Sl.fork (Cm.gtr rfl rfl) rfl (fun h48 => ?_) (fun h48 => ?_)
      ·
        refine Sl.nil ?_
        refine At.weak [(0, _), (6, _), (39, _), (48, _)] ⟨rfl, rfl, rfl, rfl, trivial⟩ ?_
        refine At.go ?_
        refine Sc.cond_t rfl ?_
        refine Sc.seq ?_
        refine Sc.region ?_
        refine Sl.calm (Cm.assign rfl) rfl ?_
        refine Sl.nil ?_
        refine At.go ?_
        refine Sc.ret ?_
        refine At.block_ret ?_
        refine At.then_ret ?_
        refine At.then_ret ?_
        refine At.block_ret ?_
        refine At.then_ret ?_
        refine At.ret1 rfl rfl ?_
        refine ⟨_, rfl, ?_, hF3⟩
        unfold nmd; rw [if_neg (fun h => h hz), if_pos ⟨p.2, List.mem_of_getElem? (nds_get hp), by omega⟩]
      ·
        refine Sl.nil ?_
        refine At.weak [(0, _), (6, _), (39, _), (48, _)] ⟨rfl, rfl, rfl, rfl, trivial⟩ ?_
        refine At.go ?_
        refine Sc.cond_f rfl ?_
        refine Sc.skip ?_
        refine At.block_normal ?_
        refine At.go ?_
        refine Sc.region ?_
        refine Sl.calm (Cm.move rfl) rfl ?_
        refine Sl.calm (Cm.add64 rfl rfl (by omega)) rfl ?_
        refine Sl.calm (Cm.assign rfl) rfl ?_
        refine Sl.nil ?_
        refine At.again (j + 1) ⟨rfl, rfl, trivial⟩ ⟨by omega, fun n hn => ?_, hF3⟩ (by show ps.length - (j + 1) < ps.length - j; omega)
        rw [tkN hp, List.mem_append, List.mem_singleton] at hn
        rcases hn with hn | rfl
        · exact hdp n hn
        · omega
    ·
      have hje : j = ps.length := by omega
      subst hje
      rw [List.take_of_length_le (by simp)] at hdp
      refine Sl.nil ?_
      refine At.weak [(0, _), (6, _), (39, _)] ⟨rfl, rfl, rfl, trivial⟩ ?_
      refine At.go ?_
      refine Sc.cond_f rfl ?_
      refine Sc.exit ?_
      refine At.then_exit ?_
      refine At.then_exit ?_
      refine At.block_hit ?_
      refine At.go ?_
      refine Sc.seq ?_
      refine Sc.seq ?_
      refine Sc.region ?_
      refine Sl.calm (Cm.assign rfl) rfl ?_
      refine Sl.nil ?_
      refine At.go ?_
      refine Sc.block ?_
      have hd : ¬ ∃ n ∈ nds ps, 16 < n.names.length := fun ⟨n, hn, h⟩ => hdp n hn h
      refine Sc.loop (β := Nat) (fun j => [(0, .slice lo ps.length lc), (7, .int .i64 j)]) (fun j w => j ≤ ps.length ∧ (∀ (i : Nat) (p : NdH × Nd), i < j → ps[i]? = some p → ¬ findP ps p.2.names < i) ∧ Foot nob W w) (fun j => ps.length - j) 0 ⟨rfl, rfl, trivial⟩ ⟨Nat.zero_le _, fun i p hi => by omega, hF3⟩ ?_
      rintro j w3 ⟨hj, hno, hF3⟩
      refine Sc.seq ?_
      refine Sc.seq ?_
      refine Sc.region ?_
      refine Sl.calm (Cm.move rfl) rfl ?_
      refine Sl.calm (Cm.move rfl) rfl ?_
      refine Sl.calm (Cm.len sl25 rfl) rfl ?_
      refine Sl.fork (Cm.lss rfl rfl) rfl (fun h52 => ?_) (fun h52 => ?_)
      ·
        have hjl : j < ps.length := by omega
        obtain ⟨p, hp⟩ : ∃ p, ps[j]? = some p := ⟨_, List.getElem?_eq_getElem hjl⟩
        have hpm := List.mem_of_getElem? hp
        have hv3 := hv.grow hF3
        have hn3 := (hv3.2 p hpm).1
        refine Sl.nil ?_
        refine At.weak [(0, _), (7, _), (52, _)] ⟨rfl, rfl, rfl, trivial⟩ ?_
        refine At.go ?_
        refine Sc.cond_t rfl ?_
        refine Sc.skip ?_
        refine At.go ?_
        refine Sc.seq ?_
        refine Sc.block ?_
        refine Sc.seq ?_
        refine Sc.region ?_
        refine Sl.calm (Cm.move rfl) rfl ?_
        refine Sl.calm (Cm.move rfl) rfl ?_
        refine Sl.calm (Cm.move rfl) rfl ?_
        refine Sl.calm (Cm.indexAddr sl25 rfl rfl hv3.1.non (by omega)) rfl ?_
        refine Sl.calm (Cm.field fld35_0 rfl) rfl ?_
        refine Sl.calm (Cm.ld sca29 rfl (hv3.1.rowZ j rfl hp 0 _ rfl)) rfl ?_
        refine Sl.call fn17 rfl ((by show Calls _ _ [_, Value.slice p.1.names.a p.1.names.n p.1.names.c].toArray _ _; rw [hn3.1]; exact rfind_ok lo lc ps p.1.names.a p.1.names.c p.2.names w3 hv3 hn3.2.1)) rfl ?_
        rintro _ w4 ⟨rfl, hf4⟩
        refine Sl.calm (Cm.move rfl) rfl ?_
        refine Sl.fork (Cm.lss rfl rfl) rfl (fun h63 => ?_) (fun h63 => ?_)
        ·
          refine Sl.nil ?_
          refine At.weak [(0, _), (7, _), (52, _), (63, _)] ⟨rfl, rfl, rfl, rfl, trivial⟩ ?_
          refine At.go ?_
          refine Sc.cond_t rfl ?_
          refine Sc.seq ?_
          refine Sc.region ?_
          refine Sl.calm (Cm.assign rfl) rfl ?_
          refine Sl.nil ?_
          refine At.go ?_
          refine Sc.ret ?_
          refine At.block_ret ?_
          refine At.then_ret ?_
          refine At.then_ret ?_
          refine At.block_ret ?_
          refine At.then_ret ?_
          refine At.ret1 rfl rfl ?_
          refine ⟨_, rfl, ?_, hF3.trans hf4⟩
          unfold nmd; rw [if_neg (fun h => h hz), if_neg hd, if_pos (twice_of hp h63)]
        ·
          refine Sl.nil ?_
          refine At.weak [(0, _), (7, _), (52, _), (63, _)] ⟨rfl, rfl, rfl, rfl, trivial⟩ ?_
          refine At.go ?_
          refine Sc.cond_f rfl ?_
          refine Sc.skip ?_
          refine At.block_normal ?_
          refine At.go ?_
          refine Sc.region ?_
          refine Sl.calm (Cm.move rfl) rfl ?_
          refine Sl.calm (Cm.add64 rfl rfl (by omega)) rfl ?_
          refine Sl.calm (Cm.assign rfl) rfl ?_
          refine Sl.nil ?_
          refine At.again (j + 1) ⟨rfl, rfl, trivial⟩ ⟨by omega, fun i q hi hq => ?_, hF3.trans hf4⟩ (by show ps.length - (j + 1) < ps.length - j; omega)
          by_cases e : i = j
          · subst e; rw [hp] at hq; cases hq; exact h63
          · exact hno i q (by omega) hq
      ·
        have hje : j = ps.length := by omega
        subst hje
        refine Sl.nil ?_
        refine At.weak [(0, _), (7, _), (52, _)] ⟨rfl, rfl, rfl, trivial⟩ ?_
        refine At.go ?_
        refine Sc.cond_f rfl ?_
        refine Sc.exit ?_
        refine At.then_exit ?_
        refine At.then_exit ?_
        refine At.block_hit ?_
        refine At.go ?_
        refine Sc.seq ?_
        refine Sc.region ?_
        refine Sl.calm (Cm.assign rfl) rfl ?_
        refine Sl.nil ?_
        refine At.go ?_
        refine Sc.ret ?_
        refine At.ret1 rfl rfl ?_
        refine ⟨_, rfl, ?_, hF3⟩
        unfold nmd; rw [if_neg (fun h => h hz), if_neg hd, if_neg (twice_not fun i p h => hno i p (List.getElem?_eq_some_iff.1 h).1 h)]
theorem nmd_zero {l : List Nd} (h : nmd l = 0) : (∀ s ∈ allNm l, vErr s = 0) ∧ (∀ n ∈ l, n.names.length ≤ 16) ∧ ¬ twiceL l := by
  unfold nmd at h
  by_cases h1 : nmErr (allNm l) = 0
  · rw [if_neg (fun g => g h1)] at h
    by_cases h2 : ∃ n ∈ l, 16 < n.names.length
    · rw [if_pos h2] at h; simp at h
    · rw [if_neg h2] at h
      by_cases h3 : twiceL l
      · rw [if_pos h3] at h; simp at h
      · exact ⟨nmErr_zero' h1, fun n hn => by have : ¬ 16 < n.names.length := fun g => h2 ⟨n, hn, g⟩; omega, h3⟩
  · rw [if_pos h1] at h; exact absurd h h1
theorem drop_take {α : Type} (l : List α) : l.dropLast = l.take (l.length - 1) := by rw [List.dropLast_eq_take]
set_option maxHeartbeats 1000000 in
theorem rplaced_ok (lo : Option Addr) (lc : Nat) (ps : List (NdH × Nd)) (W : World) (hv : NodesV D W.heap lo lc ps) (hsm : ∀ p ∈ ps, smN p.2) :
    Calls Try.prog 40 [.slice lo ps.length lc].toArray W (Ret fun v w' => v = .int .i64 (plc (nds ps)) ∧ Foot nob W w') := by
  have h63 := hv.1.len63
  have hll : (nds ps).length = ps.length := by simp
  refine calls_of_sc 43 [(0, _)] Try.func40 rfl rfl rfl (enter_slots ⟨rfl, trivial⟩) ?_
  refine Sc.seq ?_
  refine Sc.region ?_
  refine Sl.calm (Cm.assign rfl) rfl ?_
  refine Sl.nil ?_
  refine At.go ?_
  refine Sc.seq ?_
  refine Sc.seq ?_
  refine Sc.region ?_
  refine Sl.calm (Cm.move rfl) rfl ?_
  refine Sl.calm (Cm.len sl25 rfl) rfl ?_
  refine Sl.fork (Cm.gtr rfl rfl) rfl (fun h9 => ?_) (fun h9 => ?_)
  ·
    refine Sl.nil ?_
    refine At.weak [(0, _), (2, _), (9, _)] ⟨rfl, rfl, rfl, trivial⟩ ?_
    refine At.go ?_
    refine Sc.cond_t rfl ?_
    refine Sc.seq ?_
    refine Sc.region ?_
    refine Sl.calm (Cm.assign rfl) rfl ?_
    refine Sl.nil ?_
    refine At.go ?_
    refine Sc.ret ?_
    refine At.then_ret ?_
    refine At.ret1 rfl rfl ?_
    refine ⟨_, rfl, ?_, Foot.refl _ _⟩
    unfold plc; rw [if_pos (by omega)]
  ·
    refine Sl.nil ?_
    refine At.weak [(0, _), (2, _), (9, _)] ⟨rfl, rfl, rfl, trivial⟩ ?_
    refine At.go ?_
    refine Sc.cond_f rfl ?_
    refine Sc.skip ?_
    refine At.go ?_
    refine Sc.seq ?_
    refine Sc.region ?_
    refine Sl.calm (Cm.move rfl) rfl ?_
    refine Sl.call fn52 rfl (rnamed_ok lo lc ps W hv hsm) rfl ?_
    rintro _ w2 ⟨rfl, hf2⟩
    refine Sl.calm (Cm.assign rfl) rfl ?_
    refine Sl.nil ?_
    refine At.weak [(0, _), (2, _), (3, _), (9, _)] ⟨rfl, rfl, rfl, rfl, trivial⟩ ?_
    refine At.go ?_
    refine Sc.seq ?_
    refine Sc.seq ?_
    refine Sc.region ?_
    refine Sl.calm (Cm.move rfl) rfl ?_
    refine Sl.fork (Cm.neq rfl rfl) rfl (fun h13 => ?_) (fun h13 => ?_)
    ·
      refine Sl.nil ?_
      refine At.weak [(0, _), (2, _), (3, _), (9, _), (13, _)] ⟨rfl, rfl, rfl, rfl, rfl, trivial⟩ ?_
      refine At.go ?_
      refine Sc.cond_t rfl ?_
      refine Sc.seq ?_
      refine Sc.region ?_
      refine Sl.calm (Cm.move rfl) rfl ?_
      refine Sl.calm (Cm.assign rfl) rfl ?_
      refine Sl.nil ?_
      refine At.weak [(0, _), (2, _), (3, _), (9, _), (13, _)] ⟨rfl, rfl, rfl, rfl, rfl, trivial⟩ ?_
      refine At.go ?_
      refine Sc.ret ?_
      refine At.then_ret ?_
      refine At.ret1 rfl rfl ?_
      refine ⟨_, rfl, ?_, hf2⟩
      unfold plc; rw [if_neg (by omega), if_pos h13]
    ·
      have hz : nmd (nds ps) = 0 := Classical.not_not.1 h13
      have hz3 := nmd_zero hz
      refine Sl.nil ?_
      refine At.weak [(0, _), (2, _), (3, _), (9, _), (13, _)] ⟨rfl, rfl, rfl, rfl, rfl, trivial⟩ ?_
      refine At.go ?_
      refine Sc.cond_f rfl ?_
      refine Sc.skip ?_
      refine At.go ?_
      refine Sc.seq ?_
      refine Sc.region ?_
      refine Sl.calm (Cm.move rfl) rfl ?_
      refine Sl.call fn53 rfl (risdir_ok lo lc ps none 0 [] w2 (hv.grow hf2) (Vw.nil 0 (Nat.zero_le _))) rfl ?_
      rintro _ w3 ⟨rfl, hf3⟩
      by_cases h16 : isDirP ps []
      ·
        rw [decide_eq_true h16]
        refine Sl.calm (Cm.assign rfl) rfl ?_
        refine Sl.nil ?_
        refine At.weak [(0, _), (2, _), (3, _), (4, _), (9, _), (13, _)] ⟨rfl, rfl, rfl, rfl, rfl, rfl, trivial⟩ ?_
        refine At.go ?_
        refine Sc.seq ?_
        refine Sc.seq ?_
        refine Sc.region ?_
        refine Sl.calm (Cm.move rfl) rfl ?_
        refine Sl.calm (Cm.not rfl) rfl ?_
        refine Sl.nil ?_
        refine At.weak [(0, _), (2, _), (3, _), (4, _), (9, _), (13, _), (18, _)] ⟨rfl, rfl, rfl, rfl, rfl, rfl, rfl, trivial⟩ ?_
        refine At.go ?_
        refine Sc.cond_f rfl ?_
        refine Sc.skip ?_
        refine At.go ?_
        refine Sc.seq ?_
        refine Sc.seq ?_
        refine Sc.region ?_
        refine Sl.calm (Cm.assign rfl) rfl ?_
        refine Sl.nil ?_
        refine At.go ?_
        refine Sc.block ?_
        refine Sc.loop (β := Nat) (fun i => [(0, .slice lo ps.length lc), (5, .int .i64 i)]) (fun i w => i ≤ ps.length ∧ (∀ n ∈ (nds ps).take i, ¬ (n.names ≠ [] ∧ ¬ dirAt (nds ps) n.names.dropLast)) ∧ Foot nob W w) (fun i => ps.length - i) 0 ⟨rfl, rfl, trivial⟩ ⟨Nat.zero_le _, by simp, hf2.trans hf3⟩ ?_
        rintro i w4 ⟨hi, hok, hF4⟩
        refine Sc.seq ?_
        refine Sc.seq ?_
        refine Sc.region ?_
        refine Sl.calm (Cm.move rfl) rfl ?_
        refine Sl.calm (Cm.move rfl) rfl ?_
        refine Sl.calm (Cm.len sl25 rfl) rfl ?_
        refine Sl.fork (Cm.lss rfl rfl) rfl (fun h22 => ?_) (fun h22 => ?_)
        ·
          have hil : i < ps.length := by omega
          obtain ⟨p, hp⟩ : ∃ p, ps[i]? = some p := ⟨_, List.getElem?_eq_getElem hil⟩
          have hpm := List.mem_of_getElem? hp
          have hv4 := hv.grow hF4
          have hn4 := (hv4.2 p hpm).1
          have hl63 := hn4.2.1.len63
          refine Sl.nil ?_
          refine At.weak [(0, _), (5, _), (22, _)] ⟨rfl, rfl, rfl, trivial⟩ ?_
          refine At.go ?_
          refine Sc.cond_t rfl ?_
          refine Sc.skip ?_
          refine At.go ?_
          refine Sc.seq ?_
          refine Sc.block ?_
          refine Sc.seq ?_
          refine Sc.region ?_
          refine Sl.calm (Cm.move rfl) rfl ?_
          refine Sl.calm (Cm.move rfl) rfl ?_
          refine Sl.calm (Cm.indexAddr sl25 rfl rfl hv4.1.non (by omega)) rfl ?_
          refine Sl.calm (Cm.field fld35_0 rfl) rfl ?_
          refine Sl.calm (Cm.ld sca29 rfl (hv4.1.rowZ i rfl hp 0 _ rfl)) rfl ?_
          refine Sl.calm (Cm.assign rfl) rfl ?_
          refine Sl.nil ?_
          refine At.weak [(0, _), (5, _), (6, _), (22, _)] ⟨rfl, rfl, rfl, rfl, trivial⟩ ?_
          refine At.go ?_
          refine Sc.seq ?_
          refine Sc.region ?_
          refine Sl.calm (Cm.move rfl) rfl ?_
          refine Sl.calm (Cm.len sl29 rfl) rfl ?_
          rw [hn4.1]
          refine Sl.fork (Cm.gtr rfl rfl) rfl (fun h32 => ?_) (fun h32 => ?_)
          ·
            refine Sl.calm (Cm.move rfl) rfl ?_
            refine Sl.want rfl rfl (Cm.move rfl) rfl ?_
            refine Sl.want rfl rfl (Cm.move rfl) rfl ?_
            refine Sl.want rfl rfl (Cm.move rfl) rfl ?_
            refine Sl.want rfl rfl (Cm.len sl29 rfl) rfl ?_
            rw [hn4.1]
            refine Sl.want rfl rfl (Cm.sub64 rfl rfl (by omega)) rfl ?_
            refine Sl.want rfl rfl (Cm.ofEq (u := .slice p.1.names.a p.2.names.dropLast.length p.1.names.c) (Cm.sliceH sl29 rfl rfl (by have := hn4.2.1.le; omega)) (by rw [cutAo_zero, List.length_dropLast]; congr 1; omega)) rfl ?_
            refine Sl.callWant rfl rfl fn53 rfl (risdir_ok lo lc ps p.1.names.a p.1.names.c p.2.names.dropLast w4 hv4 (by rw [drop_take]; exact hn4.2.1.take _)) rfl ?_
            rintro _ w5 ⟨rfl, hf5⟩
            by_cases h40 : isDirP ps p.2.names.dropLast
            ·
              rw [decide_eq_true h40]
              refine Sl.want rfl rfl (Cm.not rfl) rfl ?_
              refine Sl.calm (Cm.pick_t rfl rfl) rfl ?_
              refine Sl.nil ?_
              refine At.weak [(0, _), (5, _), (6, _), (22, _), (42, _)] ⟨rfl, rfl, rfl, rfl, rfl, trivial⟩ ?_
              refine At.go ?_
              refine Sc.cond_f rfl ?_
              refine Sc.skip ?_
              refine At.block_normal ?_
              refine At.go ?_
              refine Sc.region ?_
              refine Sl.calm (Cm.move rfl) rfl ?_
              refine Sl.calm (Cm.add64 rfl rfl (by omega)) rfl ?_
              refine Sl.calm (Cm.assign rfl) rfl ?_
              refine Sl.nil ?_
              first
                | exact At.again (i + 1) ⟨rfl, rfl, trivial⟩ ⟨by omega, allT hp hok (fun ⟨_, h⟩ => h ((dir_iff hz3.2.2 _).1 h40)), hF4.trans hf5⟩ (by show ps.length - (i + 1) < ps.length - i; omega)
                | exact At.again (i + 1) ⟨rfl, rfl, trivial⟩ ⟨by omega, allT hp hok (fun ⟨h, _⟩ => h (List.length_eq_zero_iff.1 (by omega))), hF4⟩ (by show ps.length - (i + 1) < ps.length - i; omega)
            ·
              rw [decide_eq_false h40]
              refine Sl.want rfl rfl (Cm.not rfl) rfl ?_
              refine Sl.calm (Cm.pick_t rfl rfl) rfl ?_
              refine Sl.nil ?_
              refine At.weak [(0, _), (5, _), (6, _), (22, _), (42, _)] ⟨rfl, rfl, rfl, rfl, rfl, trivial⟩ ?_
              refine At.go ?_
              refine Sc.cond_t rfl ?_
              refine Sc.seq ?_
              refine Sc.region ?_
              refine Sl.calm (Cm.assign rfl) rfl ?_
              refine Sl.nil ?_
              refine At.go ?_
              refine Sc.ret ?_
              refine At.block_ret ?_
              refine At.then_ret ?_
              refine At.then_ret ?_
              refine At.block_ret ?_
              refine At.then_ret ?_
              refine At.ret1 rfl rfl ?_
              refine ⟨_, rfl, ?_, hF4.trans hf5⟩
              unfold plc; rw [if_neg (by omega), if_neg (fun h => h hz), if_neg (fun h => h ((dir_iff hz3.2.2 _).1 h16)), if_pos ⟨p.2, List.mem_of_getElem? (nds_get hp), fun e => by rw [e] at h32; simp at h32, fun h => h40 ((dir_iff hz3.2.2 _).2 h)⟩]
          ·
            refine Sl.calm (Cm.move rfl) rfl ?_
            refine Sl.skip rfl rfl rfl rfl ?_
            refine Sl.skip rfl rfl rfl rfl ?_
            refine Sl.skip rfl rfl rfl rfl ?_
            refine Sl.skip rfl rfl rfl rfl ?_
            refine Sl.skip rfl rfl rfl rfl ?_
            refine Sl.skip rfl rfl rfl rfl ?_
            refine Sl.skip rfl rfl rfl rfl ?_
            refine Sl.skip rfl rfl rfl rfl ?_
            refine Sl.calm (Cm.pick_f rfl rfl) rfl ?_
            refine Sl.nil ?_
            refine At.weak [(0, _), (5, _), (6, _), (22, _), (42, _)] ⟨rfl, rfl, rfl, rfl, rfl, trivial⟩ ?_
            refine At.go ?_
            refine Sc.cond_f rfl ?_
            refine Sc.skip ?_
            refine At.block_normal ?_
            refine At.go ?_
            refine Sc.region ?_
            refine Sl.calm (Cm.move rfl) rfl ?_
            refine Sl.calm (Cm.add64 rfl rfl (by omega)) rfl ?_
            refine Sl.calm (Cm.assign rfl) rfl ?_
            refine Sl.nil ?_
            first
              | exact At.again (i + 1) ⟨rfl, rfl, trivial⟩ ⟨by omega, allT hp hok (fun ⟨_, h⟩ => h ((dir_iff hz3.2.2 _).1 h40)), hF4.trans hf5⟩ (by show ps.length - (i + 1) < ps.length - i; omega)
              | exact At.again (i + 1) ⟨rfl, rfl, trivial⟩ ⟨by omega, allT hp hok (fun ⟨h, _⟩ => h (List.length_eq_zero_iff.1 (by omega))), hF4⟩ (by show ps.length - (i + 1) < ps.length - i; omega)
        ·
          have hie : i = ps.length := by omega
          subst hie
          rw [List.take_of_length_le (by simp)] at hok
          refine Sl.nil ?_
          refine At.weak [(0, _), (5, _), (22, _)] ⟨rfl, rfl, rfl, trivial⟩ ?_
          refine At.go ?_
          refine Sc.cond_f rfl ?_
          refine Sc.exit ?_
          refine At.then_exit ?_
          refine At.then_exit ?_
          refine At.block_hit ?_
          refine At.go ?_
          refine Sc.seq ?_
          refine Sc.region ?_
          refine Sl.calm (Cm.assign rfl) rfl ?_
          refine Sl.nil ?_
          refine At.go ?_
          refine Sc.ret ?_
          refine At.ret1 rfl rfl ?_
          refine ⟨_, rfl, ?_, hF4⟩
          unfold plc; rw [if_neg (by omega), if_neg (fun h => h hz), if_neg (fun h => h ((dir_iff hz3.2.2 _).1 h16)), if_neg (fun ⟨n, hn, h⟩ => hok n hn h)]
      ·
        rw [decide_eq_false h16]
        refine Sl.calm (Cm.assign rfl) rfl ?_
        refine Sl.nil ?_
        refine At.weak [(0, _), (2, _), (3, _), (4, _), (9, _), (13, _)] ⟨rfl, rfl, rfl, rfl, rfl, rfl, trivial⟩ ?_
        refine At.go ?_
        refine Sc.seq ?_
        refine Sc.seq ?_
        refine Sc.region ?_
        refine Sl.calm (Cm.move rfl) rfl ?_
        refine Sl.calm (Cm.not rfl) rfl ?_
        refine Sl.nil ?_
        refine At.weak [(0, _), (2, _), (3, _), (4, _), (9, _), (13, _), (18, _)] ⟨rfl, rfl, rfl, rfl, rfl, rfl, rfl, trivial⟩ ?_
        refine At.go ?_
        refine Sc.cond_t rfl ?_
        refine Sc.seq ?_
        refine Sc.region ?_
        refine Sl.calm (Cm.assign rfl) rfl ?_
        refine Sl.nil ?_
        refine At.go ?_
        refine Sc.ret ?_
        refine At.then_ret ?_
        refine At.ret1 rfl rfl ?_
        refine ⟨_, rfl, ?_, hf2.trans hf3⟩
        unfold plc; rw [if_neg (by omega), if_neg (fun h => h hz), if_pos (fun h => h16 ((dir_iff hz3.2.2 _).2 h))]
end Go.Proofs.Ytpamandneifemaa
