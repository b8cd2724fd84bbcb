/- names: Valid, the program's and the reference's. No condition beyond the bounds that each states. -/
import Derived.Test.YtpnfjfbfgaiolaaRn
import Derived.Test.YtpnfjfbfgaiolaaTrP
namespace Go.Proofs.Ytpnfjfbfgaiolaa
open Go Go.RowKit
set_option linter.unusedVariables false

theorem vErr_long {s : List UInt8} (h : (255 : Int) < s.length) : vErr s = 23 := by unfold vErr; rw [if_pos (by omega)]
theorem vErr_bad {s : List UInt8} (h : ¬ (255 : Int) < s.length) (h2 : s = [] ∨ s = [46] ∨ s = [46, 46] ∨ (0 : UInt8) ∈ s ∨ (47 : UInt8) ∈ s) : vErr s = 22 := by unfold vErr; rw [if_neg (by omega), if_pos h2]
theorem vErr_good {s : List UInt8} (h : ¬ (255 : Int) < s.length) (h1 : ¬ s = []) (h2 : ¬ s = [46]) (h3 : ¬ s = [46, 46]) (h4 : (0 : UInt8) ∉ s ∧ (47 : UInt8) ∉ s) : vErr s = 0 := by
  unfold vErr; rw [if_neg (by omega), if_neg (fun e => e.elim h1 fun e => e.elim h2 fun e => e.elim h3 fun e => e.elim h4.1 h4.2)]

set_option maxHeartbeats 1000000 in
theorem valid_ok (s : List UInt8) (W : World) (hs : s.length ≤ maxLen) : Calls Try.prog 54 [.string (bs s)].toArray W (Ret fun v w' => v = .int .i64 (vErr s) ∧ Foot nob W w') := by
  have hl : (s.length : Int) ≤ 9223372036854775807 := by unfold maxLen at hs; omega
  refine calls_of_sc 31 [(0, _)] Try.func54 rfl rfl rfl (enter_slots ⟨rfl, trivial⟩) ?_
  refine Sc.seq ?_
  refine Sc.region ?_
  refine Sl.calm (Cm.assign rfl) rfl ?_
  refine Sl.nil ?_
  refine At.go ?_
  refine Sc.seq ?_
  refine Sc.block ?_
  refine Sc.seq ?_
  refine Sc.region ?_
  refine Sl.calm (Cm.move rfl) rfl ?_
  refine Sl.calm (Cm.lenBs ty9 rfl) rfl ?_
  refine Sl.fork (Cm.gtr rfl rfl) rfl (fun h8 => ?_) (fun h8 => ?_)
  ·
    refine Sl.calm (Cm.assign rfl) rfl ?_
    refine Sl.nil ?_
    refine At.weak [(0, _), (2, _), (5, _)] ⟨rfl, rfl, rfl, trivial⟩ ?_
    refine At.go ?_
    refine Sc.cond_t rfl ?_
    refine Sc.seq ?_
    refine Sc.region ?_
    refine Sl.calm (Cm.assign rfl) rfl ?_
    refine Sl.nil ?_
    refine At.go ?_
    refine Sc.ret ?_
    refine At.block_ret ?_
    refine At.then_ret ?_
    refine At.ret1 rfl rfl ?_
    exact ⟨_, rfl, by rw [vErr_long h8], Foot.refl _ _⟩
  ·
    refine Sl.calm (Cm.assign rfl) rfl ?_
    refine Sl.nil ?_
    refine At.weak [(0, _), (2, _), (5, _)] ⟨rfl, rfl, rfl, trivial⟩ ?_
    refine At.go ?_
    refine Sc.cond_f rfl ?_
    refine Sc.seq ?_
    refine Sc.region ?_
    refine Sl.calm (Cm.move rfl) rfl ?_
    refine Sl.fork (Cm.eqlBs rfl rfl) rfl (fun h11 => ?_) (fun h11 => ?_)
    ·
      refine Sl.calm (Cm.move rfl) rfl ?_
      refine Sl.skip rfl rfl rfl rfl ?_
      refine Sl.skip rfl rfl rfl rfl ?_
      refine Sl.calm (Cm.pick_t rfl rfl) rfl ?_
      refine Sl.calm (Cm.move rfl) rfl ?_
      refine Sl.skip rfl rfl rfl rfl ?_
      refine Sl.skip rfl rfl rfl rfl ?_
      refine Sl.calm (Cm.pick_t rfl rfl) rfl ?_
      refine Sl.calm (Cm.assign rfl) rfl ?_
      refine Sl.nil ?_
      refine At.weak [(0, _), (2, _), (5, _), (9, _)] ⟨rfl, rfl, rfl, rfl, trivial⟩ ?_
      refine At.go ?_
      refine Sc.cond_t rfl ?_
      refine Sc.seq ?_
      refine Sc.region ?_
      refine Sl.calm (Cm.assign rfl) rfl ?_
      refine Sl.nil ?_
      refine At.go ?_
      refine Sc.ret ?_
      refine At.block_ret ?_
      refine At.then_ret ?_
      refine At.ret1 rfl rfl ?_
      exact ⟨_, rfl, by rw [vErr_bad h8 (.inl h11)], Foot.refl _ _⟩
    ·
      refine Sl.calm (Cm.move rfl) rfl ?_
      refine Sl.want rfl rfl (Cm.move rfl) rfl ?_
      refine Sl.forkWant rfl rfl (Cm.eqlBs rfl rfl) rfl (fun h14 => ?_) (fun h14 => ?_)
      ·
        refine Sl.calm (Cm.pick_f rfl rfl) rfl ?_
        refine Sl.calm (Cm.move rfl) rfl ?_
        refine Sl.skip rfl rfl rfl rfl ?_
        refine Sl.skip rfl rfl rfl rfl ?_
        refine Sl.calm (Cm.pick_t rfl rfl) rfl ?_
        refine Sl.calm (Cm.assign rfl) rfl ?_
        refine Sl.nil ?_
        refine At.weak [(0, _), (2, _), (5, _), (9, _)] ⟨rfl, rfl, rfl, rfl, trivial⟩ ?_
        refine At.go ?_
        refine Sc.cond_t rfl ?_
        refine Sc.seq ?_
        refine Sc.region ?_
        refine Sl.calm (Cm.assign rfl) rfl ?_
        refine Sl.nil ?_
        refine At.go ?_
        refine Sc.ret ?_
        refine At.block_ret ?_
        refine At.then_ret ?_
        refine At.ret1 rfl rfl ?_
        exact ⟨_, rfl, by rw [vErr_bad h8 (.inr (.inl h14))], Foot.refl _ _⟩
      ·
        refine Sl.calm (Cm.pick_f rfl rfl) rfl ?_
        refine Sl.calm (Cm.move rfl) rfl ?_
        refine Sl.want rfl rfl (Cm.move rfl) rfl ?_
        refine Sl.forkWant rfl rfl (Cm.eqlBs rfl rfl) rfl (fun h18 => ?_) (fun h18 => ?_)
        ·
          refine Sl.calm (Cm.pick_f rfl rfl) rfl ?_
          refine Sl.calm (Cm.assign rfl) rfl ?_
          refine Sl.nil ?_
          refine At.weak [(0, _), (2, _), (5, _), (9, _)] ⟨rfl, rfl, rfl, rfl, trivial⟩ ?_
          refine At.go ?_
          refine Sc.cond_t rfl ?_
          refine Sc.seq ?_
          refine Sc.region ?_
          refine Sl.calm (Cm.assign rfl) rfl ?_
          refine Sl.nil ?_
          refine At.go ?_
          refine Sc.ret ?_
          refine At.block_ret ?_
          refine At.then_ret ?_
          refine At.ret1 rfl rfl ?_
          exact ⟨_, rfl, by rw [vErr_bad h8 (.inr (.inr (.inl h18)))], Foot.refl _ _⟩
        ·
          refine Sl.calm (Cm.pick_f rfl rfl) rfl ?_
          refine Sl.calm (Cm.assign rfl) rfl ?_
          refine Sl.nil ?_
          refine At.weak [(0, _), (2, _), (5, _), (9, _)] ⟨rfl, rfl, rfl, rfl, trivial⟩ ?_
          refine At.go ?_
          refine Sc.cond_f rfl ?_
          refine Sc.skip ?_
          refine At.block_normal ?_
          refine At.go ?_
          refine Sc.seq ?_
          refine Sc.seq ?_
          refine Sc.region ?_
          refine Sl.calm (Cm.move rfl) rfl ?_
          refine Sl.rangeStr ty9 rfl rfl ?_
          intro w1 hg1 hs1 hf1
          obtain ⟨g, hg⟩ : ∃ g, g = W.heap.size := ⟨_, rfl⟩
          rw [← hg] at hg1 ⊢
          refine Sl.nil ?_
          refine At.weak [(0, _), (2, _), (5, _), (9, _), (21, _)] ⟨rfl, rfl, rfl, rfl, rfl, trivial⟩ ?_
          refine At.go ?_
          refine Sc.block ?_
          refine Sc.loop (β := Nat) (fun p => [(0, .string (bs s)), (21, .pointer (some ⟨g, 0, none⟩))]) (fun p w => w.heap[g]? = some (.stringIter (bs s) p) ∧ p ≤ s.length ∧ cleanTo s p ∧ Foot nob W w) (fun p => s.length - p) 0 ⟨rfl, rfl, trivial⟩ ⟨hg1, Nat.zero_le _, fun k hk => by omega, hf1⟩ ?_
          rintro p w2 ⟨hg2, hp, hcl, hF2⟩
          refine Sc.seq ?_
          refine Sc.region ?_
          by_cases h22 : p < (bs s).size
          ·
            refine Sl.nextT rfl hg2 h22 rfl ?_
            intro w3 hg3 hs3 hf3
            have hpl : p < s.length := by rw [bs_size] at h22; exact h22
            obtain ⟨r1, r2, r3, r4, r5, r6⟩ := rune_at hpl
            refine Sl.calm (Cm.extract rfl rfl) rfl ?_
            refine Sl.nil ?_
            refine At.go ?_
            refine Sc.seq ?_
            refine Sc.cond_t rfl ?_
            refine Sc.skip ?_
            refine At.go ?_
            refine Sc.block ?_
            refine Sc.seq ?_
            refine Sc.region ?_
            refine Sl.calm (Cm.extract rfl rfl) rfl ?_
            refine Sl.calm (Cm.assign rfl) rfl ?_
            refine Sl.nil ?_
            refine At.weak [(0, _), (4, _), (21, _), (22, _), (23, _)] ⟨rfl, rfl, rfl, rfl, rfl, trivial⟩ ?_
            refine At.go ?_
            refine Sc.seq ?_
            refine Sc.region ?_
            refine Sl.calm (Cm.move rfl) rfl ?_
            refine Sl.fork (Cm.eql rfl rfl) rfl (fun h26 => ?_) (fun h26 => ?_)
            ·
              have hb : vErr s = 22 := vErr_bad h8 (.inr (.inr (.inr (.inl (clean_mem hpl (c := 0) (by decide) (by show _ = 0; omega))))))
              refine Sl.calm (Cm.move rfl) rfl ?_
              refine Sl.skip rfl rfl rfl rfl ?_
              refine Sl.skip rfl rfl rfl rfl ?_
              refine Sl.calm (Cm.pick_t rfl rfl) rfl ?_
              refine Sl.nil ?_
              refine At.weak [(0, _), (4, _), (21, _), (22, _), (23, _), (30, _)] ⟨rfl, rfl, rfl, rfl, rfl, rfl, trivial⟩ ?_
              refine At.go ?_
              refine Sc.cond_t rfl ?_
              refine Sc.seq ?_
              refine Sc.region ?_
              refine Sl.calm (Cm.assign rfl) rfl ?_
              refine Sl.nil ?_
              refine At.go ?_
              refine Sc.ret ?_
              refine At.block_ret ?_
              refine At.then_ret ?_
              refine At.block_ret ?_
              refine At.then_ret ?_
              refine At.ret1 rfl rfl ?_
              exact ⟨_, rfl, by rw [hb], hF2.trans_to hf3 (fun k e => .inr (by have e : k = g := e; omega))⟩
            ·
              refine Sl.calm (Cm.move rfl) rfl ?_
              refine Sl.want rfl rfl (Cm.move rfl) rfl ?_
              refine Sl.forkWant rfl rfl (Cm.eql rfl rfl) rfl (fun h29 => ?_) (fun h29 => ?_)
              ·
                have hb : vErr s = 22 := vErr_bad h8 (.inr (.inr (.inr (.inr (clean_mem hpl (c := 47) (by decide) (by show _ = 47; omega))))))
                refine Sl.calm (Cm.pick_f rfl rfl) rfl ?_
                refine Sl.nil ?_
                refine At.weak [(0, _), (4, _), (21, _), (22, _), (23, _), (30, _)] ⟨rfl, rfl, rfl, rfl, rfl, rfl, trivial⟩ ?_
                refine At.go ?_
                refine Sc.cond_t rfl ?_
                refine Sc.seq ?_
                refine Sc.region ?_
                refine Sl.calm (Cm.assign rfl) rfl ?_
                refine Sl.nil ?_
                refine At.go ?_
                refine Sc.ret ?_
                refine At.block_ret ?_
                refine At.then_ret ?_
                refine At.block_ret ?_
                refine At.then_ret ?_
                refine At.ret1 rfl rfl ?_
                exact ⟨_, rfl, by rw [hb], hF2.trans_to hf3 (fun k e => .inr (by have e : k = g := e; omega))⟩
              ·
                refine Sl.calm (Cm.pick_f rfl rfl) rfl ?_
                refine Sl.nil ?_
                refine At.weak [(0, _), (4, _), (21, _), (22, _), (23, _), (30, _)] ⟨rfl, rfl, rfl, rfl, rfl, rfl, trivial⟩ ?_
                refine At.go ?_
                refine Sc.cond_f rfl ?_
                refine Sc.skip ?_
                refine At.block_normal ?_
                have hF3 : Foot nob W w3 := hF2.trans_to hf3 (fun k e => .inr (by have e : k = g := e; omega))
                exact At.again (p + (Utf8.decode (bs s) p).2) ⟨rfl, rfl, trivial⟩ ⟨hg3, r2, clean_step hpl hcl (by omega) (by omega), hF3⟩ (by show s.length - (p + (Utf8.decode (bs s) p).2) < s.length - p; omega)
          ·
            refine Sl.nextF rfl hg2 h22 rfl ?_
            have hpe : p = s.length := by rw [bs_size] at h22; omega
            subst hpe
            refine Sl.calm (Cm.extract rfl rfl) rfl ?_
            refine Sl.nil ?_
            refine At.go ?_
            refine Sc.seq ?_
            refine Sc.cond_f rfl ?_
            refine Sc.exit ?_
            refine At.then_exit ?_
            refine At.then_exit ?_
            refine At.block_hit ?_
            refine At.go ?_
            refine Sc.seq ?_
            refine Sc.region ?_
            refine Sl.calm (Cm.assign rfl) rfl ?_
            refine Sl.nil ?_
            refine At.go ?_
            refine Sc.ret ?_
            refine At.ret1 rfl rfl ?_
            exact ⟨_, rfl, by rw [vErr_good h8 h11 h14 h18 (clean_all hcl)], hF2⟩
theorem rvalid_ok (s : List UInt8) (W : World) (hs : s.length ≤ maxLen) : Calls Try.prog 72 [.string (bs s)].toArray W (Ret fun v w' => v = .int .i64 (vErr s) ∧ w' = W) := by
  have hl : (s.length : Int) ≤ 9223372036854775807 := by unfold maxLen at hs; omega
  refine calls_of_sc 33 [(0, _)] Try.func72 rfl rfl rfl (enter_slots ⟨rfl, trivial⟩) ?_
  refine Sc.seq ?_
  refine Sc.region ?_
  refine Sl.calm (Cm.assign rfl) rfl ?_
  refine Sl.nil ?_
  refine At.go ?_
  refine Sc.seq ?_
  refine Sc.seq ?_
  refine Sc.region ?_
  refine Sl.calm (Cm.move rfl) rfl ?_
  refine Sl.calm (Cm.lenBs ty9 rfl) rfl ?_
  refine Sl.fork (Cm.gtr rfl rfl) rfl (fun h6 => ?_) (fun h6 => ?_)
  ·
    refine Sl.nil ?_
    refine At.weak [(0, _), (2, _), (6, _)] ⟨rfl, rfl, rfl, trivial⟩ ?_
    refine At.go ?_
    refine Sc.cond_t rfl ?_
    refine Sc.seq ?_
    refine Sc.region ?_
    refine Sl.calm (Cm.assign rfl) rfl ?_
    refine Sl.nil ?_
    refine At.go ?_
    refine Sc.ret ?_
    refine At.then_ret ?_
    refine At.ret1 rfl rfl ?_
    exact ⟨_, rfl, by rw [vErr_long h6], rfl⟩
  ·
    refine Sl.nil ?_
    refine At.weak [(0, _), (2, _), (6, _)] ⟨rfl, rfl, rfl, trivial⟩ ?_
    refine At.go ?_
    refine Sc.cond_f rfl ?_
    refine Sc.skip ?_
    refine At.go ?_
    refine Sc.seq ?_
    refine Sc.seq ?_
    refine Sc.region ?_
    refine Sl.calm (Cm.assign rfl) rfl ?_
    refine Sl.nil ?_
    refine At.go ?_
    refine Sc.block ?_
    refine Sc.loop (β := Nat) (fun k => [(0, .string (bs s)), (3, .int .i64 k)]) (fun k w => k ≤ s.length ∧ cleanTo s k ∧ w = W) (fun k => s.length - k) 0 ⟨rfl, rfl, trivial⟩ ⟨Nat.zero_le _, fun k hk => by omega, rfl⟩ ?_
    rintro k w2 ⟨hk, hcl, hw2⟩
    subst hw2
    refine Sc.seq ?_
    refine Sc.seq ?_
    refine Sc.region ?_
    refine Sl.calm (Cm.move rfl) rfl ?_
    refine Sl.calm (Cm.move rfl) rfl ?_
    refine Sl.calm (Cm.lenBs ty9 rfl) rfl ?_
    refine Sl.fork (Cm.lss rfl rfl) rfl (fun h10 => ?_) (fun h10 => ?_)
    ·
      refine Sl.nil ?_
      refine At.weak [(0, _), (3, _), (10, _)] ⟨rfl, rfl, rfl, trivial⟩ ?_
      refine At.go ?_
      refine Sc.cond_t rfl ?_
      refine Sc.skip ?_
      refine At.go ?_
      refine Sc.seq ?_
      refine Sc.block ?_
      refine Sc.seq ?_
      refine Sc.region ?_
      refine Sl.calm (Cm.move rfl) rfl ?_
      refine Sl.calm (Cm.move rfl) rfl ?_
      refine Sl.calm (Cm.idxS ty9 rfl rfl (by omega)) rfl ?_
      refine Sl.fork (Cm.eql rfl rfl) rfl (fun h16 => ?_) (fun h16 => ?_)
      ·
        have hm : (0 : UInt8) ∈ s := by have e : s.getD k 0 = 0 := UInt8.toNat_inj.1 (by have h16 : ((s.getD ((k : Int)).toNat 0).toNat : Int) = 0 := h16; have e2 : ((k : Int)).toNat = k := rfl; rw [e2] at h16; show _ = 0; omega); have hk2 : k < s.length := (by omega); rw [List.getD, List.getElem?_eq_getElem hk2] at e; rw [← e]; exact List.getElem_mem hk2
        refine Sl.calm (Cm.move rfl) rfl ?_
        refine Sl.skip rfl rfl rfl rfl ?_
        refine Sl.skip rfl rfl rfl rfl ?_
        refine Sl.skip rfl rfl rfl rfl ?_
        refine Sl.skip rfl rfl rfl rfl ?_
        refine Sl.calm (Cm.pick_t rfl rfl) rfl ?_
        refine Sl.nil ?_
        refine At.weak [(0, _), (3, _), (10, _), (22, _)] ⟨rfl, rfl, rfl, rfl, trivial⟩ ?_
        refine At.go ?_
        refine Sc.cond_t rfl ?_
        refine Sc.seq ?_
        refine Sc.region ?_
        refine Sl.calm (Cm.assign rfl) rfl ?_
        refine Sl.nil ?_
        refine At.go ?_
        refine Sc.ret ?_
        refine At.block_ret ?_
        refine At.then_ret ?_
        refine At.then_ret ?_
        refine At.block_ret ?_
        refine At.then_ret ?_
        refine At.ret1 rfl rfl ?_
        exact ⟨_, rfl, by rw [vErr_bad h6 (.inr (.inr (.inr (.inl hm))))], rfl⟩
      ·
        have g1 : s.getD k 0 ≠ 0 := by intro e; apply h16; show ((s.getD k 0).toNat : Int) = 0; rw [e]; rfl
        refine Sl.calm (Cm.move rfl) rfl ?_
        refine Sl.want rfl rfl (Cm.move rfl) rfl ?_
        refine Sl.want rfl rfl (Cm.move rfl) rfl ?_
        refine Sl.want rfl rfl (Cm.idxS ty9 rfl rfl (by omega)) rfl ?_
        refine Sl.forkWant rfl rfl (Cm.eql rfl rfl) rfl (fun h21 => ?_) (fun h21 => ?_)
        ·
          have hm : (47 : UInt8) ∈ s := by have e : s.getD k 0 = 47 := UInt8.toNat_inj.1 (by have h21 : ((s.getD ((k : Int)).toNat 0).toNat : Int) = 47 := h21; have e2 : ((k : Int)).toNat = k := rfl; rw [e2] at h21; show _ = 47; omega); have hk2 : k < s.length := (by omega); rw [List.getD, List.getElem?_eq_getElem hk2] at e; rw [← e]; exact List.getElem_mem hk2
          refine Sl.calm (Cm.pick_f rfl rfl) rfl ?_
          refine Sl.nil ?_
          refine At.weak [(0, _), (3, _), (10, _), (22, _)] ⟨rfl, rfl, rfl, rfl, trivial⟩ ?_
          refine At.go ?_
          refine Sc.cond_t rfl ?_
          refine Sc.seq ?_
          refine Sc.region ?_
          refine Sl.calm (Cm.assign rfl) rfl ?_
          refine Sl.nil ?_
          refine At.go ?_
          refine Sc.ret ?_
          refine At.block_ret ?_
          refine At.then_ret ?_
          refine At.then_ret ?_
          refine At.block_ret ?_
          refine At.then_ret ?_
          refine At.ret1 rfl rfl ?_
          exact ⟨_, rfl, by rw [vErr_bad h6 (.inr (.inr (.inr (.inr hm))))], rfl⟩
        ·
          have g2 : s.getD k 0 ≠ 47 := by intro e; apply h21; show ((s.getD k 0).toNat : Int) = 47; rw [e]; rfl
          refine Sl.calm (Cm.pick_f rfl rfl) rfl ?_
          refine Sl.nil ?_
          refine At.weak [(0, _), (3, _), (10, _), (22, _)] ⟨rfl, rfl, rfl, rfl, trivial⟩ ?_
          refine At.go ?_
          refine Sc.cond_f rfl ?_
          refine Sc.skip ?_
          refine At.block_normal ?_
          refine At.go ?_
          refine Sc.region ?_
          refine Sl.calm (Cm.move rfl) rfl ?_
          refine Sl.calm (Cm.add64 rfl rfl (by omega)) rfl ?_
          refine Sl.calm (Cm.assign rfl) rfl ?_
          refine Sl.nil ?_
          refine At.again (k + 1) ⟨rfl, rfl, trivial⟩ ⟨by omega, fun i hi => ?_, rfl⟩ (by show s.length - (k + 1) < s.length - k; omega)
          by_cases hik : i = k
          · subst hik; exact ⟨g1, g2⟩
          · exact hcl i (by omega)
    ·
      refine Sl.nil ?_
      refine At.weak [(0, _), (3, _), (10, _)] ⟨rfl, rfl, rfl, trivial⟩ ?_
      refine At.go ?_
      refine Sc.cond_f rfl ?_
      refine Sc.exit ?_
      refine At.then_exit ?_
      refine At.then_exit ?_
      refine At.block_hit ?_
      refine At.go ?_
      refine Sc.seq ?_
      refine Sc.seq ?_
      refine Sc.region ?_
      refine Sl.calm (Cm.move rfl) rfl ?_
      refine Sl.fork (Cm.eqlBs rfl rfl) rfl (fun h24 => ?_) (fun h24 => ?_)
      ·
        refine Sl.calm (Cm.move rfl) rfl ?_
        refine Sl.skip rfl rfl rfl rfl ?_
        refine Sl.skip rfl rfl rfl rfl ?_
        refine Sl.calm (Cm.pick_t rfl rfl) rfl ?_
        refine Sl.calm (Cm.move rfl) rfl ?_
        refine Sl.skip rfl rfl rfl rfl ?_
        refine Sl.skip rfl rfl rfl rfl ?_
        refine Sl.calm (Cm.pick_t rfl rfl) rfl ?_
        refine Sl.nil ?_
        refine At.weak [(0, _), (3, _), (10, _), (32, _)] ⟨rfl, rfl, rfl, rfl, trivial⟩ ?_
        refine At.go ?_
        refine Sc.cond_t rfl ?_
        refine Sc.seq ?_
        refine Sc.region ?_
        refine Sl.calm (Cm.assign rfl) rfl ?_
        refine Sl.nil ?_
        refine At.go ?_
        refine Sc.ret ?_
        refine At.then_ret ?_
        refine At.ret1 rfl rfl ?_
        exact ⟨_, rfl, by rw [vErr_bad h6 (.inl h24)], rfl⟩
      ·
        refine Sl.calm (Cm.move rfl) rfl ?_
        refine Sl.want rfl rfl (Cm.move rfl) rfl ?_
        refine Sl.forkWant rfl rfl (Cm.eqlBs rfl rfl) rfl (fun h27 => ?_) (fun h27 => ?_)
        ·
          refine Sl.calm (Cm.pick_f rfl rfl) rfl ?_
          refine Sl.calm (Cm.move rfl) rfl ?_
          refine Sl.skip rfl rfl rfl rfl ?_
          refine Sl.skip rfl rfl rfl rfl ?_
          refine Sl.calm (Cm.pick_t rfl rfl) rfl ?_
          refine Sl.nil ?_
          refine At.weak [(0, _), (3, _), (10, _), (32, _)] ⟨rfl, rfl, rfl, rfl, trivial⟩ ?_
          refine At.go ?_
          refine Sc.cond_t rfl ?_
          refine Sc.seq ?_
          refine Sc.region ?_
          refine Sl.calm (Cm.assign rfl) rfl ?_
          refine Sl.nil ?_
          refine At.go ?_
          refine Sc.ret ?_
          refine At.then_ret ?_
          refine At.ret1 rfl rfl ?_
          exact ⟨_, rfl, by rw [vErr_bad h6 (.inr (.inl h27))], rfl⟩
        ·
          refine Sl.calm (Cm.pick_f rfl rfl) rfl ?_
          refine Sl.calm (Cm.move rfl) rfl ?_
          refine Sl.want rfl rfl (Cm.move rfl) rfl ?_
          refine Sl.forkWant rfl rfl (Cm.eqlBs rfl rfl) rfl (fun h31 => ?_) (fun h31 => ?_)
          ·
            refine Sl.calm (Cm.pick_f rfl rfl) rfl ?_
            refine Sl.nil ?_
            refine At.weak [(0, _), (3, _), (10, _), (32, _)] ⟨rfl, rfl, rfl, rfl, trivial⟩ ?_
            refine At.go ?_
            refine Sc.cond_t rfl ?_
            refine Sc.seq ?_
            refine Sc.region ?_
            refine Sl.calm (Cm.assign rfl) rfl ?_
            refine Sl.nil ?_
            refine At.go ?_
            refine Sc.ret ?_
            refine At.then_ret ?_
            refine At.ret1 rfl rfl ?_
            exact ⟨_, rfl, by rw [vErr_bad h6 (.inr (.inr (.inl h31)))], rfl⟩
          ·
            refine Sl.calm (Cm.pick_f rfl rfl) rfl ?_
            refine Sl.nil ?_
            refine At.weak [(0, _), (3, _), (10, _), (32, _)] ⟨rfl, rfl, rfl, rfl, trivial⟩ ?_
            refine At.go ?_
            refine Sc.cond_f rfl ?_
            refine Sc.skip ?_
            refine At.go ?_
            refine Sc.seq ?_
            refine Sc.region ?_
            refine Sl.calm (Cm.assign rfl) rfl ?_
            refine Sl.nil ?_
            refine At.go ?_
            refine Sc.ret ?_
            refine At.ret1 rfl rfl ?_
            have hke : k = s.length := by omega
            subst hke
            exact ⟨_, rfl, by rw [vErr_good h6 h24 h27 h31 (clean_all hcl)], rfl⟩

end Go.Proofs.Ytpnfjfbfgaiolaa
