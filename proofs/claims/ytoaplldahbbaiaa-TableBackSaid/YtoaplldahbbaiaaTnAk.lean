/- table: TakeNums, the program's and the reference's. No condition beyond the bounds that each states. -/
import Derived.Test.YtoaplldahbbaiaaTnPk
import Derived.Test.YtoaplldahbbaiaaKD
import Derived.Test.YtoaplldahbbaiaaTpAk
namespace Go.Proofs.Ytoaplldahbbaiaa
open Go Go.RowKit
set_option linter.unusedVariables false

theorem i64_oneT (x : Int) : (i64 x).oneCell' = true := rfl
theorem num_whole {b : List UInt8} {n : Int} (h1 : 1 ≤ n) (h4 : n ≤ 4) (hl : (b.length : Int) = n) : cutB (numE1 0 n) b n = b := by
  rw [numE1_good h1 h4, (cutB_good (cutE_good (by omega) (by omega))).1]
  exact List.take_of_length_le (by omega)
set_option maxHeartbeats 4000000 in
theorem tnums_ok (A : Nat → Prop) (g p : Nat) (im : List UInt8) (fr to many wide : Int) (W : World) (hM : MrO A W.heap g p im fr to) (hA : ∀ k, A k → k < W.heap.size) (him : im.length ≤ 1073741824) (hm : many ≤ 9223372036854775807) :
    Calls Try.prog 29 [.pointer (some ⟨g, 0, none⟩), .int .i64 many, .int .i64 wide].toArray W (Ret fun v w' => ∃ o c,
      v = .tuple #[.slice o (tnS im fr to many wide).1.length c, .int .i64 (tnS im fr to many wide).2] ∧ Own i64 3 w'.heap o c (tnS im fr to many wide).1 ∧ Fr W.heap.size o ∧ MrO (fun k => Nx A W w' k ∧ ¬ blk o k) w'.heap g p im fr to ∧ Foot A W w') := by
  obtain ⟨ht, hp⟩ := hM.tab
  have hpl : p < W.heap.size := (Array.getElem?_eq_some_iff.1 ht).1
  obtain ⟨T, hT⟩ : ∃ T, T = tnS im fr to many wide := ⟨_, rfl⟩
  obtain ⟨Z, hZ⟩ : ∃ Z, Z = readS im fr to 0 0 := ⟨_, rfl⟩
  have hfin : ∀ {B : Nat → Prop} {w : World} {o : Option Addr}, MrO B w.heap g p im fr to → W.heap.size ≤ w.heap.size → (∀ k, B k → A k ∨ (W.heap.size ≤ k ∧ k < w.heap.size)) → (∀ k, blk o k → ¬ B k) → MrO (fun k => Nx A W w k ∧ ¬ blk o k) w.heap g p im fr to := fun h hs hB ho => h.mono (fun k hk => ⟨hB k hk, fun h2 => ho k h2 hk⟩) (fun h2 => h2.1.elim hp (fun h3 => by omega))
  refine calls_of_sc 66 [(0, _), (1, _), (2, _)] Try.func29 rfl rfl rfl (enter_slots ⟨rfl, rfl, rfl, trivial⟩) ?_
  refine Sc.seq ?_
  refine Sc.region ?_
  refine Sl.calm (Cm.assign rfl) rfl ?_
  refine Sl.calm (Cm.assign rfl) rfl ?_
  refine Sl.nil ?_
  refine At.go ?_
  refine Sc.seq ?_
  refine Sc.seq ?_
  refine Sc.region ?_
  refine Sl.calm (Cm.move rfl) rfl ?_
  refine Sl.fork (Cm.lss rfl rfl) rfl (fun h17 => ?_) (fun h17 => ?_)
  ·
    have e : T = ([], 1) := by rw [hT]; exact tnS_arg (.inl h17)
    refine Sl.calm (Cm.move rfl) rfl ?_
    refine Sl.skip rfl rfl rfl rfl ?_
    refine Sl.skip rfl rfl rfl rfl ?_
    refine Sl.skip rfl rfl rfl rfl ?_
    refine Sl.calm (Cm.pick_t rfl rfl) rfl ?_
    refine Sl.nil ?_
    refine At.weak [(0, _), (1, _), (2, _), (6, _), (7, _), (22, _)] ⟨rfl, rfl, rfl, rfl, rfl, rfl, trivial⟩ ?_
    refine At.go ?_
    refine Sc.cond_t rfl ?_
    refine Sc.seq ?_
    refine Sc.region ?_
    refine Sl.calm (Cm.assign rfl) rfl ?_
    refine Sl.calm (Cm.assign rfl) rfl ?_
    refine Sl.nil ?_
    refine At.go ?_
    refine Sc.ret ?_
    refine At.then_ret ?_
    refine At.ret2 rfl rfl rfl ?_
    rw [← hT, e]
    exact ⟨_, rfl, none, 0, rfl, Own.nil, Fr.none, hM.mono (fun k hk => ⟨.inl hk, fun ⟨a, ha, _⟩ => by cases ha⟩) (fun h => h.1.elim hp (fun h => by omega)), Foot.refl _ _⟩
  ·
    refine Sl.calm (Cm.move rfl) rfl ?_
    refine Sl.want rfl rfl (Cm.move rfl) rfl ?_
    refine Sl.callWant rfl rfl fn42 rfl (fits_ok wide W) rfl ?_
    rintro _ w0 ⟨rfl, hw0⟩
    subst w0
    refine Sl.forkWant rfl rfl (Cm.notB rfl) rfl (fun h21 => ?_) (fun h21 => ?_)
    ·
      have e : T = ([], 1) := by rw [hT]; exact tnS_arg (.inr (by simpa using h21))
      refine Sl.calm (Cm.pick_f rfl rfl) rfl ?_
      refine Sl.nil ?_
      refine At.weak [(0, _), (1, _), (2, _), (6, _), (7, _), (22, _)] ⟨rfl, rfl, rfl, rfl, rfl, rfl, trivial⟩ ?_
      refine At.go ?_
      refine Sc.cond_t rfl ?_
      refine Sc.seq ?_
      refine Sc.region ?_
      refine Sl.calm (Cm.assign rfl) rfl ?_
      refine Sl.calm (Cm.assign rfl) rfl ?_
      refine Sl.nil ?_
      refine At.go ?_
      refine Sc.ret ?_
      refine At.then_ret ?_
      refine At.ret2 rfl rfl rfl ?_
      rw [← hT, e]
      exact ⟨_, rfl, none, 0, rfl, Own.nil, Fr.none, hM.mono (fun k hk => ⟨.inl hk, fun ⟨a, ha, _⟩ => by cases ha⟩) (fun h => h.1.elim hp (fun h => by omega)), Foot.refl _ _⟩
    ·
      have hw : wide = 2 ∨ wide = 4 := Classical.byContradiction fun h => h21 (decide_eq_false h)
      have hok : ¬ (many < 0 ∨ ¬ (wide = 2 ∨ wide = 4)) := by omega
      refine Sl.calm (Cm.pick_f rfl rfl) rfl ?_
      refine Sl.nil ?_
      refine At.weak [(0, _), (1, _), (2, _), (6, _), (7, _), (22, _)] ⟨rfl, rfl, rfl, rfl, rfl, rfl, trivial⟩ ?_
      refine At.go ?_
      refine Sc.cond_f rfl ?_
      refine Sc.skip ?_
      refine At.go ?_
      refine Sc.seq ?_
      refine Sc.region ?_
      refine Sl.calm (Cm.move rfl) rfl ?_
      refine Sl.call fn61 rfl (mreadA_ok A g p im fr to 0 0 W hM (by omega) (by decide) (by decide)) rfl ?_
      rw [← hZ]
      rintro _ w1 ⟨o1, c1, rfl, ho1, hfr1, hM1, hF1⟩
      have hz1 := hF1.size
      have h0 : (Z.2.2 = 0 ∧ mayS im fr to = true ∧ TnI im fr to wide many.toNat [] Z.2.1) ∨ (Z.2.2 ≠ 0 ∧ T = ([], 2)) := by
        cases hms : mayS im fr to with
        | true => exact .inl (by rw [hZ, readS_zero (Int.le_refl 0) hms]; exact ⟨rfl, rfl, TnI.zero⟩)
        | false => exact .inr ⟨by rw [hZ]; exact readS_may hms, by rw [hT]; exact tnS_may hok hms⟩
      refine Sl.calm (Cm.move rfl) rfl ?_
      refine Sl.calm (Cm.extract rfl rfl) rfl ?_
      refine Sl.calm (Cm.extract rfl rfl) rfl ?_
      refine Sl.calm (Cm.extract rfl rfl) rfl ?_
      refine Sl.calm (Cm.assign rfl) rfl ?_
      refine Sl.calm (Cm.assign rfl) rfl ?_
      refine Sl.calm (Cm.assign rfl) rfl ?_
      refine Sl.nil ?_
      refine At.weak [(0, _), (1, _), (2, _), (6, _), (7, _), (9, _), (10, _), (22, _)] ⟨rfl, rfl, rfl, rfl, rfl, rfl, rfl, rfl, trivial⟩ ?_
      refine At.go ?_
      refine Sc.seq ?_
      refine Sc.region ?_
      refine Sl.calm (Cm.assign rfl) rfl ?_
      refine Sl.nil ?_
      refine At.go ?_
      refine Sc.seq ?_
      refine Sc.block ?_
      refine Sc.loop (β := ((List Int × Int × Int) × (Nat → Prop)) × (Option Addr × Nat)) (fun ⟨⟨⟨os, q, e⟩, B⟩, ⟨oo, oc⟩⟩ => [(0, .pointer (some ⟨g, 0, none⟩)), (1, .int .i64 many), (2, .int .i64 wide), (9, .int .i64 q), (10, .int .i64 e), (11, .slice oo os.length oc)]) (fun ⟨⟨⟨os, q, e⟩, B⟩, ⟨oo, oc⟩⟩ w => ((e = 0 ∧ mayS im fr to = true ∧ TnI im fr to wide many.toNat os q) ∨ (e ≠ 0 ∧ T = ([], 2))) ∧ MrO B w.heap g p im fr to ∧ (∀ k, B k → A k ∨ (W.heap.size ≤ k ∧ k < w.heap.size)) ∧ (∀ k, blk oo k → ¬ B k) ∧ Own i64 3 w.heap oo oc os ∧ Fr W.heap.size oo ∧ Foot A W w) (fun ⟨⟨⟨os, q, e⟩, B⟩, ⟨oo, oc⟩⟩ => if e = 0 then many.toNat - os.length + 1 else 0) ⟨⟨⟨[], Z.2.1, Z.2.2⟩, fun k => Nx A W w1 k ∧ ¬ blk o1 k⟩, ⟨none, 0⟩⟩ ⟨rfl, rfl, rfl, rfl, rfl, rfl, trivial⟩ ⟨h0, hM1, (fun k hk => hk.1), (fun k ⟨a, ha, _⟩ => by cases ha), Own.nil, Fr.none, hF1⟩ ?_
      rintro ⟨⟨⟨os, q, e⟩, B⟩, ⟨oo, oc⟩⟩ w2 ⟨hJ, hB, hBA, hBo, hoo, hfro, hF2⟩
      have hz2 := hF2.size
      refine Sc.seq ?_
      refine Sc.seq ?_
      refine Sc.region ?_
      refine Sl.calm (Cm.move rfl) rfl ?_
      refine Sl.calm (Cm.len sl22 rfl) rfl ?_
      refine Sl.calm (Cm.move rfl) rfl ?_
      refine Sl.fork (Cm.lss rfl rfl) rfl (fun h32 => ?_) (fun h32 => ?_)
      ·
        have hlt : os.length < many.toNat := by omega
        refine Sl.calm (Cm.move rfl) rfl ?_
        refine Sl.want rfl rfl (Cm.move rfl) rfl ?_
        refine Sl.forkWant rfl rfl (Cm.eql rfl rfl) rfl (fun h35 => ?_) (fun h35 => ?_)
        ·
          obtain ⟨_, hmay, hI⟩ := hJ.resolve_right (fun h => h.1 h35)
          obtain ⟨i1, i2, i3, i4⟩ := hI
          have hI : TnI im fr to wide many.toNat os q := ⟨i1, i2, i3, i4⟩
          obtain ⟨R, hR⟩ : ∃ R, R = readS im fr to q wide := ⟨_, rfl⟩
          refine Sl.calm (Cm.pick_t rfl rfl) rfl ?_
          refine Sl.nil ?_
          refine At.weak [(0, _), (1, _), (2, _), (9, _), (10, _), (11, _), (36, _)] ⟨rfl, rfl, rfl, rfl, rfl, rfl, rfl, trivial⟩ ?_
          refine At.go ?_
          refine Sc.cond_t rfl ?_
          refine Sc.skip ?_
          refine At.go ?_
          refine Sc.block ?_
          refine Sc.seq ?_
          refine Sc.region ?_
          refine Sl.calm (Cm.assign rfl) rfl ?_
          refine Sl.nil ?_
          refine At.go ?_
          refine Sc.seq ?_
          refine Sc.region ?_
          refine Sl.calm (Cm.move rfl) rfl ?_
          refine Sl.calm (Cm.move rfl) rfl ?_
          refine Sl.calm (Cm.move rfl) rfl ?_
          refine Sl.call fn61 rfl (mreadA_ok B g p im fr to q wide w2 hB (by omega) (by omega) (by omega)) rfl ?_
          rw [← hR]
          rintro _ w3 ⟨o3, c3, rfl, ho3, hfr3, hM3, hF3⟩
          have hz3 := hF3.size
          have hFW3 : Foot A W w3 := hF2.trans_to hF3 (fun k hk => (hBA k hk).imp id (fun h => h.1))
          have hoo3 := hoo.keep hF3 (fun a ha e => hBo _ ⟨a, ha, rfl⟩ e)
          refine Sl.calm (Cm.move rfl) rfl ?_
          refine Sl.calm (Cm.extract rfl rfl) rfl ?_
          refine Sl.calm (Cm.extract rfl rfl) rfl ?_
          refine Sl.calm (Cm.extract rfl rfl) rfl ?_
          refine Sl.calm (Cm.assign rfl) rfl ?_
          refine Sl.calm (Cm.assign rfl) rfl ?_
          refine Sl.calm (Cm.assign rfl) rfl ?_
          refine Sl.nil ?_
          refine At.weak [(0, _), (1, _), (2, _), (9, _), (10, _), (11, _), (12, _), (36, _)] ⟨rfl, rfl, rfl, rfl, rfl, rfl, rfl, rfl, trivial⟩ ?_
          refine At.go ?_
          refine Sc.seq ?_
          refine Sc.region ?_
          refine Sl.calm (Cm.move rfl) rfl ?_
          refine Sl.fork (Cm.eql rfl rfl) rfl (fun h46 => ?_) (fun h46 => ?_)
          ·
            have hl3 : (R.1.length : Int) = wide := by have := h46; rw [hR] at this ⊢; exact (readS_ok this).2.2.2.1
            have hI5 := hI.next hlt (by omega) (by rw [← hR]; exact h46)
            rw [← hR] at hI5
            have ev := num_whole (b := R.1) (by omega) (by omega) hl3
            have hv4 := valB_small (bs := R.1) (by omega)
            refine Sl.nil ?_
            refine At.weak [(0, _), (1, _), (2, _), (9, _), (10, _), (11, _), (12, _), (36, _), (46, _)] ⟨rfl, rfl, rfl, rfl, rfl, rfl, rfl, rfl, rfl, trivial⟩ ?_
            refine At.go ?_
            refine Sc.cond_t rfl ?_
            refine Sc.region ?_
            refine Sl.calm (Cm.move rfl) rfl ?_
            refine Sl.calm (Cm.move rfl) rfl ?_
            refine Sl.call fn54 rfl (rdnew_ok o3 c3 R.1 w3 ho3.vw (by omega)) rfl ?_
            rintro _ w4 ⟨p4, rfl, hp4, hP4, hf4⟩
            have hlp := hP4.lt
            have hz4 := hf4.size
            refine Sl.calm (Cm.move rfl) rfl ?_
            refine Sl.call fn55 rfl (rdnum_ok p4 0 R.1 wide w4 hP4 (by omega)) rfl ?_
            rintro _ w5 ⟨rfl, hP5, hf5⟩
            rw [ev]
            have hz5 := hf5.size
            have hf35 : Foot nob w3 w5 := hf4.trans_to hf5 (fun k hk => .inr (by have : k = p4 := hk; omega))
            refine Sl.lit1 (enc := i64) (u := ((valB R.1 : Nat) : Int)) sl22 (i64_oneT _) rfl rfl ?_
            intro w6 ho6 hs6 hf6
            have hf36 := hf35.trans hf6
            have hz6 := hf36.size
            refine Sl.append i64_oneT sl22 rfl rfl (hoo3.grow hf36) ho6.vw (by simp only [List.length_singleton]; omega) (by simp only [List.length_singleton]; unfold maxLen; omega) rfl ?_
            intro o7 c7 w7 ho7 hf7 hr7 hn7
            have hz7 := hf7.size
            have hlo := hoo.lt
            have hM7 := (hM3.grow hf36).keep hf7 (fun k hk ⟨a, ha, e⟩ => by have h8 := hlo a ha; rcases hk.1 with h | h; exact hBo k ⟨a, ha, e⟩ h; have := h.1; omega) (fun ⟨a, ha, e⟩ => by have := hfro a ha; omega)
            have hFW7 : Foot A W w7 := (hFW3.trans hf36.any).trans_to hf7 (fun k ⟨a, ha, e⟩ => .inr (by have := hfro a ha; omega))
            refine Sl.calm (Cm.assign rfl) rfl ?_
            refine Sl.nil ?_
            refine At.block_normal ?_
            refine At.again ⟨⟨⟨os ++ [((valB R.1 : Nat) : Int)], R.2.1, R.2.2⟩, fun k => Nx B w2 w3 k ∧ ¬ blk o3 k⟩, ⟨o7, c7⟩⟩ ⟨rfl, rfl, rfl, rfl, rfl, rfl, trivial⟩ ⟨.inl ⟨h46, hmay, hI5⟩, hM7, (fun k hk => hk.1.elim (fun h => (hBA k h).imp id (fun h => ⟨h.1, by omega⟩)) (fun h => .inr ⟨by omega, by omega⟩)), (fun k ⟨a, ha, e⟩ hk => by rcases hr7 a ha with h | h; rcases hk.1 with h2 | h2; exact hBo k ⟨a, h, e⟩ h2; have := hlo a h; omega; rcases hk.1 with h2 | h2; rcases hBA k h2 with h3 | h3; have := hA k h3; omega; omega; omega), ho7, (fun a ha => by rcases hr7 a ha with h | h; exact hfro a h; omega), hFW7⟩ ?_
            show (if R.2.2 = 0 then _ else _) < (if e = 0 then _ else _)
            rw [if_pos h46, if_pos h35]
            simp only [List.length_append, List.length_singleton]
            omega
          ·
            have e5 : T = ([], 2) := by rw [hT]; exact tnS_none hok (hI.bad hlt (by rw [← hR]; exact h46))
            refine Sl.nil ?_
            refine At.weak [(0, _), (1, _), (2, _), (9, _), (10, _), (11, _), (12, _), (36, _), (46, _)] ⟨rfl, rfl, rfl, rfl, rfl, rfl, rfl, rfl, rfl, trivial⟩ ?_
            refine At.go ?_
            refine Sc.cond_f rfl ?_
            refine Sc.skip ?_
            refine At.block_normal ?_
            refine At.again ⟨⟨⟨os, R.2.1, R.2.2⟩, fun k => Nx B w2 w3 k ∧ ¬ blk o3 k⟩, ⟨oo, oc⟩⟩ ⟨rfl, rfl, rfl, rfl, rfl, rfl, trivial⟩ ⟨.inr ⟨h46, e5⟩, hM3, (fun k hk => hk.1.elim (fun h => (hBA k h).imp id (fun h => ⟨h.1, by omega⟩)) (fun h => .inr ⟨by omega, h.2⟩)), (fun k hb hk => by rcases hk.1 with h2 | h2; exact hBo k hb h2; obtain ⟨a, ha, e⟩ := hb; have := hoo.lt a ha; omega), hoo3, hfro, hFW3⟩ ?_
            show (if R.2.2 = 0 then _ else _) < (if e = 0 then _ else _)
            rw [if_neg h46, if_pos h35]
            omega
        ·
          refine Sl.calm (Cm.pick_t rfl rfl) rfl ?_
          refine Sl.nil ?_
          refine At.weak [(0, _), (1, _), (2, _), (9, _), (10, _), (11, _), (36, _)] ⟨rfl, rfl, rfl, rfl, rfl, rfl, rfl, trivial⟩ ?_
          refine At.go ?_
          refine Sc.cond_f rfl ?_
          refine Sc.exit ?_
          refine At.then_exit ?_
          refine At.then_exit ?_
          refine At.block_hit ?_
          refine At.go ?_
          refine Sc.seq ?_
          refine Sc.seq ?_
          refine Sc.region ?_
          refine Sl.calm (Cm.move rfl) rfl ?_
          refine Sl.fork (Cm.neq rfl rfl) rfl (fun h55 => ?_) (fun h55 => ?_)
          ·
            have e : T = ([], 2) := by rcases hJ with h | h; exact absurd h.1 h55; exact h.2
            refine Sl.nil ?_
            refine At.weak [(0, _), (1, _), (2, _), (9, _), (10, _), (11, _), (36, _), (55, _)] ⟨rfl, rfl, rfl, rfl, rfl, rfl, rfl, rfl, trivial⟩ ?_
            refine At.go ?_
            refine Sc.cond_t rfl ?_
            refine Sc.seq ?_
            refine Sc.region ?_
            refine Sl.calm (Cm.assign rfl) rfl ?_
            refine Sl.calm (Cm.assign rfl) rfl ?_
            refine Sl.nil ?_
            refine At.go ?_
            refine Sc.ret ?_
            refine At.then_ret ?_
            refine At.ret2 rfl rfl rfl ?_
            rw [← hT, e]
            exact ⟨_, rfl, none, 0, rfl, Own.nil, Fr.none, hfin hB hz2 hBA (fun k ⟨a, ha, _⟩ => by cases ha), hF2⟩
          ·
            have e0 : e = 0 := Decidable.not_not.1 h55
            obtain ⟨_, hmay, hI⟩ := hJ.resolve_right (fun h => h.1 e0)
            obtain ⟨i1, i2, i3, i4⟩ := hI
            have hdn := (show TnI im fr to wide many.toNat os q from ⟨i1, i2, i3, i4⟩).done (by omega)
            obtain ⟨R, hR⟩ : ∃ R, R = readS im fr to q 1 := ⟨_, rfl⟩
            refine Sl.nil ?_
            refine At.weak [(0, _), (1, _), (2, _), (9, _), (10, _), (11, _), (36, _), (55, _)] ⟨rfl, rfl, rfl, rfl, rfl, rfl, rfl, rfl, trivial⟩ ?_
            refine At.go ?_
            refine Sc.cond_f rfl ?_
            refine Sc.skip ?_
            refine At.go ?_
            refine Sc.seq ?_
            refine Sc.seq ?_
            refine Sc.region ?_
            refine Sl.calm (Cm.move rfl) rfl ?_
            refine Sl.calm (Cm.move rfl) rfl ?_
            refine Sl.call fn61 rfl (mreadA_ok B g p im fr to q 1 w2 hB (by omega) (by omega) (by decide)) rfl ?_
            rw [← hR]
            rintro _ w3 ⟨o3, c3, rfl, ho3, hfr3, hM3, hF3⟩
            have hz3 := hF3.size
            have hFW3 : Foot A W w3 := hF2.trans_to hF3 (fun k hk => (hBA k hk).imp id (fun h => h.1))
            have hoo3 := hoo.keep hF3 (fun a ha e => hBo _ ⟨a, ha, rfl⟩ e)
            have hlo := hoo.lt
            have hB3 : ∀ k, (Nx B w2 w3 k ∧ ¬ blk o3 k) → A k ∨ (W.heap.size ≤ k ∧ k < w3.heap.size) := fun k hk => hk.1.elim (fun h => (hBA k h).imp id (fun h => ⟨h.1, by omega⟩)) (fun h => .inr ⟨by omega, h.2⟩)
            refine Sl.calm (Cm.move rfl) rfl ?_
            refine Sl.calm (Cm.extract rfl rfl) rfl ?_
            refine Sl.calm (Cm.extract rfl rfl) rfl ?_
            refine Sl.calm (Cm.extract rfl rfl) rfl ?_
            refine Sl.calm (Cm.assign rfl) rfl ?_
            refine Sl.calm (Cm.assign rfl) rfl ?_
            refine Sl.calm (Cm.assign rfl) rfl ?_
            refine Sl.nil ?_
            refine At.weak [(0, _), (1, _), (2, _), (9, _), (10, _), (11, _), (15, _), (36, _), (55, _)] ⟨rfl, rfl, rfl, rfl, rfl, rfl, rfl, rfl, rfl, trivial⟩ ?_
            refine At.go ?_
            refine Sc.seq ?_
            refine Sc.region ?_
            refine Sl.calm (Cm.move rfl) rfl ?_
            refine Sl.fork (Cm.eql rfl rfl) rfl (fun h64 => ?_) (fun h64 => ?_)
            ·
              have e : T = ([], 2) := by rw [hT]; exact tnS_more hok hdn (by rw [← hR]; exact h64)
              refine Sl.nil ?_
              refine At.weak [(0, _), (1, _), (2, _), (9, _), (10, _), (11, _), (15, _), (36, _), (55, _), (64, _)] ⟨rfl, rfl, rfl, rfl, rfl, rfl, rfl, rfl, rfl, rfl, trivial⟩ ?_
              refine At.go ?_
              refine Sc.cond_t rfl ?_
              refine Sc.seq ?_
              refine Sc.region ?_
              refine Sl.calm (Cm.assign rfl) rfl ?_
              refine Sl.calm (Cm.assign rfl) rfl ?_
              refine Sl.nil ?_
              refine At.go ?_
              refine Sc.ret ?_
              refine At.then_ret ?_
              refine At.ret2 rfl rfl rfl ?_
              rw [← hT, e]
              exact ⟨_, rfl, none, 0, rfl, Own.nil, Fr.none, hfin hM3 (by omega) hB3 (fun k ⟨a, ha, _⟩ => by cases ha), hFW3⟩
            ·
              have e : T = (os, 0) := by rw [hT]; exact tnS_good hok hmay hdn (by rw [← hR]; exact h64)
              refine Sl.nil ?_
              refine At.weak [(0, _), (1, _), (2, _), (9, _), (10, _), (11, _), (15, _), (36, _), (55, _), (64, _)] ⟨rfl, rfl, rfl, rfl, rfl, rfl, rfl, rfl, rfl, rfl, trivial⟩ ?_
              refine At.go ?_
              refine Sc.cond_f rfl ?_
              refine Sc.skip ?_
              refine At.go ?_
              refine Sc.seq ?_
              refine Sc.region ?_
              refine Sl.calm (Cm.move rfl) rfl ?_
              refine Sl.calm (Cm.assign rfl) rfl ?_
              refine Sl.calm (Cm.assign rfl) rfl ?_
              refine Sl.nil ?_
              refine At.weak [(0, _), (1, _), (2, _), (6, _), (7, _), (9, _), (10, _), (11, _), (15, _), (36, _), (55, _), (64, _)] ⟨rfl, rfl, rfl, rfl, rfl, rfl, rfl, rfl, rfl, rfl, rfl, rfl, trivial⟩ ?_
              refine At.go ?_
              refine Sc.ret ?_
              refine At.ret2 rfl rfl rfl ?_
              rw [← hT, e]
              exact ⟨_, rfl, oo, oc, rfl, hoo3, hfro, hfin hM3 (by omega) hB3 (fun k hb hk => by rcases hk.1 with h2 | h2; exact hBo k hb h2; obtain ⟨a, ha, e⟩ := hb; have := hlo a ha; omega), hFW3⟩
      ·
        refine Sl.calm (Cm.move rfl) rfl ?_
        refine Sl.skip rfl rfl rfl rfl ?_
        refine Sl.skip rfl rfl rfl rfl ?_
        refine Sl.calm (Cm.pick_f rfl rfl) rfl ?_
        refine Sl.nil ?_
        refine At.weak [(0, _), (1, _), (2, _), (9, _), (10, _), (11, _), (36, _)] ⟨rfl, rfl, rfl, rfl, rfl, rfl, rfl, trivial⟩ ?_
        refine At.go ?_
        refine Sc.cond_f rfl ?_
        refine Sc.exit ?_
        refine At.then_exit ?_
        refine At.then_exit ?_
        refine At.block_hit ?_
        refine At.go ?_
        refine Sc.seq ?_
        refine Sc.seq ?_
        refine Sc.region ?_
        refine Sl.calm (Cm.move rfl) rfl ?_
        refine Sl.fork (Cm.neq rfl rfl) rfl (fun h55 => ?_) (fun h55 => ?_)
        ·
          have e : T = ([], 2) := by rcases hJ with h | h; exact absurd h.1 h55; exact h.2
          refine Sl.nil ?_
          refine At.weak [(0, _), (1, _), (2, _), (9, _), (10, _), (11, _), (36, _), (55, _)] ⟨rfl, rfl, rfl, rfl, rfl, rfl, rfl, rfl, trivial⟩ ?_
          refine At.go ?_
          refine Sc.cond_t rfl ?_
          refine Sc.seq ?_
          refine Sc.region ?_
          refine Sl.calm (Cm.assign rfl) rfl ?_
          refine Sl.calm (Cm.assign rfl) rfl ?_
          refine Sl.nil ?_
          refine At.go ?_
          refine Sc.ret ?_
          refine At.then_ret ?_
          refine At.ret2 rfl rfl rfl ?_
          rw [← hT, e]
          exact ⟨_, rfl, none, 0, rfl, Own.nil, Fr.none, hfin hB hz2 hBA (fun k ⟨a, ha, _⟩ => by cases ha), hF2⟩
        ·
          have e0 : e = 0 := Decidable.not_not.1 h55
          obtain ⟨_, hmay, hI⟩ := hJ.resolve_right (fun h => h.1 e0)
          obtain ⟨i1, i2, i3, i4⟩ := hI
          have hdn := (show TnI im fr to wide many.toNat os q from ⟨i1, i2, i3, i4⟩).done (by omega)
          obtain ⟨R, hR⟩ : ∃ R, R = readS im fr to q 1 := ⟨_, rfl⟩
          refine Sl.nil ?_
          refine At.weak [(0, _), (1, _), (2, _), (9, _), (10, _), (11, _), (36, _), (55, _)] ⟨rfl, rfl, rfl, rfl, rfl, rfl, rfl, rfl, trivial⟩ ?_
          refine At.go ?_
          refine Sc.cond_f rfl ?_
          refine Sc.skip ?_
          refine At.go ?_
          refine Sc.seq ?_
          refine Sc.seq ?_
          refine Sc.region ?_
          refine Sl.calm (Cm.move rfl) rfl ?_
          refine Sl.calm (Cm.move rfl) rfl ?_
          refine Sl.call fn61 rfl (mreadA_ok B g p im fr to q 1 w2 hB (by omega) (by omega) (by decide)) rfl ?_
          rw [← hR]
          rintro _ w3 ⟨o3, c3, rfl, ho3, hfr3, hM3, hF3⟩
          have hz3 := hF3.size
          have hFW3 : Foot A W w3 := hF2.trans_to hF3 (fun k hk => (hBA k hk).imp id (fun h => h.1))
          have hoo3 := hoo.keep hF3 (fun a ha e => hBo _ ⟨a, ha, rfl⟩ e)
          have hlo := hoo.lt
          have hB3 : ∀ k, (Nx B w2 w3 k ∧ ¬ blk o3 k) → A k ∨ (W.heap.size ≤ k ∧ k < w3.heap.size) := fun k hk => hk.1.elim (fun h => (hBA k h).imp id (fun h => ⟨h.1, by omega⟩)) (fun h => .inr ⟨by omega, h.2⟩)
          refine Sl.calm (Cm.move rfl) rfl ?_
          refine Sl.calm (Cm.extract rfl rfl) rfl ?_
          refine Sl.calm (Cm.extract rfl rfl) rfl ?_
          refine Sl.calm (Cm.extract rfl rfl) rfl ?_
          refine Sl.calm (Cm.assign rfl) rfl ?_
          refine Sl.calm (Cm.assign rfl) rfl ?_
          refine Sl.calm (Cm.assign rfl) rfl ?_
          refine Sl.nil ?_
          refine At.weak [(0, _), (1, _), (2, _), (9, _), (10, _), (11, _), (15, _), (36, _), (55, _)] ⟨rfl, rfl, rfl, rfl, rfl, rfl, rfl, rfl, rfl, trivial⟩ ?_
          refine At.go ?_
          refine Sc.seq ?_
          refine Sc.region ?_
          refine Sl.calm (Cm.move rfl) rfl ?_
          refine Sl.fork (Cm.eql rfl rfl) rfl (fun h64 => ?_) (fun h64 => ?_)
          ·
            have e : T = ([], 2) := by rw [hT]; exact tnS_more hok hdn (by rw [← hR]; exact h64)
            refine Sl.nil ?_
            refine At.weak [(0, _), (1, _), (2, _), (9, _), (10, _), (11, _), (15, _), (36, _), (55, _), (64, _)] ⟨rfl, rfl, rfl, rfl, rfl, rfl, rfl, rfl, rfl, rfl, trivial⟩ ?_
            refine At.go ?_
            refine Sc.cond_t rfl ?_
            refine Sc.seq ?_
            refine Sc.region ?_
            refine Sl.calm (Cm.assign rfl) rfl ?_
            refine Sl.calm (Cm.assign rfl) rfl ?_
            refine Sl.nil ?_
            refine At.go ?_
            refine Sc.ret ?_
            refine At.then_ret ?_
            refine At.ret2 rfl rfl rfl ?_
            rw [← hT, e]
            exact ⟨_, rfl, none, 0, rfl, Own.nil, Fr.none, hfin hM3 (by omega) hB3 (fun k ⟨a, ha, _⟩ => by cases ha), hFW3⟩
          ·
            have e : T = (os, 0) := by rw [hT]; exact tnS_good hok hmay hdn (by rw [← hR]; exact h64)
            refine Sl.nil ?_
            refine At.weak [(0, _), (1, _), (2, _), (9, _), (10, _), (11, _), (15, _), (36, _), (55, _), (64, _)] ⟨rfl, rfl, rfl, rfl, rfl, rfl, rfl, rfl, rfl, rfl, trivial⟩ ?_
            refine At.go ?_
            refine Sc.cond_f rfl ?_
            refine Sc.skip ?_
            refine At.go ?_
            refine Sc.seq ?_
            refine Sc.region ?_
            refine Sl.calm (Cm.move rfl) rfl ?_
            refine Sl.calm (Cm.assign rfl) rfl ?_
            refine Sl.calm (Cm.assign rfl) rfl ?_
            refine Sl.nil ?_
            refine At.weak [(0, _), (1, _), (2, _), (6, _), (7, _), (9, _), (10, _), (11, _), (15, _), (36, _), (55, _), (64, _)] ⟨rfl, rfl, rfl, rfl, rfl, rfl, rfl, rfl, rfl, rfl, rfl, rfl, trivial⟩ ?_
            refine At.go ?_
            refine Sc.ret ?_
            refine At.ret2 rfl rfl rfl ?_
            rw [← hT, e]
            exact ⟨_, rfl, oo, oc, rfl, hoo3, hfro, hfin hM3 (by omega) hB3 (fun k hb hk => by rcases hk.1 with h2 | h2; exact hBo k hb h2; obtain ⟨a, ha, e⟩ := hb; have := hlo a ha; omega), hFW3⟩
end Go.Proofs.Ytoaplldahbbaiaa
