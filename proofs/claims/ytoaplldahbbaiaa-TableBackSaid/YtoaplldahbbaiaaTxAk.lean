/- table: texts, the program's. No condition beyond the bounds that each states. -/
import Derived.Test.YtoaplldahbbaiaaTxPk
import Derived.Test.YtoaplldahbbaiaaKD
namespace Go.Proofs.Ytoaplldahbbaiaa
open Go Go.RowKit
set_option linter.unusedVariables false

theorem u8_i64T (c : UInt8) : IntKind.i64.wrap ((c.toNat : Nat) : Int) = (c.toNat : Int) := wrap64_id (by have := UInt8.toNat_lt c; omega)
set_option maxHeartbeats 4000000 in
theorem texts_ok (A : Nat → Prop) (g p : Nat) (im : List UInt8) (fr to ref : Int) (many : Nat) (W : World) (hM : MrO A W.heap g p im fr to) (hA : ∀ k, A k → k < W.heap.size) (him : im.length ≤ 1073741824) (href : bdT ref) (hm : many ≤ 1000) :
    Calls Try.prog 63 [.pointer (some ⟨g, 0, none⟩), .int .i64 ref, .int .i64 many].toArray W (Ret fun v w' => ∃ o c hs l e,
      v = .tuple #[.slice o (List.length (α := List UInt8) l) c, .int .i64 e] ∧ ((rtTL im fr to many ref = none ∧ e ≠ 0) ∨ (e = 0 ∧ (∃ r, rtTL im fr to many ref = some (l, r)) ∧ (∀ x ∈ l, x.length ≤ 255) ∧ Own hd 25 w'.heap o c hs ∧ RowsV (fun k => W.heap.size ≤ k ∧ k < w'.heap.size) w'.heap hs l)) ∧
      Fr W.heap.size o ∧ MrO (Nx A W w') w'.heap g p im fr to ∧ Foot A W w') := by
  obtain ⟨ht, hp⟩ := hM.tab
  have hpl : p < W.heap.size := (Array.getElem?_eq_some_iff.1 ht).1
  have hfin : ∀ {B : Nat → Prop} {w : World}, MrO B w.heap g p im fr to → W.heap.size ≤ w.heap.size → (∀ k, B k → A k ∨ (W.heap.size ≤ k ∧ k < w.heap.size)) → MrO (Nx A W w) w.heap g p im fr to := fun h hs hB => h.mono hB (fun h2 => h2.elim hp (fun h3 => by omega))
  refine calls_of_sc 48 [(0, _), (1, _), (2, _)] Try.func63 rfl rfl rfl (enter_slots ⟨rfl, rfl, rfl, trivial⟩) ?_
  refine Sc.seq ?_
  refine Sc.region ?_
  refine Sl.calm (Cm.assign rfl) rfl ?_
  refine Sl.calm (Cm.assign rfl) rfl ?_
  refine Sl.nil ?_
  refine At.go ?_
  refine Sc.seq ?_
  refine Sc.region ?_
  refine Sl.calm (Cm.assign rfl) rfl ?_
  refine Sl.nil ?_
  refine At.go ?_
  refine Sc.seq ?_
  refine Sc.seq ?_
  refine Sc.region ?_
  refine Sl.calm (Cm.move rfl) rfl ?_
  refine Sl.calm (Cm.move rfl) rfl ?_
  refine Sl.nil ?_
  refine At.go ?_
  refine Sc.block ?_
  refine Sc.loop (β := ((List (List UInt8) × List Hd) × Int × (Nat → Prop)) × (Option Addr × Nat)) (fun ⟨⟨⟨ls, hs⟩, q, B⟩, ⟨oo, oc⟩⟩ => [(0, .pointer (some ⟨g, 0, none⟩)), (1, .int .i64 q), (8, .slice oo ls.length oc), (14, .int .i64 many), (15, .int .i64 ls.length)]) (fun ⟨⟨⟨ls, hs⟩, q, B⟩, ⟨oo, oc⟩⟩ w => TxI im fr to ref many ls q ∧ MrO B w.heap g p im fr to ∧ (∀ k, B k → A k ∨ (W.heap.size ≤ k ∧ k < w.heap.size)) ∧ (∀ k, blk oo k → ¬ B k) ∧ Own hd 25 w.heap oo oc hs ∧ RowsV (fun k => W.heap.size ≤ k ∧ k < w.heap.size ∧ ¬ B k ∧ ¬ blk oo k) w.heap hs ls ∧ Fr W.heap.size oo ∧ Foot A W w) (fun ⟨⟨⟨ls, hs⟩, q, B⟩, ⟨oo, oc⟩⟩ => many - ls.length) ⟨⟨⟨[], []⟩, ref, A⟩, ⟨none, 0⟩⟩ ⟨rfl, rfl, rfl, rfl, rfl, trivial⟩ ⟨TxI.zero href, hM, (fun k hk => .inl hk), (fun k ⟨a, ha, _⟩ => by cases ha), Own.nil, RowsV.nil, Fr.none, Foot.refl _ _⟩ ?_
  rintro ⟨⟨⟨ls, hs⟩, q, B⟩, ⟨oo, oc⟩⟩ w2 ⟨hI, hB, hBA, hBo, hoo, hrw, hfro, hF2⟩
  have hz2 := hF2.size
  refine Sc.seq ?_
  refine Sc.region ?_
  refine Sl.fork (Cm.lss rfl rfl) rfl (fun h16 => ?_) (fun h16 => ?_)
  ·
    have hlt : ls.length < many := by omega
    obtain ⟨i1, i2, i3, i4⟩ := hI
    have hI : TxI im fr to ref many ls q := ⟨i1, i2, i3, i4⟩
    obtain ⟨R, hR⟩ : ∃ R, R = readS im fr to q 1 := ⟨_, rfl⟩
    obtain ⟨S, hS⟩ : ∃ S, S = rtS1 im fr to q := ⟨_, rfl⟩
    refine Sl.nil ?_
    refine At.go ?_
    refine Sc.seq ?_
    refine Sc.cond_t rfl ?_
    refine Sc.skip ?_
    refine At.go ?_
    refine Sc.seq ?_
    refine Sc.block ?_
    refine Sc.seq ?_
    refine Sc.region ?_
    refine Sl.calm (Cm.move rfl) rfl ?_
    refine Sl.calm (Cm.move rfl) rfl ?_
    refine Sl.call fn61 rfl (mreadA_ok B g p im fr to q 1 w2 hB (by omega) i3 (by decide)) rfl ?_
    rw [← hR]
    rintro _ w3 ⟨o3, c3, rfl, ho3, hfr3, hM3, hF3⟩
    have hz3 := hF3.size
    have hFW3 : Foot A W w3 := hF2.trans_to hF3 (fun k hk => (hBA k hk).imp id (fun h => h.1))
    have hoo3 := hoo.keep hF3 (fun a ha e => hBo _ ⟨a, ha, rfl⟩ e)
    have hrw3 := hrw.keep hF3 (fun k hk => hk.2.2.1)
    have hB3 : ∀ k, (Nx B w2 w3 k ∧ ¬ blk o3 k) → A k ∨ (W.heap.size ≤ k ∧ k < w3.heap.size) := fun k hk => hk.1.elim (fun h => (hBA k h).imp id (fun h => ⟨h.1, by omega⟩)) (fun h => .inr ⟨by omega, h.2⟩)
    have hlo := hoo.lt
    refine Sl.calm (Cm.move rfl) rfl ?_
    refine Sl.calm (Cm.extract rfl rfl) rfl ?_
    refine Sl.calm (Cm.extract rfl rfl) rfl ?_
    refine Sl.calm (Cm.extract rfl rfl) rfl ?_
    refine Sl.calm (Cm.assign rfl) rfl ?_
    refine Sl.calm (Cm.assign rfl) rfl ?_
    refine Sl.calm (Cm.assign rfl) rfl ?_
    refine Sl.nil ?_
    refine At.weak [(0, _), (1, _), (8, _), (9, _), (10, _), (11, _), (14, _), (15, _), (16, _)] ⟨rfl, rfl, rfl, rfl, rfl, rfl, rfl, rfl, rfl, trivial⟩ ?_
    refine At.go ?_
    refine Sc.seq ?_
    refine Sc.seq ?_
    refine Sc.region ?_
    refine Sl.calm (Cm.move rfl) rfl ?_
    refine Sl.fork (Cm.neq rfl rfl) rfl (fun h25 => ?_) (fun h25 => ?_)
    ·
      have e5 : rtTL im fr to many ref = none := hI.bad hlt (by rw [rtS1_1 (by rw [← hR]; exact h25), ← hR]; exact h25)
      refine Sl.nil ?_
      refine At.weak [(0, _), (1, _), (8, _), (9, _), (10, _), (11, _), (14, _), (15, _), (16, _), (25, _)] ⟨rfl, rfl, rfl, rfl, rfl, rfl, rfl, rfl, rfl, rfl, trivial⟩ ?_
      refine At.go ?_
      refine Sc.cond_t rfl ?_
      refine Sc.seq ?_
      refine Sc.region ?_
      refine Sl.calm (Cm.move rfl) rfl ?_
      refine Sl.calm (Cm.assign rfl) rfl ?_
      refine Sl.calm (Cm.assign rfl) rfl ?_
      refine Sl.nil ?_
      refine At.weak [(0, _), (1, _), (6, _), (7, _), (8, _), (9, _), (10, _), (11, _), (14, _), (15, _), (16, _), (25, _)] ⟨rfl, rfl, rfl, rfl, rfl, rfl, rfl, rfl, rfl, rfl, rfl, rfl, trivial⟩ ?_
      refine At.go ?_
      refine Sc.ret ?_
      refine At.then_ret ?_
      refine At.block_ret ?_
      refine At.then_ret ?_
      refine At.then_ret ?_
      refine At.block_ret ?_
      refine At.then_ret ?_
      refine At.ret2 rfl rfl rfl ?_
      exact ⟨_, rfl, none, 0, [], [], _, rfl, .inl ⟨e5, h25⟩, Fr.none, hfin hM3 (by omega) hB3, hFW3⟩
    ·
      have e25 : R.2.2 = 0 := Decidable.not_not.1 h25
      have hl3 : (R.1.length : Int) = 1 := by have := e25; rw [hR] at this ⊢; exact (readS_ok this).2.2.2.1
      have eS : S = readS im fr to R.2.1 (R.1.getD 0 0).toNat := by rw [hS, rtS1_2 (by rw [← hR]; exact e25), ← hR]
      have hu := UInt8.toNat_lt (R.1.getD 0 0)
      have hRb : bdT R.2.1 := by rw [hR]; exact readS_bd i3 him
      refine Sl.nil ?_
      refine At.weak [(0, _), (1, _), (8, _), (9, _), (10, _), (11, _), (14, _), (15, _), (16, _), (25, _)] ⟨rfl, rfl, rfl, rfl, rfl, rfl, rfl, rfl, rfl, rfl, trivial⟩ ?_
      refine At.go ?_
      refine Sc.cond_f rfl ?_
      refine Sc.skip ?_
      refine At.go ?_
      refine Sc.seq ?_
      refine Sc.region ?_
      refine Sl.calm (Cm.move rfl) rfl ?_
      refine Sl.calm (Cm.move rfl) rfl ?_
      refine Sl.calm (Cm.move rfl) rfl ?_
      refine Sl.calm (Cm.indexAddr1 sl25 rfl rfl ho3.vw.non (by omega)) rfl ?_
      refine Sl.calm (Cm.ld sca5 rfl (ho3.vw.gz 0 0 rfl (by omega))) rfl ?_
      refine Sl.calm (Cm.convI_in (n := ((R.1.getD 0 0).toNat : Int)) is5 ty3 rfl (u8_i64T _)) rfl ?_
      refine Sl.call fn61 rfl (mreadA_ok (fun k => Nx B w2 w3 k ∧ ¬ blk o3 k) g p im fr to R.2.1 (R.1.getD 0 0).toNat w3 hM3 (by omega) hRb (by omega)) rfl ?_
      rw [← eS]
      rintro _ w4 ⟨o4, c4, rfl, ho4, hfr4, hM4, hF4⟩
      have hz4 := hF4.size
      have hFW4 : Foot A W w4 := hFW3.trans_to hF4 (fun k hk => (hB3 k hk).imp id (fun h => h.1))
      have hB4 : ∀ k, (Nx (fun k => Nx B w2 w3 k ∧ ¬ blk o3 k) w3 w4 k ∧ ¬ blk o4 k) → A k ∨ (W.heap.size ≤ k ∧ k < w4.heap.size) := fun k hk => hk.1.elim (fun h => (hB3 k h).imp id (fun h => ⟨h.1, by omega⟩)) (fun h => .inr ⟨by omega, h.2⟩)
      have hnb : ∀ k, k < w2.heap.size → ¬ B k → ¬ (Nx B w2 w3 k ∧ ¬ blk o3 k) := fun k hk hn h => h.1.elim hn (fun h => by omega)
      have hoo4 := hoo3.keep hF4 (fun a ha e => hnb _ (hlo a ha) (hBo _ ⟨a, ha, rfl⟩) e)
      have hrw4 := hrw3.keep hF4 (fun k hk => hnb k hk.2.1 hk.2.2.1)
      have hlo4 := ho4.lt
      refine Sl.calm (Cm.move rfl) rfl ?_
      refine Sl.calm (Cm.extract rfl rfl) rfl ?_
      refine Sl.calm (Cm.extract rfl rfl) rfl ?_
      refine Sl.calm (Cm.extract rfl rfl) rfl ?_
      refine Sl.calm (Cm.assign rfl) rfl ?_
      refine Sl.calm (Cm.assign rfl) rfl ?_
      refine Sl.calm (Cm.assign rfl) rfl ?_
      refine Sl.nil ?_
      refine At.weak [(0, _), (1, _), (8, _), (9, _), (10, _), (11, _), (12, _), (13, _), (14, _), (15, _), (16, _), (25, _)] ⟨rfl, rfl, rfl, rfl, rfl, rfl, rfl, rfl, rfl, rfl, rfl, rfl, trivial⟩ ?_
      refine At.go ?_
      refine Sc.seq ?_
      refine Sc.seq ?_
      refine Sc.region ?_
      refine Sl.calm (Cm.move rfl) rfl ?_
      refine Sl.fork (Cm.neq rfl rfl) rfl (fun h39 => ?_) (fun h39 => ?_)
      ·
        have e5 : rtTL im fr to many ref = none := hI.bad hlt (by rw [← hS]; exact h39)
        refine Sl.nil ?_
        refine At.weak [(0, _), (1, _), (8, _), (9, _), (10, _), (11, _), (12, _), (13, _), (14, _), (15, _), (16, _), (25, _), (39, _)] ⟨rfl, rfl, rfl, rfl, rfl, rfl, rfl, rfl, rfl, rfl, rfl, rfl, rfl, trivial⟩ ?_
        refine At.go ?_
        refine Sc.cond_t rfl ?_
        refine Sc.seq ?_
        refine Sc.region ?_
        refine Sl.calm (Cm.move rfl) rfl ?_
        refine Sl.calm (Cm.assign rfl) rfl ?_
        refine Sl.calm (Cm.assign rfl) rfl ?_
        refine Sl.nil ?_
        refine At.weak [(0, _), (1, _), (6, _), (7, _), (8, _), (9, _), (10, _), (11, _), (12, _), (13, _), (14, _), (15, _), (16, _), (25, _), (39, _)] ⟨rfl, rfl, rfl, rfl, rfl, rfl, rfl, rfl, rfl, rfl, rfl, rfl, rfl, rfl, rfl, trivial⟩ ?_
        refine At.go ?_
        refine Sc.ret ?_
        refine At.then_ret ?_
        refine At.block_ret ?_
        refine At.then_ret ?_
        refine At.then_ret ?_
        refine At.block_ret ?_
        refine At.then_ret ?_
        refine At.ret2 rfl rfl rfl ?_
        exact ⟨_, rfl, none, 0, [], [], _, rfl, .inl ⟨e5, h39⟩, Fr.none, hfin hM4 (by omega) hB4, hFW4⟩
      ·
        have e39 : S.2.2 = 0 := Decidable.not_not.1 h39
        have hI5 := hI.next hlt him (by rw [← hS]; exact e39)
        rw [← hS] at hI5
        refine Sl.nil ?_
        refine At.weak [(0, _), (1, _), (8, _), (9, _), (10, _), (11, _), (12, _), (13, _), (14, _), (15, _), (16, _), (25, _), (39, _)] ⟨rfl, rfl, rfl, rfl, rfl, rfl, rfl, rfl, rfl, rfl, rfl, rfl, rfl, trivial⟩ ?_
        refine At.go ?_
        refine Sc.cond_f rfl ?_
        refine Sc.skip ?_
        refine At.go ?_
        refine Sc.region ?_
        refine Sl.calm (Cm.move rfl) rfl ?_
        refine Sl.calm (Cm.move rfl) rfl ?_
        refine Sl.lit1 (enc := hd) (u := (⟨o4, S.1.length, c4⟩ : Hd)) sl114 rfl rfl rfl ?_
        intro w5 ho5 hs5 hf5
        have hz5 := hf5.size
        have hhl := hrw.1
        rw [show ls.length = hs.length from hrw.1.symm]
        refine Sl.append hd_one sl114 rfl rfl (hoo4.grow hf5) ho5.vw (by rw [hrw.1]; simp only [List.length_singleton]; omega) (by rw [hrw.1]; simp only [List.length_singleton]; unfold maxLen; omega) rfl ?_
        intro o6 c6 w6 ho6 hf6 hr6 hn6
        have hz6 := hf6.size
        have hl6 := ho6.lt
        have hM6 := (hM4.grow hf5).keep hf6 (fun k hk ⟨a, ha, e⟩ => by have h8 := hlo a ha; rcases hk.1 with h | h; exact hnb k (by omega) (hBo k ⟨a, ha, e⟩) h; have := h.1; omega) (fun ⟨a, ha, e⟩ => by have := hfro a ha; omega)
        have hFW6 : Foot A W w6 := (hFW4.trans hf5.any).trans_to hf6 (fun k ⟨a, ha, e⟩ => .inr (by have := hfro a ha; omega))
        have hrw6 := (hrw4.keep hf5 (fun _ _ => id)).keep hf6 (fun k hk => hk.2.2.2)
        have hv6 := ((ho4.grow hf5).keep hf6 (fun a ha ⟨b, hb, e⟩ => by have h1 := hfr4 a ha; have h2 := hlo b hb; omega)).vw
        refine Sl.calm (Cm.move rfl) rfl ?_
        refine Sl.calm (Cm.assign rfl) rfl ?_
        refine Sl.calm (Cm.assign rfl) rfl ?_
        refine Sl.nil ?_
        refine At.block_normal ?_
        refine At.weak [(0, _), (1, _), (8, _), (9, _), (10, _), (11, _), (12, _), (13, _), (14, _), (15, _), (16, _), (25, _), (39, _)] ⟨rfl, rfl, rfl, rfl, rfl, rfl, rfl, rfl, rfl, rfl, rfl, rfl, rfl, trivial⟩ ?_
        refine At.go ?_
        refine Sc.region ?_
        refine Sl.calm (Cm.add64 rfl rfl (by omega)) rfl ?_
        refine Sl.calm (Cm.move rfl) rfl ?_
        refine Sl.nil ?_
        refine At.again ⟨⟨⟨ls ++ [S.1], hs ++ [⟨o4, S.1.length, c4⟩]⟩, S.2.1, fun k => Nx (fun k => Nx B w2 w3 k ∧ ¬ blk o3 k) w3 w4 k ∧ ¬ blk o4 k⟩, ⟨o6, c6⟩⟩ ⟨rfl, rfl, ?_, rfl, ?_, trivial⟩ ⟨hI5, hM6, (fun k hk => (hB4 k hk).imp id (fun h => ⟨h.1, by omega⟩)), ?_, ho6, ?_, fr_next hfro hr6 (by omega), hFW6⟩ ?_
        · show some (Value.slice o6 (hs ++ _).length c6) = _
          rw [List.length_append, List.length_append, hrw.1]; rfl
        · show some (Value.int .i64 ((hs.length : Int) + 1)) = _
          rw [List.length_append, List.length_singleton, hrw.1]; rfl
        · intro k ⟨a, ha, e⟩ hk
          rcases hr6 a ha with h | h
          · rcases hk.1 with h2 | h2
            · exact hnb k (by have := hlo a h; omega) (hBo k ⟨a, h, e⟩) h2
            · have := hlo a h; have := h2.1; omega
          · rcases hk.1 with h2 | h2
            · rcases h2.1 with h3 | h3
              · rcases hBA k h3 with h4 | h4
                · have := hA k h4; omega
                · omega
              · omega
            · omega
        · refine (hrw6.mono ?_).snoc rfl hv6 ?_
          · intro k hk
            refine ⟨hk.1, by omega, fun h => ?_, fun ⟨a, ha, e⟩ => ?_⟩
            · rcases h.1 with h2 | h2
              · exact hnb k hk.2.1 hk.2.2.1 h2
              · have := h2.1; have := hk.2.1; omega
            · rcases hr6 a ha with h | h
              · exact hk.2.2.2 ⟨a, h, e⟩
              · have := hk.2.1; omega
          · intro _ k ⟨a, ha, e⟩
            have ha : o4 = some a := ha
            have h1 := hfr4 a ha
            have h2 := hlo4 a ha
            refine ⟨by omega, by omega, fun h => h.2 ⟨a, ha, e⟩, fun ⟨b, hb, e2⟩ => ?_⟩
            rcases hr6 b hb with h | h
            · have := hlo b h; omega
            · omega
        · show many - (ls ++ _).length < many - ls.length
          rw [List.length_append, List.length_singleton]; omega
  ·
    refine Sl.nil ?_
    refine At.go ?_
    refine Sc.seq ?_
    refine Sc.cond_f rfl ?_
    refine Sc.exit ?_
    refine At.then_exit ?_
    refine At.then_exit ?_
    refine At.block_hit ?_
    refine At.go ?_
    refine Sc.seq ?_
    refine Sc.region ?_
    refine Sl.calm (Cm.move rfl) rfl ?_
    refine Sl.calm (Cm.assign rfl) rfl ?_
    refine Sl.calm (Cm.assign rfl) rfl ?_
    refine Sl.nil ?_
    refine At.weak [(0, _), (1, _), (6, _), (7, _), (8, _), (14, _), (15, _), (16, _)] ⟨rfl, rfl, rfl, rfl, rfl, rfl, rfl, rfl, trivial⟩ ?_
    refine At.go ?_
    refine Sc.ret ?_
    refine At.ret2 rfl rfl rfl ?_
    have hdn := hI.done (by omega)
    exact ⟨_, rfl, oo, oc, hs, ls, 0, rfl, .inr ⟨rfl, ⟨_, hdn⟩, hI.2.2.2, hoo, hrw.mono (fun k hk => ⟨hk.1, hk.2.1⟩)⟩, hfro, hfin hB hz2 hBA, hF2⟩
end Go.Proofs.Ytoaplldahbbaiaa
