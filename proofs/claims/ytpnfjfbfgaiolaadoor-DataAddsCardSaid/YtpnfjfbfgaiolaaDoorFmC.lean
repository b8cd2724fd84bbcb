/- frame: Take, Skip: the program's. No condition beyond the bounds that each states. -/
import Derived.Test.YtpnfjfbfgaiolaaDoorFmB
namespace Go.Proofs.YtpnfjfbfgaiolaaDoor
open Go Go.RowKit
set_option linter.unusedVariables false

theorem fnP_any {W w' : World} {im : List UInt8} {a : Int} {v : Value} (h : FnP W im a v w') : ∃ po pc x s st nx e, v = .tuple #[.agg (ctC po x.length pc s st nx).toArray, .int .i64 e] ∧ Own b8 5 w'.heap po pc x ∧ Fr W.heap.size po ∧ Foot nob W w' ∧
    (e ≠ 0 → e = 2 ∧ nx = 0 ∧ cutS im a = none) ∧ (e = 0 → cutS im a = some (x, s, st) ∧ nx = a + lenF x) := by
  obtain ⟨hf, h⟩ := h
  split at h
  · rename_i hc
    exact ⟨none, 0, [], 0, false, 0, 2, h, Own.nil, Fr.none, hf, fun _ => ⟨rfl, rfl, hc⟩, fun h => by cases h⟩
  · rename_i x s st hc
    obtain ⟨po, pc, h1, h2, h3⟩ := h
    exact ⟨po, pc, x, s, st, _, 0, h1, h2, h3, hf, fun h => absurd rfl h, fun _ => ⟨hc, rfl⟩⟩
def TkFP (W : World) (r : List UInt8 × Int × Int) : Value → World → Prop := fun v w' => ∃ o c, v = .tuple #[.slice o r.1.length c, .int .i64 r.2.1, .int .i64 r.2.2] ∧ Own b8 5 w'.heap o c r.1 ∧ Fr W.heap.size o ∧ Foot nob W w'
theorem takeS_none {im : List UInt8} {a : Int} (h : cutS im a = none) : takeS im a = ([], 0, 2) := by unfold takeS takeC; rw [h]; rfl
section
variable {im : List UInt8} {a : Int} {x : List UInt8} {s : Nat} {st : Bool} (h : cutS im a = some (x, s, st))
include h
theorem takeS_empty (h0 : x.length = 0) : takeS im a = ([], a + lenF x, 0) := by
  unfold takeS takeC
  rw [h]
  simp only
  rw [if_pos h0]
  simp [lenF, h0]
theorem takeS_sum (h0 : ¬ x.length = 0) (h1 : sumS x ≠ s) : takeS im a = ([], 0, 2) := by
  unfold takeS takeC
  rw [h]
  simp only
  rw [if_neg h0, if_pos h1]; rfl
theorem takeS_stored (h0 : ¬ x.length = 0) (h1 : ¬ sumS x ≠ s) (h2 : st = true) : takeS im a = (x, a + lenF x, 0) := by
  unfold takeS takeC
  rw [h]
  simp only
  rw [if_neg h0, if_neg h1, if_pos h2]; rfl
theorem takeS_bad (h0 : ¬ x.length = 0) (h1 : ¬ sumS x ≠ s) (h2 : ¬ st = true) (h3 : (up 128 x []).2 ≠ 0 ∨ (up 128 x []).1.length = 0) : takeS im a = ([], 0, 2) := by
  unfold takeS takeC
  rw [h]
  simp only
  rw [if_neg h0, if_neg h1, if_neg h2, if_pos h3]; rfl
theorem takeS_lz (h0 : ¬ x.length = 0) (h1 : ¬ sumS x ≠ s) (h2 : ¬ st = true) (h3 : ¬ ((up 128 x []).2 ≠ 0 ∨ (up 128 x []).1.length = 0)) : takeS im a = ((up 128 x []).1, a + lenF x, 0) := by
  unfold takeS takeC
  rw [h]
  simp only
  rw [if_neg h0, if_neg h1, if_neg h2, if_neg h3]; rfl
end
theorem upS_128 (x : List UInt8) : upS x 128 = up 128 x [] := by unfold upS; rw [if_neg (by decide)]
theorem cutP_len {r x : List UInt8} {s : Nat} {st : Bool} (h : cutP r = some (x, s, st)) : x.length ≤ 128 ∧ s < 4294967296 := by
  unfold cutP at h
  split at h
  · cases h
  · split at h
    · cases h
    · split at h
      · cases h
      · split at h
        · cases h; simp
        · split at h
          · cases h
          · cases h
            exact ⟨by rw [List.length_take]; omega, valB_small (by rw [List.length_take]; omega)⟩
theorem cutS_len {im : List UInt8} {a : Int} {x : List UInt8} {s : Nat} {st : Bool} (h : cutS im a = some (x, s, st)) : x.length ≤ 128 ∧ s < 4294967296 := by
  unfold cutS at h
  split at h
  · cases h
  · exact cutP_len h

set_option maxHeartbeats 2000000 in
theorem ftake_ok (p : Nat) (io : Option Addr) (ic : Nat) (im : List UInt8) (a : Int) (W : World) (ht : TbV W.heap p) (hv : Vw b8 W.heap io ic im) (hb : im.length ≤ 1099511627776) (ha : a ≤ 9223372036854775807) :
    Calls Tryd.prog 29 [.pointer (some ⟨p, 0, none⟩), .slice io im.length ic, .int .i64 a].toArray W (Ret (TkFP W (takeS im a))) := by
  refine calls_of_sc 58 [(0, _), (1, _), (2, _)] Tryd.func29 rfl rfl rfl (enter_slots ⟨rfl, rfl, rfl, trivial⟩) ?_
  refine Sc.seq ?_
  refine Sc.region ?_
  refine Sl.calm (Cm.assign rfl) rfl ?_
  refine Sl.calm (Cm.assign rfl) rfl ?_
  refine Sl.calm (Cm.assign rfl) rfl ?_
  refine Sl.nil ?_
  refine At.go ?_
  refine Sc.seq ?_
  refine Sc.region ?_
  refine Sl.calm (Cm.move rfl) rfl ?_
  refine Sl.calm (Cm.move rfl) rfl ?_
  refine Sl.call fn48 rfl (find_ok io ic im a W hv hb ha) rfl ?_
  intro _ w1 hR
  obtain ⟨po, pc, x, s, st, nx, e, rfl, ho1, hfr1, hf1, hE0, hE1⟩ := fnP_any hR
  refine Sl.calm (Cm.move rfl) rfl ?_
  refine Sl.calm (Cm.extract rfl rfl) rfl ?_
  refine Sl.calm (Cm.extract rfl rfl) rfl ?_
  refine Sl.allocC zc93 rfl ?_
  intro w2 hg2 hs2 hf2
  refine Sl.storeAll (vs := ctC po x.length pc s st nx) agg93 rfl rfl (by exact ctC_one _ _ _ _ _ _) hg2 rfl ?_
  intro w3 hg3 hs3 hf3
  obtain ⟨q, hq⟩ : ∃ q, q = w1.heap.size := ⟨_, rfl⟩
  rw [← hq] at hg3 ⊢
  have hz1 := hf1.size
  have hF3 : Foot nob W w3 := (hf1.trans hf2).trans_to hf3 (fun k hk => .inr (by have h : k = w1.heap.size := hk; omega))
  have ho3 := (ho1.grow hf2).keep hf3 (fun b hb h => by have := ho1.lt b hb; have h : b.block = w1.heap.size := h; omega)
  have ht3 : TbV w3.heap p := hF3.obj ht id
  refine Sl.calm (Cm.assign rfl) rfl ?_
  refine Sl.nil ?_
  refine At.weak [(0, _), (1, _), (2, _), (6, _), (7, _), (8, _), (9, _)] ⟨rfl, rfl, rfl, rfl, rfl, rfl, rfl, trivial⟩ ?_
  refine At.go ?_
  refine Sc.seq ?_
  refine Sc.block ?_
  refine Sc.seq ?_
  refine Sc.region ?_
  refine Sl.calm (Cm.move rfl) rfl ?_
  refine Sl.fork (Cm.neq rfl rfl) rfl (fun h18 => ?_) (fun h18 => ?_)
  ·
    obtain ⟨he2, hnx, hcs⟩ := hE0 h18
    have hT := takeS_none hcs
    refine Sl.calm (Cm.assign rfl) rfl ?_
    refine Sl.nil ?_
    refine At.weak [(0, _), (1, _), (2, _), (6, _), (7, _), (8, _), (9, _), (16, _)] ⟨rfl, rfl, rfl, rfl, rfl, rfl, rfl, rfl, trivial⟩ ?_
    refine At.go ?_
    refine Sc.cond_t rfl ?_
    refine Sc.seq ?_
    refine Sc.region ?_
    refine Sl.calm (Cm.move rfl) rfl ?_
    refine Sl.calm (Cm.assign rfl) rfl ?_
    refine Sl.calm (Cm.assign rfl) rfl ?_
    refine Sl.calm (Cm.assign rfl) rfl ?_
    refine Sl.nil ?_
    refine At.weak [(0, _), (1, _), (2, _), (6, _), (7, _), (8, _), (9, _), (16, _)] ⟨rfl, rfl, rfl, rfl, rfl, rfl, rfl, rfl, trivial⟩ ?_
    refine At.go ?_
    refine Sc.ret ?_
    refine At.block_ret ?_
    refine At.then_ret ?_
    refine At.ret3 rfl rfl rfl rfl ?_
    rw [hT]
    first
      | exact ⟨_, rfl, none, 0, by rw [he2]; rfl, Own.nil, Fr.none, hF3⟩
      | exact ⟨_, rfl, none, 0, by rw [hnx]; rfl, Own.nil, Fr.none, hF3⟩
      | exact ⟨_, rfl, none, 0, by rw [hnx]; rfl, Own.nil, Fr.none, hF3.draws 1⟩
      | exact ⟨_, rfl, none, 0, rfl, Own.nil, Fr.none, hF3.draws 1⟩
      | exact ⟨_, rfl, po, pc, by rw [hnx], ho3, hfr1, (hF3.draws 1).draws 1⟩
      | exact ⟨_, rfl, none, 0, rfl, Own.nil, Fr.none, hF3.trans hf5⟩
      | exact ⟨_, rfl, o5, c5, by rw [hnx], ho5, fun b hb => Nat.le_trans hF3.size (hfr5 b hb), (hF3.trans hf5).draws 1⟩
  ·
    have he : e = 0 := Decidable.not_not.1 h18
    obtain ⟨hcs, hnx⟩ := hE1 he
    obtain ⟨hxl, hsl⟩ := cutS_len hcs
    refine Sl.calm (Cm.assign rfl) rfl ?_
    refine Sl.nil ?_
    refine At.weak [(0, _), (1, _), (2, _), (6, _), (7, _), (8, _), (9, _), (16, _)] ⟨rfl, rfl, rfl, rfl, rfl, rfl, rfl, rfl, trivial⟩ ?_
    refine At.go ?_
    refine Sc.cond_f rfl ?_
    refine Sc.seq ?_
    refine Sc.region ?_
    refine Sl.calm (Cm.field fld93_0 rfl) rfl ?_
    refine Sl.calm (Cm.ld sca23 rfl (cellF hg3 rfl)) rfl ?_
    refine Sl.calm (Cm.len sl23 rfl) rfl ?_
    refine Sl.fork (Cm.eql rfl rfl) rfl (fun h24 => ?_) (fun h24 => ?_)
    ·
      have hT := takeS_empty hcs (by omega)
      have hx0 : x = [] := List.eq_nil_of_length_eq_zero (by omega)
      refine Sl.calm (Cm.assign rfl) rfl ?_
      refine Sl.nil ?_
      refine At.weak [(0, _), (1, _), (2, _), (6, _), (7, _), (8, _), (9, _), (16, _), (20, _)] ⟨rfl, rfl, rfl, rfl, rfl, rfl, rfl, rfl, rfl, trivial⟩ ?_
      refine At.go ?_
      refine Sc.cond_t rfl ?_
      refine Sc.seq ?_
      refine Sc.quiet 5 [0, 1, 2, 3, 4] mixed (by kernel_rfl) ?_
      refine Sx.calm rfl rfl (Cm.field fld93_3 rfl) rfl ?_
      refine Sx.calm rfl rfl (Cm.ld sca3 rfl (cellF hg3 rfl)) rfl ?_
      refine Sx.calm rfl rfl (Cm.assign rfl) rfl ?_
      refine Sx.calm rfl rfl (Cm.assign rfl) rfl ?_
      refine Sx.calm rfl rfl (Cm.assign rfl) rfl ?_
      refine Sx.nil ?_
      refine At.weak [(0, _), (1, _), (2, _), (6, _), (7, _), (8, _), (9, _), (16, _), (20, _)] ⟨rfl, rfl, rfl, rfl, rfl, rfl, rfl, rfl, rfl, trivial⟩ ?_
      refine At.go ?_
      refine Sc.ret ?_
      refine At.block_ret ?_
      refine At.then_ret ?_
      refine At.ret3 rfl rfl rfl rfl ?_
      rw [hT]
      first
        | exact ⟨_, rfl, none, 0, by rw [he2]; rfl, Own.nil, Fr.none, hF3⟩
        | exact ⟨_, rfl, none, 0, by rw [hnx]; rfl, Own.nil, Fr.none, hF3⟩
        | exact ⟨_, rfl, none, 0, by rw [hnx]; rfl, Own.nil, Fr.none, hF3.draws 1⟩
        | exact ⟨_, rfl, none, 0, rfl, Own.nil, Fr.none, hF3.draws 1⟩
        | exact ⟨_, rfl, po, pc, by rw [hnx], ho3, hfr1, (hF3.draws 1).draws 1⟩
        | exact ⟨_, rfl, none, 0, rfl, Own.nil, Fr.none, hF3.trans hf5⟩
        | exact ⟨_, rfl, o5, c5, by rw [hnx], ho5, fun b hb => Nat.le_trans hF3.size (hfr5 b hb), (hF3.trans hf5).draws 1⟩
    ·
      have hx0 : ¬ x.length = 0 := by omega
      refine Sl.calm (Cm.assign rfl) rfl ?_
      refine Sl.nil ?_
      refine At.weak [(0, _), (1, _), (2, _), (6, _), (7, _), (8, _), (9, _), (16, _), (20, _)] ⟨rfl, rfl, rfl, rfl, rfl, rfl, rfl, rfl, rfl, trivial⟩ ?_
      refine At.go ?_
      refine Sc.cond_f rfl ?_
      refine Sc.seq ?_
      refine Sc.draw 8 (fun H => H[q]? = some (.cells (ctC po x.length pc s st nx).toArray 93 (0, 0))) [3] [0, 1, 2, 4, 5, 3, 6, 7] mixed (by kernel_rfl) (hg3) ?_
      refine Sx.calm rfl rfl (Cm.move rfl) rfl ?_
      refine Sx.calm rfl rfl (Cm.field fld93_0 rfl) rfl ?_
      refine Sx.calm rfl rfl (Cm.load sca23 rfl (fun H hH => cellF hH rfl)) rfl ?_
      refine Sx.calm rfl rfl (Cm.field fld93_1 rfl) rfl ?_
      refine Sx.calm rfl rfl (Cm.load sca26 rfl (fun H hH => cellF hH rfl)) rfl ?_
      refine Sx.eff rfl rfl (Sl.call fn38 rfl (sum_ok p po pc x _ ht3 ho3.vw) rfl ?_)
      rintro _ wq ⟨rfl, hwq⟩
      subst wq
      refine Sx.on (by exact hg3) ?_
      refine Sx.fork rfl rfl (Cm.neq rfl rfl) rfl (fun h34 => ?_) (fun h34 => ?_)
      ·
        have hT := takeS_sum hcs hx0 (fun h => h34 (by rw [h]))
        refine Sx.calm rfl rfl (Cm.assign rfl) rfl ?_
        refine Sx.nil ?_
        refine At.weak [(0, _), (1, _), (2, _), (6, _), (7, _), (8, _), (9, _), (16, _), (20, _), (27, _)] ⟨rfl, rfl, rfl, rfl, rfl, rfl, rfl, rfl, rfl, rfl, trivial⟩ ?_
        refine At.go ?_
        refine Sc.cond_t rfl ?_
        refine Sc.seq ?_
        refine Sc.region ?_
        refine Sl.calm (Cm.assign rfl) rfl ?_
        refine Sl.calm (Cm.assign rfl) rfl ?_
        refine Sl.calm (Cm.assign rfl) rfl ?_
        refine Sl.nil ?_
        refine At.go ?_
        refine Sc.ret ?_
        refine At.block_ret ?_
        refine At.then_ret ?_
        refine At.ret3 rfl rfl rfl rfl ?_
        rw [hT]
        first
          | exact ⟨_, rfl, none, 0, by rw [he2]; rfl, Own.nil, Fr.none, hF3⟩
          | exact ⟨_, rfl, none, 0, by rw [hnx]; rfl, Own.nil, Fr.none, hF3⟩
          | exact ⟨_, rfl, none, 0, by rw [hnx]; rfl, Own.nil, Fr.none, hF3.draws 1⟩
          | exact ⟨_, rfl, none, 0, rfl, Own.nil, Fr.none, hF3.draws 1⟩
          | exact ⟨_, rfl, po, pc, by rw [hnx], ho3, hfr1, (hF3.draws 1).draws 1⟩
          | exact ⟨_, rfl, none, 0, rfl, Own.nil, Fr.none, hF3.trans hf5⟩
          | exact ⟨_, rfl, o5, c5, by rw [hnx], ho5, fun b hb => Nat.le_trans hF3.size (hfr5 b hb), (hF3.trans hf5).draws 1⟩
      ·
        have hsum : ¬ sumS x ≠ s := fun h => h34 (fun h2 => h (by omega))
        refine Sx.calm rfl rfl (Cm.assign rfl) rfl ?_
        refine Sx.nil ?_
        refine At.weak [(0, _), (1, _), (2, _), (6, _), (7, _), (8, _), (9, _), (16, _), (20, _), (27, _)] ⟨rfl, rfl, rfl, rfl, rfl, rfl, rfl, rfl, rfl, rfl, trivial⟩ ?_
        refine At.go ?_
        refine Sc.cond_f rfl ?_
        refine Sc.seq ?_
        refine Sc.region ?_
        refine Sl.calm (Cm.field fld93_2 rfl) rfl ?_
        refine Sl.fork (Cm.ofBool (Cm.ld sca4 rfl (cellF hg3 rfl))) rfl (fun h37 => ?_) (fun h37 => ?_)
        ·
          have hT := takeS_stored hcs hx0 hsum h37
          refine Sl.calm (Cm.assign rfl) rfl ?_
          refine Sl.nil ?_
          refine At.weak [(0, _), (1, _), (2, _), (6, _), (7, _), (8, _), (9, _), (16, _), (20, _), (27, _), (35, _)] ⟨rfl, rfl, rfl, rfl, rfl, rfl, rfl, rfl, rfl, rfl, rfl, trivial⟩ ?_
          refine At.go ?_
          refine Sc.cond_t rfl ?_
          refine Sc.seq ?_
          refine Sc.quiet 7 [0, 1, 2, 3, 4, 5, 6] mixed (by kernel_rfl) ?_
          refine Sx.calm rfl rfl (Cm.field fld93_0 rfl) rfl ?_
          refine Sx.calm rfl rfl (Cm.ld sca23 rfl (cellF hg3 rfl)) rfl ?_
          refine Sx.calm rfl rfl (Cm.field fld93_3 rfl) rfl ?_
          refine Sx.calm rfl rfl (Cm.ld sca3 rfl (cellF hg3 rfl)) rfl ?_
          refine Sx.calm rfl rfl (Cm.assign rfl) rfl ?_
          refine Sx.calm rfl rfl (Cm.assign rfl) rfl ?_
          refine Sx.calm rfl rfl (Cm.assign rfl) rfl ?_
          refine Sx.nil ?_
          refine At.weak [(0, _), (1, _), (2, _), (6, _), (7, _), (8, _), (9, _), (16, _), (20, _), (27, _), (35, _)] ⟨rfl, rfl, rfl, rfl, rfl, rfl, rfl, rfl, rfl, rfl, rfl, trivial⟩ ?_
          refine At.go ?_
          refine Sc.ret ?_
          refine At.block_ret ?_
          refine At.then_ret ?_
          refine At.ret3 rfl rfl rfl rfl ?_
          rw [hT]
          first
            | exact ⟨_, rfl, none, 0, by rw [he2]; rfl, Own.nil, Fr.none, hF3⟩
            | exact ⟨_, rfl, none, 0, by rw [hnx]; rfl, Own.nil, Fr.none, hF3⟩
            | exact ⟨_, rfl, none, 0, by rw [hnx]; rfl, Own.nil, Fr.none, hF3.draws 1⟩
            | exact ⟨_, rfl, none, 0, rfl, Own.nil, Fr.none, hF3.draws 1⟩
            | exact ⟨_, rfl, po, pc, by rw [hnx], ho3, hfr1, (hF3.draws 1).draws 1⟩
            | exact ⟨_, rfl, none, 0, rfl, Own.nil, Fr.none, hF3.trans hf5⟩
            | exact ⟨_, rfl, o5, c5, by rw [hnx], ho5, fun b hb => Nat.le_trans hF3.size (hfr5 b hb), (hF3.trans hf5).draws 1⟩
        ·
          refine Sl.calm (Cm.assign rfl) rfl ?_
          refine Sl.nil ?_
          refine At.weak [(0, _), (1, _), (2, _), (6, _), (7, _), (8, _), (9, _), (16, _), (20, _), (27, _), (35, _)] ⟨rfl, rfl, rfl, rfl, rfl, rfl, rfl, rfl, rfl, rfl, rfl, trivial⟩ ?_
          refine At.go ?_
          refine Sc.cond_f rfl ?_
          refine Sc.skip ?_
          refine At.block_normal ?_
          refine At.go ?_
          refine Sc.seq ?_
          refine Sc.region ?_
          refine Sl.calm (Cm.field fld93_0 rfl) rfl ?_
          refine Sl.calm (Cm.ld sca23 rfl (cellF hg3 rfl)) rfl ?_
          refine Sl.call fn49 rfl (unpack_ok po pc x 128 _ ho3.vw (by omega) (by decide)) rfl ?_
          rw [upS_128]
          rintro _ w5 ⟨o5, c5, rfl, ho5, hfr5, hf5⟩
          have hf5 := hf5.undraw
          have hg5 := hf5.obj hg3 id
          refine Sl.calm (Cm.move rfl) rfl ?_
          refine Sl.calm (Cm.extract rfl rfl) rfl ?_
          refine Sl.calm (Cm.extract rfl rfl) rfl ?_
          refine Sl.calm (Cm.assign rfl) rfl ?_
          refine Sl.calm (Cm.assign rfl) rfl ?_
          refine Sl.nil ?_
          refine At.weak [(0, _), (1, _), (2, _), (6, _), (7, _), (8, _), (9, _), (16, _), (20, _), (27, _), (35, _)] ⟨rfl, rfl, rfl, rfl, rfl, rfl, rfl, rfl, rfl, rfl, rfl, trivial⟩ ?_
          refine At.go ?_
          refine Sc.seq ?_
          refine Sc.seq ?_
          refine Sc.region ?_
          refine Sl.calm (Cm.move rfl) rfl ?_
          refine Sl.fork (Cm.neq rfl rfl) rfl (fun h49 => ?_) (fun h49 => ?_)
          ·
            have hT := takeS_bad hcs hx0 hsum h37 (.inl h49)
            refine Sl.calm (Cm.move rfl) rfl ?_
            refine Sl.skip rfl rfl rfl rfl ?_
            refine Sl.skip rfl rfl rfl rfl ?_
            refine Sl.skip rfl rfl rfl rfl ?_
            refine Sl.calm (Cm.pick_t rfl rfl) rfl ?_
            refine Sl.nil ?_
            refine At.weak [(0, _), (1, _), (2, _), (6, _), (7, _), (8, _), (9, _), (16, _), (20, _), (27, _), (35, _), (54, _)] ⟨rfl, rfl, rfl, rfl, rfl, rfl, rfl, rfl, rfl, rfl, rfl, rfl, trivial⟩ ?_
            refine At.go ?_
            refine Sc.cond_t rfl ?_
            refine Sc.seq ?_
            refine Sc.region ?_
            refine Sl.calm (Cm.assign rfl) rfl ?_
            refine Sl.calm (Cm.assign rfl) rfl ?_
            refine Sl.calm (Cm.assign rfl) rfl ?_
            refine Sl.nil ?_
            refine At.go ?_
            refine Sc.ret ?_
            refine At.then_ret ?_
            refine At.ret3 rfl rfl rfl rfl ?_
            rw [hT]
            first
              | exact ⟨_, rfl, none, 0, by rw [he2]; rfl, Own.nil, Fr.none, hF3⟩
              | exact ⟨_, rfl, none, 0, by rw [hnx]; rfl, Own.nil, Fr.none, hF3⟩
              | exact ⟨_, rfl, none, 0, by rw [hnx]; rfl, Own.nil, Fr.none, hF3.draws 1⟩
              | exact ⟨_, rfl, none, 0, rfl, Own.nil, Fr.none, hF3.draws 1⟩
              | exact ⟨_, rfl, po, pc, by rw [hnx], ho3, hfr1, (hF3.draws 1).draws 1⟩
              | exact ⟨_, rfl, none, 0, rfl, Own.nil, Fr.none, hF3.trans hf5⟩
              | exact ⟨_, rfl, o5, c5, by rw [hnx], ho5, fun b hb => Nat.le_trans hF3.size (hfr5 b hb), (hF3.trans hf5).draws 1⟩
          ·
            have hu0 : (up 128 x []).2 = 0 := Decidable.not_not.1 h49
            refine Sl.calm (Cm.move rfl) rfl ?_
            refine Sl.want rfl rfl (Cm.move rfl) rfl ?_
            refine Sl.want rfl rfl (Cm.len sl23 rfl) rfl ?_
            refine Sl.forkWant rfl rfl (Cm.eql rfl rfl) rfl (fun h53 => ?_) (fun h53 => ?_)
            ·
              have hT := takeS_bad hcs hx0 hsum h37 (.inr (by omega))
              refine Sl.calm (Cm.pick_f rfl rfl) rfl ?_
              refine Sl.nil ?_
              refine At.weak [(0, _), (1, _), (2, _), (6, _), (7, _), (8, _), (9, _), (16, _), (20, _), (27, _), (35, _), (54, _)] ⟨rfl, rfl, rfl, rfl, rfl, rfl, rfl, rfl, rfl, rfl, rfl, rfl, trivial⟩ ?_
              refine At.go ?_
              refine Sc.cond_t rfl ?_
              refine Sc.seq ?_
              refine Sc.region ?_
              refine Sl.calm (Cm.assign rfl) rfl ?_
              refine Sl.calm (Cm.assign rfl) rfl ?_
              refine Sl.calm (Cm.assign rfl) rfl ?_
              refine Sl.nil ?_
              refine At.go ?_
              refine Sc.ret ?_
              refine At.then_ret ?_
              refine At.ret3 rfl rfl rfl rfl ?_
              rw [hT]
              first
                | exact ⟨_, rfl, none, 0, by rw [he2]; rfl, Own.nil, Fr.none, hF3⟩
                | exact ⟨_, rfl, none, 0, by rw [hnx]; rfl, Own.nil, Fr.none, hF3⟩
                | exact ⟨_, rfl, none, 0, by rw [hnx]; rfl, Own.nil, Fr.none, hF3.draws 1⟩
                | exact ⟨_, rfl, none, 0, rfl, Own.nil, Fr.none, hF3.draws 1⟩
                | exact ⟨_, rfl, po, pc, by rw [hnx], ho3, hfr1, (hF3.draws 1).draws 1⟩
                | exact ⟨_, rfl, none, 0, rfl, Own.nil, Fr.none, hF3.trans hf5⟩
                | exact ⟨_, rfl, o5, c5, by rw [hnx], ho5, fun b hb => Nat.le_trans hF3.size (hfr5 b hb), (hF3.trans hf5).draws 1⟩
            ·
              have hT := takeS_lz hcs hx0 hsum h37 (by rintro (h | h); exact h hu0; omega)
              refine Sl.calm (Cm.pick_f rfl rfl) rfl ?_
              refine Sl.nil ?_
              refine At.weak [(0, _), (1, _), (2, _), (6, _), (7, _), (8, _), (9, _), (16, _), (20, _), (27, _), (35, _), (54, _)] ⟨rfl, rfl, rfl, rfl, rfl, rfl, rfl, rfl, rfl, rfl, rfl, rfl, trivial⟩ ?_
              refine At.go ?_
              refine Sc.cond_f rfl ?_
              refine Sc.skip ?_
              refine At.go ?_
              refine Sc.seq ?_
              refine Sc.quiet 6 [0, 1, 2, 3, 4, 5] mixed (by kernel_rfl) ?_
              refine Sx.calm rfl rfl (Cm.move rfl) rfl ?_
              refine Sx.calm rfl rfl (Cm.field fld93_3 rfl) rfl ?_
              refine Sx.calm rfl rfl (Cm.ld sca3 rfl (cellF hg5 rfl)) rfl ?_
              refine Sx.calm rfl rfl (Cm.assign rfl) rfl ?_
              refine Sx.calm rfl rfl (Cm.assign rfl) rfl ?_
              refine Sx.calm rfl rfl (Cm.assign rfl) rfl ?_
              refine Sx.nil ?_
              refine At.weak [(0, _), (1, _), (2, _), (6, _), (7, _), (8, _), (9, _), (16, _), (20, _), (27, _), (35, _), (54, _)] ⟨rfl, rfl, rfl, rfl, rfl, rfl, rfl, rfl, rfl, rfl, rfl, rfl, trivial⟩ ?_
              refine At.go ?_
              refine Sc.ret ?_
              refine At.ret3 rfl rfl rfl rfl ?_
              rw [hT]
              first
                | exact ⟨_, rfl, none, 0, by rw [he2]; rfl, Own.nil, Fr.none, hF3⟩
                | exact ⟨_, rfl, none, 0, by rw [hnx]; rfl, Own.nil, Fr.none, hF3⟩
                | exact ⟨_, rfl, none, 0, by rw [hnx]; rfl, Own.nil, Fr.none, hF3.draws 1⟩
                | exact ⟨_, rfl, none, 0, rfl, Own.nil, Fr.none, hF3.draws 1⟩
                | exact ⟨_, rfl, po, pc, by rw [hnx], ho3, hfr1, (hF3.draws 1).draws 1⟩
                | exact ⟨_, rfl, none, 0, rfl, Own.nil, Fr.none, hF3.trans hf5⟩
                | exact ⟨_, rfl, o5, c5, by rw [hnx], ho5, fun b hb => Nat.le_trans hF3.size (hfr5 b hb), (hF3.trans hf5).draws 1⟩
theorem skipS_none {im : List UInt8} {a : Int} (h : cutS im a = none) : skipS im a = (0, 2) := by unfold skipS; rw [h]
theorem skipS_some {im : List UInt8} {a : Int} {x : List UInt8} {s : Nat} {st : Bool} (h : cutS im a = some (x, s, st)) : skipS im a = (a + lenF x, 0) := by unfold skipS; rw [h]
theorem fskip_ok (io : Option Addr) (ic : Nat) (im : List UInt8) (a : Int) (W : World) (hv : Vw b8 W.heap io ic im) (hb : im.length ≤ 1099511627776) (ha : a ≤ 9223372036854775807) :
    Calls Tryd.prog 28 [.slice io im.length ic, .int .i64 a].toArray W (Ret fun v w' => v = .tuple #[.int .i64 (skipS im a).1, .int .i64 (skipS im a).2] ∧ Foot nob W w') := by
  refine calls_of_sc 16 [(0, _), (1, _)] Tryd.func28 rfl rfl rfl (enter_slots ⟨rfl, rfl, trivial⟩) ?_
  refine Sc.seq ?_
  refine Sc.region ?_
  refine Sl.calm (Cm.assign rfl) rfl ?_
  refine Sl.calm (Cm.assign rfl) rfl ?_
  refine Sl.nil ?_
  refine At.go ?_
  refine Sc.seq ?_
  refine Sc.region ?_
  refine Sl.calm (Cm.move rfl) rfl ?_
  refine Sl.calm (Cm.move rfl) rfl ?_
  refine Sl.call fn48 rfl (find_ok io ic im a W hv hb ha) rfl ?_
  intro _ w1 hR
  obtain ⟨po, pc, x, s, st, nx, e, rfl, ho1, hfr1, hf1, hE0, hE1⟩ := fnP_any hR
  have hsk : skipS im a = (nx, e) := by
    by_cases he : e = 0
    · obtain ⟨hcs, hnx⟩ := hE1 he
      rw [skipS_some hcs, hnx, he]
    · obtain ⟨he2, hnx, hcs⟩ := hE0 he
      rw [skipS_none hcs, hnx, he2]
  refine Sl.calm (Cm.move rfl) rfl ?_
  refine Sl.calm (Cm.extract rfl rfl) rfl ?_
  refine Sl.calm (Cm.extract rfl rfl) rfl ?_
  refine Sl.allocC zc93 rfl ?_
  intro w2 hg2 hs2 hf2
  refine Sl.storeAll (vs := ctC po x.length pc s st nx) agg93 rfl rfl (by exact ctC_one _ _ _ _ _ _) hg2 rfl ?_
  intro w3 hg3 hs3 hf3
  refine Sl.calm (Cm.assign rfl) rfl ?_
  refine Sl.nil ?_
  refine At.weak [(0, _), (1, _), (4, _), (5, _), (6, _)] ⟨rfl, rfl, rfl, rfl, rfl, trivial⟩ ?_
  refine At.go ?_
  refine Sc.seq ?_
  refine Sc.region ?_
  refine Sl.calm (Cm.field fld93_3 rfl) rfl ?_
  refine Sl.calm (Cm.ld sca3 rfl (cellF hg3 rfl)) rfl ?_
  refine Sl.calm (Cm.move rfl) rfl ?_
  refine Sl.calm (Cm.assign rfl) rfl ?_
  refine Sl.calm (Cm.assign rfl) rfl ?_
  refine Sl.nil ?_
  refine At.weak [(0, _), (1, _), (4, _), (5, _), (6, _)] ⟨rfl, rfl, rfl, rfl, rfl, trivial⟩ ?_
  refine At.go ?_
  refine Sc.ret ?_
  refine At.ret2 rfl rfl rfl ?_
  rw [hsk]
  exact ⟨_, rfl, rfl, (hf1.trans hf2).trans_to hf3 (fun k hk => .inr (by have h : k = w1.heap.size := hk; have := hf1.size; omega))⟩
end Go.Proofs.YtpnfjfbfgaiolaaDoor
