/- data: noughts take three bytes a block, and are read as noughts. No condition beyond the bounds that each states. -/
import Derived.Test.YtpnfjfbfgaiolaaDoorDaLk
import Derived.Test.YtpnfjfbfgaiolaaDoorDaRk
namespace Go.Proofs.YtpnfjfbfgaiolaaDoor
open Go Go.RowKit
set_option linter.unusedVariables false

theorem runN_zero {b : List UInt8} (hb : b = List.replicate b.length 0) : ∀ n, n ≤ b.length / 128 → (runN b n).length = 3 * n
  | 0, _ => rfl
  | n + 1, h => by
    have hc : hX (chB b n) = [] := by
      have e : chB b n = List.replicate (chB b n).length 0 := by
        rw [List.eq_replicate_iff]
        refine ⟨rfl, fun c hc => ?_⟩
        have : c ∈ b := List.mem_of_mem_drop (List.mem_of_mem_take hc)
        rw [hb] at this
        exact (List.mem_replicate.1 this).2
      unfold hX
      rw [if_pos (by rw [e]; exact hole_rep _)]
    have hf : (frB (chB b n)).length = 3 := by
      unfold frB
      rw [hc]
      unfold putS
      rw [if_neg (by decide), if_pos (show ([] : List UInt8).length = 0 from rfl)]
      exact frS_len [] 0
    rw [runN_succ, List.length_append, runN_zero hb n (by omega), hf]; omega
theorem addD_nil (b : List UInt8) : (addD 0 ⟨[], []⟩ b).2 = 0 ∧ (addD 0 ⟨[], []⟩ b).1.B = runD b := by
  unfold addD
  split
  · rename_i h; exact ⟨rfl, h.symm⟩
  · exact ⟨rfl, rfl⟩
theorem sel_zero {b : List UInt8} (hb : b = List.replicate b.length 0) (m O n : Nat) : ∀ i, i < (((b.take m).drop O).take n).length → (((b.take m).drop O).take n).getD i 0 = 0 := by
  intro i hi
  rw [List.getD, List.getElem?_eq_getElem hi]
  have h := List.getElem_mem hi
  have key : ∀ c ∈ b, c = 0 := fun c hc => by
    rw [hb] at hc
    exact (List.mem_replicate.1 hc).2
  exact key _ (List.mem_of_mem_take (List.mem_of_mem_drop (List.mem_of_mem_take h)))
set_option maxHeartbeats 8000000 in
theorem dataHoles_ok (z0 z1 z2 : Int) (W : World) (hz1 : -9223372036854775808 ≤ z1 ∧ z1 ≤ 9223372036854775807) (hz2 : -9223372036854775808 ≤ z2 ∧ z2 ≤ 9223372036854775807) :
    Calls Tryd.prog 5 [.int .i64 z0, .int .i64 z1, .int .i64 z2].toArray W (Ret fun v w' => v = .bool true ∧ Foot nob W w') := by
  have q1 := Int.tmod_lt_of_pos z0 (show (0 : Int) < 4097 by decide)
  have q2 := Int.lt_tmod_of_pos z0 (show (0 : Int) < 4097 by decide)
  obtain ⟨b0, hb0⟩ : ∃ b, b = List.replicate (z0.tmod 4097).natAbs (0 : UInt8) := ⟨_, rfl⟩
  have hl0 : b0.length = (z0.tmod 4097).natAbs := by rw [hb0, List.length_replicate]
  refine calls_of_sc 112 [(0, _), (1, _), (2, _)] Tryd.func5 rfl rfl rfl (enter_slots ⟨rfl, rfl, rfl, trivial⟩) ?_
  refine Sc.seq ?_
  refine Sc.region ?_
  refine Sl.calm (Cm.assign rfl) rfl ?_
  refine Sl.nil ?_
  refine At.go ?_
  refine Sc.seq ?_
  refine Sc.region ?_
  refine Sl.call fn8 rfl (shown12_ok W) rfl ?_
  rintro _ w2 ⟨rfl, hf2⟩
  refine Sl.calm (Cm.assign rfl) rfl ?_
  refine Sl.nil ?_
  refine At.weak [(0, _), (1, _), (2, _), (6, _), (7, _)] ⟨rfl, rfl, rfl, rfl, rfl, trivial⟩ ?_
  refine At.go ?_
  refine Sc.seq ?_
  refine Sc.region ?_
  refine Sl.calm (Cm.move rfl) rfl ?_
  refine Sl.calm (Cm.remW rfl rfl (by decide)) rfl ?_
  refine Sl.calm (Cm.assign rfl) rfl ?_
  refine Sl.nil ?_
  refine At.weak [(0, _), (1, _), (2, _), (6, _), (7, _), (8, _)] ⟨rfl, rfl, rfl, rfl, rfl, rfl, trivial⟩ ?_
  refine At.go ?_
  refine Sc.cut (β := List UInt8) (fun b => [(1, .int .i64 z1), (2, .int .i64 z2), (7, .bool true), (8, .int .i64 (b.length : Nat))]) (fun b w => b = List.replicate b.length 0 ∧ b.length ≤ 4096 ∧ w = w2) ?_ ?_
  ·
    refine Sc.seq ?_
    refine Sc.region ?_
    refine Sl.calm (Cm.move rfl) rfl ?_
    refine Sl.fork (Cm.lss rfl rfl) rfl (fun h23 => ?_) (fun h23 => ?_)
    ·
      refine Sl.nil ?_
      refine At.weak [(0, _), (1, _), (2, _), (6, _), (7, _), (8, _), (23, _)] ⟨rfl, rfl, rfl, rfl, rfl, rfl, rfl, trivial⟩ ?_
      refine At.go ?_
      refine Sc.cond_t rfl ?_
      refine Sc.region ?_
      refine Sl.calm (Cm.move rfl) rfl ?_
      refine Sl.calm (Cm.neg64 rfl (by omega)) rfl ?_
      refine Sl.calm (Cm.assign rfl) rfl ?_
      refine Sl.nil ?_
      exact At.cut b0 ⟨rfl, rfl, rfl, (by show some (Value.int .i64 (-(z0.tmod 4097))) = _; congr 2; omega), trivial⟩ ⟨by rw [hl0]; exact hb0, by omega, rfl⟩
    ·
      refine Sl.nil ?_
      refine At.weak [(0, _), (1, _), (2, _), (6, _), (7, _), (8, _), (23, _)] ⟨rfl, rfl, rfl, rfl, rfl, rfl, rfl, trivial⟩ ?_
      refine At.go ?_
      refine Sc.cond_f rfl ?_
      refine Sc.skip ?_
      exact At.cut b0 ⟨rfl, rfl, rfl, (by show some (Value.int .i64 (z0.tmod 4097)) = _; congr 2; omega), trivial⟩ ⟨by rw [hl0]; exact hb0, by omega, rfl⟩
  ·
    rintro b wq ⟨hbz, hbl, hwq⟩
    obtain rfl : w2 = wq := hwq.symm
    refine Sc.seq ?_
    refine Sc.region ?_
    refine Sl.call fn10 rfl (crcnew_ok w2) rfl ?_
    rintro _ w3 ⟨rfl, hf3⟩
    refine Sl.allocC zc28 rfl ?_
    intro w4 hg4 hs4 hf4
    refine Sl.storeAll (vs := tab) aggTab rfl rfl tab_one hg4 (by rw [tab_len, List.length_replicate]) ?_
    intro w5 hg5 hs5 hf5
    obtain ⟨p, hp⟩ : ∃ p, p = w3.heap.size := ⟨_, rfl⟩
    have hF25 : Foot nob w2 w5 := (hf3.trans hf4).trans_to hf5 (fun k hk => .inr (by have h : k = w3.heap.size := hk; have := hf3.size; omega))
    rw [← hp] at hg5 ⊢
    have ht5 : TbV w5.heap p := hg5
    have hF5 := hf2.trans hF25
    refine Sl.nil ?_
    refine At.weak [(1, _), (2, _), (7, _), (8, _), (9, _)] ⟨rfl, rfl, rfl, rfl, rfl, trivial⟩ ?_
    refine At.go ?_
    refine Sc.seq ?_
    refine Sc.region ?_
    refine Sl.call fn11 rfl (dnewT_ok p 0 w5 ht5) rfl ?_
    rintro _ w6 ⟨rfl, hM6, hf6⟩
    obtain ⟨g, hg⟩ : ∃ g, g = w5.heap.size + 1 := ⟨_, rfl⟩
    rw [← hg]
    rw [← hg] at hM6
    have hz6 := hf6.size
    obtain ⟨A, hA⟩ : ∃ A : Nat → Prop, A = fun k => w5.heap.size ≤ k ∧ k < w6.heap.size := ⟨_, rfl⟩
    rw [← hA] at hM6
    refine Sl.calm (Cm.assign rfl) rfl ?_
    refine Sl.nil ?_
    refine At.weak [(1, _), (2, _), (7, _), (8, _), (9, _), (10, _)] ⟨rfl, rfl, rfl, rfl, rfl, rfl, trivial⟩ ?_
    refine At.go ?_
    refine Sc.seq ?_
    refine Sc.seq ?_
    refine Sc.region ?_
    refine Sl.calm (Cm.move rfl) rfl ?_
    refine Sl.calm (Cm.not rfl) rfl ?_
    refine Sl.calm (Cm.move rfl) rfl ?_
    refine Sl.want rfl rfl (Cm.move rfl) rfl ?_
    refine Sl.want rfl rfl (Cm.eqlPtrNil ptr30 rfl rfl) rfl ?_
    refine Sl.calm (Cm.pick_f rfl rfl) rfl ?_
    refine Sl.nil ?_
    refine At.weak [(1, _), (2, _), (7, _), (8, _), (9, _), (10, _), (33, _)] ⟨rfl, rfl, rfl, rfl, rfl, rfl, rfl, trivial⟩ ?_
    refine At.go ?_
    refine Sc.cond_f rfl ?_
    refine Sc.skip ?_
    refine At.go ?_
    refine Sc.seq ?_
    refine Sc.region ?_
    refine Sl.calm (Cm.move rfl) rfl ?_
    refine Sl.calm (Cm.move rfl) rfl ?_
    refine Sl.make b8 (0 : UInt8) sl23 z5 rfl rfl rfl (by omega) (by omega) (by omega) (by omega) rfl ?_
    intro w7 ho7 hs7 hf7
    have hkn : ((b.length : Nat) : Int).toNat = b.length := rfl
    rw [hkn] at ho7 ⊢
    rw [← hbz] at ho7
    refine Sl.call fn12 rfl (daddT_ok A g p 0 ⟨[], []⟩ _ _ b w7 (hM6.grow hf7) ho7.vw (by decide) (by decide) (by omega)) rfl ?_
    rw [(addD_nil b).1]
    rintro _ w8 ⟨o8, c8, rfl, ho8, hfr8, hM8, hF8⟩
    obtain ⟨s, hs⟩ : ∃ s, s = (addD 0 ⟨[], []⟩ b).1 := ⟨_, rfl⟩
    have hsB : s.B = runD b := by rw [hs]; exact (addD_nil b).2
    rw [← hs] at hM8
    have hF58 : Foot nob w5 w8 := (hf6.trans hf7).trans_to hF8 (fun k hk => .inr (by rw [hA] at hk; exact hk.1))
    have hrl : (runD b).length = 3 * (b.length / 128) := runN_zero hbz _ (Nat.le_refl _)
    have htl : (tailD b).length = b.length % 128 := by unfold tailD; rw [List.length_drop]; omega
    refine Sl.calm (Cm.move rfl) rfl ?_
    refine Sl.calm (Cm.extract rfl rfl) rfl ?_
    refine Sl.calm (Cm.extract rfl rfl) rfl ?_
    refine Sl.calm (Cm.assign rfl) rfl ?_
    refine Sl.calm (Cm.assign rfl) rfl ?_
    refine Sl.nil ?_
    refine At.weak [(1, _), (2, _), (7, _), (8, _), (9, _), (10, _), (11, _), (12, _), (33, _)] ⟨rfl, rfl, rfl, rfl, rfl, rfl, rfl, rfl, rfl, trivial⟩ ?_
    refine At.go ?_
    refine Sc.seq ?_
    refine Sc.region ?_
    refine Sl.calm (Cm.move rfl) rfl ?_
    refine Sl.call fn13 rfl (ddone_ok _ g p 0 s w8 hM8 (by rw [hsB]; omega)) rfl ?_
    rw [hsB]
    rintro _ w9 ⟨o9, c9, rfl, ho9, hfr9, hf9⟩
    have hF59 := hF58.trans hf9
    refine Sl.calm (Cm.assign rfl) rfl ?_
    refine Sl.nil ?_
    refine At.weak [(1, _), (2, _), (7, _), (8, _), (9, _), (10, _), (11, _), (12, _), (13, _), (33, _)] ⟨rfl, rfl, rfl, rfl, rfl, rfl, rfl, rfl, rfl, rfl, trivial⟩ ?_
    refine At.go ?_
    refine Sc.seq ?_
    refine Sc.seq ?_
    refine Sc.region ?_
    refine Sl.calm (Cm.move rfl) rfl ?_
    refine Sl.calm (Cm.len sl23 rfl) rfl ?_
    refine Sl.calm (Cm.move rfl) rfl ?_
    refine Sl.calm (Cm.ofEq (u := .int .i64 ((b.length / 128 : Nat) : Int)) (Cm.quo64 rfl rfl (by omega) (by decide)) (by congr 1)) rfl ?_
    refine Sl.calm (Cm.mul64 rfl rfl (by omega)) rfl ?_
    refine Sl.calm (Cm.no (Cm.neq rfl rfl) (by omega)) rfl ?_
    refine Sl.calm (Cm.move rfl) rfl ?_
    refine Sl.want rfl rfl (Cm.move rfl) rfl ?_
    refine Sl.want rfl rfl (Cm.len sl23 rfl) rfl ?_
    refine Sl.want rfl rfl (Cm.move rfl) rfl ?_
    refine Sl.want rfl rfl (Cm.rem64 rfl rfl (by omega) (by decide)) rfl ?_
    refine Sl.want rfl rfl (Cm.no (Cm.neq rfl rfl) (by omega)) rfl ?_
    refine Sl.calm (Cm.pick_f rfl rfl) rfl ?_
    refine Sl.calm (Cm.move rfl) rfl ?_
    refine Sl.want rfl rfl (Cm.move rfl) rfl ?_
    refine Sl.want rfl rfl (Cm.no (Cm.neq rfl rfl) (fun h => h rfl)) rfl ?_
    refine Sl.calm (Cm.pick_f rfl rfl) rfl ?_
    refine Sl.nil ?_
    refine At.weak [(1, _), (2, _), (7, _), (8, _), (9, _), (10, _), (11, _), (12, _), (13, _), (33, _), (59, _)] ⟨rfl, rfl, rfl, rfl, rfl, rfl, rfl, rfl, rfl, rfl, rfl, trivial⟩ ?_
    refine At.go ?_
    refine Sc.cond_f rfl ?_
    refine Sc.skip ?_
    refine At.go ?_
    refine Sc.seq ?_
    refine Sc.region ?_
    refine Sl.calm (Cm.move rfl) rfl ?_
    refine Sl.calm (Cm.move rfl) rfl ?_
    refine Sl.calm (Cm.move rfl) rfl ?_
    refine Sl.calm (Cm.move rfl) rfl ?_
    refine Sl.calm (Cm.move rfl) rfl ?_
    refine Sl.call fn17 rfl (dread_ok p o9 c9 (runD b) (0 : Nat) (b.length : Nat) z1 z2 w9 (hF59.obj ht5 id) ho9.vw (by omega) (by decide) (by omega) (by omega)) rfl ?_
    rintro _ w10 ⟨o10, c10, rfl, ho10, hfr10, hf10⟩
    obtain ⟨R, hR⟩ : ∃ R, R = readD (runD b) (0 : Nat) (b.length : Nat) z1 z2 := ⟨_, rfl⟩
    rw [← hR] at ho10 ⊢
    have hRl := ho10.vw.len63
    refine Sl.calm (Cm.move rfl) rfl ?_
    refine Sl.calm (Cm.extract rfl rfl) rfl ?_
    refine Sl.calm (Cm.extract rfl rfl) rfl ?_
    refine Sl.calm (Cm.assign rfl) rfl ?_
    refine Sl.calm (Cm.assign rfl) rfl ?_
    refine Sl.nil ?_
    refine At.weak [(1, _), (2, _), (7, _), (8, _), (9, _), (10, _), (11, _), (12, _), (13, _), (14, _), (15, _), (33, _), (59, _)] ⟨rfl, rfl, rfl, rfl, rfl, rfl, rfl, rfl, rfl, rfl, rfl, rfl, rfl, trivial⟩ ?_
    refine At.go ?_
    refine Sc.seq ?_
    refine Sc.seq ?_
    refine Sc.region ?_
    refine Sl.calm (Cm.move rfl) rfl ?_
    refine Sl.fork (Cm.lss rfl rfl) rfl (fun h70 => ?_) (fun h70 => ?_)
    ·
      have hRe : R = ([], 1) := by rw [hR]; exact readD_bad (.inr (.inl h70))
      refine Sl.calm (Cm.move rfl) rfl ?_
      refine Sl.skip rfl rfl rfl rfl ?_
      refine Sl.skip rfl rfl rfl rfl ?_
      refine Sl.calm (Cm.pick_t rfl rfl) rfl ?_
      refine Sl.nil ?_
      refine At.weak [(1, _), (2, _), (7, _), (8, _), (9, _), (10, _), (11, _), (12, _), (13, _), (14, _), (15, _), (33, _), (59, _), (74, _)] ⟨rfl, rfl, rfl, rfl, rfl, rfl, rfl, rfl, rfl, rfl, rfl, rfl, rfl, rfl, trivial⟩ ?_
      refine At.go ?_
      refine Sc.cond_t rfl ?_
      refine Sc.seq ?_
      refine Sc.region ?_
      refine Sl.calm (Cm.move rfl) rfl ?_
      refine Sl.calm (Cm.yes (Cm.eql rfl rfl) (by rw [hRe])) rfl ?_
      refine Sl.calm (Cm.move rfl) rfl ?_
      refine Sl.want rfl rfl (Cm.move rfl) rfl ?_
      refine Sl.want rfl rfl (Cm.len sl23 rfl) rfl ?_
      refine Sl.want rfl rfl (Cm.yes (Cm.eql rfl rfl) (by rw [hRe]; rfl)) rfl ?_
      refine Sl.calm (Cm.pick_t rfl rfl) rfl ?_
      refine Sl.calm (Cm.assign rfl) rfl ?_
      refine Sl.nil ?_
      refine At.weak [(1, _), (2, _), (6, _), (7, _), (8, _), (9, _), (10, _), (11, _), (12, _), (13, _), (14, _), (15, _), (33, _), (59, _), (74, _)] ⟨rfl, rfl, rfl, rfl, rfl, rfl, rfl, rfl, rfl, rfl, rfl, rfl, rfl, rfl, rfl, trivial⟩ ?_
      refine At.go ?_
      refine Sc.ret ?_
      refine At.then_ret ?_
      refine At.ret1 rfl rfl ?_
      exact ⟨_, rfl, rfl, (hF5.trans hF59).trans hf10⟩
    ·
      refine Sl.calm (Cm.move rfl) rfl ?_
      refine Sl.want rfl rfl (Cm.move rfl) rfl ?_
      refine Sl.forkWant rfl rfl (Cm.lss rfl rfl) rfl (fun h73 => ?_) (fun h73 => ?_)
      ·
        have hRe : R = ([], 1) := by rw [hR]; exact readD_bad (.inr (.inr (.inl h73)))
        refine Sl.calm (Cm.pick_f rfl rfl) rfl ?_
        refine Sl.nil ?_
        refine At.weak [(1, _), (2, _), (7, _), (8, _), (9, _), (10, _), (11, _), (12, _), (13, _), (14, _), (15, _), (33, _), (59, _), (74, _)] ⟨rfl, rfl, rfl, rfl, rfl, rfl, rfl, rfl, rfl, rfl, rfl, rfl, rfl, rfl, trivial⟩ ?_
        refine At.go ?_
        refine Sc.cond_t rfl ?_
        refine Sc.seq ?_
        refine Sc.region ?_
        refine Sl.calm (Cm.move rfl) rfl ?_
        refine Sl.calm (Cm.yes (Cm.eql rfl rfl) (by rw [hRe])) rfl ?_
        refine Sl.calm (Cm.move rfl) rfl ?_
        refine Sl.want rfl rfl (Cm.move rfl) rfl ?_
        refine Sl.want rfl rfl (Cm.len sl23 rfl) rfl ?_
        refine Sl.want rfl rfl (Cm.yes (Cm.eql rfl rfl) (by rw [hRe]; rfl)) rfl ?_
        refine Sl.calm (Cm.pick_t rfl rfl) rfl ?_
        refine Sl.calm (Cm.assign rfl) rfl ?_
        refine Sl.nil ?_
        refine At.weak [(1, _), (2, _), (6, _), (7, _), (8, _), (9, _), (10, _), (11, _), (12, _), (13, _), (14, _), (15, _), (33, _), (59, _), (74, _)] ⟨rfl, rfl, rfl, rfl, rfl, rfl, rfl, rfl, rfl, rfl, rfl, rfl, rfl, rfl, rfl, trivial⟩ ?_
        refine At.go ?_
        refine Sc.ret ?_
        refine At.then_ret ?_
        refine At.ret1 rfl rfl ?_
        exact ⟨_, rfl, rfl, (hF5.trans hF59).trans hf10⟩
      ·
        obtain ⟨O, rfl⟩ := Int.eq_ofNat_of_zero_le (show 0 ≤ z1 by omega)
        obtain ⟨n, rfl⟩ := Int.eq_ofNat_of_zero_le (show 0 ≤ z2 by omega)
        have hRe : R = (((b.take (b.length / 128 * 128)).drop O).take n, 0) := by
          rw [hR]; exact read_back (pre := []) (rest := []) (by simp) (by omega) O n
        have hR2 : R.2 = 0 := by rw [hRe]
        have hRn : R.1.length = min n (b.length / 128 * 128 - O) := by rw [hRe]; simp only [List.length_take, List.length_drop]; omega
        have hRz : ∀ i, i < R.1.length → R.1.getD i 0 = 0 := by rw [hRe]; exact sel_zero hbz _ O n
        refine Sl.calm (Cm.pick_f rfl rfl) rfl ?_
        refine Sl.nil ?_
        refine At.weak [(1, _), (2, _), (7, _), (8, _), (9, _), (10, _), (11, _), (12, _), (13, _), (14, _), (15, _), (33, _), (59, _), (74, _)] ⟨rfl, rfl, rfl, rfl, rfl, rfl, rfl, rfl, rfl, rfl, rfl, rfl, rfl, rfl, trivial⟩ ?_
        refine At.go ?_
        refine Sc.cond_f rfl ?_
        refine Sc.skip ?_
        refine At.go ?_
        refine Sc.seq ?_
        refine Sc.region ?_
        refine Sl.calm (Cm.move rfl) rfl ?_
        refine Sl.calm (Cm.ofEq (u := .int .i64 ((b.length / 128 : Nat) : Int)) (Cm.quo64 rfl rfl (by omega) (by decide)) (by congr 1)) rfl ?_
        refine Sl.calm (Cm.ofEq (u := .int .i64 ((b.length / 128 * 128 : Nat) : Int)) (Cm.mul64 rfl rfl (by omega)) (by congr 1)) rfl ?_
        refine Sl.calm (Cm.assign rfl) rfl ?_
        refine Sl.nil ?_
        refine At.weak [(1, _), (2, _), (7, _), (8, _), (9, _), (10, _), (11, _), (12, _), (13, _), (14, _), (15, _), (16, _), (33, _), (59, _), (74, _)] ⟨rfl, rfl, rfl, rfl, rfl, rfl, rfl, rfl, rfl, rfl, rfl, rfl, rfl, rfl, rfl, trivial⟩ ?_
        refine At.go ?_
        refine Sc.seq ?_
        refine Sc.region ?_
        refine Sl.calm (Cm.assign rfl) rfl ?_
        refine Sl.nil ?_
        refine At.go ?_
        refine Sc.cut (β := Unit) (fun _u => [(14, .slice o10 R.1.length c10), (15, .int .i64 R.2), (17, .int .i64 ((min n (b.length / 128 * 128 - O) : Nat) : Int))]) (fun _u w => w = w10) ?_ ?_
        ·
          refine Sc.seq ?_
          refine Sc.region ?_
          refine Sl.calm (Cm.move rfl) rfl ?_
          refine Sl.calm (Cm.move rfl) rfl ?_
          refine Sl.fork (Cm.lss rfl rfl) rfl (fun h87 => ?_) (fun h87 => ?_)
          ·
            refine Sl.nil ?_
            refine At.weak [(1, _), (2, _), (7, _), (8, _), (9, _), (10, _), (11, _), (12, _), (13, _), (14, _), (15, _), (16, _), (17, _), (33, _), (59, _), (74, _), (87, _)] ⟨rfl, rfl, rfl, rfl, rfl, rfl, rfl, rfl, rfl, rfl, rfl, rfl, rfl, rfl, rfl, rfl, rfl, trivial⟩ ?_
            refine At.go ?_
            refine Sc.cond_t rfl ?_
            refine Sc.region ?_
            refine Sl.calm (Cm.move rfl) rfl ?_
            refine Sl.calm (Cm.move rfl) rfl ?_
            refine Sl.calm (Cm.move rfl) rfl ?_
            refine Sl.calm (Cm.sub64 rfl rfl (by omega)) rfl ?_
            refine Sl.calm (Cm.ofEq (u := .int .i64 ((min n (b.length / 128 * 128 - O) : Nat) : Int)) (Cm.min2 rfl rfl) (by congr 1; split <;> omega)) rfl ?_
            refine Sl.calm (Cm.assign rfl) rfl ?_
            refine Sl.nil ?_
            exact At.cut () ⟨rfl, rfl, rfl, trivial⟩ rfl
          ·
            refine Sl.nil ?_
            refine At.weak [(1, _), (2, _), (7, _), (8, _), (9, _), (10, _), (11, _), (12, _), (13, _), (14, _), (15, _), (16, _), (17, _), (33, _), (59, _), (74, _), (87, _)] ⟨rfl, rfl, rfl, rfl, rfl, rfl, rfl, rfl, rfl, rfl, rfl, rfl, rfl, rfl, rfl, rfl, rfl, trivial⟩ ?_
            refine At.go ?_
            refine Sc.cond_f rfl ?_
            refine Sc.skip ?_
            exact At.cut () ⟨rfl, rfl, (by rw [show min n (b.length / 128 * 128 - O) = 0 by omega]; rfl), trivial⟩ rfl
        ·
          rintro _ wq hwq
          obtain rfl : w10 = wq := hwq.symm
          refine Sc.seq ?_
          refine Sc.seq ?_
          refine Sc.region ?_
          refine Sl.calm (Cm.move rfl) rfl ?_
          refine Sl.calm (Cm.no (Cm.neq rfl rfl) (fun h => h hR2)) rfl ?_
          refine Sl.calm (Cm.move rfl) rfl ?_
          refine Sl.want rfl rfl (Cm.move rfl) rfl ?_
          refine Sl.want rfl rfl (Cm.len sl23 rfl) rfl ?_
          refine Sl.want rfl rfl (Cm.move rfl) rfl ?_
          refine Sl.want rfl rfl (Cm.no (Cm.neq rfl rfl) (fun h => h (by omega))) rfl ?_
          refine Sl.calm (Cm.pick_f rfl rfl) rfl ?_
          refine Sl.nil ?_
          refine At.weak [(14, _), (15, _), (17, _), (100, _)] ⟨rfl, rfl, rfl, rfl, trivial⟩ ?_
          refine At.go ?_
          refine Sc.cond_f rfl ?_
          refine Sc.skip ?_
          refine At.go ?_
          refine Sc.seq ?_
          refine Sc.seq ?_
          refine Sc.region ?_
          refine Sl.calm (Cm.assign rfl) rfl ?_
          refine Sl.nil ?_
          refine At.go ?_
          refine Sc.block ?_
          refine Sc.loop (β := Nat) (fun i => [(14, .slice o10 R.1.length c10), (18, .int .i64 i)]) (fun i w => i ≤ R.1.length ∧ w = w10) (fun i => R.1.length - i) 0 ⟨rfl, rfl, trivial⟩ ⟨Nat.zero_le _, rfl⟩ ?_
          rintro i wq ⟨hi, hwq⟩
          obtain rfl : w10 = wq := hwq.symm
          refine Sc.seq ?_
          refine Sc.seq ?_
          refine Sc.region ?_
          refine Sl.calm (Cm.move rfl) rfl ?_
          refine Sl.calm (Cm.move rfl) rfl ?_
          refine Sl.calm (Cm.len sl23 rfl) rfl ?_
          refine Sl.fork (Cm.lss rfl rfl) rfl (fun h104 => ?_) (fun h104 => ?_)
          ·
            refine Sl.nil ?_
            refine At.weak [(14, _), (18, _), (104, _)] ⟨rfl, rfl, rfl, trivial⟩ ?_
            refine At.go ?_
            refine Sc.cond_t rfl ?_
            refine Sc.skip ?_
            refine At.go ?_
            refine Sc.seq ?_
            refine Sc.block ?_
            refine Sc.seq ?_
            refine Sc.region ?_
            refine Sl.calm (Cm.move rfl) rfl ?_
            refine Sl.calm (Cm.move rfl) rfl ?_
            refine Sl.calm (Cm.indexAddr1 sl23 rfl rfl ho10.vw.non (by omega)) rfl ?_
            refine Sl.calm (Cm.ld sca5 rfl (ho10.vw.gz 0 i rfl (by omega))) rfl ?_
            refine Sl.calm (Cm.no (Cm.neq rfl rfl) (fun h => h (by rw [hRz i (by omega)]; rfl))) rfl ?_
            refine Sl.nil ?_
            refine At.weak [(14, _), (18, _), (104, _), (111, _)] ⟨rfl, rfl, rfl, rfl, trivial⟩ ?_
            refine At.go ?_
            refine Sc.cond_f rfl ?_
            refine Sc.skip ?_
            refine At.block_normal ?_
            refine At.go ?_
            refine Sc.region ?_
            refine Sl.calm (Cm.move rfl) rfl ?_
            refine Sl.calm (Cm.add64 rfl rfl (by omega)) rfl ?_
            refine Sl.calm (Cm.assign rfl) rfl ?_
            refine Sl.nil ?_
            exact At.again (i + 1) ⟨rfl, rfl, trivial⟩ ⟨by omega, rfl⟩ (by show R.1.length - (i + 1) < R.1.length - i; omega)
          ·
            refine Sl.nil ?_
            refine At.weak [(14, _), (18, _), (104, _)] ⟨rfl, rfl, rfl, trivial⟩ ?_
            refine At.go ?_
            refine Sc.cond_f rfl ?_
            refine Sc.exit ?_
            refine At.then_exit ?_
            refine At.then_exit ?_
            refine At.block_hit ?_
            refine At.go ?_
            refine Sc.seq ?_
            refine Sc.region ?_
            refine Sl.calm (Cm.assign rfl) rfl ?_
            refine Sl.nil ?_
            refine At.go ?_
            refine Sc.ret ?_
            refine At.ret1 rfl rfl ?_
            exact ⟨_, rfl, rfl, (hF5.trans hF59).trans hf10⟩
end Go.Proofs.YtpnfjfbfgaiolaaDoor
