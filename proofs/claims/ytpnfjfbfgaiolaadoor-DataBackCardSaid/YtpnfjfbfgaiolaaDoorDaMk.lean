/- data: files that were laid down are read as they were. No condition beyond the bounds that each states. -/
import Derived.Test.YtpnfjfbfgaiolaaDoorDaLk
import Derived.Test.YtpnfjfbfgaiolaaDoorDaRk
import Derived.Test.YtpnfjfbfgaiolaaDoorMxk
namespace Go.Proofs.YtpnfjfbfgaiolaaDoor
open Go Go.RowKit
set_option linter.unusedVariables false

theorem back_all {L : List (List UInt8)} (hL : ∀ b ∈ L, b.length ≤ 1500) {i : Nat} (hi : i < L.length) {b B : List UInt8} (hb : b = L.getD i []) (hB : B = b.take (b.length / 128 * 128)) :
    (∀ off n : Nat, readD (imD 64 (dsT 64 L)) (stA 64 L i : Nat) (b.length : Nat) (off : Nat) (n : Nat) = ((B.drop off).take n, 0)) ∧
    ∃ E : Int, walkD (imD 64 (dsT 64 L)) (stA 64 L i : Nat) (b.length : Nat) ((imD 64 (dsT 64 L)).length : Nat) = (E, 0) ∧ E ≤ (imD 64 (dsT 64 L)).length ∧ (B.length = 0 → E = (stA 64 L i : Nat)) := by
  have hbl : b.length ≤ 1500 := by rw [hb]; exact hL _ (by rw [List.getD, List.getElem?_eq_getElem hi]; exact List.getElem_mem _)
  by_cases h0 : b.length / 128 = 0
  · have hs : stA 64 L i = 0 := by
      unfold stA
      rw [← hb, addD_none (by unfold runD; rw [h0]; rfl)]
    refine ⟨fun off n => by rw [hB]; exact read_none h0 off n, (stA 64 L i : Nat), walk_none h0, by rw [hs]; exact Int.natCast_nonneg _, fun _ => rfl⟩
  · have hr : runD b ≠ [] := fun e => runD_ne (b := b) (by omega) (by rw [e]; rfl)
    have hf := findR_dsT (f := 64) hi (by rw [← hb]; exact hr)
    rw [← hb] at hf
    obtain ⟨pre, rest, h1, h2⟩ := good_dsT (f := 64) hL _ _ hf
    rw [skOf_eq (by have := runD_le b; unfold maxLen; omega)] at h1
    rw [← h2, hB]
    refine ⟨fun off n => read_back h1 (by omega) off n, _, walk_back h1 (by omega), ?_, fun h => ?_⟩
    · have := end_at h1; omega
    · rw [List.length_take] at h; omega
theorem findR_le {s : DS} {n : Nat} (h : ∀ a v, findR s.m a = some v → v ≤ n) {a : SK} {k : Nat} (hk : findR s.m a = some k) : k ≤ n := h a k hk
theorem stA_le {f : Nat} {L : List (List UInt8)} (hL : ∀ b ∈ L, b.length ≤ 1500) {i : Nat} (hi : i < L.length) : stA f L i ≤ f + 1500 * L.length := by
  unfold stA addD
  split
  · exact Nat.zero_le _
  · rename_i hr
    unfold addR
    split
    · rename_i k hk
      exact findR_le (s := dsT f (L.take i)) (fun a v h => by
        obtain ⟨pre, rest, h1, h2⟩ := good_dsT (f := f) (L := L.take i) (fun b hb => hL b (List.mem_of_mem_take hb)) a v h
        have h3 := congrArg List.length h1
        unfold imD at h3
        simp only [List.length_append, List.length_replicate] at h3
        have h4 := (dsT_B (f := f) hL i).1
        have : 1500 * i ≤ 1500 * L.length := Nat.mul_le_mul_left _ (by omega)
        omega) hk
    · have h4 := (dsT_B (f := f) hL i).1
      have : 1500 * i ≤ 1500 * L.length := Nat.mul_le_mul_left _ (by omega)
      show f + (dsT f (L.take i)).B.length ≤ _
      omega
set_option maxHeartbeats 16000000 in
theorem dataBack_ok (D0 : Nat → Prop) (ao : Option Addr) (cap : Nat) (hs : List Hd) (L : List (List UInt8)) (z1 z2 : Int) (W : World) (hv : Vw hd W.heap ao cap hs) (hr : RowsV D0 W.heap hs L) (hD0 : ∀ k, D0 k → k < W.heap.size) :
    Calls Tryd.prog 7 [.slice ao hs.length cap, .int .i64 z1, .int .i64 z2].toArray W (Ret fun v w' => v = .bool true ∧ Foot nob W w') := by
  obtain ⟨M, hM⟩ : ∃ M, M = rowsD L := ⟨_, rfl⟩
  have hMl : M.length ≤ 12 := by rw [hM]; exact rowsD_len L
  have hMs : ∀ b ∈ M, b.length ≤ 1500 := by rw [hM]; exact rowsD_small L
  have hMb := dsT_B (f := 64) hMs
  have q1 := Int.tmod_lt_of_pos z1 (show (0 : Int) < 1500 by decide)
  have q2 := Int.lt_tmod_of_pos z1 (show (0 : Int) < 1500 by decide)
  have q3 := Int.tmod_lt_of_pos z2 (show (0 : Int) < 1500 by decide)
  have q4 := Int.lt_tmod_of_pos z2 (show (0 : Int) < 1500 by decide)
  obtain ⟨K, hK⟩ : ∃ K, K = (z1.tmod 1500).natAbs := ⟨_, rfl⟩
  obtain ⟨J, hJ⟩ : ∃ J, J = (z2.tmod 1500).natAbs := ⟨_, rfl⟩
  obtain ⟨im, him⟩ : ∃ im, im = imD 64 (dsT 64 M) := ⟨_, rfl⟩
  refine calls_of_sc 213 [(0, _), (1, _), (2, _)] Tryd.func7 rfl rfl rfl (enter_slots ⟨rfl, rfl, rfl, trivial⟩) ?_
  refine Sc.seq ?_
  refine Sc.region ?_
  refine Sl.calm (Cm.assign rfl) rfl ?_
  refine Sl.nil ?_
  refine At.go ?_
  refine Sc.seq ?_
  refine Sc.region ?_
  refine Sl.call fn8 rfl (shown12_ok W) rfl ?_
  rintro _ w1 ⟨rfl, hf1⟩
  refine Sl.calm (Cm.assign rfl) rfl ?_
  refine Sl.nil ?_
  refine At.weak [(0, _), (1, _), (2, _), (6, _), (7, _)] ⟨rfl, rfl, rfl, rfl, rfl, trivial⟩ ?_
  refine At.go ?_
  refine Sc.seq ?_
  refine Sc.region ?_
  refine Sl.calm (Cm.move rfl) rfl ?_
  refine Sl.call fn9 rfl (rows12_ok D0 ao cap hs L w1 (hv.grow hf1) (hr.keep hf1 (fun _ _ => id))) rfl ?_
  rintro _ w2 ⟨ro, rc, gs, rfl, hro2, hgs2, hrf2, hf2⟩
  rw [← hM] at hgs2
  have hgl := hgs2.1
  have hz1 := hf1.size
  have hz2 := hf2.size
  refine Sl.calm (Cm.assign rfl) rfl ?_
  refine Sl.nil ?_
  refine At.weak [(0, _), (1, _), (2, _), (6, _), (7, _)] ⟨rfl, rfl, rfl, rfl, rfl, trivial⟩ ?_
  refine At.go ?_
  refine Sc.seq ?_
  refine Sc.region ?_
  refine Sl.call fn10 rfl (crcnew_ok w2) rfl ?_
  rintro _ w3 ⟨rfl, hf3⟩
  refine Sl.allocC zc28 rfl ?_
  intro w4 hg4 hs4 hf4
  refine Sl.storeAll (vs := tab) aggTab rfl rfl tab_one hg4 (by rw [tab_len, List.length_replicate]) ?_
  intro w5 hg5 hs5 hf5
  obtain ⟨p, hp⟩ : ∃ p, p = w3.heap.size := ⟨_, rfl⟩
  have hF25 : Foot nob w2 w5 := (hf3.trans hf4).trans_to hf5 (fun k hk => .inr (by have h : k = w3.heap.size := hk; have := hf3.size; omega))
  rw [← hp] at hg5 ⊢
  have ht5 : TbV w5.heap p := hg5
  have hF5 := (hf1.trans hf2).trans hF25
  refine Sl.nil ?_
  refine At.weak [(0, _), (1, _), (2, _), (6, _), (7, _), (8, _)] ⟨rfl, rfl, rfl, rfl, rfl, rfl, trivial⟩ ?_
  refine At.go ?_
  refine Sc.seq ?_
  refine Sc.region ?_
  refine Sl.call fn11 rfl (dnewT_ok p 64 w5 ht5) rfl ?_
  rintro _ w6 ⟨rfl, hM6, hf6⟩
  obtain ⟨g, hg⟩ : ∃ g, g = w5.heap.size + 1 := ⟨_, rfl⟩
  rw [← hg]
  rw [← hg] at hM6
  have hz6 := hf6.size
  refine Sl.calm (Cm.assign rfl) rfl ?_
  refine Sl.nil ?_
  refine At.weak [(0, _), (1, _), (2, _), (6, _), (7, _), (8, _), (9, _)] ⟨rfl, rfl, rfl, rfl, rfl, rfl, rfl, trivial⟩ ?_
  refine At.go ?_
  refine Sc.seq ?_
  refine Sc.seq ?_
  refine Sc.region ?_
  refine Sl.calm (Cm.move rfl) rfl ?_
  refine Sl.calm (Cm.not rfl) rfl ?_
  refine Sl.calm (Cm.move rfl) rfl ?_
  refine Sl.want rfl rfl (Cm.move rfl) rfl ?_
  refine Sl.want rfl rfl (Cm.eqlPtrNil ptr30 rfl rfl) rfl ?_
  refine Sl.calm (Cm.pick_f rfl rfl) rfl ?_
  refine Sl.nil ?_
  refine At.weak [(0, _), (1, _), (2, _), (6, _), (7, _), (8, _), (9, _), (36, _)] ⟨rfl, rfl, rfl, rfl, rfl, rfl, rfl, rfl, trivial⟩ ?_
  refine At.go ?_
  refine Sc.cond_f rfl ?_
  refine Sc.skip ?_
  refine At.go ?_
  refine Sc.seq ?_
  refine Sc.region ?_
  refine Sl.lit0 nV sl33 rfl ?_
  intro w7 ho7 hs7 hf7
  have hz7 := hf7.size
  have hF57 := hf6.trans hf7
  refine Sl.calm (Cm.assign rfl) rfl ?_
  refine Sl.nil ?_
  refine At.weak [(0, _), (1, _), (2, _), (6, _), (7, _), (8, _), (9, _), (10, _), (36, _)] ⟨rfl, rfl, rfl, rfl, rfl, rfl, rfl, rfl, rfl, trivial⟩ ?_
  refine At.go ?_
  refine Sc.seq ?_
  refine Sc.seq ?_
  refine Sc.region ?_
  refine Sl.calm (Cm.assign rfl) rfl ?_
  refine Sl.nil ?_
  refine At.go ?_
  refine Sc.block ?_
  refine Sc.loop (β := Nat × (Nat → Prop) × (Option Addr × Nat)) (fun ⟨i, A, ⟨so, sc⟩⟩ => [(0, .slice ro gs.length rc), (1, .int .i64 z1), (2, .int .i64 z2), (8, .pointer (some ⟨p, 0, none⟩)), (9, .pointer (some ⟨g, 0, none⟩)), (10, .slice so (stT 64 M i).length sc), (11, .int .i64 i)]) (fun ⟨i, A, ⟨so, sc⟩⟩ w => i ≤ M.length ∧ DwO A w.heap g p 64 (dsT 64 (M.take i)) ∧ (∀ k, A k → w5.heap.size ≤ k ∧ k < w.heap.size) ∧ (∀ k, blk so k → ¬ A k) ∧ Own nV 3 w.heap so sc (stT 64 M i) ∧ Fr w5.heap.size so ∧ Foot nob w5 w) (fun ⟨i, A, ⟨so, sc⟩⟩ => M.length - i) ⟨0, fun k => w5.heap.size ≤ k ∧ k < w6.heap.size, ⟨some ⟨w6.heap.size, 0, none⟩, 0⟩⟩ ⟨rfl, rfl, rfl, rfl, rfl, rfl, rfl, trivial⟩ ⟨Nat.zero_le _, hM6.grow hf7, (fun k hk => ⟨hk.1, by have := hk.2; omega⟩), (fun k ⟨a, ha, e⟩ h => by cases ha; have e : w6.heap.size = k := e; have := h.2; omega), ho7, (fun a ha => by cases ha; exact hz6), hF57⟩ ?_
  rintro ⟨i, A, ⟨so, sc⟩⟩ w8 ⟨hi, hM8, hA, hAs, hso, hfso, hF8⟩
  refine Sc.seq ?_
  refine Sc.seq ?_
  refine Sc.region ?_
  refine Sl.calm (Cm.move rfl) rfl ?_
  refine Sl.calm (Cm.move rfl) rfl ?_
  refine Sl.calm (Cm.len sl22 rfl) rfl ?_
  refine Sl.fork (Cm.lss rfl rfl) rfl (fun h41 => ?_) (fun h41 => ?_)
  ·
    have hiM : i < M.length := by omega
    obtain ⟨x, hx, hxn, hxv, hxD⟩ := hgs2.at hiM
    have hxl := hMs (M.getD i []) (by rw [List.getD, List.getElem?_eq_getElem hiM]; exact List.getElem_mem _)
    have hhd : hd x = .slice x.a (M.getD i []).length x.c := by unfold hd; rw [hxn]
    have hcl0 := hro2.vw.get i x hx
    rw [hhd] at hcl0
    have hn8 := hMb i
    obtain ⟨b, hb⟩ : ∃ b, b = M.getD i [] := ⟨_, rfl⟩
    rw [← hb] at hxl hcl0 hxv hhd
    have hxle := hxv.le
    have htl : (tailD b).length = b.length - b.length / 128 * 128 := by unfold tailD; rw [List.length_drop]
    refine Sl.nil ?_
    refine At.weak [(0, _), (1, _), (2, _), (8, _), (9, _), (10, _), (11, _), (41, _)] ⟨rfl, rfl, rfl, rfl, rfl, rfl, rfl, rfl, trivial⟩ ?_
    refine At.go ?_
    refine Sc.cond_t rfl ?_
    refine Sc.skip ?_
    refine At.go ?_
    refine Sc.seq ?_
    refine Sc.block ?_
    refine Sc.seq ?_
    refine Sc.region ?_
    refine Sl.calm (Cm.move rfl) rfl ?_
    refine Sl.calm (Cm.move rfl) rfl ?_
    refine Sl.calm (Cm.move rfl) rfl ?_
    refine Sl.calm (Cm.indexAddr1 sl22 rfl rfl hro2.vw.non (by omega)) rfl ?_
    refine Sl.calm (Cm.ld sca23 rfl (by rw [Int.toNat_natCast]; exact cellH_keep (cellH_keep hcl0 hF25 id) hF8 id)) rfl ?_
    refine Sl.call fn12 rfl (daddT_ok A g p 64 (dsT 64 (M.take i)) x.a x.c b w8 hM8 ((hxv.grow hF25).grow hF8) (by decide) (by omega) (by omega)) rfl ?_
    rw [show (addD 64 (dsT 64 (M.take i)) b).2 = stA 64 M i by rw [hb]; rfl]
    rintro _ w9 ⟨o9, c9, rfl, ho9, hfr9, hM9, hF9⟩
    have hz9 := hF9.size
    have hz8 := hF8.size
    have hso9 := hso.keep hF9 (fun a ha => hAs _ ⟨a, ha, rfl⟩)
    have hF59 : Foot nob w5 w9 := hF8.trans_to hF9 (fun k hk => .inr (hA k hk).1)
    have hM9 : DwO (fun k => Nx A w8 w9 k ∧ ¬ blk o9 k) w9.heap g p 64 (dsT 64 (M.take (i + 1))) := by rw [dsT_succ hiM, ← hb]; exact hM9
    have hsl := hso.lt
    have hxv9 := (hxv.grow hF25).grow hF59
    have hcx := cut_drop (n := ((b.length / 128 * 128 : Nat) : Int)) hxv9 (by omega) (by omega)
    rw [Int.toNat_natCast] at hcx
    refine Sl.calm (Cm.move rfl) rfl ?_
    refine Sl.calm (Cm.extract rfl rfl) rfl ?_
    refine Sl.calm (Cm.extract rfl rfl) rfl ?_
    refine Sl.calm (Cm.assign rfl) rfl ?_
    refine Sl.calm (Cm.assign rfl) rfl ?_
    refine Sl.nil ?_
    refine At.weak [(0, _), (1, _), (2, _), (8, _), (9, _), (10, _), (11, _), (12, _), (13, _), (41, _)] ⟨rfl, rfl, rfl, rfl, rfl, rfl, rfl, rfl, rfl, rfl, trivial⟩ ?_
    refine At.go ?_
    refine Sc.seq ?_
    refine Sc.seq ?_
    refine Sc.draw 16 (fun H => Vw b8 H o9 c9 (tailD b) ∧ cellH H (adr ro i) = some (.slice x.a b.length x.c) ∧ Vw b8 H (cutAo x.a x.c (b.length / 128 * 128) 1) (x.c - b.length / 128 * 128) (tailD b)) [] [0, 1, 2, 3, 4, 5, 6, 7, 8, 9, 10, 11, 12, 13, 14, 15] mixed (by kernel_rfl) (⟨ho9.vw, cellH_keep (cellH_keep hcl0 hF25 id) hF59 id, hcx⟩) ?_
    refine Sx.calm rfl rfl (Cm.move rfl) rfl ?_
    refine Sx.calm rfl rfl (Cm.str sl23 ty5 ty9 rfl (fun H hH => hH.1)) rfl ?_
    refine Sx.calm rfl rfl (Cm.move rfl) rfl ?_
    refine Sx.calm rfl rfl (Cm.move rfl) rfl ?_
    refine Sx.calm rfl rfl (Cm.indexAddr1 sl22 rfl rfl hro2.vw.non (by omega)) rfl ?_
    refine Sx.calm rfl rfl (Cm.load sca23 rfl (fun H hH => by rw [Int.toNat_natCast]; exact hH.2.1)) rfl ?_
    refine Sx.calm rfl rfl (Cm.move rfl) rfl ?_
    refine Sx.calm rfl rfl (Cm.move rfl) rfl ?_
    refine Sx.calm rfl rfl (Cm.indexAddr1 sl22 rfl rfl hro2.vw.non (by omega)) rfl ?_
    refine Sx.calm rfl rfl (Cm.load sca23 rfl (fun H hH => by rw [Int.toNat_natCast]; exact hH.2.1)) rfl ?_
    refine Sx.calm rfl rfl (Cm.len sl23 rfl) rfl ?_
    refine Sx.calm rfl rfl (Cm.ofEq (u := .int .i64 ((b.length / 128 : Nat) : Int)) (Cm.quo64 rfl rfl (by omega) (by decide)) (by congr 1)) rfl ?_
    refine Sx.calm rfl rfl (Cm.ofEq (u := .int .i64 ((b.length / 128 * 128 : Nat) : Int)) (Cm.mul64 rfl rfl (by omega)) (by congr 1)) rfl ?_
    refine Sx.calm rfl rfl (Cm.ofEq (u := .slice (cutAo x.a x.c (b.length / 128 * 128) 1) (tailD b).length (x.c - b.length / 128 * 128)) (Cm.sliceL sl23 rfl rfl (by omega)) (by rw [htl]; rfl)) rfl ?_
    refine Sx.calm rfl rfl (Cm.str sl23 ty5 ty9 rfl (fun H hH => hH.2.2)) rfl ?_
    refine Sx.calm rfl rfl (Cm.no (Cm.neqBs rfl rfl) (fun h => h rfl)) rfl ?_
    refine Sx.nil ?_
    refine At.weak [(0, _), (1, _), (2, _), (8, _), (9, _), (10, _), (11, _), (12, _), (13, _), (41, _), (68, _)] ⟨rfl, rfl, rfl, rfl, rfl, rfl, rfl, rfl, rfl, rfl, rfl, trivial⟩ ?_
    refine At.go ?_
    refine Sc.cond_f rfl ?_
    refine Sc.skip ?_
    refine At.go ?_
    refine Sc.region ?_
    refine Sl.calm (Cm.move rfl) rfl ?_
    refine Sl.calm (Cm.move rfl) rfl ?_
    refine Sl.lit1 (enc := nV) (u := stA 64 M i) sl33 (nV_one _) rfl rfl ?_
    intro w10 ho10 hs10 hf10
    have hf10 := hf10.undraw
    refine Sl.append nV_one sl33 rfl rfl (hso9.grow hf10) ho10.vw (by rw [stT_len]; simp only [List.length_singleton]; omega) (by rw [stT_len]; simp only [List.length_singleton]; unfold maxLen; omega) rfl ?_
    intro o11 c11 w11 ho11 hf11 hr11 hn11
    have hz10 := hf10.size
    have hz11 := hf11.size
    have hM11 := (hM9.grow hf10).keep hf11 (fun k hk ⟨a, ha, e⟩ => by have h1 := hsl a ha; rcases hk.1 with h | h; exact hAs k ⟨a, ha, e⟩ h; have := h.1; omega) (fun ⟨a, ha, e⟩ => by have := hfso a ha; have := (Array.getElem?_eq_some_iff.1 ht5).1; omega)
    refine Sl.calm (Cm.assign rfl) rfl ?_
    refine Sl.nil ?_
    refine At.block_normal ?_
    refine At.weak [(0, _), (1, _), (2, _), (8, _), (9, _), (10, _), (11, _), (12, _), (13, _), (41, _), (68, _)] ⟨rfl, rfl, rfl, rfl, rfl, rfl, rfl, rfl, rfl, rfl, rfl, trivial⟩ ?_
    refine At.go ?_
    refine Sc.region ?_
    refine Sl.calm (Cm.move rfl) rfl ?_
    refine Sl.calm (Cm.add64 rfl rfl (by omega)) rfl ?_
    refine Sl.calm (Cm.assign rfl) rfl ?_
    refine Sl.nil ?_
    refine At.again ⟨i + 1, fun k => Nx A w8 w9 k ∧ ¬ blk o9 k, ⟨o11, c11⟩⟩ ⟨rfl, rfl, rfl, rfl, rfl, (by rw [stT_succ]; rfl), rfl, trivial⟩ ⟨by omega, hM11, (fun k hk => ?_), (fun k ⟨a, ha, e⟩ hk => ?_), by rw [stT_succ]; exact ho11, fr_next hfso hr11 (by omega), (hF59.trans hf10).trans_to hf11 (fun k ⟨a, ha, e⟩ => .inr (by have := hfso a ha; omega))⟩ (by show M.length - (i + 1) < M.length - i; omega)
    · rcases hk.1 with h | h
      · have := hA k h; exact ⟨this.1, by omega⟩
      · have h1 := h.1; have h2 := h.2; exact ⟨by omega, by omega⟩
    · rcases hr11 a ha with h | h
      · rcases hk.1 with h2 | h2
        · exact hAs k ⟨a, h, e⟩ h2
        · have := hsl a h; have := h2.1; omega
      · rcases hk.1 with h2 | h2
        · have := hA k h2; omega
        · have := h2.2; omega
  ·
    have hie : i = M.length := by omega
    subst hie
    rw [List.take_length] at hM8
    have hn8 := hMb M.length
    rw [List.take_length] at hn8
    refine Sl.nil ?_
    refine At.weak [(0, _), (1, _), (2, _), (8, _), (9, _), (10, _), (11, _), (41, _)] ⟨rfl, rfl, rfl, rfl, rfl, rfl, rfl, rfl, trivial⟩ ?_
    refine At.go ?_
    refine Sc.cond_f rfl ?_
    refine Sc.exit ?_
    refine At.then_exit ?_
    refine At.then_exit ?_
    refine At.block_hit ?_
    refine At.go ?_
    refine Sc.cut (β := Option Addr × Nat) (fun ⟨o14, c14⟩ => [(0, .slice ro gs.length rc), (1, .int .i64 z1), (2, .int .i64 z2), (8, .pointer (some ⟨p, 0, none⟩)), (10, .slice so (stT 64 M M.length).length sc), (14, .slice o14 im.length c14)]) (fun ⟨o14, c14⟩ w => Own b8 5 w.heap o14 c14 im ∧ Own nV 3 w.heap so sc (stT 64 M M.length) ∧ Foot nob w8 w) ?_ ?_
    ·
      refine Sc.draw2 5 (fun _ => True) [0, 2, 3] [1] 0 [2, 3, 4] 2 [0, 3, 4] mixed (by kernel_rfl) (trivial) rfl ?_
      refine Sx.calm rfl rfl (Cm.move rfl) rfl ?_
      refine Sx.both ?_ ?_
      ·
        refine Sx.eff rfl rfl (Sl.make b8 (0 : UInt8) sl23 z5 rfl rfl rfl (by decide) (by decide) (by decide) (by decide) rfl ?_)
        intro w12 ho12 hs12 hf12
        have hf12 := hf12.undraw
        refine Sx.on (by exact trivial) ?_
        refine Sx.eff rfl rfl (Sl.call fn13 rfl (ddone_ok A g p 64 (dsT 64 M) w12 (hM8.grow hf12) (by omega)) rfl ?_)
        rintro _ w13 ⟨o13, c13, rfl, ho13, hfr13, hf13⟩
        refine Sx.on (by exact trivial) ?_
        refine Sx.eff rfl rfl (Sl.append b8_one sl23 rfl rfl (ho12.grow hf13) ho13.vw (by simp only [List.length_replicate]; omega) (by simp only [List.length_replicate]; unfold maxLen; omega) rfl ?_)
        intro o14 c14 w14 ho14 hf14 hr14 hn14
        have hF814 : Foot nob w8 w14 := (hf12.trans hf13).trans_to hf14 (fun k ⟨a, ha, e⟩ => .inr (by cases ha; exact Nat.le_of_eq e))
        have ho14 : Own b8 5 w14.heap o14 c14 (imD 64 (dsT 64 M)) := ho14
        rw [← him] at ho14
        have hso14 := hso.grow hF814
        refine Sx.on (by exact trivial) ?_
        refine Sx.calm rfl rfl (Cm.assign rfl) rfl ?_
        refine Sx.nil ?_
        exact At.cut ⟨o14, c14⟩ ⟨rfl, rfl, rfl, rfl, rfl, (by rw [him]; rfl), trivial⟩ ⟨ho14, hso14, hF814⟩
      ·
        refine Sx.eff rfl rfl (Sl.call fn13 rfl (ddone_ok A g p 64 (dsT 64 M) _ (hM8.grow (Foot.ofDraws 1)) (by omega)) rfl ?_)
        rintro _ w12 ⟨o13, c13, rfl, ho13, hfr13, hf12⟩
        have hf12 := hf12.undraw
        refine Sx.on (by exact trivial) ?_
        refine Sx.eff rfl rfl (Sl.make b8 (0 : UInt8) sl23 z5 rfl rfl rfl (by decide) (by decide) (by decide) (by decide) rfl ?_)
        intro w13 ho12 hs12 hf13
        refine Sx.on (by exact trivial) ?_
        refine Sx.eff rfl rfl (Sl.append b8_one sl23 rfl rfl ho12 (ho13.vw.grow hf13) (by simp only [List.length_replicate]; omega) (by simp only [List.length_replicate]; unfold maxLen; omega) rfl ?_)
        intro o14 c14 w14 ho14 hf14 hr14 hn14
        have hF814 : Foot nob w8 w14 := (hf12.trans hf13).trans_to hf14 (fun k ⟨a, ha, e⟩ => .inr (by cases ha; have e : w12.heap.size = k := e; have := hf12.size; omega))
        have ho14 : Own b8 5 w14.heap o14 c14 (imD 64 (dsT 64 M)) := ho14
        rw [← him] at ho14
        have hso14 := hso.grow hF814
        refine Sx.on (by exact trivial) ?_
        refine Sx.calm rfl rfl (Cm.assign rfl) rfl ?_
        refine Sx.nil ?_
        exact At.cut ⟨o14, c14⟩ ⟨rfl, rfl, rfl, rfl, rfl, (by rw [him]; rfl), trivial⟩ ⟨ho14, hso14, hF814⟩
    ·
      rintro ⟨o14, c14⟩ w14 ⟨ho14, hso14, hF814⟩
      have hF14 := hF8.trans hF814
      have himl : im.length ≤ 20000 := by rw [him]; unfold imD; rw [List.length_append, List.length_replicate]; omega
      have hgs14 := hgs2.keep (hF25.trans hF14) (fun _ _ => id)
      have ht14 := hF14.obj ht5 id
      have hstb : ∀ j, j < M.length → ((stA 64 M j : Nat) : Int) ≤ 9223372036854775807 := fun j hj => by have := stA_le (f := 64) hMs hj; omega
      refine Sc.seq ?_
      refine Sc.seq ?_
      refine Sc.region ?_
      refine Sl.calm (Cm.assign rfl) rfl ?_
      refine Sl.nil ?_
      refine At.go ?_
      refine Sc.block ?_
      refine Sc.loop (β := Nat) (fun j => [(0, .slice ro gs.length rc), (1, .int .i64 z1), (2, .int .i64 z2), (8, .pointer (some ⟨p, 0, none⟩)), (10, .slice so (stT 64 M M.length).length sc), (14, .slice o14 im.length c14), (15, .int .i64 j)]) (fun j w => j ≤ M.length ∧ Foot nob w14 w) (fun j => M.length - j) 0 ⟨rfl, rfl, rfl, rfl, rfl, rfl, rfl, trivial⟩ ⟨Nat.zero_le _, Foot.refl _ _⟩ ?_
      rintro j w15 ⟨hj, hF15⟩
      refine Sc.seq ?_
      refine Sc.seq ?_
      refine Sc.region ?_
      refine Sl.calm (Cm.move rfl) rfl ?_
      refine Sl.calm (Cm.move rfl) rfl ?_
      refine Sl.calm (Cm.len sl22 rfl) rfl ?_
      refine Sl.fork (Cm.lss rfl rfl) rfl (fun h80 => ?_) (fun h80 => ?_)
      ·
        have hjM : j < M.length := by omega
        obtain ⟨x, hx, hxn, hxv, hxD⟩ := hgs14.at hjM
        have hxl := hMs (M.getD j []) (by rw [List.getD, List.getElem?_eq_getElem hjM]; exact List.getElem_mem _)
        have hhd : hd x = .slice x.a (M.getD j []).length x.c := by unfold hd; rw [hxn]
        have hcl0 := hro2.vw.get j x hx
        rw [hhd] at hcl0
        obtain ⟨b, hb⟩ : ∃ b, b = M.getD j [] := ⟨_, rfl⟩
        rw [← hb] at hxl hcl0 hxv hhd
        have hxle := hxv.le
        have hcl := cellH_keep (cellH_keep (cellH_keep hcl0 hF25 id) hF14 id) hF15 id
        obtain ⟨B, hB⟩ : ∃ B, B = b.take (b.length / 128 * 128) := ⟨_, rfl⟩
        have hBl : B.length = b.length / 128 * 128 := by rw [hB, List.length_take]; omega
        obtain ⟨hrb, E, hwk, hE1, hE2⟩ := back_all hMs hjM hb hB
        rw [← him] at hrb hwk hE1
        have hrb0 : readD im (stA 64 M j : Nat) (b.length : Nat) 0 (b.length : Nat) = (B, 0) := by
          have h := hrb 0 b.length
          rw [List.drop_zero, List.take_of_length_le (by omega)] at h
          exact h
        have hsoX := (hso14.grow hF15).vw
        have hBv : Vw b8 w15.heap x.a x.c B := by rw [hB]; exact (hxv.grow hF15).take _
        have hsb : (stA 64 M j : Int) ≤ 9223372036854775807 := hstb j hjM
        obtain ⟨Wt, hWt⟩ : ∃ X, X = (B.drop K).take J := ⟨_, rfl⟩
        refine Sl.nil ?_
        refine At.weak [(0, _), (1, _), (2, _), (8, _), (10, _), (14, _), (15, _), (80, _)] ⟨rfl, rfl, rfl, rfl, rfl, rfl, rfl, rfl, trivial⟩ ?_
        refine At.go ?_
        refine Sc.cond_t rfl ?_
        refine Sc.skip ?_
        refine At.go ?_
        refine Sc.seq ?_
        refine Sc.block ?_
        refine Sc.seq ?_
        refine Sc.draw 13 (fun H => cellH H (adr ro j) = some (.slice x.a b.length x.c) ∧ Vw nV H so sc (stT 64 M M.length)) [] [0, 1, 2, 3, 4, 5, 6, 7, 8, 9, 10, 11, 12] mixed (by kernel_rfl) (⟨hcl, hsoX⟩) ?_
        refine Sx.calm rfl rfl (Cm.move rfl) rfl ?_
        refine Sx.calm rfl rfl (Cm.move rfl) rfl ?_
        refine Sx.calm rfl rfl (Cm.indexAddr1 sl22 rfl rfl hro2.vw.non (by omega)) rfl ?_
        refine Sx.calm rfl rfl (Cm.load sca23 rfl (fun H hH => by rw [Int.toNat_natCast]; exact hH.1)) rfl ?_
        refine Sx.calm rfl rfl (Cm.move rfl) rfl ?_
        refine Sx.calm rfl rfl (Cm.move rfl) rfl ?_
        refine Sx.calm rfl rfl (Cm.indexAddr1 sl22 rfl rfl hro2.vw.non (by omega)) rfl ?_
        refine Sx.calm rfl rfl (Cm.load sca23 rfl (fun H hH => by rw [Int.toNat_natCast]; exact hH.1)) rfl ?_
        refine Sx.calm rfl rfl (Cm.len sl23 rfl) rfl ?_
        refine Sx.calm rfl rfl (Cm.ofEq (u := .int .i64 ((b.length / 128 : Nat) : Int)) (Cm.quo64 rfl rfl (by omega) (by decide)) (by congr 1)) rfl ?_
        refine Sx.calm rfl rfl (Cm.ofEq (u := .int .i64 ((b.length / 128 * 128 : Nat) : Int)) (Cm.mul64 rfl rfl (by omega)) (by congr 1)) rfl ?_
        refine Sx.calm rfl rfl (Cm.ofEq (u := .slice x.a B.length x.c) (Cm.sliceH sl23 rfl rfl (by omega)) (by rw [cutAo_zero, hBl]; rfl)) rfl ?_
        refine Sx.calm rfl rfl (Cm.assign rfl) rfl ?_
        refine Sx.nil ?_
        refine At.weak [(0, _), (1, _), (2, _), (8, _), (10, _), (14, _), (15, _), (16, _), (80, _)] ⟨rfl, rfl, rfl, rfl, rfl, rfl, rfl, rfl, rfl, trivial⟩ ?_
        refine At.go ?_
        refine Sc.seq ?_
        refine Sc.draw 21 (fun H => cellH H (adr ro j) = some (.slice x.a b.length x.c) ∧ Vw nV H so sc (stT 64 M M.length)) [15] [0, 1, 2, 3, 4, 5, 6, 7, 8, 9, 10, 11, 12, 13, 14, 15, 16, 17, 18, 19, 20] mixed (by kernel_rfl) (⟨hcl, hsoX⟩) ?_
        refine Sx.calm rfl rfl (Cm.move rfl) rfl ?_
        refine Sx.calm rfl rfl (Cm.move rfl) rfl ?_
        refine Sx.calm rfl rfl (Cm.move rfl) rfl ?_
        refine Sx.calm rfl rfl (Cm.indexAddr1 sl33 rfl rfl hsoX.non (by rw [stT_len]; omega)) rfl ?_
        refine Sx.calm rfl rfl (Cm.ofEq (u := .int .i64 ((stA 64 M j : Nat) : Int)) (Cm.load sca3 rfl (fun H hH => hH.2.gz 0 j rfl (by rw [stT_len]; exact hjM))) (by rw [stT_at hjM]; rfl)) rfl ?_
        refine Sx.calm rfl rfl (Cm.move rfl) rfl ?_
        refine Sx.calm rfl rfl (Cm.move rfl) rfl ?_
        refine Sx.calm rfl rfl (Cm.indexAddr1 sl22 rfl rfl hro2.vw.non (by omega)) rfl ?_
        refine Sx.calm rfl rfl (Cm.load sca23 rfl (fun H hH => by rw [Int.toNat_natCast]; exact hH.1)) rfl ?_
        refine Sx.calm rfl rfl (Cm.len sl23 rfl) rfl ?_
        refine Sx.calm rfl rfl (Cm.move rfl) rfl ?_
        refine Sx.calm rfl rfl (Cm.move rfl) rfl ?_
        refine Sx.calm rfl rfl (Cm.indexAddr1 sl22 rfl rfl hro2.vw.non (by omega)) rfl ?_
        refine Sx.calm rfl rfl (Cm.load sca23 rfl (fun H hH => by rw [Int.toNat_natCast]; exact hH.1)) rfl ?_
        refine Sx.calm rfl rfl (Cm.len sl23 rfl) rfl ?_
        refine Sx.eff rfl rfl (Sl.call fn17 rfl (dread_ok p o14 c14 im (stA 64 M j : Nat) (b.length : Nat) 0 (b.length : Nat) _ ((hF15.draws 1 |>.draws 1).obj ht14 id) ((ho14.grow hF15).vw) (by omega) (by omega) (by decide) (by omega)) rfl ?_)
        rw [hrb0]
        rintro _ w16 ⟨o16, c16, rfl, ho16, hfr16, hf16⟩
        have hf16 := hf16.undraw.undraw
        have hF16 := hF15.trans hf16
        refine Sx.on (by exact ⟨cellH_keep hcl hf16 id, hsoX.grow hf16⟩) ?_
        refine Sx.calm rfl rfl (Cm.move rfl) rfl ?_
        refine Sx.calm rfl rfl (Cm.extract rfl rfl) rfl ?_
        refine Sx.calm rfl rfl (Cm.extract rfl rfl) rfl ?_
        refine Sx.calm rfl rfl (Cm.assign rfl) rfl ?_
        refine Sx.calm rfl rfl (Cm.assign rfl) rfl ?_
        refine Sx.nil ?_
        refine At.weak [(0, _), (1, _), (2, _), (8, _), (10, _), (14, _), (15, _), (16, _), (17, _), (18, _), (80, _)] ⟨rfl, rfl, rfl, rfl, rfl, rfl, rfl, rfl, rfl, rfl, rfl, trivial⟩ ?_
        refine At.go ?_
        refine Sc.seq ?_
        refine Sc.seq ?_
        refine Sc.region ?_
        refine Sl.calm (Cm.move rfl) rfl ?_
        refine Sl.calm (Cm.no (Cm.neq rfl rfl) (fun h => h rfl)) rfl ?_
        refine Sl.calm (Cm.move rfl) rfl ?_
        refine Sl.want rfl rfl (Cm.move rfl) rfl ?_
        refine Sl.want rfl rfl (Cm.strIn sl23 ty5 ty9 rfl ho16.vw) rfl ?_
        refine Sl.want rfl rfl (Cm.move rfl) rfl ?_
        refine Sl.want rfl rfl (Cm.strIn sl23 ty5 ty9 rfl (hBv.grow hf16)) rfl ?_
        refine Sl.want rfl rfl (Cm.no (Cm.neqBs rfl rfl) (fun h => h rfl)) rfl ?_
        refine Sl.calm (Cm.pick_f rfl rfl) rfl ?_
        refine Sl.nil ?_
        refine At.weak [(0, _), (1, _), (2, _), (8, _), (10, _), (14, _), (15, _), (16, _), (17, _), (18, _), (80, _), (122, _)] ⟨rfl, rfl, rfl, rfl, rfl, rfl, rfl, rfl, rfl, rfl, rfl, rfl, trivial⟩ ?_
        refine At.go ?_
        refine Sc.cond_f rfl ?_
        refine Sc.skip ?_
        refine At.go ?_
        refine Sc.seq ?_
        refine Sc.region ?_
        refine Sl.calm (Cm.move rfl) rfl ?_
        refine Sl.calm (Cm.remW rfl rfl (by decide)) rfl ?_
        refine Sl.calm (Cm.assign rfl) rfl ?_
        refine Sl.nil ?_
        refine At.weak [(0, _), (1, _), (2, _), (8, _), (10, _), (14, _), (15, _), (16, _), (17, _), (18, _), (19, _), (80, _), (122, _)] ⟨rfl, rfl, rfl, rfl, rfl, rfl, rfl, rfl, rfl, rfl, rfl, rfl, rfl, trivial⟩ ?_
        refine At.go ?_
        refine Sc.seq ?_
        refine Sc.region ?_
        refine Sl.calm (Cm.move rfl) rfl ?_
        refine Sl.calm (Cm.remW rfl rfl (by decide)) rfl ?_
        refine Sl.calm (Cm.assign rfl) rfl ?_
        refine Sl.nil ?_
        refine At.weak [(0, _), (1, _), (2, _), (8, _), (10, _), (14, _), (15, _), (16, _), (17, _), (18, _), (19, _), (20, _), (80, _), (122, _)] ⟨rfl, rfl, rfl, rfl, rfl, rfl, rfl, rfl, rfl, rfl, rfl, rfl, rfl, rfl, trivial⟩ ?_
        refine At.go ?_
        refine Sc.seq ?_
        refine Sc.region ?_
        refine Sl.calm (Cm.move rfl) rfl ?_
        refine Sl.calm (Cm.move rfl) rfl ?_
        refine Sl.calm (Cm.neg64 rfl (by omega)) rfl ?_
        refine Sl.calm (Cm.ofEq (u := .int .i64 (K : Nat)) (Cm.max2 rfl rfl) (by congr 1; split <;> omega)) rfl ?_
        refine Sl.calm (Cm.assign rfl) rfl ?_
        refine Sl.nil ?_
        refine At.weak [(0, _), (1, _), (2, _), (8, _), (10, _), (14, _), (15, _), (16, _), (17, _), (18, _), (19, _), (20, _), (80, _), (122, _)] ⟨rfl, rfl, rfl, rfl, rfl, rfl, rfl, rfl, rfl, rfl, rfl, rfl, rfl, rfl, trivial⟩ ?_
        refine At.go ?_
        refine Sc.seq ?_
        refine Sc.region ?_
        refine Sl.calm (Cm.move rfl) rfl ?_
        refine Sl.calm (Cm.move rfl) rfl ?_
        refine Sl.calm (Cm.neg64 rfl (by omega)) rfl ?_
        refine Sl.calm (Cm.ofEq (u := .int .i64 (J : Nat)) (Cm.max2 rfl rfl) (by congr 1; split <;> omega)) rfl ?_
        refine Sl.calm (Cm.assign rfl) rfl ?_
        refine Sl.nil ?_
        refine At.weak [(0, _), (1, _), (2, _), (8, _), (10, _), (14, _), (15, _), (16, _), (17, _), (18, _), (19, _), (20, _), (80, _), (122, _)] ⟨rfl, rfl, rfl, rfl, rfl, rfl, rfl, rfl, rfl, rfl, rfl, rfl, rfl, rfl, trivial⟩ ?_
        refine At.go ?_
        refine Sc.seq ?_
        refine Sc.draw 18 (fun H => cellH H (adr ro j) = some (.slice x.a b.length x.c) ∧ Vw nV H so sc (stT 64 M M.length)) [12] [0, 1, 2, 3, 4, 5, 6, 7, 8, 9, 10, 11, 12, 13, 14, 15, 16, 17] mixed (by kernel_rfl) (⟨cellH_keep hcl hf16 id, hsoX.grow hf16⟩) ?_
        refine Sx.calm rfl rfl (Cm.move rfl) rfl ?_
        refine Sx.calm rfl rfl (Cm.move rfl) rfl ?_
        refine Sx.calm rfl rfl (Cm.move rfl) rfl ?_
        refine Sx.calm rfl rfl (Cm.indexAddr1 sl33 rfl rfl hsoX.non (by rw [stT_len]; omega)) rfl ?_
        refine Sx.calm rfl rfl (Cm.ofEq (u := .int .i64 ((stA 64 M j : Nat) : Int)) (Cm.load sca3 rfl (fun H hH => hH.2.gz 0 j rfl (by rw [stT_len]; exact hjM))) (by rw [stT_at hjM]; rfl)) rfl ?_
        refine Sx.calm rfl rfl (Cm.move rfl) rfl ?_
        refine Sx.calm rfl rfl (Cm.move rfl) rfl ?_
        refine Sx.calm rfl rfl (Cm.indexAddr1 sl22 rfl rfl hro2.vw.non (by omega)) rfl ?_
        refine Sx.calm rfl rfl (Cm.load sca23 rfl (fun H hH => by rw [Int.toNat_natCast]; exact hH.1)) rfl ?_
        refine Sx.calm rfl rfl (Cm.len sl23 rfl) rfl ?_
        refine Sx.calm rfl rfl (Cm.move rfl) rfl ?_
        refine Sx.calm rfl rfl (Cm.move rfl) rfl ?_
        refine Sx.eff rfl rfl (Sl.call fn17 rfl (dread_ok p o14 c14 im (stA 64 M j : Nat) (b.length : Nat) (K : Nat) (J : Nat) _ ((hF16.draws 1).obj ht14 id) ((ho14.grow hF16).vw) (by omega) (by omega) (by omega) (by omega)) rfl ?_)
        rw [hrb K J, ← hWt]
        rintro _ w17 ⟨o17, c17, rfl, ho17, hfr17, hf17⟩
        have hf17 := hf17.undraw
        have hF17 := hF16.trans hf17
        have hf1517 := hf16.trans hf17
        refine Sx.on (by exact ⟨cellH_keep hcl hf1517 id, hsoX.grow hf1517⟩) ?_
        refine Sx.calm rfl rfl (Cm.move rfl) rfl ?_
        refine Sx.calm rfl rfl (Cm.extract rfl rfl) rfl ?_
        refine Sx.calm rfl rfl (Cm.extract rfl rfl) rfl ?_
        refine Sx.calm rfl rfl (Cm.assign rfl) rfl ?_
        refine Sx.calm rfl rfl (Cm.assign rfl) rfl ?_
        refine Sx.nil ?_
        refine At.weak [(0, _), (1, _), (2, _), (8, _), (10, _), (14, _), (15, _), (16, _), (17, _), (18, _), (19, _), (20, _), (21, _), (22, _), (80, _), (122, _)] ⟨rfl, rfl, rfl, rfl, rfl, rfl, rfl, rfl, rfl, rfl, rfl, rfl, rfl, rfl, rfl, rfl, trivial⟩ ?_
        refine At.go ?_
        refine Sc.seq ?_
        refine Sc.region ?_
        refine Sl.lit0 b8 sl23 rfl ?_
        intro w18 ho18 hs18 hf18
        have hf1518 := hf1517.trans hf18
        refine Sl.calm (Cm.assign rfl) rfl ?_
        refine Sl.nil ?_
        refine At.weak [(0, _), (1, _), (2, _), (8, _), (10, _), (14, _), (15, _), (16, _), (17, _), (18, _), (19, _), (20, _), (21, _), (22, _), (23, _), (80, _), (122, _)] ⟨rfl, rfl, rfl, rfl, rfl, rfl, rfl, rfl, rfl, rfl, rfl, rfl, rfl, rfl, rfl, rfl, rfl, trivial⟩ ?_
        refine At.go ?_
        refine Sc.cut (β := Option Addr × Nat) (fun ⟨wo, wc⟩ => [(0, .slice ro gs.length rc), (1, .int .i64 z1), (2, .int .i64 z2), (8, .pointer (some ⟨p, 0, none⟩)), (10, .slice so (stT 64 M M.length).length sc), (14, .slice o14 im.length c14), (15, .int .i64 j), (16, .slice x.a B.length x.c), (21, .slice o17 Wt.length c17), (22, .int .i64 0), (23, .slice wo Wt.length wc)]) (fun ⟨wo, wc⟩ w => Vw b8 w.heap wo wc Wt ∧ w = w18) ?_ ?_
        ·
          refine Sc.seq ?_
          refine Sc.region ?_
          refine Sl.calm (Cm.move rfl) rfl ?_
          refine Sl.calm (Cm.move rfl) rfl ?_
          refine Sl.calm (Cm.len sl23 rfl) rfl ?_
          refine Sl.fork (Cm.lss rfl rfl) rfl (fun h155 => ?_) (fun h155 => ?_)
          ·
            have hWl : Wt.length = min (B.length - K) J := by rw [hWt, List.length_take, List.length_drop]; omega
            have hWv : Vw b8 w18.heap (cutAo x.a x.c K 1) (x.c - K) Wt := by
              have h := cut_drop (n := ((K : Nat) : Int)) (hBv.grow hf1518) (by omega) (by omega)
              rw [Int.toNat_natCast] at h
              rw [hWt]; exact h.take J
            refine Sl.nil ?_
            refine At.weak [(0, _), (1, _), (2, _), (8, _), (10, _), (14, _), (15, _), (16, _), (17, _), (18, _), (19, _), (20, _), (21, _), (22, _), (23, _), (80, _), (122, _), (155, _)] ⟨rfl, rfl, rfl, rfl, rfl, rfl, rfl, rfl, rfl, rfl, rfl, rfl, rfl, rfl, rfl, rfl, rfl, rfl, trivial⟩ ?_
            refine At.go ?_
            refine Sc.cond_t rfl ?_
            refine Sc.region ?_
            refine Sl.calm (Cm.move rfl) rfl ?_
            refine Sl.calm (Cm.move rfl) rfl ?_
            refine Sl.calm (Cm.move rfl) rfl ?_
            refine Sl.calm (Cm.len sl23 rfl) rfl ?_
            refine Sl.calm (Cm.move rfl) rfl ?_
            refine Sl.calm (Cm.move rfl) rfl ?_
            refine Sl.calm (Cm.add64 rfl rfl (by omega)) rfl ?_
            refine Sl.calm (Cm.ofEq (u := .int .i64 ((min B.length (K + J) : Nat) : Int)) (Cm.min2 rfl rfl) (by congr 1; split <;> omega)) rfl ?_
            refine Sl.calm (Cm.ofEq (u := .slice (cutAo x.a x.c K 1) Wt.length (x.c - K)) (Cm.sliceLH sl23 rfl rfl rfl (by omega) (by omega)) (by rw [hWl, show min (B.length - K) J = min B.length (K + J) - K by omega]; rfl)) rfl ?_
            refine Sl.calm (Cm.assign rfl) rfl ?_
            refine Sl.nil ?_
            exact At.cut ⟨_, _⟩ ⟨rfl, rfl, rfl, rfl, rfl, rfl, rfl, rfl, rfl, rfl, rfl, trivial⟩ ⟨hWv, rfl⟩
          ·
            have hWe : Wt = [] := by rw [hWt, List.drop_eq_nil_of_le (by omega), List.take_nil]
            refine Sl.nil ?_
            refine At.weak [(0, _), (1, _), (2, _), (8, _), (10, _), (14, _), (15, _), (16, _), (17, _), (18, _), (19, _), (20, _), (21, _), (22, _), (23, _), (80, _), (122, _), (155, _)] ⟨rfl, rfl, rfl, rfl, rfl, rfl, rfl, rfl, rfl, rfl, rfl, rfl, rfl, rfl, rfl, rfl, rfl, rfl, trivial⟩ ?_
            refine At.go ?_
            refine Sc.cond_f rfl ?_
            refine Sc.skip ?_
            exact At.cut ⟨_, _⟩ ⟨rfl, rfl, rfl, rfl, rfl, rfl, rfl, rfl, rfl, rfl, (by rw [hWe]; rfl), trivial⟩ ⟨by rw [hWe]; exact ho18.vw, rfl⟩
        ·
          rintro ⟨wo, wc⟩ wq ⟨hwv, hwq⟩
          obtain rfl : w18 = wq := hwq.symm
          refine Sc.seq ?_
          refine Sc.draw 18 (fun H => cellH H (adr ro j) = some (.slice x.a b.length x.c) ∧ Vw nV H so sc (stT 64 M M.length)) [12] [0, 1, 2, 3, 4, 5, 6, 7, 8, 9, 10, 11, 12, 13, 14, 15, 16, 17] mixed (by kernel_rfl) (⟨cellH_keep hcl hf1518 id, hsoX.grow hf1518⟩) ?_
          refine Sx.calm rfl rfl (Cm.move rfl) rfl ?_
          refine Sx.calm rfl rfl (Cm.move rfl) rfl ?_
          refine Sx.calm rfl rfl (Cm.move rfl) rfl ?_
          refine Sx.calm rfl rfl (Cm.indexAddr1 sl33 rfl rfl hsoX.non (by rw [stT_len]; omega)) rfl ?_
          refine Sx.calm rfl rfl (Cm.ofEq (u := .int .i64 ((stA 64 M j : Nat) : Int)) (Cm.load sca3 rfl (fun H hH => hH.2.gz 0 j rfl (by rw [stT_len]; exact hjM))) (by rw [stT_at hjM]; rfl)) rfl ?_
          refine Sx.calm rfl rfl (Cm.move rfl) rfl ?_
          refine Sx.calm rfl rfl (Cm.move rfl) rfl ?_
          refine Sx.calm rfl rfl (Cm.indexAddr1 sl22 rfl rfl hro2.vw.non (by omega)) rfl ?_
          refine Sx.calm rfl rfl (Cm.load sca23 rfl (fun H hH => by rw [Int.toNat_natCast]; exact hH.1)) rfl ?_
          refine Sx.calm rfl rfl (Cm.len sl23 rfl) rfl ?_
          refine Sx.calm rfl rfl (Cm.move rfl) rfl ?_
          refine Sx.calm rfl rfl (Cm.len sl23 rfl) rfl ?_
          refine Sx.eff rfl rfl (Sl.call fn19 rfl (dwalk_ok o14 c14 im (stA 64 M j : Nat) (b.length : Nat) (im.length : Nat) _ ((ho14.grow hF15).grow hf1518).vw (by omega) (by omega)) rfl ?_)
          rw [hwk]
          rintro _ w19 ⟨rfl, hf19⟩
          have hf19 := hf19.undraw
          have hf1519 := hf1518.trans hf19
          refine Sx.on (by exact ⟨cellH_keep hcl hf1519 id, hsoX.grow hf1519⟩) ?_
          refine Sx.calm rfl rfl (Cm.move rfl) rfl ?_
          refine Sx.calm rfl rfl (Cm.extract rfl rfl) rfl ?_
          refine Sx.calm rfl rfl (Cm.extract rfl rfl) rfl ?_
          refine Sx.calm rfl rfl (Cm.assign rfl) rfl ?_
          refine Sx.calm rfl rfl (Cm.assign rfl) rfl ?_
          refine Sx.nil ?_
          refine At.weak [(0, _), (1, _), (2, _), (8, _), (10, _), (14, _), (15, _), (16, _), (21, _), (22, _), (23, _), (24, _), (25, _)] ⟨rfl, rfl, rfl, rfl, rfl, rfl, rfl, rfl, rfl, rfl, rfl, rfl, rfl, trivial⟩ ?_
          refine At.go ?_
          refine Sc.seq ?_
          refine Sc.region ?_
          refine Sl.calm (Cm.move rfl) rfl ?_
          refine Sl.calm (Cm.no (Cm.neq rfl rfl) (fun h => h rfl)) rfl ?_
          refine Sl.calm (Cm.move rfl) rfl ?_
          refine Sl.want rfl rfl (Cm.move rfl) rfl ?_
          refine Sl.want rfl rfl (Cm.strIn sl23 ty5 ty9 rfl ((ho17.grow hf18).grow hf19).vw) rfl ?_
          refine Sl.want rfl rfl (Cm.move rfl) rfl ?_
          refine Sl.want rfl rfl (Cm.strIn sl23 ty5 ty9 rfl (hwv.grow hf19)) rfl ?_
          refine Sl.want rfl rfl (Cm.no (Cm.neqBs rfl rfl) (fun h => h rfl)) rfl ?_
          refine Sl.calm (Cm.pick_f rfl rfl) rfl ?_
          refine Sl.calm (Cm.move rfl) rfl ?_
          refine Sl.want rfl rfl (Cm.move rfl) rfl ?_
          refine Sl.want rfl rfl (Cm.no (Cm.neq rfl rfl) (fun h => h rfl)) rfl ?_
          refine Sl.calm (Cm.pick_f rfl rfl) rfl ?_
          refine Sl.calm (Cm.move rfl) rfl ?_
          refine Sl.want rfl rfl (Cm.move rfl) rfl ?_
          refine Sl.want rfl rfl (Cm.move rfl) rfl ?_
          refine Sl.want rfl rfl (Cm.len sl23 rfl) rfl ?_
          refine Sl.want rfl rfl (Cm.no (Cm.gtr rfl rfl) (by omega)) rfl ?_
          refine Sl.calm (Cm.pick_f rfl rfl) rfl ?_
          refine Sl.calm (Cm.move rfl) rfl ?_
          refine Sl.want rfl rfl (Cm.move rfl) rfl ?_
          refine Sl.want rfl rfl (Cm.len sl23 rfl) rfl ?_
          refine Sl.forkWant rfl rfl (Cm.eql rfl rfl) rfl (fun h203 => ?_) (fun h203 => ?_)
          ·
            refine Sl.want rfl rfl (Cm.move rfl) rfl ?_
            refine Sl.want rfl rfl (Cm.move rfl) rfl ?_
            refine Sl.want rfl rfl (Cm.move rfl) rfl ?_
            refine Sl.want rfl rfl (Cm.move rfl) rfl ?_
            refine Sl.want rfl rfl (Cm.indexAddr1 sl33 rfl rfl hsoX.non (by rw [stT_len]; omega)) rfl ?_
            refine Sl.want rfl rfl (Cm.ofEq (u := .int .i64 ((stA 64 M j : Nat) : Int)) (Cm.ld sca3 rfl ((hsoX.grow hf1519).gz 0 j rfl (by rw [stT_len]; exact hjM))) (by rw [stT_at hjM]; rfl)) rfl ?_
            refine Sl.want rfl rfl (Cm.no (Cm.neq rfl rfl) (fun h => h (hE2 (by omega)))) rfl ?_
            refine Sl.want rfl rfl (Cm.pick_t rfl rfl) rfl ?_
            refine Sl.calm (Cm.pick_f rfl rfl) rfl ?_
            refine Sl.nil ?_
            refine At.weak [(0, _), (1, _), (2, _), (8, _), (10, _), (14, _), (15, _), (16, _), (21, _), (22, _), (23, _), (24, _), (25, _), (212, _)] ⟨rfl, rfl, rfl, rfl, rfl, rfl, rfl, rfl, rfl, rfl, rfl, rfl, rfl, rfl, trivial⟩ ?_
            refine At.go ?_
            refine Sc.cond_f rfl ?_
            refine Sc.skip ?_
            refine At.block_normal ?_
            refine At.go ?_
            refine Sc.region ?_
            refine Sl.calm (Cm.move rfl) rfl ?_
            refine Sl.calm (Cm.add64 rfl rfl (by omega)) rfl ?_
            refine Sl.calm (Cm.assign rfl) rfl ?_
            refine Sl.nil ?_
            exact At.again (j + 1) ⟨rfl, rfl, rfl, rfl, rfl, rfl, rfl, trivial⟩ ⟨by omega, hF15.trans hf1519⟩ (by show M.length - (j + 1) < M.length - j; omega)
          ·
            refine Sl.want rfl rfl (Cm.move rfl) rfl ?_
            refine Sl.skip rfl rfl rfl rfl ?_
            refine Sl.skip rfl rfl rfl rfl ?_
            refine Sl.skip rfl rfl rfl rfl ?_
            refine Sl.skip rfl rfl rfl rfl ?_
            refine Sl.skip rfl rfl rfl rfl ?_
            refine Sl.skip rfl rfl rfl rfl ?_
            refine Sl.want rfl rfl (Cm.pick_f rfl rfl) rfl ?_
            refine Sl.calm (Cm.pick_f rfl rfl) rfl ?_
            refine Sl.nil ?_
            refine At.weak [(0, _), (1, _), (2, _), (8, _), (10, _), (14, _), (15, _), (16, _), (21, _), (22, _), (23, _), (24, _), (25, _), (212, _)] ⟨rfl, rfl, rfl, rfl, rfl, rfl, rfl, rfl, rfl, rfl, rfl, rfl, rfl, rfl, trivial⟩ ?_
            refine At.go ?_
            refine Sc.cond_f rfl ?_
            refine Sc.skip ?_
            refine At.block_normal ?_
            refine At.go ?_
            refine Sc.region ?_
            refine Sl.calm (Cm.move rfl) rfl ?_
            refine Sl.calm (Cm.add64 rfl rfl (by omega)) rfl ?_
            refine Sl.calm (Cm.assign rfl) rfl ?_
            refine Sl.nil ?_
            exact At.again (j + 1) ⟨rfl, rfl, rfl, rfl, rfl, rfl, rfl, trivial⟩ ⟨by omega, hF15.trans hf1519⟩ (by show M.length - (j + 1) < M.length - j; omega)
      ·
        refine Sl.nil ?_
        refine At.weak [(0, _), (1, _), (2, _), (8, _), (10, _), (14, _), (15, _), (80, _)] ⟨rfl, rfl, rfl, rfl, rfl, rfl, rfl, rfl, trivial⟩ ?_
        refine At.go ?_
        refine Sc.cond_f rfl ?_
        refine Sc.exit ?_
        refine At.then_exit ?_
        refine At.then_exit ?_
        refine At.block_hit ?_
        refine At.go ?_
        refine Sc.seq ?_
        refine Sc.region ?_
        refine Sl.calm (Cm.assign rfl) rfl ?_
        refine Sl.nil ?_
        refine At.go ?_
        refine Sc.ret ?_
        refine At.ret1 rfl rfl ?_
        exact ⟨_, rfl, rfl, (hF5.trans hF14).trans hF15⟩
end Go.Proofs.YtpnfjfbfgaiolaaDoor
