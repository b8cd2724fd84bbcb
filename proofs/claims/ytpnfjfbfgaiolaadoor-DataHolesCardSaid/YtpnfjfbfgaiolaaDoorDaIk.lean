/- data: files that have the same blocks have them once. No condition beyond the bounds that each states. -/
import Derived.Test.YtpnfjfbfgaiolaaDoorDaHk
namespace Go.Proofs.YtpnfjfbfgaiolaaDoor
open Go Go.RowKit
set_option linter.unusedVariables false

def dsT (f : Nat) (L : List (List UInt8)) : DS := L.foldl (fun s b => (addD f s b).1) ⟨[], []⟩
def stA (f : Nat) (L : List (List UInt8)) (i : Nat) : Nat := (addD f (dsT f (L.take i)) (L.getD i [])).2
def stT (f : Nat) (L : List (List UInt8)) (n : Nat) : List Nat := (List.range n).map (stA f L)
theorem stT_succ (f : Nat) (L : List (List UInt8)) (n : Nat) : stT f L (n + 1) = stT f L n ++ [stA f L n] := by unfold stT; rw [List.range_succ, List.map_append]; rfl
theorem stT_len (f : Nat) (L : List (List UInt8)) (n : Nat) : (stT f L n).length = n := by simp [stT]
theorem stT_at {f : Nat} {L : List (List UInt8)} {n i : Nat} (h : i < n) : (stT f L n).getD i 0 = stA f L i := by simp [stT, List.getD, h]
theorem tk_snocL {L : List (List UInt8)} {i : Nat} (h : i < L.length) : L.take (i + 1) = L.take i ++ [L.getD i []] := by
  rw [List.take_succ_eq_append_getElem h, List.getD, List.getElem?_eq_getElem h]; rfl
theorem dsT_succ {f : Nat} {L : List (List UInt8)} {i : Nat} (h : i < L.length) : dsT f (L.take (i + 1)) = (addD f (dsT f (L.take i)) (L.getD i [])).1 := by
  rw [tk_snocL h]; unfold dsT; rw [List.foldl_append]; rfl
theorem dsT_B {f : Nat} {L : List (List UInt8)} (h : ∀ b ∈ L, b.length ≤ 1500) : ∀ n, (dsT f (L.take n)).B.length ≤ 1500 * n ∧ (dsT f (L.take n)).m.length ≤ n
  | 0 => ⟨Nat.le_refl _, Nat.le_refl _⟩
  | n + 1 => by
    obtain ⟨h1, h2⟩ := dsT_B (f := f) h n
    by_cases hn : n < L.length
    · rw [dsT_succ hn]
      have h3 := addD_B f (dsT f (L.take n)) (L.getD n [])
      have h4 := runD_le (L.getD n [])
      have h5 := h (L.getD n []) (by rw [List.getD, List.getElem?_eq_getElem hn]; exact List.getElem_mem _)
      omega
    · rw [List.take_of_length_le (by omega)]
      rw [List.take_of_length_le (by omega)] at h1 h2
      omega
theorem findR_foldl {f : Nat} {a : SK} {k : Nat} : ∀ (R : List (List UInt8)) (s : DS), findR s.m a = some k → findR (R.foldl (fun s b => (addD f s b).1) s).m a = some k
  | [], _, h => h
  | b :: R, s, h => by
    refine findR_foldl R _ ?_
    show findR (addD f s b).1.m a = some k
    unfold addD
    split
    · exact h
    · exact findR_grows h
theorem findR_dsT {f : Nat} {L : List (List UInt8)} {i : Nat} (hi : i < L.length) (hr : runD (L.getD i []) ≠ []) : findR (dsT f L).m (skOf (runD (L.getD i []))) = some (stA f L i) := by
  have e : L = L.take (i + 1) ++ L.drop (i + 1) := (List.take_append_drop _ _).symm
  have e2 : dsT f L = (L.drop (i + 1)).foldl (fun s b => (addD f s b).1) (dsT f (L.take (i + 1))) := by
    conv => lhs; rw [e]
    unfold dsT; rw [List.foldl_append]
  rw [e2]
  refine findR_foldl _ _ ?_
  rw [dsT_succ hi]
  unfold stA addD
  rw [if_neg hr]
  exact addR_find _ _ _
theorem chB_take {b t : List UInt8} {k : Nat} {n : Nat} (h : n * 128 + 128 ≤ k) (hk : k ≤ b.length) : chB (b.take k ++ t) n = chB b n := by
  have hl : (b.take k).length = k := by rw [List.length_take]; exact Nat.min_eq_left hk
  unfold chB
  rw [List.drop_append_of_le_length (by rw [hl]; omega), List.take_append_of_le_length (by rw [List.length_drop, hl]; omega), List.drop_take, List.take_take, Nat.min_eq_left (by omega)]
theorem runN_take {b t : List UInt8} {k : Nat} (hk : k ≤ b.length) (n : Nat) (h : n * 128 ≤ k) : runN (b.take k ++ t) n = runN b n := by
  unfold runN
  congr 1
  refine List.map_congr_left (fun i hi => ?_)
  have hi := List.mem_range.1 hi
  have h2 : i * 128 + 128 ≤ n * 128 := by have := Nat.mul_le_mul_right 128 hi; rwa [Nat.succ_mul] at this
  exact congrArg frB (chB_take (Nat.le_trans h2 h) hk)
theorem cut_len12 {b t : List UInt8} (ht : t.length < 128) : (b.take (b.length / 128 * 128) ++ t).length / 128 = b.length / 128 := by
  rw [List.length_append, List.length_take, Nat.min_eq_left (by omega)]; omega
theorem runD_same {b t : List UInt8} (ht : t.length < 128) : runD (b.take (b.length / 128 * 128) ++ t) = runD b := by
  unfold runD
  rw [cut_len12 ht, runN_take (Nat.div_mul_le_self _ _) _ (Nat.le_refl _)]
theorem tailD_same {b t : List UInt8} (ht : t.length < 128) : tailD (b.take (b.length / 128 * 128) ++ t) = t := by
  unfold tailD
  rw [cut_len12 ht]
  have : (b.take (b.length / 128 * 128)).length = b.length / 128 * 128 := by rw [List.length_take]; omega
  rw [List.drop_append_of_le_length (by omega), List.drop_eq_nil_of_le (by omega), List.nil_append]
theorem once_add {f : Nat} {L : List (List UInt8)} {i : Nat} (hi : i < L.length) {t : List UInt8} (ht : t.length < 128) : addD f (dsT f L) ((L.getD i []).take ((L.getD i []).length / 128 * 128) ++ t) = (dsT f L, stA f L i) := by
  by_cases hr : runD (L.getD i []) = []
  · rw [addD_none (by rw [runD_same ht, hr]; rfl)]
    unfold stA
    rw [addD_none (by rw [hr]; rfl)]
  · have hl : (runD (L.getD i [])).length ≠ 0 := fun h => hr (List.length_eq_zero_iff.1 h)
    rw [addD_old (by rw [runD_same ht]; exact hl) (by rw [runD_same ht]; exact findR_dsT hi hr)]
theorem rowsD_len (L : List (List UInt8)) : (rowsD L).length ≤ 12 := by unfold rowsD; rw [List.length_map, List.length_take]; omega
theorem rowsD_small (L : List (List UInt8)) : ∀ b ∈ rowsD L, b.length ≤ 1500 := by
  intro b hb
  obtain ⟨c, _, rfl⟩ := List.mem_map.1 hb
  rw [List.length_take]; omega

set_option maxHeartbeats 8000000 in
theorem dataOnce_ok (D0 : Nat → Prop) (ao : Option Addr) (cap : Nat) (hs : List Hd) (L : List (List UInt8)) (to : Option Addr) (tc : Nat) (t : List UInt8) (W : World) (hv : Vw hd W.heap ao cap hs) (hr : RowsV D0 W.heap hs L) (hD0 : ∀ k, D0 k → k < W.heap.size) (hvt : Vw b8 W.heap to tc t) :
    Calls Tryd.prog 3 [.slice ao hs.length cap, .slice to t.length tc].toArray W (Ret fun v w' => v = .bool true ∧ Foot nob W w') := by
  obtain ⟨M, hM⟩ : ∃ M, M = rowsD L := ⟨_, rfl⟩
  have hMl : M.length ≤ 12 := by rw [hM]; exact rowsD_len L
  have hMs : ∀ b ∈ M, b.length ≤ 1500 := by rw [hM]; exact rowsD_small L
  have hMb := dsT_B (f := 64) hMs
  obtain ⟨T, hT⟩ : ∃ T, T = t.take 127 := ⟨_, rfl⟩
  have hTl : T.length < 128 := by rw [hT, List.length_take]; omega
  have htl := hvt.len63
  have htc := hvt.le
  refine calls_of_sc 104 [(0, _), (1, _)] Tryd.func3 rfl rfl rfl (enter_slots ⟨rfl, rfl, trivial⟩) ?_
  refine Sc.seq ?_
  refine Sc.region ?_
  refine Sl.calm (Cm.assign rfl) rfl ?_
  refine Sl.nil ?_
  refine At.go ?_
  refine Sc.seq ?_
  refine Sc.region ?_
  refine Sl.call fn8 rfl (shown12_ok W) rfl ?_
  rintro _ w1 ⟨rfl, hf1⟩
  refine Sl.calm (Cm.assign rfl) rfl ?_
  refine Sl.nil ?_
  refine At.weak [(0, _), (1, _), (4, _), (5, _)] ⟨rfl, rfl, rfl, rfl, trivial⟩ ?_
  refine At.go ?_
  refine Sc.seq ?_
  refine Sc.region ?_
  refine Sl.calm (Cm.move rfl) rfl ?_
  refine Sl.call fn9 rfl (rows12_ok D0 ao cap hs L w1 (hv.grow hf1) (hr.keep hf1 (fun _ _ => id))) rfl ?_
  rintro _ w2 ⟨ro, rc, gs, rfl, hro2, hgs2, hrf2, hf2⟩
  rw [← hM] at hgs2
  have hgl := hgs2.1
  have hz1 := hf1.size
  have hz2 := hf2.size
  refine Sl.calm (Cm.assign rfl) rfl ?_
  refine Sl.nil ?_
  refine At.weak [(0, _), (1, _), (4, _), (5, _)] ⟨rfl, rfl, rfl, rfl, trivial⟩ ?_
  refine At.go ?_
  refine Sc.cut (β := Unit) (fun _u => [(0, .slice ro gs.length rc), (1, .slice to T.length tc), (5, .bool true)]) (fun _u w => w = w2) ?_ ?_
  ·
    refine Sc.seq ?_
    refine Sc.region ?_
    refine Sl.calm (Cm.move rfl) rfl ?_
    refine Sl.calm (Cm.len sl23 rfl) rfl ?_
    refine Sl.fork (Cm.gtr rfl rfl) rfl (fun h22 => ?_) (fun h22 => ?_)
    ·
      refine Sl.nil ?_
      refine At.weak [(0, _), (1, _), (4, _), (5, _), (22, _)] ⟨rfl, rfl, rfl, rfl, rfl, trivial⟩ ?_
      refine At.go ?_
      refine Sc.cond_t rfl ?_
      refine Sc.region ?_
      refine Sl.calm (Cm.move rfl) rfl ?_
      refine Sl.calm (Cm.ofEq (u := .slice to T.length tc) (Cm.sliceH sl23 rfl rfl (by omega)) (by rw [cutAo_zero, hT, List.length_take, Nat.min_eq_left (by omega)]; rfl)) rfl ?_
      refine Sl.calm (Cm.assign rfl) rfl ?_
      refine Sl.nil ?_
      exact At.cut () ⟨rfl, rfl, rfl, trivial⟩ rfl
    ·
      refine Sl.nil ?_
      refine At.weak [(0, _), (1, _), (4, _), (5, _), (22, _)] ⟨rfl, rfl, rfl, rfl, rfl, trivial⟩ ?_
      refine At.go ?_
      refine Sc.cond_f rfl ?_
      refine Sc.skip ?_
      exact At.cut () ⟨rfl, (by rw [hT, List.take_of_length_le (by omega)]; rfl), rfl, trivial⟩ rfl
  ·
    rintro _ wq hwq
    obtain rfl : w2 = wq := hwq.symm
    refine Sc.seq ?_
    refine Sc.region ?_
    refine Sl.call fn10 rfl (crcnew_ok w2) rfl ?_
    rintro _ w3 ⟨rfl, hf3⟩
    refine Sl.allocC zc28 rfl ?_
    intro w4 hg4 hs4 hf4
    refine Sl.storeAll (vs := tab) aggTab rfl rfl tab_one hg4 (by rw [tab_len, List.length_replicate]) ?_
    intro w5 hg5 hs5 hf5
    obtain ⟨p, hp⟩ : ∃ p, p = w3.heap.size := ⟨_, rfl⟩
    have hF25 : Foot nob w2 w5 := (hf3.trans hf4).trans_to hf5 (fun k hk => .inr (by have h : k = w3.heap.size := hk; have := hf3.size; omega))
    rw [← hp] at hg5 ⊢
    have ht5 : TbV w5.heap p := hg5
    have hF5 := (hf1.trans hf2).trans hF25
    have hT5 : Vw b8 w5.heap to tc T := by rw [hT]; exact (hvt.grow hF5).take 127
    refine Sl.nil ?_
    refine At.weak [(0, _), (1, _), (5, _), (6, _)] ⟨rfl, rfl, rfl, rfl, trivial⟩ ?_
    refine At.go ?_
    refine Sc.seq ?_
    refine Sc.region ?_
    refine Sl.call fn11 rfl (dnewT_ok p 64 w5 ht5) rfl ?_
    rintro _ w6 ⟨rfl, hM6, hf6⟩
    obtain ⟨g, hg⟩ : ∃ g, g = w5.heap.size + 1 := ⟨_, rfl⟩
    rw [← hg]
    rw [← hg] at hM6
    have hz6 := hf6.size
    refine Sl.calm (Cm.assign rfl) rfl ?_
    refine Sl.nil ?_
    refine At.weak [(0, _), (1, _), (5, _), (6, _), (7, _)] ⟨rfl, rfl, rfl, rfl, rfl, trivial⟩ ?_
    refine At.go ?_
    refine Sc.seq ?_
    refine Sc.seq ?_
    refine Sc.region ?_
    refine Sl.calm (Cm.move rfl) rfl ?_
    refine Sl.calm (Cm.not rfl) rfl ?_
    refine Sl.calm (Cm.move rfl) rfl ?_
    refine Sl.want rfl rfl (Cm.move rfl) rfl ?_
    refine Sl.want rfl rfl (Cm.eqlPtrNil ptr30 rfl rfl) rfl ?_
    refine Sl.calm (Cm.pick_f rfl rfl) rfl ?_
    refine Sl.nil ?_
    refine At.weak [(0, _), (1, _), (5, _), (6, _), (7, _), (32, _)] ⟨rfl, rfl, rfl, rfl, rfl, rfl, trivial⟩ ?_
    refine At.go ?_
    refine Sc.cond_f rfl ?_
    refine Sc.skip ?_
    refine At.go ?_
    refine Sc.seq ?_
    refine Sc.region ?_
    refine Sl.lit0 nV sl33 rfl ?_
    intro w7 ho7 hs7 hf7
    have hz7 := hf7.size
    have hF57 := hf6.trans hf7
    refine Sl.calm (Cm.assign rfl) rfl ?_
    refine Sl.nil ?_
    refine At.weak [(0, _), (1, _), (5, _), (6, _), (7, _), (8, _), (32, _)] ⟨rfl, rfl, rfl, rfl, rfl, rfl, rfl, trivial⟩ ?_
    refine At.go ?_
    refine Sc.seq ?_
    refine Sc.seq ?_
    refine Sc.region ?_
    refine Sl.calm (Cm.assign rfl) rfl ?_
    refine Sl.nil ?_
    refine At.go ?_
    refine Sc.block ?_
    refine Sc.loop (β := Nat × (Nat → Prop) × (Option Addr × Nat)) (fun ⟨i, A, ⟨so, sc⟩⟩ => [(0, .slice ro gs.length rc), (1, .slice to T.length tc), (7, .pointer (some ⟨g, 0, none⟩)), (8, .slice so (stT 64 M i).length sc), (9, .int .i64 i)]) (fun ⟨i, A, ⟨so, sc⟩⟩ w => i ≤ M.length ∧ DwO A w.heap g p 64 (dsT 64 (M.take i)) ∧ (∀ k, A k → w5.heap.size ≤ k ∧ k < w.heap.size) ∧ (∀ k, blk so k → ¬ A k) ∧ Own nV 3 w.heap so sc (stT 64 M i) ∧ Fr w5.heap.size so ∧ Foot nob w5 w) (fun ⟨i, A, ⟨so, sc⟩⟩ => M.length - i) ⟨0, fun k => w5.heap.size ≤ k ∧ k < w6.heap.size, ⟨some ⟨w6.heap.size, 0, none⟩, 0⟩⟩ ⟨rfl, rfl, rfl, rfl, rfl, trivial⟩ ⟨Nat.zero_le _, hM6.grow hf7, (fun k hk => ⟨hk.1, by have := hk.2; omega⟩), (fun k ⟨a, ha, e⟩ h => by cases ha; have e : w6.heap.size = k := e; have := h.2; omega), ho7, (fun a ha => by cases ha; exact hz6), hF57⟩ ?_
    rintro ⟨i, A, ⟨so, sc⟩⟩ w8 ⟨hi, hM8, hA, hAs, hso, hfso, hF8⟩
    refine Sc.seq ?_
    refine Sc.seq ?_
    refine Sc.region ?_
    refine Sl.calm (Cm.move rfl) rfl ?_
    refine Sl.calm (Cm.move rfl) rfl ?_
    refine Sl.calm (Cm.len sl22 rfl) rfl ?_
    refine Sl.fork (Cm.lss rfl rfl) rfl (fun h37 => ?_) (fun h37 => ?_)
    ·
      have hiM : i < M.length := by omega
      obtain ⟨x, hx, hxn, hxv, hxD⟩ := hgs2.at hiM
      have hxl := hMs (M.getD i []) (by rw [List.getD, List.getElem?_eq_getElem hiM]; exact List.getElem_mem _)
      have hhd : hd x = .slice x.a (M.getD i []).length x.c := by unfold hd; rw [hxn]
      have hcl0 := hro2.vw.get i x hx
      rw [hhd] at hcl0
      have hn8 := hMb i
      refine Sl.nil ?_
      refine At.weak [(0, _), (1, _), (7, _), (8, _), (9, _), (37, _)] ⟨rfl, rfl, rfl, rfl, rfl, rfl, trivial⟩ ?_
      refine At.go ?_
      refine Sc.cond_t rfl ?_
      refine Sc.skip ?_
      refine At.go ?_
      refine Sc.seq ?_
      refine Sc.block ?_
      refine Sc.seq ?_
      refine Sc.region ?_
      refine Sl.calm (Cm.move rfl) rfl ?_
      refine Sl.calm (Cm.move rfl) rfl ?_
      refine Sl.calm (Cm.move rfl) rfl ?_
      refine Sl.calm (Cm.indexAddr1 sl22 rfl rfl hro2.vw.non (by omega)) rfl ?_
      refine Sl.calm (Cm.ld sca23 rfl (by rw [Int.toNat_natCast]; exact cellH_keep (cellH_keep hcl0 hF25 id) hF8 id)) rfl ?_
      refine Sl.call fn12 rfl (daddT_ok A g p 64 (dsT 64 (M.take i)) x.a x.c (M.getD i []) w8 hM8 ((hxv.grow hF25).grow hF8) (by decide) (by omega) (by omega)) rfl ?_
      rintro _ w9 ⟨o9, c9, rfl, ho9, hfr9, hM9, hF9⟩
      have hz9 := hF9.size
      have hz8 := hF8.size
      have hso9 := hso.keep hF9 (fun a ha => hAs _ ⟨a, ha, rfl⟩)
      have hF59 : Foot nob w5 w9 := hF8.trans_to hF9 (fun k hk => .inr (hA k hk).1)
      rw [← dsT_succ hiM] at hM9
      have hsl := hso.lt
      refine Sl.calm (Cm.move rfl) rfl ?_
      refine Sl.calm (Cm.extract rfl rfl) rfl ?_
      refine Sl.calm (Cm.extract rfl rfl) rfl ?_
      refine Sl.calm (Cm.assign rfl) rfl ?_
      refine Sl.calm (Cm.assign rfl) rfl ?_
      refine Sl.nil ?_
      refine At.weak [(0, _), (1, _), (7, _), (8, _), (9, _), (10, _), (37, _)] ⟨rfl, rfl, rfl, rfl, rfl, rfl, rfl, trivial⟩ ?_
      refine At.go ?_
      refine Sc.region ?_
      refine Sl.calm (Cm.move rfl) rfl ?_
      refine Sl.calm (Cm.move rfl) rfl ?_
      refine Sl.lit1 (enc := nV) (u := stA 64 M i) sl33 (nV_one _) rfl rfl ?_
      intro w10 ho10 hs10 hf10
      refine Sl.append nV_one sl33 rfl rfl (hso9.grow hf10) ho10.vw (by rw [stT_len]; simp only [List.length_singleton]; omega) (by rw [stT_len]; simp only [List.length_singleton]; unfold maxLen; omega) rfl ?_
      intro o11 c11 w11 ho11 hf11 hr11 hn11
      have hz10 := hf10.size
      have hz11 := hf11.size
      have hM11 := (hM9.grow hf10).keep hf11 (fun k hk ⟨a, ha, e⟩ => by have h1 := hsl a ha; rcases hk.1 with h | h; exact hAs k ⟨a, ha, e⟩ h; have := h.1; omega) (fun ⟨a, ha, e⟩ => by have := hfso a ha; have := (Array.getElem?_eq_some_iff.1 ht5).1; omega)
      refine Sl.calm (Cm.assign rfl) rfl ?_
      refine Sl.nil ?_
      refine At.block_normal ?_
      refine At.weak [(0, _), (1, _), (7, _), (8, _), (9, _), (10, _), (37, _)] ⟨rfl, rfl, rfl, rfl, rfl, rfl, rfl, trivial⟩ ?_
      refine At.go ?_
      refine Sc.region ?_
      refine Sl.calm (Cm.move rfl) rfl ?_
      refine Sl.calm (Cm.add64 rfl rfl (by omega)) rfl ?_
      refine Sl.calm (Cm.assign rfl) rfl ?_
      refine Sl.nil ?_
      refine At.again ⟨i + 1, fun k => Nx A w8 w9 k ∧ ¬ blk o9 k, ⟨o11, c11⟩⟩ ⟨rfl, rfl, rfl, (by rw [stT_succ]; rfl), rfl, trivial⟩ ⟨by omega, hM11, (fun k hk => ?_), (fun k ⟨a, ha, e⟩ hk => ?_), by rw [stT_succ]; exact ho11, fr_next hfso hr11 (by omega), (hF59.trans hf10).trans_to hf11 (fun k ⟨a, ha, e⟩ => .inr (by have := hfso a ha; omega))⟩ (by show M.length - (i + 1) < M.length - i; omega)
      · rcases hk.1 with h | h
        · have := hA k h; exact ⟨this.1, by omega⟩
        · have h1 := h.1; have h2 := h.2; exact ⟨by omega, by omega⟩
      · rcases hr11 a ha with h | h
        · rcases hk.1 with h2 | h2
          · exact hAs k ⟨a, h, e⟩ h2
          · have := hsl a h; have := h2.1; omega
        · rcases hk.1 with h2 | h2
          · have := hA k h2; omega
          · have := h2.2; omega
    ·
      have hie : i = M.length := by omega
      subst hie
      rw [List.take_length] at hM8
      have hn8 := hMb M.length
      rw [List.take_length] at hn8
      refine Sl.nil ?_
      refine At.weak [(0, _), (1, _), (7, _), (8, _), (9, _), (37, _)] ⟨rfl, rfl, rfl, rfl, rfl, rfl, trivial⟩ ?_
      refine At.go ?_
      refine Sc.cond_f rfl ?_
      refine Sc.exit ?_
      refine At.then_exit ?_
      refine At.then_exit ?_
      refine At.block_hit ?_
      refine At.go ?_
      refine Sc.seq ?_
      refine Sc.region ?_
      refine Sl.calm (Cm.move rfl) rfl ?_
      refine Sl.call fn13 rfl (ddone_ok A g p 64 (dsT 64 M) w8 hM8 (by omega)) rfl ?_
      rintro _ w12 ⟨o12, c12, rfl, ho12, hfr12, hf12⟩
      have hz12 := hf12.size
      have hz8 := hF8.size
      refine Sl.calm (Cm.len sl23 rfl) rfl ?_
      refine Sl.calm (Cm.assign rfl) rfl ?_
      refine Sl.nil ?_
      refine At.weak [(0, _), (1, _), (7, _), (8, _), (9, _), (12, _), (37, _)] ⟨rfl, rfl, rfl, rfl, rfl, rfl, rfl, trivial⟩ ?_
      refine At.go ?_
      refine Sc.seq ?_
      refine Sc.seq ?_
      refine Sc.region ?_
      refine Sl.calm (Cm.assign rfl) rfl ?_
      refine Sl.nil ?_
      refine At.go ?_
      refine Sc.block ?_
      refine Sc.loop (β := Nat × (Nat → Prop)) (fun ⟨j, A⟩ => [(0, .slice ro gs.length rc), (1, .slice to T.length tc), (7, .pointer (some ⟨g, 0, none⟩)), (8, .slice so (stT 64 M M.length).length sc), (12, .int .i64 ((dsT 64 M).B.length : Nat)), (13, .int .i64 j)]) (fun ⟨j, A⟩ w => j ≤ M.length ∧ DwO A w.heap g p 64 (dsT 64 M) ∧ (∀ k, A k → w5.heap.size ≤ k ∧ k < w.heap.size) ∧ (∀ k, blk so k → ¬ A k) ∧ Own nV 3 w.heap so sc (stT 64 M M.length) ∧ Foot nob w5 w) (fun ⟨j, A⟩ => M.length - j) ⟨0, A⟩ ⟨rfl, rfl, rfl, rfl, rfl, rfl, trivial⟩ ⟨Nat.zero_le _, hM8.grow hf12, (fun k hk => ⟨(hA k hk).1, by have := (hA k hk).2; omega⟩), hAs, hso.grow hf12, hF8.trans hf12⟩ ?_
      rintro ⟨j, A⟩ w13 ⟨hj, hM13, hA13, hAs13, hso13, hF13⟩
      refine Sc.seq ?_
      refine Sc.seq ?_
      refine Sc.region ?_
      refine Sl.calm (Cm.move rfl) rfl ?_
      refine Sl.calm (Cm.move rfl) rfl ?_
      refine Sl.calm (Cm.len sl22 rfl) rfl ?_
      refine Sl.fork (Cm.lss rfl rfl) rfl (fun h59 => ?_) (fun h59 => ?_)
      ·
        have hjM : j < M.length := by omega
        obtain ⟨x, hx, hxn, hxv, hxD⟩ := hgs2.at hjM
        have hxl := hMs (M.getD j []) (by rw [List.getD, List.getElem?_eq_getElem hjM]; exact List.getElem_mem _)
        have hhd : hd x = .slice x.a (M.getD j []).length x.c := by unfold hd; rw [hxn]
        have hcl0 := hro2.vw.get j x hx
        rw [hhd] at hcl0
        obtain ⟨b, hb⟩ : ∃ b, b = M.getD j [] := ⟨_, rfl⟩
        rw [← hb] at hxl hcl0 hxv hhd
        have hxle := hxv.le
        obtain ⟨B, hB⟩ : ∃ B, B = b.take (b.length / 128 * 128) := ⟨_, rfl⟩
        have hBl : B.length = b.length / 128 * 128 := by rw [hB, List.length_take]; omega
        have hon := once_add (f := 64) hjM hTl
        rw [← hb, ← hB] at hon
        have htd : tailD (B ++ T) = T := by rw [hB]; exact tailD_same hTl
        refine Sl.nil ?_
        refine At.weak [(0, _), (1, _), (7, _), (8, _), (12, _), (13, _), (59, _)] ⟨rfl, rfl, rfl, rfl, rfl, rfl, rfl, trivial⟩ ?_
        refine At.go ?_
        refine Sc.cond_t rfl ?_
        refine Sc.skip ?_
        refine At.go ?_
        refine Sc.seq ?_
        refine Sc.block ?_
        refine Sc.seq ?_
        refine Sc.draw 17 (fun H => cellH H (adr ro j) = some (.slice x.a b.length x.c) ∧ Vw b8 H x.a x.c b ∧ Vw b8 H to tc T) [0, 13, 15] [1, 2, 3, 4, 5, 6, 7, 8, 9, 10, 11, 12, 14, 0, 13, 15, 16] mixed (by kernel_rfl) (⟨cellH_keep (cellH_keep hcl0 hF25 id) hF13 id, (hxv.grow hF25).grow hF13, hT5.grow hF13⟩) ?_
        refine Sx.calm rfl rfl (Cm.move rfl) rfl ?_
        refine Sx.calm rfl rfl (Cm.move rfl) rfl ?_
        refine Sx.calm rfl rfl (Cm.indexAddr1 sl22 rfl rfl hro2.vw.non (by omega)) rfl ?_
        refine Sx.calm rfl rfl (Cm.load sca23 rfl (fun H hH => by rw [Int.toNat_natCast]; exact hH.1)) rfl ?_
        refine Sx.calm rfl rfl (Cm.move rfl) rfl ?_
        refine Sx.calm rfl rfl (Cm.move rfl) rfl ?_
        refine Sx.calm rfl rfl (Cm.indexAddr1 sl22 rfl rfl hro2.vw.non (by omega)) rfl ?_
        refine Sx.calm rfl rfl (Cm.load sca23 rfl (fun H hH => by rw [Int.toNat_natCast]; exact hH.1)) rfl ?_
        refine Sx.calm rfl rfl (Cm.len sl23 rfl) rfl ?_
        refine Sx.calm rfl rfl (Cm.ofEq (u := .int .i64 ((b.length / 128 : Nat) : Int)) (Cm.quo64 rfl rfl (by omega) (by decide)) (by congr 1)) rfl ?_
        refine Sx.calm rfl rfl (Cm.ofEq (u := .int .i64 ((b.length / 128 * 128 : Nat) : Int)) (Cm.mul64 rfl rfl (by omega)) (by congr 1)) rfl ?_
        refine Sx.calm rfl rfl (Cm.ofEq (u := .slice x.a B.length x.c) (Cm.sliceH sl23 rfl rfl (by omega)) (by rw [cutAo_zero, hBl]; rfl)) rfl ?_
        refine Sx.calm rfl rfl (Cm.move rfl) rfl ?_
        refine Sx.eff rfl rfl (Sl.lit0 b8 sl23 rfl ?_)
        intro w14 ho14 hs14 hf14
        have hf14 := hf14.undraw
        refine Sx.on (by exact ⟨cellH_keep (cellH_keep (cellH_keep hcl0 hF25 id) hF13 id) hf14 id, ((hxv.grow hF25).grow hF13).grow hf14, (hT5.grow hF13).grow hf14⟩) ?_
        refine Sx.eff rfl rfl (Sl.append b8_one sl23 rfl rfl ho14 (by rw [hB]; exact (((hxv.grow hF25).grow hF13).grow hf14).take _) (by simp only [List.length_nil]; omega) (by simp only [List.length_nil]; unfold maxLen; omega) rfl ?_)
        intro o15 c15 w15 ho15 hf15 hr15 hn15
        have hz14 := hf14.size
        have hf1315 : Foot nob w13 w15 := hf14.trans_to hf15 (fr_at _).step
        have hfr15 : Fr w13.heap.size o15 := fr_next (fr_at _) hr15 hz14
        refine Sx.on (by exact ⟨cellH_keep (cellH_keep (cellH_keep hcl0 hF25 id) hF13 id) hf1315 id, ((hxv.grow hF25).grow hF13).grow hf1315, (hT5.grow hF13).grow hf1315⟩) ?_
        refine Sx.eff rfl rfl (Sl.append b8_one sl23 rfl rfl ho15 ((hT5.grow hF13).grow hf1315) (by simp only [List.nil_append]; omega) (by simp only [List.nil_append]; unfold maxLen; omega) rfl ?_)
        intro o16 c16 w16 ho16 hf16 hr16 hn16
        have hz15 := hf1315.size
        have hf1316 : Foot nob w13 w16 := hf1315.trans_to hf16 hfr15.step
        refine Sx.on (by exact ⟨cellH_keep (cellH_keep (cellH_keep hcl0 hF25 id) hF13 id) hf1316 id, ((hxv.grow hF25).grow hF13).grow hf1316, (hT5.grow hF13).grow hf1316⟩) ?_
        have ho16 : Own b8 5 w16.heap o16 c16 (B ++ T) := ho16
        have hF16 := hF13.trans hf1316
        refine Sx.calm rfl rfl (Cm.assign rfl) rfl ?_
        refine Sx.nil ?_
        refine At.weak [(0, _), (1, _), (7, _), (8, _), (12, _), (13, _), (14, _), (59, _)] ⟨rfl, rfl, rfl, rfl, rfl, rfl, rfl, rfl, trivial⟩ ?_
        refine At.go ?_
        refine Sc.seq ?_
        refine Sc.region ?_
        refine Sl.calm (Cm.move rfl) rfl ?_
        refine Sl.calm (Cm.move rfl) rfl ?_
        refine Sl.call fn12 rfl (daddT_ok A g p 64 (dsT 64 M) o16 c16 (B ++ T) w16 (hM13.grow hf1316) ho16.vw (by decide) (by omega) (by rw [List.length_append]; omega)) rfl ?_
        rw [hon, htd]
        rintro _ w17 ⟨o17, c17, rfl, ho17, hfr17, hM17, hF17⟩
        have hz16 := hf1316.size
        have hz17 := hF17.size
        have hso17 := (hso13.grow hf1316).keep hF17 (fun a ha => hAs13 _ ⟨a, ha, rfl⟩)
        have hF517 : Foot nob w5 w17 := hF16.trans_to hF17 (fun k hk => .inr (hA13 k hk).1)
        have hM17 : DwO (fun k => Nx A w16 w17 k ∧ ¬ blk o17 k) w17.heap g p 64 (dsT 64 M) := hM17
        have hs13l := hso13.lt
        refine Sl.calm (Cm.move rfl) rfl ?_
        refine Sl.calm (Cm.extract rfl rfl) rfl ?_
        refine Sl.calm (Cm.extract rfl rfl) rfl ?_
        refine Sl.calm (Cm.assign rfl) rfl ?_
        refine Sl.calm (Cm.assign rfl) rfl ?_
        refine Sl.nil ?_
        refine At.weak [(0, _), (1, _), (7, _), (8, _), (12, _), (13, _), (14, _), (15, _), (16, _), (59, _)] ⟨rfl, rfl, rfl, rfl, rfl, rfl, rfl, rfl, rfl, rfl, trivial⟩ ?_
        refine At.go ?_
        refine Sc.seq ?_
        refine Sc.region ?_
        refine Sl.calm (Cm.move rfl) rfl ?_
        refine Sl.calm (Cm.move rfl) rfl ?_
        refine Sl.calm (Cm.move rfl) rfl ?_
        refine Sl.calm (Cm.indexAddr1 sl33 rfl rfl hso13.vw.non (by rw [stT_len]; omega)) rfl ?_
        refine Sl.calm (Cm.ld sca3 rfl (hso17.vw.gz 0 j rfl (by rw [stT_len]; omega))) rfl ?_
        refine Sl.calm (Cm.no (Cm.neq rfl rfl) (fun h => h (by rw [stT_at hjM]))) rfl ?_
        refine Sl.calm (Cm.move rfl) rfl ?_
        refine Sl.want rfl rfl (Cm.move rfl) rfl ?_
        refine Sl.want rfl rfl (Cm.strIn sl23 ty5 ty9 rfl ho17.vw) rfl ?_
        refine Sl.want rfl rfl (Cm.move rfl) rfl ?_
        refine Sl.want rfl rfl (Cm.strIn sl23 ty5 ty9 rfl (hT5.grow hF517)) rfl ?_
        refine Sl.want rfl rfl (Cm.no (Cm.neqBs rfl rfl) (fun h => h rfl)) rfl ?_
        refine Sl.calm (Cm.pick_f rfl rfl) rfl ?_
        refine Sl.calm (Cm.move rfl) rfl ?_
        refine Sl.want rfl rfl (Cm.move rfl) rfl ?_
        refine Sl.callWant rfl rfl fn13 rfl (ddone_ok _ g p 64 (dsT 64 M) w17 hM17 (by omega)) rfl ?_
        rintro _ w18 ⟨o18, c18, rfl, ho18, hfr18, hf18⟩
        refine Sl.want rfl rfl (Cm.len sl23 rfl) rfl ?_
        refine Sl.want rfl rfl (Cm.move rfl) rfl ?_
        refine Sl.want rfl rfl (Cm.no (Cm.neq rfl rfl) (fun h => h rfl)) rfl ?_
        refine Sl.calm (Cm.pick_f rfl rfl) rfl ?_
        refine Sl.nil ?_
        refine At.weak [(0, _), (1, _), (7, _), (8, _), (12, _), (13, _), (14, _), (15, _), (16, _), (59, _), (103, _)] ⟨rfl, rfl, rfl, rfl, rfl, rfl, rfl, rfl, rfl, rfl, rfl, trivial⟩ ?_
        refine At.go ?_
        refine Sc.cond_f rfl ?_
        refine Sc.skip ?_
        refine At.block_normal ?_
        refine At.go ?_
        refine Sc.region ?_
        refine Sl.calm (Cm.move rfl) rfl ?_
        refine Sl.calm (Cm.add64 rfl rfl (by omega)) rfl ?_
        refine Sl.calm (Cm.assign rfl) rfl ?_
        refine Sl.nil ?_
        have hz18 := hf18.size
        refine At.again ⟨j + 1, fun k => Nx A w16 w17 k ∧ ¬ blk o17 k⟩ ⟨rfl, rfl, rfl, rfl, rfl, rfl, trivial⟩ ⟨by omega, hM17.grow hf18, (fun k hk => ?_), (fun k ⟨a, ha, e⟩ hk => ?_), hso17.grow hf18, hF517.trans hf18⟩ (by show M.length - (j + 1) < M.length - j; omega)
        · rcases hk.1 with h | h
          · have := hA13 k h; exact ⟨this.1, by omega⟩
          · have h1 := h.1; have h2 := h.2; have := hF16.size; exact ⟨by omega, by omega⟩
        · rcases hk.1 with h2 | h2
          · exact hAs13 k ⟨a, ha, e⟩ h2
          · have := hs13l a ha; have := h2.1; omega
      ·
        refine Sl.nil ?_
        refine At.weak [(0, _), (1, _), (7, _), (8, _), (12, _), (13, _), (59, _)] ⟨rfl, rfl, rfl, rfl, rfl, rfl, rfl, trivial⟩ ?_
        refine At.go ?_
        refine Sc.cond_f rfl ?_
        refine Sc.exit ?_
        refine At.then_exit ?_
        refine At.then_exit ?_
        refine At.block_hit ?_
        refine At.go ?_
        refine Sc.seq ?_
        refine Sc.region ?_
        refine Sl.calm (Cm.assign rfl) rfl ?_
        refine Sl.nil ?_
        refine At.go ?_
        refine Sc.ret ?_
        refine At.ret1 rfl rfl ?_
        exact ⟨_, rfl, rfl, hF5.trans hF13⟩
end Go.Proofs.YtpnfjfbfgaiolaaDoor
