/- frag: the law FragApart walked. No condition. -/
import Derived.Test.YtapmfoogjkdffaaFrF
namespace Go.Proofs.Ytapmfoogjkdffaa
open Go Go.RowKit
set_option linter.unusedVariables false

theorem addL_bad {L : List (List UInt8)} {t : List UInt8} (h : badT t = true) : addL L t = (L, 0, 0) := by simp [addL, h]
theorem addL_good {L : List (List UInt8)} {t : List UInt8} (h : badT t = false) : addL L t = (pushLast (newL L t) t, (newL L t).length, ((newL L t).getLast?.getD []).length) := by simp [addL, h]
def lensOf (L : List (List UInt8)) : List Nat := L.map List.length
theorem lensOf_len (L : List (List UInt8)) : (lensOf L).length = L.length := by simp [lensOf]
theorem lensOf_at (L : List (List UInt8)) (k : Nat) : (lensOf L).getD k 0 = (L.getD k []).length := by
  by_cases h : k < L.length <;> simp [lensOf, List.getD, h]
theorem lensOf_push (L : List (List UInt8)) (t : List UInt8) (h : L ≠ []) : lensOf (pushLast L t) = (lensOf L).set (L.length - 1) ((L.getLast?.getD []).length + t.length) := by
  have e : L = L.dropLast ++ [L.getLast h] := (List.dropLast_concat_getLast h).symm
  have hl : L.length - 1 = (lensOf L.dropLast).length := by simp [lensOf]
  rw [hl]
  conv => rhs; rw [e]
  rw [getLastD _ (by simp)]
  simp [lensOf, pushLast, getLastD L h]
theorem newL_le (L : List (List UInt8)) (t : List UInt8) (hg : 1 ≤ t.length ∧ t.length < 128) (h : ∀ x ∈ L, x.length ≤ 128) : ∀ x ∈ pushLast (newL L t) t, x.length ≤ 128 := by
  intro x hx
  by_cases hc : L = [] ∨ 128 < (L.getLast?.getD []).length + t.length
  · rw [newL_new L t hc] at hx
    simp only [pushLast, List.dropLast_concat, List.getLast?_concat, Option.getD_some, List.nil_append, List.mem_append, List.mem_singleton] at hx
    rcases hx with hx | rfl
    · exact h x hx
    · omega
  · have hne : L ≠ [] := fun e => hc (.inl e)
    rw [newL_old L t hne (fun e => hc (.inr e))] at hx
    simp only [pushLast, List.mem_append, List.mem_singleton] at hx
    rcases hx with hx | rfl
    · exact h x ((List.dropLast_sublist _).mem hx)
    · rw [List.length_append]; omega
theorem stL_le (M : List (List UInt8)) : ∀ k, k ≤ M.length → ∀ x ∈ stL (M.take k), x.length ≤ 128 := by
  intro k
  induction k with
  | zero => intro _ x hx; simp [stL] at hx
  | succ k ih =>
    intro hk
    rw [stL_succ M k (by omega)]
    unfold addL
    split
    · exact ih (by omega)
    · rename_i hb
      exact newL_le _ _ (badT_inv (by simpa using hb)) (ih (by omega))

def ApJ (p : Nat) (W2 : World) (M : List (List UInt8)) (i : Nat) (uo : Option Addr) (uc : Nat) (w : World) : Prop :=
  ∃ D1, PackR D1 w.heap p (stL (M.take i)) ∧ (∀ k, D1 k → k < w.heap.size) ∧ (∀ k, D1 k → W2.heap.size ≤ k) ∧ Own inN 3 w.heap uo uc (lensOf (stL (M.take i))) ∧ (∀ k, blk uo k → ¬ D1 k) ∧ Fr W2.heap.size uo ∧ Foot nob W2 w

def ApMid (p : Nat) (W2 : World) (M : List (List UInt8)) (i : Nat) (uo : Option Addr) (uc : Nat) (w : World) : Prop :=
  ∃ E1, PackR E1 w.heap p (addL (stL (M.take i)) (M.getD i [])).1 ∧ (∀ k, E1 k → k < w.heap.size) ∧ (∀ k, E1 k → W2.heap.size ≤ k) ∧ Own inN 3 w.heap uo uc (lensOf (newL (stL (M.take i)) (M.getD i []))) ∧ (∀ k, blk uo k → ¬ E1 k) ∧ Fr W2.heap.size uo ∧ Foot nob W2 w

set_option maxHeartbeats 4000000 in
theorem fragApart_ok (D0 : Nat → Prop) (ao : Option Addr) (cap : Nat) (hs : List Hd) (L : List (List UInt8)) (W : World) (hv : Vw hd W.heap ao cap hs) (hr : RowsV D0 W.heap hs L) (hD0 : ∀ k, D0 k → k < W.heap.size) :
    Calls Try.prog 4 [.slice ao hs.length cap].toArray W (Ret fun v w' => v = .bool true ∧ Foot nob W w') := by
  refine calls_of_sc 128 [(0, _)] Try.func4 rfl rfl rfl (enter_slots ⟨rfl, trivial⟩) ?_
  refine Sc.seq ?_
  refine Sc.region ?_
  refine Sl.calm (Cm.assign rfl) rfl ?_
  refine Sl.nil ?_
  refine At.go ?_
  refine Sc.seq ?_
  refine Sc.region ?_
  refine Sl.call fn14 rfl (shown13_ok W) rfl ?_
  rintro _ w1 ⟨rfl, hf1⟩
  refine Sl.calm (Cm.assign rfl) rfl ?_
  refine Sl.nil ?_
  refine At.weak [(0, _), (2, _), (3, _)] ⟨rfl, rfl, rfl, trivial⟩ ?_
  refine At.go ?_
  refine Sc.seq ?_
  refine Sc.region ?_
  refine Sl.calm (Cm.move rfl) rfl ?_
  refine Sl.call fn15 rfl (rows_ok D0 ao cap hs L w1 (hv.grow hf1) (hr.keep hf1 (fun _ _ h => h))) rfl ?_
  rintro _ w2 ⟨la, lc, ls, rfl, hlo, hlr, hlf, hf2⟩
  refine Sl.calm (Cm.assign rfl) rfl ?_
  refine Sl.nil ?_
  refine At.weak [(0, _), (2, _), (3, _)] ⟨rfl, rfl, rfl, trivial⟩ ?_
  refine At.go ?_
  refine Sc.seq ?_
  refine Sc.region ?_
  refine Sl.call fn16 rfl (new_ok w2) rfl ?_
  rintro _ w3 ⟨rfl, hP3, hf3, hs3⟩
  refine Sl.calm (Cm.assign rfl) rfl ?_
  refine Sl.nil ?_
  refine At.weak [(0, _), (2, _), (3, _), (4, _)] ⟨rfl, rfl, rfl, rfl, trivial⟩ ?_
  refine At.go ?_
  refine Sc.seq ?_
  refine Sc.seq ?_
  refine Sc.region ?_
  refine Sl.calm (Cm.move rfl) rfl ?_
  refine Sl.calm (Cm.not rfl) rfl ?_
  refine Sl.calm (Cm.move rfl) rfl ?_
  refine Sl.want rfl rfl (Cm.move rfl) rfl ?_
  refine Sl.want rfl rfl (Cm.eqlPtrNil ptr25 rfl rfl) rfl ?_
  refine Sl.calm (Cm.pick_f rfl rfl) rfl ?_
  refine Sl.nil ?_
  refine At.weak [(0, _), (2, _), (3, _), (4, _), (20, _)] ⟨rfl, rfl, rfl, rfl, rfl, trivial⟩ ?_
  refine At.go ?_
  refine Sc.cond_f rfl ?_
  refine Sc.skip ?_
  refine At.go ?_
  refine Sc.seq ?_
  refine Sc.region ?_
  refine Sl.lit0 inN sl35 rfl ?_
  intro w4 ho4 hs4 hf4
  refine Sl.calm (Cm.assign rfl) rfl ?_
  refine Sl.nil ?_
  refine At.weak [(0, _), (2, _), (3, _), (4, _), (5, _), (20, _)] ⟨rfl, rfl, rfl, rfl, rfl, rfl, trivial⟩ ?_
  refine At.go ?_
  refine Sc.seq ?_
  refine Sc.seq ?_
  refine Sc.region ?_
  refine Sl.calm (Cm.assign rfl) rfl ?_
  refine Sl.nil ?_
  refine At.go ?_
  refine Sc.block ?_
  obtain ⟨M, hM⟩ : ∃ M, M = rowsL L := ⟨_, rfl⟩
  rw [← hM] at hlr
  obtain ⟨hM60, hM200⟩ := rowsL_bd L
  rw [← hM] at hM60 hM200
  have hll := hlr.1
  obtain ⟨p, hp⟩ : ∃ p, p = w2.heap.size := ⟨_, rfl⟩
  rw [← hp]
  rw [← hp] at hP3
  refine Sc.loop (β := Nat × Option Addr × Nat) (fun ⟨i, uo, uc⟩ => [(0, .slice la ls.length lc), (4, .pointer (some ⟨p, 0, none⟩)), (5, .slice uo (lensOf (stL (M.take i))).length uc), (6, .int .i64 i)]) (fun ⟨i, uo, uc⟩ w => i ≤ M.length ∧ ApJ p w2 M i uo uc w) (fun ⟨i, uo, uc⟩ => M.length - i) (0, some ⟨w3.heap.size, 0, none⟩, 0) ⟨rfl, rfl, rfl, rfl, trivial⟩ ⟨Nat.zero_le _, (fun k => k = p), hP3.keep hf4 (fun _ _ h => h), (fun k h => by have := hf4.size; omega), (fun k h => by omega), ho4, (fun k ⟨a, ha, e⟩ h => by cases ha; have e2 : w3.heap.size = k := e; omega), (fun a ha => by cases ha; exact hf3.size), hf3.trans hf4⟩ ?_
  rintro ⟨i, uo, uc⟩ w ⟨hi, D1, hPk, hD1s, hD1w, hou, hud, hfu, hFw⟩
  obtain ⟨hbd1, hbd2⟩ := stL_bd M hM200 i hi
  have hlv := (hlo.grow hFw).vw
  have hlrw := hlr.keep hFw (fun _ _ h => h)
  refine Sc.seq ?_
  refine Sc.seq ?_
  refine Sc.region ?_
  refine Sl.calm (Cm.move rfl) rfl ?_
  refine Sl.calm (Cm.move rfl) rfl ?_
  refine Sl.calm (Cm.len sl22 rfl) rfl ?_
  refine Sl.fork (Cm.lss rfl rfl) rfl (fun h25 => ?_) (fun h25 => ?_)
  ·
    refine Sl.nil ?_
    refine At.weak [(0, _), (4, _), (5, _), (6, _), (25, _)] ⟨rfl, rfl, rfl, rfl, rfl, trivial⟩ ?_
    refine At.go ?_
    refine Sc.cond_t rfl ?_
    refine Sc.skip ?_
    refine At.go ?_
    refine Sc.seq ?_
    refine Sc.block ?_
    refine Sc.seq ?_
    refine Sc.region ?_
    refine Sl.calm (Cm.move rfl) rfl ?_
    refine Sl.calm (Cm.move rfl) rfl ?_
    refine Sl.calm (Cm.move rfl) rfl ?_
    obtain ⟨⟨xa, xn, xc⟩, hx, hxn, hxv, hxD⟩ := hlrw.at (i := i) (by omega)
    obtain rfl : xn = (M.getD i []).length := hxn
    have hx200 : (M.getD i []).length ≤ 200 := hM200 _ (by rw [List.getD, List.getElem?_eq_getElem (by omega : i < M.length)]; exact List.getElem_mem _)
    have hcell : cellH w.heap (adr la (i : Int).toNat) = some (.slice xa (M.getD i []).length xc) := by rw [Int.toNat_natCast]; exact hlv.get i _ hx
    refine Sl.calm (Cm.indexAddr1 sl22 rfl rfl hlv.non (by omega)) rfl ?_
    refine Sl.calm (Cm.ld sca30 rfl hcell) rfl ?_
    refine Sl.call fn17 rfl (add_ok D1 p (stL (M.take i)) xa xc (M.getD i []) w hPk hD1s hxv (fun hne a ha h => by have h1 := hD0 _ (hxD hne _ ⟨a, ha, rfl⟩); have := hD1w _ h; have := hf1.size; have := hf2.size; omega) (by omega) (by omega)) rfl ?_
    rintro _ w7 ⟨rfl, E1, hP7, hE1, hE1s, hF7⟩
    have hs7 := hF7.size
    have hF27 : Foot nob w2 w7 := hFw.trans_to hF7 (fun k h => .inr (hD1w k h))
    have hE1w : ∀ k, E1 k → w2.heap.size ≤ k := fun k h => by rcases hE1 k h with h | h; exact hD1w k h; have := hFw.size; omega
    have hou7 := hou.keep hF7 (fun a ha h => hud _ ⟨a, ha, rfl⟩ h)
    have hud7 : ∀ k, blk uo k → ¬ E1 k := fun k h1 h2 => by rcases hE1 k h2 with h | h; exact hud k h1 h; obtain ⟨a, ha, rfl⟩ := h1; have := hou.lt a ha; omega
    have hull := lensOf_len (stL (M.take i))
    have hnl := newL_len (stL (M.take i)) (M.getD i [])
    have hnn : 0 < (newL (stL (M.take i)) (M.getD i [])).length := List.length_pos_iff.2 (newL_ne _ _)
    have hadd : (addL (stL (M.take i)) (M.getD i [])).2.1 = (if badT (M.getD i []) then 0 else (newL (stL (M.take i)) (M.getD i [])).length) := by unfold addL; split <;> rfl
    have hadd2 : (addL (stL (M.take i)) (M.getD i [])).2.2 = (if badT (M.getD i []) then 0 else ((newL (stL (M.take i)) (M.getD i [])).getLast?.getD []).length) := by unfold addL; split <;> rfl
    refine Sl.calm (Cm.move rfl) rfl ?_
    refine Sl.calm (Cm.extract rfl rfl) rfl ?_
    refine Sl.calm (Cm.extract rfl rfl) rfl ?_
    refine Sl.calm (Cm.assign rfl) rfl ?_
    refine Sl.calm (Cm.assign rfl) rfl ?_
    refine Sl.nil ?_
    refine At.weak [(0, _), (4, _), (5, _), (6, _), (7, _), (8, _), (25, _)] ⟨rfl, rfl, rfl, rfl, rfl, rfl, rfl, trivial⟩ ?_
    refine At.go ?_
    refine Sc.seq ?_
    refine Sc.seq ?_
    refine Sc.region ?_
    refine Sl.calm (Cm.move rfl) rfl ?_
    refine Sl.fork (Cm.eql rfl rfl) rfl (fun hz => ?_) (fun hz => ?_)
    ·
      have hbad : badT (M.getD i []) = true := by
        by_cases hb : badT (M.getD i []) = true
        · exact hb
        · rw [if_neg hb] at hadd; omega
      refine Sl.nil ?_
      refine At.weak [(0, _), (4, _), (5, _), (6, _), (7, _), (8, _), (25, _), (38, _)] ⟨rfl, rfl, rfl, rfl, rfl, rfl, rfl, rfl, trivial⟩ ?_
      refine At.go ?_
      refine Sc.cond_t rfl ?_
      refine Sc.exit ?_
      refine At.then_exit ?_
      refine At.block_hit ?_
      refine At.go ?_
      refine Sc.region ?_
      refine Sl.calm (Cm.move rfl) rfl ?_
      refine Sl.calm (Cm.add64 rfl rfl (by omega)) rfl ?_
      refine Sl.calm (Cm.assign rfl) rfl ?_
      refine Sl.nil ?_
      have hsame : stL (M.take (i + 1)) = stL (M.take i) := by rw [stL_succ M i (by omega), addL_bad hbad]
      refine At.again (i + 1, uo, uc) ⟨rfl, rfl, by rw [hsame]; rfl, rfl, trivial⟩ ?_ (by show M.length - (i + 1) < M.length - i; omega)
      exact ⟨by omega, E1, by rw [stL_succ M i (by omega)]; exact hP7, hE1s, hE1w, by rw [hsame]; exact hou7, hud7, hfu, hF27⟩
    ·
      have hgood : badT (M.getD i []) = false := by
        by_cases hb : badT (M.getD i []) = true
        · rw [if_pos hb] at hadd; omega
        · simpa using hb
      rw [if_neg (by rw [hgood]; decide)] at hadd hadd2
      have hgd := badT_inv hgood
      refine Sl.nil ?_
      refine At.weak [(0, _), (4, _), (5, _), (6, _), (7, _), (8, _), (25, _), (38, _)] ⟨rfl, rfl, rfl, rfl, rfl, rfl, rfl, rfl, trivial⟩ ?_
      refine At.go ?_
      refine Sc.cond_f rfl ?_
      refine Sc.skip ?_
      refine At.go ?_
      refine Sc.seq ?_
      refine Sc.seq ?_
      refine Sc.region ?_
      refine Sl.calm (Cm.move rfl) rfl ?_
      refine Sl.calm (Cm.no (Cm.lss rfl rfl) (by omega)) rfl ?_
      refine Sl.calm (Cm.move rfl) rfl ?_
      refine Sl.want rfl rfl (Cm.move rfl) rfl ?_
      refine Sl.want rfl rfl (Cm.move rfl) rfl ?_
      refine Sl.want rfl rfl (Cm.len sl35 rfl) rfl ?_
      refine Sl.want rfl rfl (Cm.add64 rfl rfl (by omega)) rfl ?_
      refine Sl.want rfl rfl (Cm.no (Cm.gtr rfl rfl) (by omega)) rfl ?_
      refine Sl.calm (Cm.pick_f rfl rfl) rfl ?_
      refine Sl.calm (Cm.move rfl) rfl ?_
      refine Sl.want rfl rfl (Cm.move rfl) rfl ?_
      refine Sl.want rfl rfl (Cm.move rfl) rfl ?_
      refine Sl.want rfl rfl (Cm.len sl35 rfl) rfl ?_
      refine Sl.want rfl rfl (Cm.no (Cm.lss rfl rfl) (by omega)) rfl ?_
      refine Sl.calm (Cm.pick_f rfl rfl) rfl ?_
      refine Sl.nil ?_
      refine At.weak [(0, _), (4, _), (5, _), (6, _), (7, _), (8, _), (25, _), (38, _), (53, _)] ⟨rfl, rfl, rfl, rfl, rfl, rfl, rfl, rfl, rfl, trivial⟩ ?_
      refine At.go ?_
      refine Sc.cond_f rfl ?_
      refine Sc.skip ?_
      refine At.go ?_
      refine Sc.cut (β := Option Addr × Nat) (fun ⟨uo2, uc2⟩ => [(0, .slice la ls.length lc), (4, .pointer (some ⟨p, 0, none⟩)), (5, .slice uo2 (lensOf (newL (stL (M.take i)) (M.getD i []))).length uc2), (6, .int .i64 i), (7, .int .i64 (newL (stL (M.take i)) (M.getD i [])).length), (8, .int .i64 ((newL (stL (M.take i)) (M.getD i [])).getLast?.getD []).length)]) (fun ⟨uo2, uc2⟩ w => badT (M.getD i []) = false ∧ ((newL (stL (M.take i)) (M.getD i [])).getLast?.getD []).length ≤ 128 ∧ ApMid p w2 M i uo2 uc2 w) ?_ ?_
      ·
        refine Sc.seq ?_
        refine Sc.region ?_
        refine Sl.calm (Cm.move rfl) rfl ?_
        refine Sl.calm (Cm.move rfl) rfl ?_
        refine Sl.calm (Cm.len sl35 rfl) rfl ?_
        refine Sl.calm (Cm.add64 rfl rfl (by omega)) rfl ?_
        refine Sl.fork (Cm.eql rfl rfl) rfl (fun h58 => ?_) (fun h58 => ?_)
        ·
          have hcn : stL (M.take i) = [] ∨ 128 < ((stL (M.take i)).getLast?.getD []).length + (M.getD i []).length := by
            by_cases hc : stL (M.take i) = [] ∨ 128 < ((stL (M.take i)).getLast?.getD []).length + (M.getD i []).length
            · exact hc
            · rw [newL_old _ _ (fun e => hc (.inl e)) (fun e => hc (.inr e))] at hadd; omega
          have hnew := newL_new _ _ hcn
          refine Sl.nil ?_
          refine At.weak [(0, _), (4, _), (5, _), (6, _), (7, _), (8, _), (25, _), (38, _), (53, _), (58, _)] ⟨rfl, rfl, rfl, rfl, rfl, rfl, rfl, rfl, rfl, rfl, trivial⟩ ?_
          refine At.go ?_
          refine Sc.cond_t rfl ?_
          refine Sc.seq ?_
          refine Sc.seq ?_
          refine Sc.quiet 18 [0, 1, 2, 3, 4, 5, 6, 7, 8, 9, 10, 11, 12, 13, 14, 15, 16, 17] mixed (by kernel_rfl) ?_
          refine Sx.calm rfl rfl (Cm.move rfl) rfl ?_
          refine Sx.calm rfl rfl (Cm.len sl35 rfl) rfl ?_
          refine Sx.fork rfl rfl (Cm.gtr rfl rfl) rfl (fun h61 => ?_) (fun h61 => ?_)
          ·
            refine Sx.calm rfl rfl (Cm.move rfl) rfl ?_
            refine Sx.want rfl rfl rfl rfl (Cm.move rfl) rfl ?_
            refine Sx.want rfl rfl rfl rfl (Cm.move rfl) rfl ?_
            refine Sx.want rfl rfl rfl rfl (Cm.len sl35 rfl) rfl ?_
            refine Sx.want rfl rfl rfl rfl (Cm.sub64 rfl rfl (by omega)) rfl ?_
            have hpos : 0 < (stL (M.take i)).length := by omega
            have hlastv : cellH w7.heap (adr uo (((lensOf (stL (M.take i))).length : Int) - 1).toNat) = some (inN ((stL (M.take i)).getLast?.getD []).length) := by have := hou7.vw.gz 0 ((stL (M.take i)).length - 1) (z := ((lensOf (stL (M.take i))).length : Int) - 1) (by omega) (by omega); rwa [lensOf_at, getD_last] at this
            have hcell7 : cellH w7.heap (adr la (i : Int).toNat) = some (.slice xa (M.getD i []).length xc) := by rw [Int.toNat_natCast]; exact (hlo.grow hF27).vw.get i _ hx
            have hov : 128 < ((stL (M.take i)).getLast?.getD []).length + (M.getD i []).length := by
              rcases hcn with h | h
              · rw [h] at hpos; simp at hpos
              · exact h
            have hlle : ((stL (M.take i)).getLast?.getD []).length ≤ 128 := by rw [← getD_last]; exact stL_le M i (by omega) _ (by rw [List.getD, List.getElem?_eq_getElem (by omega)]; exact List.getElem_mem _)
            refine Sx.want rfl rfl rfl rfl (Cm.indexAddr1 sl35 rfl rfl hou7.vw.non (by omega)) rfl ?_
            refine Sx.want rfl rfl rfl rfl (Cm.ld sca3 rfl hlastv) rfl ?_
            refine Sx.want rfl rfl rfl rfl (Cm.move rfl) rfl ?_
            refine Sx.want rfl rfl rfl rfl (Cm.move rfl) rfl ?_
            refine Sx.want rfl rfl rfl rfl (Cm.indexAddr1 sl22 rfl rfl (hlo.grow hF27).vw.non (by omega)) rfl ?_
            refine Sx.want rfl rfl rfl rfl (Cm.ld sca30 rfl hcell7) rfl ?_
            refine Sx.want rfl rfl rfl rfl (Cm.len sl30 rfl) rfl ?_
            refine Sx.want rfl rfl rfl rfl (Cm.add64 rfl rfl (by omega)) rfl ?_
            refine Sx.want rfl rfl rfl rfl (Cm.no (Cm.leq rfl rfl) (by omega)) rfl ?_
            refine Sx.calm rfl rfl (Cm.pick_t rfl rfl) rfl ?_
            refine Sx.nil ?_
            refine At.weak [(0, _), (4, _), (5, _), (6, _), (7, _), (8, _), (25, _), (38, _), (53, _), (58, _), (76, _)] ⟨rfl, rfl, rfl, rfl, rfl, rfl, rfl, rfl, rfl, rfl, rfl, trivial⟩ ?_
            refine At.go ?_
            refine Sc.cond_f rfl ?_
            refine Sc.skip ?_
            refine At.go ?_
            refine Sc.region ?_
            refine Sl.calm (Cm.move rfl) rfl ?_
            refine Sl.lit1 (enc := inN) (u := 0) sl35 rfl rfl rfl ?_
            intro w8 ho8 hs8 hf8
            replace hf8 := hf8.undraw
            refine Sl.append inN_one sl35 rfl rfl (hou7.grow hf8) ho8.vw (by simp only [List.length_singleton]; omega) (by simp only [List.length_singleton]; unfold maxLen; omega) rfl ?_
            intro uo9 uc9 w9 ho9 hf9 hr9 hn9
            refine Sl.calm (Cm.assign rfl) rfl ?_
            refine Sl.nil ?_
            have hF29 : Foot nob w2 w9 := (hF27.trans hf8).trans_to hf9 hfu.step
            have hP9 := (hP7.keep hf8 (fun _ _ h => h)).keep hf9 (fun k h1 h2 => hud7 k h2 h1)
            refine At.cut (uo9, uc9) ⟨rfl, rfl, by rw [hnew]; simp only [lensOf, List.map_append]; rfl, rfl, congrArg (fun z : Nat => some (Value.int .i64 (z : Int))) hadd, congrArg (fun z : Nat => some (Value.int .i64 (z : Int))) hadd2, trivial⟩ ?_
            refine ⟨hgood, by rw [hnew]; simp, E1, hP9, fun k h => ?_, hE1w, ?_, fun k h1 h2 => ?_, fr_next hfu hr9 (by have := hF27.size; have := hf8.size; omega), hF29⟩
            · have := hE1s k h; have := hf8.size; have := hf9.size; omega
            · rw [hnew]; simp only [lensOf, List.map_append]; exact ho9
            · obtain ⟨a, ha, rfl⟩ := h1
              rcases hr9 a ha with h | h
              · exact hud7 _ ⟨a, h, rfl⟩ h2
              · have := hE1s _ h2; have := hf8.size; omega
          ·
            refine Sx.calm rfl rfl (Cm.move rfl) rfl ?_
            refine Sx.skip rfl rfl rfl rfl rfl rfl ?_
            refine Sx.skip rfl rfl rfl rfl rfl rfl ?_
            refine Sx.skip rfl rfl rfl rfl rfl rfl ?_
            refine Sx.skip rfl rfl rfl rfl rfl rfl ?_
            refine Sx.skip rfl rfl rfl rfl rfl rfl ?_
            refine Sx.skip rfl rfl rfl rfl rfl rfl ?_
            refine Sx.skip rfl rfl rfl rfl rfl rfl ?_
            refine Sx.skip rfl rfl rfl rfl rfl rfl ?_
            refine Sx.skip rfl rfl rfl rfl rfl rfl ?_
            refine Sx.skip rfl rfl rfl rfl rfl rfl ?_
            refine Sx.skip rfl rfl rfl rfl rfl rfl ?_
            refine Sx.skip rfl rfl rfl rfl rfl rfl ?_
            refine Sx.skip rfl rfl rfl rfl rfl rfl ?_
            refine Sx.calm rfl rfl (Cm.pick_f rfl rfl) rfl ?_
            refine Sx.nil ?_
            refine At.weak [(0, _), (4, _), (5, _), (6, _), (7, _), (8, _), (25, _), (38, _), (53, _), (58, _), (76, _)] ⟨rfl, rfl, rfl, rfl, rfl, rfl, rfl, rfl, rfl, rfl, rfl, trivial⟩ ?_
            refine At.go ?_
            refine Sc.cond_f rfl ?_
            refine Sc.skip ?_
            refine At.go ?_
            refine Sc.region ?_
            refine Sl.calm (Cm.move rfl) rfl ?_
            refine Sl.lit1 (enc := inN) (u := 0) sl35 rfl rfl rfl ?_
            intro w8 ho8 hs8 hf8
            replace hf8 := hf8.undraw
            refine Sl.append inN_one sl35 rfl rfl (hou7.grow hf8) ho8.vw (by simp only [List.length_singleton]; omega) (by simp only [List.length_singleton]; unfold maxLen; omega) rfl ?_
            intro uo9 uc9 w9 ho9 hf9 hr9 hn9
            refine Sl.calm (Cm.assign rfl) rfl ?_
            refine Sl.nil ?_
            have hF29 : Foot nob w2 w9 := (hF27.trans hf8).trans_to hf9 hfu.step
            have hP9 := (hP7.keep hf8 (fun _ _ h => h)).keep hf9 (fun k h1 h2 => hud7 k h2 h1)
            refine At.cut (uo9, uc9) ⟨rfl, rfl, by rw [hnew]; simp only [lensOf, List.map_append]; rfl, rfl, congrArg (fun z : Nat => some (Value.int .i64 (z : Int))) hadd, congrArg (fun z : Nat => some (Value.int .i64 (z : Int))) hadd2, trivial⟩ ?_
            refine ⟨hgood, by rw [hnew]; simp, E1, hP9, fun k h => ?_, hE1w, ?_, fun k h1 h2 => ?_, fr_next hfu hr9 (by have := hF27.size; have := hf8.size; omega), hF29⟩
            · have := hE1s k h; have := hf8.size; have := hf9.size; omega
            · rw [hnew]; simp only [lensOf, List.map_append]; exact ho9
            · obtain ⟨a, ha, rfl⟩ := h1
              rcases hr9 a ha with h | h
              · exact hud7 _ ⟨a, h, rfl⟩ h2
              · have := hE1s _ h2; have := hf8.size; omega
        ·
          have hold : newL (stL (M.take i)) (M.getD i []) = stL (M.take i) := by
            by_cases hc : stL (M.take i) = [] ∨ 128 < ((stL (M.take i)).getLast?.getD []).length + (M.getD i []).length
            · exfalso; have := newL_new _ _ hc; rw [this, List.length_append] at hadd; simp only [List.length_singleton] at hadd; omega
            · exact newL_old _ _ (fun e => hc (.inl e)) (fun e => hc (.inr e))
          refine Sl.nil ?_
          refine At.weak [(0, _), (4, _), (5, _), (6, _), (7, _), (8, _), (25, _), (38, _), (53, _), (58, _)] ⟨rfl, rfl, rfl, rfl, rfl, rfl, rfl, rfl, rfl, rfl, trivial⟩ ?_
          refine At.go ?_
          refine Sc.cond_f rfl ?_
          refine Sc.skip ?_
          refine At.cut (uo, uc) ⟨rfl, rfl, by rw [hold]; rfl, rfl, congrArg (fun z : Nat => some (Value.int .i64 (z : Int))) hadd, congrArg (fun z : Nat => some (Value.int .i64 (z : Int))) hadd2, trivial⟩ ?_
          have hpos : 0 < (stL (M.take i)).length := by rw [hold] at hnn; exact hnn
          exact ⟨hgood, by rw [hold, ← getD_last]; exact stL_le M i (by omega) _ (by rw [List.getD, List.getElem?_eq_getElem (by omega)]; exact List.getElem_mem _), E1, hP7, hE1s, hE1w, by rw [hold]; exact hou7, hud7, hfu, hF27⟩
      ·
        rintro ⟨uo2, uc2⟩ w10 ⟨hgood, hnle, F1, hP10, hF1s, hF1w, hou2, hud2, hfu2, hFm⟩
        have hnl2 := lensOf_len (newL (stL (M.take i)) (M.getD i []))
        have hnn2 : 0 < (newL (stL (M.take i)) (M.getD i [])).length := List.length_pos_iff.2 (newL_ne _ _)
        have hnl3 := newL_len (stL (M.take i)) (M.getD i [])
        refine Sc.seq ?_
        refine Sc.seq ?_
        refine Sc.region ?_
        refine Sl.calm (Cm.move rfl) rfl ?_
        refine Sl.calm (Cm.move rfl) rfl ?_
        refine Sl.calm (Cm.move rfl) rfl ?_
        refine Sl.calm (Cm.sub64 rfl rfl (by omega)) rfl ?_
        have hat : cellH w10.heap (adr uo2 (((newL (stL (M.take i)) (M.getD i [])).length : Int) - 1).toNat) = some (inN ((newL (stL (M.take i)) (M.getD i [])).getLast?.getD []).length) := by have := hou2.vw.gz 0 ((newL (stL (M.take i)) (M.getD i [])).length - 1) (z := ((newL (stL (M.take i)) (M.getD i [])).length : Int) - 1) (by omega) (by omega); rwa [lensOf_at, getD_last] at this
        refine Sl.calm (Cm.indexAddr1 sl35 rfl rfl hou2.vw.non (by omega)) rfl ?_
        refine Sl.calm (Cm.ld sca3 rfl hat) rfl ?_
        refine Sl.calm (Cm.no (Cm.neq rfl rfl) (fun h => h rfl)) rfl ?_
        refine Sl.nil ?_
        refine At.weak [(0, _), (4, _), (5, _), (6, _), (7, _), (8, _), (86, _)] ⟨rfl, rfl, rfl, rfl, rfl, rfl, rfl, trivial⟩ ?_
        refine At.go ?_
        refine Sc.cond_f rfl ?_
        refine Sc.skip ?_
        refine At.go ?_
        refine Sc.region ?_
        refine Sl.calm (Cm.move rfl) rfl ?_
        refine Sl.calm (Cm.move rfl) rfl ?_
        refine Sl.calm (Cm.sub64 rfl rfl (by omega)) rfl ?_
        refine Sl.calm (Cm.move rfl) rfl ?_
        refine Sl.calm (Cm.move rfl) rfl ?_
        refine Sl.calm (Cm.move rfl) rfl ?_
        have hcell10 : cellH w10.heap (adr la (i : Int).toNat) = some (.slice xa (M.getD i []).length xc) := by rw [Int.toNat_natCast]; exact (hlo.grow hFm).vw.get i _ hx
        refine Sl.calm (Cm.indexAddr1 sl22 rfl rfl (hlo.grow hFm).vw.non (by omega)) rfl ?_
        refine Sl.calm (Cm.ld sca30 rfl hcell10) rfl ?_
        refine Sl.calm (Cm.len sl30 rfl) rfl ?_
        refine Sl.calm (Cm.add64 rfl rfl (by omega)) rfl ?_
        refine Sl.calm (Cm.indexAddr1 sl35 rfl rfl hou2.vw.non (by omega)) rfl ?_
        refine Sl.storeRow inN_one sca3 (z := ((newL (stL (M.take i)) (M.getD i [])).length : Int) - 1) (u := ((newL (stL (M.take i)) (M.getD i [])).getLast?.getD []).length + (M.getD i []).length) rfl rfl hou2 (by omega) ?_
        intro w11 ho11 hs11 hf11
        refine Sl.nil ?_
        refine At.block_normal ?_
        refine At.weak [(0, _), (4, _), (5, _), (6, _), (7, _), (8, _), (86, _)] ⟨rfl, rfl, rfl, rfl, rfl, rfl, rfl, trivial⟩ ?_
        refine At.go ?_
        refine Sc.region ?_
        refine Sl.calm (Cm.move rfl) rfl ?_
        refine Sl.calm (Cm.add64 rfl rfl (by omega)) rfl ?_
        refine Sl.calm (Cm.assign rfl) rfl ?_
        refine Sl.nil ?_
        have hnxt : stL (M.take (i + 1)) = pushLast (newL (stL (M.take i)) (M.getD i [])) (M.getD i []) := by rw [stL_succ M i (by omega), addL_good hgood]
        have hlp : lensOf (stL (M.take (i + 1))) = (lensOf (newL (stL (M.take i)) (M.getD i []))).set ((newL (stL (M.take i)) (M.getD i [])).length - 1) (((newL (stL (M.take i)) (M.getD i [])).getLast?.getD []).length + (M.getD i []).length) := by rw [hnxt, lensOf_push _ _ (newL_ne _ _)]
        refine At.again (i + 1, uo2, uc2) ⟨rfl, rfl, by rw [hlp, List.length_set]; rfl, rfl, trivial⟩ ?_ (by show M.length - (i + 1) < M.length - i; omega)
        rw [show (((newL (stL (M.take i)) (M.getD i [])).length : Int) - 1).toNat = (newL (stL (M.take i)) (M.getD i [])).length - 1 from by omega] at ho11
        refine ⟨by omega, F1, ?_, fun k h => ?_, hF1w, by rw [hlp]; exact ho11, hud2, hfu2, hFm.trans_to hf11 hfu2.step⟩
        · rw [stL_succ M i (by omega)]; exact hP10.keep hf11 (fun k h1 h2 => hud2 k h2 h1)
        · have := hF1s k h; have := hf11.size; omega
  ·
    refine Sl.nil ?_
    refine At.weak [(0, _), (4, _), (5, _), (6, _), (25, _)] ⟨rfl, rfl, rfl, rfl, rfl, trivial⟩ ?_
    refine At.go ?_
    refine Sc.cond_f rfl ?_
    refine Sc.exit ?_
    refine At.then_exit ?_
    refine At.then_exit ?_
    refine At.block_hit ?_
    refine At.go ?_
    refine Sc.seq ?_
    refine Sc.region ?_
    refine Sl.calm (Cm.move rfl) rfl ?_
    refine Sl.call fn19 rfl (blocks_ok D1 p (stL (M.take i)) w hPk (by omega) (by omega)) rfl ?_
    rintro _ w9 ⟨ba, bc, bls, rfl, hbo, hbr, hbf, hf9⟩
    have hou9 := hou.grow hf9
    have hbl := hbr.1
    have hull := lensOf_len (stL (M.take i))
    refine Sl.calm (Cm.assign rfl) rfl ?_
    refine Sl.nil ?_
    refine At.weak [(0, _), (4, _), (5, _), (6, _), (9, _), (25, _)] ⟨rfl, rfl, rfl, rfl, rfl, rfl, trivial⟩ ?_
    refine At.go ?_
    refine Sc.seq ?_
    refine Sc.seq ?_
    refine Sc.region ?_
    refine Sl.calm (Cm.move rfl) rfl ?_
    refine Sl.calm (Cm.len sl22 rfl) rfl ?_
    refine Sl.calm (Cm.move rfl) rfl ?_
    refine Sl.calm (Cm.len sl35 rfl) rfl ?_
    refine Sl.calm (Cm.no (Cm.neq rfl rfl) (by omega)) rfl ?_
    refine Sl.nil ?_
    refine At.weak [(0, _), (4, _), (5, _), (6, _), (9, _), (25, _), (104, _)] ⟨rfl, rfl, rfl, rfl, rfl, rfl, rfl, trivial⟩ ?_
    refine At.go ?_
    refine Sc.cond_f rfl ?_
    refine Sc.skip ?_
    refine At.go ?_
    refine Sc.seq ?_
    refine Sc.seq ?_
    refine Sc.region ?_
    refine Sl.calm (Cm.assign rfl) rfl ?_
    refine Sl.nil ?_
    refine At.go ?_
    refine Sc.block ?_
    refine Sc.loop (β := Nat × Nat) (fun ⟨j, q⟩ => [(5, .slice uo (lensOf (stL (M.take i))).length uc), (9, .slice ba bls.length bc), (10, .int .i64 j)]) (fun ⟨j, q⟩ w => j ≤ (stL (M.take i)).length ∧ w = w9.drewN q) (fun ⟨j, q⟩ => (stL (M.take i)).length - j) (0, 0) ⟨rfl, rfl, rfl, trivial⟩ ⟨Nat.zero_le _, rfl⟩ ?_
    rintro ⟨j, q⟩ _ ⟨hj, rfl⟩
    refine Sc.seq ?_
    refine Sc.seq ?_
    refine Sc.region ?_
    refine Sl.calm (Cm.move rfl) rfl ?_
    refine Sl.calm (Cm.move rfl) rfl ?_
    refine Sl.calm (Cm.len sl35 rfl) rfl ?_
    refine Sl.fork (Cm.lss rfl rfl) rfl (fun h108 => ?_) (fun h108 => ?_)
    ·
      refine Sl.nil ?_
      refine At.weak [(5, _), (9, _), (10, _), (108, _)] ⟨rfl, rfl, rfl, rfl, trivial⟩ ?_
      refine At.go ?_
      refine Sc.cond_t rfl ?_
      refine Sc.skip ?_
      refine At.go ?_
      refine Sc.seq ?_
      refine Sc.block ?_
      refine Sc.seq ?_
      refine Sc.quiet 17 [0, 1, 2, 3, 4, 5, 6, 7, 8, 9, 10, 11, 12, 13, 14, 15, 16] mixed (by kernel_rfl) ?_
      refine Sx.calm rfl rfl (Cm.move rfl) rfl ?_
      refine Sx.calm rfl rfl (Cm.move rfl) rfl ?_
      obtain ⟨⟨ba1, bn1, bc1⟩, hb1x, hb1n, hb1v, _⟩ := hbr.at (i := j) (by omega)
      obtain rfl : bn1 = ((stL (M.take i)).getD j []).length := hb1n
      have hbc : cellH w9.heap (adr ba (j : Int).toNat) = some (.slice ba1 ((stL (M.take i)).getD j []).length bc1) := by rw [Int.toNat_natCast]; exact hbo.vw.get j _ hb1x
      have huc : cellH w9.heap (adr uo (j : Int).toNat) = some (inN ((stL (M.take i)).getD j []).length) := by have := hou9.vw.gz 0 j (z := (j : Int)) rfl (by omega); rwa [lensOf_at] at this
      have hj128 : ((stL (M.take i)).getD j []).length ≤ 128 := stL_le M i hi _ (by rw [List.getD, List.getElem?_eq_getElem (by omega)]; exact List.getElem_mem _)
      refine Sx.calm rfl rfl (Cm.indexAddr1 sl22 rfl rfl hbo.vw.non (by omega)) rfl ?_
      refine Sx.calm rfl rfl (Cm.ld sca30 rfl hbc) rfl ?_
      refine Sx.calm rfl rfl (Cm.len sl30 rfl) rfl ?_
      refine Sx.calm rfl rfl (Cm.move rfl) rfl ?_
      refine Sx.calm rfl rfl (Cm.move rfl) rfl ?_
      refine Sx.calm rfl rfl (Cm.indexAddr1 sl35 rfl rfl hou9.vw.non (by omega)) rfl ?_
      refine Sx.calm rfl rfl (Cm.ld sca3 rfl huc) rfl ?_
      refine Sx.calm rfl rfl (Cm.no (Cm.neq rfl rfl) (fun h => h rfl)) rfl ?_
      refine Sx.calm rfl rfl (Cm.move rfl) rfl ?_
      refine Sx.want rfl rfl rfl rfl (Cm.move rfl) rfl ?_
      refine Sx.want rfl rfl rfl rfl (Cm.move rfl) rfl ?_
      refine Sx.want rfl rfl rfl rfl (Cm.indexAddr1 sl35 rfl rfl hou9.vw.non (by omega)) rfl ?_
      refine Sx.want rfl rfl rfl rfl (Cm.ld sca3 rfl huc) rfl ?_
      refine Sx.want rfl rfl rfl rfl (Cm.no (Cm.gtr rfl rfl) (by omega)) rfl ?_
      refine Sx.calm rfl rfl (Cm.pick_f rfl rfl) rfl ?_
      refine Sx.nil ?_
      refine At.weak [(5, _), (9, _), (10, _), (108, _), (127, _)] ⟨rfl, rfl, rfl, rfl, rfl, trivial⟩ ?_
      refine At.go ?_
      refine Sc.cond_f rfl ?_
      refine Sc.skip ?_
      refine At.block_normal ?_
      refine At.go ?_
      refine Sc.region ?_
      refine Sl.calm (Cm.move rfl) rfl ?_
      refine Sl.calm (Cm.add64 rfl rfl (by omega)) rfl ?_
      refine Sl.calm (Cm.assign rfl) rfl ?_
      refine Sl.nil ?_
      refine At.again (j + 1, q + 1) ⟨rfl, rfl, rfl, trivial⟩ ?_ (by show _ - (j + 1) < _ - j; omega)
      exact ⟨by show j + 1 ≤ _; omega, rfl⟩
    ·
      refine Sl.nil ?_
      refine At.weak [(5, _), (9, _), (10, _), (108, _)] ⟨rfl, rfl, rfl, rfl, trivial⟩ ?_
      refine At.go ?_
      refine Sc.cond_f rfl ?_
      refine Sc.exit ?_
      refine At.then_exit ?_
      refine At.then_exit ?_
      refine At.block_hit ?_
      refine At.go ?_
      refine Sc.seq ?_
      refine Sc.region ?_
      refine Sl.calm (Cm.assign rfl) rfl ?_
      refine Sl.nil ?_
      refine At.go ?_
      refine Sc.ret ?_
      refine At.ret1 rfl rfl ?_
      exact ⟨_, rfl, rfl, (((hf1.trans hf2).trans hFw).trans hf9).draws q⟩
end Go.Proofs.Ytapmfoogjkdffaa
