/- frag: the law FragPacks walked. No condition. -/
import Derived.Test.YtapmfoogjkdffaaFrE
namespace Go.Proofs.Ytapmfoogjkdffaa
open Go Go.RowKit
set_option linter.unusedVariables false

def stL (M : List (List UInt8)) : List (List UInt8) := M.foldl (fun L t => (addL L t).1) []
theorem stL_succ (M : List (List UInt8)) (k : Nat) (h : k < M.length) : stL (M.take (k + 1)) = (addL (stL (M.take k)) (M.getD k [])).1 := by
  unfold stL; rw [List.take_succ_eq_append_getElem h, List.foldl_append]; simp [List.getD, h]
theorem pushLast_len (L : List (List UInt8)) (t : List UInt8) (h : L ≠ []) : (pushLast L t).length = L.length := by
  have := List.length_pos_iff.2 h
  simp [pushLast]; omega
theorem addL_bd (L : List (List UInt8)) (t : List UInt8) : (addL L t).1.length ≤ L.length + 1 ∧ (addL L t).1.flatten.length ≤ L.flatten.length + t.length := by
  unfold addL
  split
  · exact ⟨Nat.le_succ _, Nat.le_add_right _ _⟩
  · simp only
    rw [pushLast_len _ _ (newL_ne L t), flatten_push _ _ (newL_ne L t), newL_flatten, List.length_append]
    exact ⟨(newL_len L t).2, Nat.le_refl _⟩
theorem stL_bd (M : List (List UInt8)) (h : ∀ t ∈ M, t.length ≤ 200) : ∀ k, k ≤ M.length → (stL (M.take k)).length ≤ k ∧ (stL (M.take k)).flatten.length ≤ 200 * k := by
  intro k
  induction k with
  | zero => intro _; simp [stL]
  | succ k ih =>
    intro hk
    have h1 := ih (by omega)
    have h2 := addL_bd (stL (M.take k)) (M.getD k [])
    have h3 : (M.getD k []).length ≤ 200 := h _ (by rw [List.getD, List.getElem?_eq_getElem (by omega : k < M.length)]; exact List.getElem_mem _)
    rw [stL_succ M k (by omega)]
    omega
theorem mem_flatten_len {L : List (List UInt8)} {x : List UInt8} (h : x ∈ L) : x.length ≤ L.flatten.length := by
  obtain ⟨a, b, rfl⟩ := List.append_of_mem h
  simp
  omega
theorem rowsL_bd (L : List (List UInt8)) : (rowsL L).length ≤ 60 ∧ ∀ t ∈ rowsL L, t.length ≤ 200 := by
  refine ⟨by simp [rowsL]; omega, fun t ht => ?_⟩
  obtain ⟨x, _, rfl⟩ := List.mem_map.1 ht
  simp; omega

def PkJ (p y : Nat) (W4 : World) (M : List (List UInt8)) (i : Nat) (w : World) : Prop :=
  ∃ D1 D2, PackR D1 w.heap p (stL (M.take i)) ∧ RefR D2 w.heap y (stL (M.take i)) ∧ (∀ k, D1 k → ¬ D2 k) ∧ (∀ k, D1 k → k < w.heap.size) ∧ (∀ k, D2 k → k < w.heap.size) ∧
    (∀ k, D1 k → k = p ∨ W4.heap.size ≤ k) ∧ (∀ k, D2 k → k = y ∨ W4.heap.size ≤ k) ∧ Foot (fun k => k = p ∨ k = y) W4 w

theorem PkJ.next {p y i : Nat} {W4 w w6 w7 w8 wz : World} {M : List (List UInt8)} {D1 D2 E1 E2 : Nat → Prop} {oo : Option Addr} (hi : i < M.length) (hdis : ∀ k, D1 k → ¬ D2 k) (hD1s : ∀ k, D1 k → k < w.heap.size) (hD2s : ∀ k, D2 k → k < w.heap.size)
    (hD1w : ∀ k, D1 k → k = p ∨ W4.heap.size ≤ k) (hD2w : ∀ k, D2 k → k = y ∨ W4.heap.size ≤ k) (hFw : Foot (fun k => k = p ∨ k = y) W4 w) (hF6 : Foot nob w w6) (hfr6 : Fr w.heap.size oo) (hlt6 : Lt w6.heap.size oo)
    (hE1 : ∀ k, E1 k → D1 k ∨ w6.heap.size ≤ k) (hE1s : ∀ k, E1 k → k < w7.heap.size) (hF7 : Foot D1 w6 w7) (hE2 : ∀ k, E2 k → D2 k ∨ w7.heap.size ≤ k) (hE2s : ∀ k, E2 k → k < w8.heap.size) (hF8 : Foot D2 w7 w8)
    (hP8 : PackR E1 w8.heap p (addL (stL (M.take i)) (M.getD i [])).1) (hR8 : RefR E2 w8.heap y (addL (stL (M.take i)) (M.getD i [])).1) (hFz : Foot (blk oo) w8 wz) : PkJ p y W4 M (i + 1) wz := by
  have s1 := hFw.size
  have s2 := hF6.size
  have s3 := hF7.size
  have s4 := hF8.size
  have s5 := hFz.size
  have hoo : ∀ k, blk oo k → w.heap.size ≤ k ∧ k < w6.heap.size := by rintro k ⟨a, ha, rfl⟩; exact ⟨hfr6 a ha, hlt6 a ha⟩
  refine ⟨E1, E2, ?_, ?_, ?_, ?_, ?_, ?_, ?_, ?_⟩
  · rw [stL_succ M i hi]
    refine hP8.keep hFz (fun k h1 h2 => ?_)
    have := hoo k h2
    rcases hE1 k h1 with h | h
    · have := hD1s k h; omega
    · omega
  · rw [stL_succ M i hi]
    refine hR8.keep hFz (fun k h1 h2 => ?_)
    have := hoo k h2
    rcases hE2 k h1 with h | h
    · have := hD2s k h; omega
    · omega
  · intro k h1 h2
    have := hE1s k h1
    rcases hE1 k h1 with h | h <;> rcases hE2 k h2 with h' | h'
    · exact hdis k h h'
    · omega
    · have := hD2s k h'; omega
    · omega
  · intro k h; have := hE1s k h; omega
  · intro k h; have := hE2s k h; omega
  · intro k h
    rcases hE1 k h with h | h
    · exact hD1w k h
    · exact .inr (by omega)
  · intro k h
    rcases hE2 k h with h | h
    · exact hD2w k h
    · exact .inr (by omega)
  · refine (((hFw.trans (hF6.mono (fun _ h => h.elim))).step hF7 (fun k h => ?_)).step hF8 (fun k h => ?_)).step hFz (fun k h => ?_)
    · rcases hD1w k h with h | h
      · exact .inl (.inl h)
      · exact .inr h
    · rcases hD2w k h with h | h
      · exact .inl (.inr h)
      · exact .inr h
    · have := hoo k h; exact .inr (by omega)

theorem radd_ok' {D : Nat → Prop} {p : Nat} {L : List (List UInt8)} {to : Option Addr} {tc : Nat} {t : List UInt8} {W : World} (hP : RefR D W.heap p L) (hD : ∀ k, D k → k < W.heap.size)
    (hv : Vw b8 W.heap to tc t) (hb2 : L.length ≤ 1099511627776) (hb3 : L.flatten.length ≤ 1099511627776) :
    Calls Try.prog 18 [.pointer (some ⟨p, 0, none⟩), .slice to t.length tc].toArray W
      (Ret fun v w' => v = .tuple #[inN (addL L t).2.1, inN (addL L t).2.2] ∧ RAddPost D W p (addL L t).1 w') := by
  have := radd_ok D p L to tc t W hP hD hv hb2 (fun x hx => by have := mem_flatten_len hx; omega)
  rw [addR_eq] at this
  exact this

set_option maxHeartbeats 4000000 in
theorem fragPacks_ok (D0 : Nat → Prop) (ao : Option Addr) (cap : Nat) (hs : List Hd) (L : List (List UInt8)) (W : World) (hv : Vw hd W.heap ao cap hs) (hr : RowsV D0 W.heap hs L) (hD0 : ∀ k, D0 k → k < W.heap.size) :
    Calls Try.prog 3 [.slice ao hs.length cap].toArray W (Ret fun v w' => v = .bool true ∧ Foot nob W w') := by
  refine calls_of_sc 101 [(0, _)] Try.func3 rfl rfl rfl (enter_slots ⟨rfl, trivial⟩) ?_
  refine Sc.seq ?_
  refine Sc.region ?_
  refine Sl.calm (Cm.assign rfl) rfl ?_
  refine Sl.nil ?_
  refine At.go ?_
  refine Sc.seq ?_
  refine Sc.region ?_
  refine Sl.call fn14 rfl (shown13_ok W) rfl ?_
  rintro _ w1 ⟨rfl, hf1⟩
  refine Sl.calm (Cm.assign rfl) rfl ?_
  refine Sl.nil ?_
  refine At.weak [(0, _), (2, _), (3, _)] ⟨rfl, rfl, rfl, trivial⟩ ?_
  refine At.go ?_
  refine Sc.seq ?_
  refine Sc.region ?_
  refine Sl.calm (Cm.move rfl) rfl ?_
  refine Sl.call fn15 rfl (rows_ok D0 ao cap hs L w1 (hv.grow hf1) (hr.keep hf1 (fun _ _ h => h))) rfl ?_
  rintro _ w2 ⟨la, lc, ls, rfl, hlo, hlr, hlf, hf2⟩
  refine Sl.calm (Cm.assign rfl) rfl ?_
  refine Sl.nil ?_
  refine At.weak [(0, _), (2, _), (3, _)] ⟨rfl, rfl, rfl, trivial⟩ ?_
  refine At.go ?_
  refine Sc.seq ?_
  refine Sc.region ?_
  refine Sl.call fn16 rfl (new_ok w2) rfl ?_
  rintro _ w3 ⟨rfl, hP3, hf3, hs3⟩
  refine Sl.calm (Cm.assign rfl) rfl ?_
  refine Sl.nil ?_
  refine At.weak [(0, _), (2, _), (3, _), (4, _)] ⟨rfl, rfl, rfl, rfl, trivial⟩ ?_
  refine At.go ?_
  refine Sc.seq ?_
  refine Sc.region ?_
  refine Sl.calm (Cm.build plc29 zc29 rfl rfl) rfl ?_
  refine Sl.box rfl rfl ?_
  intro w4 hg4 hs4 hf4
  refine Sl.calm (Cm.assign rfl) rfl ?_
  refine Sl.nil ?_
  refine At.weak [(0, _), (2, _), (3, _), (4, _), (5, _)] ⟨rfl, rfl, rfl, rfl, rfl, trivial⟩ ?_
  refine At.go ?_
  refine Sc.seq ?_
  refine Sc.seq ?_
  refine Sc.region ?_
  refine Sl.calm (Cm.move rfl) rfl ?_
  refine Sl.calm (Cm.not rfl) rfl ?_
  refine Sl.calm (Cm.move rfl) rfl ?_
  refine Sl.want rfl rfl (Cm.move rfl) rfl ?_
  refine Sl.want rfl rfl (Cm.eqlPtrNil ptr25 rfl rfl) rfl ?_
  refine Sl.calm (Cm.pick_f rfl rfl) rfl ?_
  refine Sl.nil ?_
  refine At.weak [(0, _), (2, _), (3, _), (4, _), (5, _), (26, _)] ⟨rfl, rfl, rfl, rfl, rfl, rfl, trivial⟩ ?_
  refine At.go ?_
  refine Sc.cond_f rfl ?_
  refine Sc.skip ?_
  refine At.go ?_
  refine Sc.seq ?_
  refine Sc.seq ?_
  refine Sc.region ?_
  refine Sl.calm (Cm.assign rfl) rfl ?_
  refine Sl.nil ?_
  refine At.go ?_
  refine Sc.block ?_
  obtain ⟨M, hM⟩ : ∃ M, M = rowsL L := ⟨_, rfl⟩
  rw [← hM] at hlr
  obtain ⟨hM60, hM200⟩ := rowsL_bd L
  rw [← hM] at hM60 hM200
  have hll := hlr.1
  obtain ⟨p, hp⟩ : ∃ p, p = w2.heap.size := ⟨_, rfl⟩
  obtain ⟨y, hy⟩ : ∃ y, y = w3.heap.size := ⟨_, rfl⟩
  rw [← hp, ← hy]
  rw [← hp] at hP3
  rw [← hy] at hg4
  have hF14 : Foot nob W w4 := ((hf1.trans hf2).trans hf3).trans hf4
  have hs2 := hf2.size
  have hP4 := hP3.keep hf4 (fun _ _ h => h)
  have hsx := hf1.size
  refine Sc.loop (β := Nat) (fun i => [(0, .slice la ls.length lc), (4, .pointer (some ⟨p, 0, none⟩)), (5, .pointer (some ⟨y, 0, none⟩)), (6, .int .i64 i)]) (fun i w => i ≤ M.length ∧ PkJ p y w4 M i w) (fun i => M.length - i) 0 ⟨rfl, rfl, rfl, rfl, trivial⟩ ⟨Nat.zero_le _, (fun k => k = p), (fun k => k = y), hP4, ⟨fun _ => False, none, 0, [], hg4, Own.nil, RowsV.nil, (fun ⟨a, h, _⟩ => by cases h), rfl, (fun k ⟨a, h, _⟩ => by cases h), (fun k h => h.elim)⟩, (fun k h1 h2 => by omega), (fun k h => by omega), (fun k h => by omega), (fun k h => .inl h), (fun k h => .inl h), Foot.refl _ _⟩ ?_
  rintro i w ⟨hi, D1, D2, hPk, hRk, hdis, hD1s, hD2s, hD1w, hD2w, hFw⟩
  obtain ⟨hbd1, hbd2⟩ := stL_bd M hM200 i hi
  have hsw := hFw.size
  have hlo4 := hlo.grow (hf3.trans hf4)
  have hlnot : ∀ a, la = some a → ¬ (a.block = p ∨ a.block = y) := fun a ha h => by have h1 := hlo.lt a ha; omega
  have hlv := (hlo4.keep hFw hlnot).vw
  have hlr4 := ((hlr.keep (hf3.trans hf4) (fun _ _ h => h)).keep hFw (fun k hk h => by have h1 := hD0 k hk; omega))
  refine Sc.seq ?_
  refine Sc.seq ?_
  refine Sc.region ?_
  refine Sl.calm (Cm.move rfl) rfl ?_
  refine Sl.calm (Cm.move rfl) rfl ?_
  refine Sl.calm (Cm.len sl22 rfl) rfl ?_
  refine Sl.fork (Cm.lss rfl rfl) rfl (fun h30 => ?_) (fun h30 => ?_)
  ·
    refine Sl.nil ?_
    refine At.weak [(0, _), (4, _), (5, _), (6, _), (30, _)] ⟨rfl, rfl, rfl, rfl, rfl, trivial⟩ ?_
    refine At.go ?_
    refine Sc.cond_t rfl ?_
    refine Sc.skip ?_
    refine At.go ?_
    refine Sc.seq ?_
    refine Sc.block ?_
    refine Sc.seq ?_
    refine Sc.region ?_
    obtain ⟨⟨xa, xn, xc⟩, hx, hxn, hxv, hxD⟩ := hlr4.at (i := i) (by omega)
    obtain rfl : xn = (M.getD i []).length := hxn
    have hx200 : (M.getD i []).length ≤ 200 := hM200 _ (by rw [List.getD, List.getElem?_eq_getElem (by omega : i < M.length)]; exact List.getElem_mem _)
    refine Sl.lit0 b8 sl30 rfl ?_
    intro w5 ho5 hs5 hf5
    refine Sl.calm (Cm.move rfl) rfl ?_
    refine Sl.calm (Cm.move rfl) rfl ?_
    refine Sl.calm (Cm.indexAddr1 sl22 rfl rfl hlv.non (by omega)) rfl ?_
    have hcell5 : cellH w5.heap (adr la (i : Int).toNat) = some (.slice xa (M.getD i []).length xc) := by rw [Int.toNat_natCast]; exact (hlv.grow hf5).get i _ hx
    refine Sl.calm (Cm.ld sca30 rfl hcell5) rfl ?_
    refine Sl.append b8_one sl30 rfl rfl ho5 (hxv.grow hf5) (by simp only [List.length_nil]; omega) (by simp only [List.length_nil]; unfold maxLen; omega) rfl ?_
    intro oo oc w6 ho6 hf6 hr6 hn6
    have hF6 : Foot nob w w6 := hf5.trans_to hf6 (fr_at _).step
    have hfr6 : Fr w.heap.size oo := fr_next (fr_at _) hr6 hf5.size
    have hP6 := hPk.keep hF6 (fun _ _ h => h)
    have hR6 := hRk.keep hF6 (fun _ _ h => h)
    have hs6 := hF6.size
    refine Sl.calm (Cm.assign rfl) rfl ?_
    refine Sl.nil ?_
    refine At.weak [(0, _), (4, _), (5, _), (6, _), (7, _), (30, _)] ⟨rfl, rfl, rfl, rfl, rfl, rfl, trivial⟩ ?_
    refine At.go ?_
    refine Sc.seq ?_
    refine Sc.region ?_
    refine Sl.calm (Cm.move rfl) rfl ?_
    refine Sl.calm (Cm.move rfl) rfl ?_
    refine Sl.call fn17 rfl (add_ok D1 p (stL (M.take i)) oo oc ([] ++ M.getD i []) w6 hP6 (fun k h => by have := hD1s k h; omega) ho6.vw (fun _ a ha h => by have := hfr6 a ha; have := hD1s _ h; omega) (by omega) (by omega)) rfl ?_
    rintro _ w7 ⟨rfl, E1, hP7, hE1, hE1s, hF7⟩
    have hR7 := hR6.keep hF7 (fun k h2 h1 => hdis k h1 h2)
    have hs7 := hF7.size
    have hlv7 := (hlv.grow hF6).keep hF7 (fun a ha h => by have h1 := hlo.lt a ha; rcases hD1w _ h with h2 | h2 <;> omega)
    refine Sl.calm (Cm.move rfl) rfl ?_
    refine Sl.calm (Cm.extract rfl rfl) rfl ?_
    refine Sl.calm (Cm.extract rfl rfl) rfl ?_
    refine Sl.calm (Cm.assign rfl) rfl ?_
    refine Sl.calm (Cm.assign rfl) rfl ?_
    refine Sl.nil ?_
    refine At.weak [(0, _), (4, _), (5, _), (6, _), (7, _), (8, _), (9, _), (30, _)] ⟨rfl, rfl, rfl, rfl, rfl, rfl, rfl, rfl, trivial⟩ ?_
    refine At.go ?_
    refine Sc.seq ?_
    refine Sc.region ?_
    refine Sl.calm (Cm.move rfl) rfl ?_
    refine Sl.calm (Cm.move rfl) rfl ?_
    refine Sl.calm (Cm.move rfl) rfl ?_
    refine Sl.calm (Cm.indexAddr1 sl22 rfl rfl hlv.non (by omega)) rfl ?_
    have hcell7 : cellH w7.heap (adr la (i : Int).toNat) = some (.slice xa (M.getD i []).length xc) := by rw [Int.toNat_natCast]; exact hlv7.get i _ hx
    have hxv7 : Vw b8 w7.heap xa xc (M.getD i []) := (hxv.grow hF6).keep' hF7 (fun hne a ha h => by have h1 := hD0 _ (hxD hne _ ⟨a, ha, rfl⟩); have := hf1.size; have := hf2.size; have := hf3.size; rcases hD1w _ h with h2 | h2 <;> omega)
    refine Sl.calm (Cm.ld sca30 rfl hcell7) rfl ?_
    refine Sl.call fn18 rfl (radd_ok' hR7 (fun k h => by have := hD2s k h; omega) hxv7 (by omega) (by omega)) rfl ?_
    rintro _ w8 ⟨rfl, E2, hR8, hE2, hE2s, hF8⟩
    have hs8 := hF8.size
    have hP8 := hP7.keep hF8 (fun k h1 h2 => by rcases hE1 k h1 with h | h; exact hdis k h h2; have := hD2s k h2; omega)
    have ho8 : Own b8 5 w8.heap oo oc (M.getD i []) := ((ho6.keep hF7 (fun a ha h => by have := hfr6 a ha; have := hD1s _ h; omega)).keep hF8 (fun a ha h => by have := hfr6 a ha; have := hD2s _ h; omega))
    refine Sl.calm (Cm.move rfl) rfl ?_
    refine Sl.calm (Cm.extract rfl rfl) rfl ?_
    refine Sl.calm (Cm.extract rfl rfl) rfl ?_
    refine Sl.calm (Cm.assign rfl) rfl ?_
    refine Sl.calm (Cm.assign rfl) rfl ?_
    refine Sl.nil ?_
    refine At.weak [(0, _), (4, _), (5, _), (6, _), (7, _), (8, _), (9, _), (10, _), (11, _), (30, _)] ⟨rfl, rfl, rfl, rfl, rfl, rfl, rfl, rfl, rfl, rfl, trivial⟩ ?_
    refine At.go ?_
    refine Sc.seq ?_
    refine Sc.seq ?_
    refine Sc.region ?_
    refine Sl.calm (Cm.move rfl) rfl ?_
    refine Sl.calm (Cm.move rfl) rfl ?_
    refine Sl.calm (Cm.no (Cm.neq rfl rfl) (fun h => h rfl)) rfl ?_
    refine Sl.calm (Cm.move rfl) rfl ?_
    refine Sl.want rfl rfl (Cm.move rfl) rfl ?_
    refine Sl.want rfl rfl (Cm.move rfl) rfl ?_
    refine Sl.want rfl rfl (Cm.no (Cm.neq rfl rfl) (fun h => h rfl)) rfl ?_
    refine Sl.calm (Cm.pick_f rfl rfl) rfl ?_
    refine Sl.nil ?_
    refine At.weak [(0, _), (4, _), (5, _), (6, _), (7, _), (8, _), (9, _), (10, _), (11, _), (30, _), (61, _)] ⟨rfl, rfl, rfl, rfl, rfl, rfl, rfl, rfl, rfl, rfl, rfl, trivial⟩ ?_
    refine At.go ?_
    refine Sc.cond_f rfl ?_
    refine Sc.skip ?_
    refine At.go ?_
    refine Sc.seq ?_
    refine Sc.region ?_
    refine Sl.calm (Cm.assign rfl) rfl ?_
    refine Sl.nil ?_
    refine At.go ?_
    refine Sc.block ?_
    refine Sc.loop (β := Nat × List UInt8) (fun ⟨n, zs⟩ => [(0, .slice la ls.length lc), (4, .pointer (some ⟨p, 0, none⟩)), (5, .pointer (some ⟨y, 0, none⟩)), (6, .int .i64 i), (7, .slice oo zs.length oc), (12, .int .i64 n)]) (fun ⟨n, zs⟩ w => n ≤ zs.length ∧ Own b8 5 w.heap oo oc zs ∧ Foot (blk oo) w8 w) (fun ⟨n, zs⟩ => zs.length - n) (0, M.getD i []) ⟨rfl, rfl, rfl, rfl, rfl, rfl, trivial⟩ ⟨Nat.zero_le _, ho8, Foot.refl _ _⟩ ?_
    rintro ⟨n, zs⟩ wz ⟨hn, hoz, hFz⟩
    have hzl := hoz.vw.len63
    refine Sc.seq ?_
    refine Sc.seq ?_
    refine Sc.region ?_
    refine Sl.calm (Cm.move rfl) rfl ?_
    refine Sl.calm (Cm.move rfl) rfl ?_
    refine Sl.calm (Cm.len sl30 rfl) rfl ?_
    refine Sl.fork (Cm.lss rfl rfl) rfl (fun h65 => ?_) (fun h65 => ?_)
    ·
      refine Sl.nil ?_
      refine At.weak [(0, _), (4, _), (5, _), (6, _), (7, _), (12, _), (65, _)] ⟨rfl, rfl, rfl, rfl, rfl, rfl, rfl, trivial⟩ ?_
      refine At.go ?_
      refine Sc.cond_t rfl ?_
      refine Sc.skip ?_
      refine At.go ?_
      refine Sc.seq ?_
      refine Sc.block ?_
      refine Sc.region ?_
      refine Sl.calm (Cm.move rfl) rfl ?_
      refine Sl.calm (Cm.move rfl) rfl ?_
      refine Sl.calm (Cm.indexAddr1 sl30 rfl rfl hoz.vw.non (by omega)) rfl ?_
      refine Sl.storeRow b8_one sca5 (z := (n : Int)) (u := (99 : UInt8)) rfl rfl hoz (by omega) ?_
      intro w10 ho10 hs10 hf10
      refine Sl.nil ?_
      refine At.block_normal ?_
      refine At.weak [(0, _), (4, _), (5, _), (6, _), (7, _), (12, _), (65, _)] ⟨rfl, rfl, rfl, rfl, rfl, rfl, rfl, trivial⟩ ?_
      refine At.go ?_
      refine Sc.region ?_
      refine Sl.calm (Cm.move rfl) rfl ?_
      refine Sl.calm (Cm.add64 rfl rfl (by omega)) rfl ?_
      refine Sl.calm (Cm.assign rfl) rfl ?_
      refine Sl.nil ?_
      refine At.again (n + 1, zs.set n 99) ⟨rfl, rfl, rfl, rfl, congrArg (fun q : Nat => some (Value.slice oo q oc)) (by rw [List.length_set]), rfl, trivial⟩ ?_ (by show (zs.set n 99).length - (n + 1) < zs.length - n; rw [List.length_set]; omega)
      exact ⟨by show n + 1 ≤ (zs.set n 99).length; rw [List.length_set]; omega, ho10, hFz.trans hf10⟩
    ·
      refine Sl.nil ?_
      refine At.weak [(0, _), (4, _), (5, _), (6, _), (7, _), (12, _), (65, _)] ⟨rfl, rfl, rfl, rfl, rfl, rfl, rfl, trivial⟩ ?_
      refine At.go ?_
      refine Sc.cond_f rfl ?_
      refine Sc.exit ?_
      refine At.then_exit ?_
      refine At.then_exit ?_
      refine At.block_hit ?_
      refine At.block_normal ?_
      refine At.go ?_
      refine Sc.region ?_
      refine Sl.calm (Cm.move rfl) rfl ?_
      refine Sl.calm (Cm.add64 rfl rfl (by omega)) rfl ?_
      refine Sl.calm (Cm.assign rfl) rfl ?_
      refine Sl.nil ?_
      refine At.again (i + 1) ⟨rfl, rfl, rfl, rfl, trivial⟩ ?_ (by omega)
      exact ⟨by omega, PkJ.next (by omega) hdis hD1s hD2s hD1w hD2w hFw hF6 hfr6 ho6.lt hE1 hE1s hF7 hE2 hE2s hF8 hP8 hR8 hFz⟩
  ·
    refine Sl.nil ?_
    refine At.weak [(0, _), (4, _), (5, _), (6, _), (30, _)] ⟨rfl, rfl, rfl, rfl, rfl, trivial⟩ ?_
    refine At.go ?_
    refine Sc.cond_f rfl ?_
    refine Sc.exit ?_
    refine At.then_exit ?_
    refine At.then_exit ?_
    refine At.block_hit ?_
    refine At.go ?_
    refine Sc.seq ?_
    refine Sc.region ?_
    refine Sl.calm (Cm.move rfl) rfl ?_
    refine Sl.call fn19 rfl (blocks_ok D1 p (stL (M.take i)) w hPk (by omega) (by omega)) rfl ?_
    rintro _ w9 ⟨ba, bc, bls, rfl, hbo, hbr, hbf, hf9⟩
    have hRe := hRk.keep hf9 (fun _ _ h => h)
    obtain ⟨Din, ro, rc, rls, hro, hrown, hrr, hrp, _, _, _⟩ := hRe
    have hbl := hbr.1
    have hrl := hrr.1
    refine Sl.calm (Cm.assign rfl) rfl ?_
    refine Sl.nil ?_
    refine At.weak [(0, _), (4, _), (5, _), (6, _), (13, _), (30, _)] ⟨rfl, rfl, rfl, rfl, rfl, rfl, trivial⟩ ?_
    refine At.go ?_
    refine Sc.seq ?_
    refine Sc.seq ?_
    refine Sc.region ?_
    refine Sl.calm (Cm.move rfl) rfl ?_
    refine Sl.calm (Cm.len sl22 rfl) rfl ?_
    refine Sl.calm (Cm.move rfl) rfl ?_
    refine Sl.calm (Cm.nilCheck rfl) rfl ?_
    refine Sl.calm (Cm.field fld29_0 rfl) rfl ?_
    refine Sl.calm (Cm.ld sca22 rfl (cellF hro rfl)) rfl ?_
    refine Sl.calm (Cm.len sl22 rfl) rfl ?_
    refine Sl.calm (Cm.no (Cm.neq rfl rfl) (by omega)) rfl ?_
    refine Sl.nil ?_
    refine At.weak [(0, _), (4, _), (5, _), (6, _), (13, _), (30, _), (80, _)] ⟨rfl, rfl, rfl, rfl, rfl, rfl, rfl, trivial⟩ ?_
    refine At.go ?_
    refine Sc.cond_f rfl ?_
    refine Sc.skip ?_
    refine At.go ?_
    refine Sc.seq ?_
    refine Sc.seq ?_
    refine Sc.region ?_
    refine Sl.calm (Cm.assign rfl) rfl ?_
    refine Sl.nil ?_
    refine At.go ?_
    refine Sc.block ?_
    refine Sc.loop (β := Nat × Nat) (fun ⟨j, q⟩ => [(5, .pointer (some ⟨y, 0, none⟩)), (13, .slice ba bls.length bc), (14, .int .i64 j)]) (fun ⟨j, q⟩ w => j ≤ (stL (M.take i)).length ∧ w = w9.drewN q) (fun ⟨j, q⟩ => (stL (M.take i)).length - j) (0, 0) ⟨rfl, rfl, rfl, trivial⟩ ⟨Nat.zero_le _, rfl⟩ ?_
    rintro ⟨j, q⟩ _ ⟨hj, rfl⟩
    refine Sc.seq ?_
    refine Sc.seq ?_
    refine Sc.region ?_
    refine Sl.calm (Cm.move rfl) rfl ?_
    refine Sl.calm (Cm.move rfl) rfl ?_
    refine Sl.calm (Cm.len sl22 rfl) rfl ?_
    refine Sl.fork (Cm.lss rfl rfl) rfl (fun h84 => ?_) (fun h84 => ?_)
    ·
      refine Sl.nil ?_
      refine At.weak [(5, _), (13, _), (14, _), (84, _)] ⟨rfl, rfl, rfl, rfl, trivial⟩ ?_
      refine At.go ?_
      refine Sc.cond_t rfl ?_
      refine Sc.skip ?_
      refine At.go ?_
      refine Sc.seq ?_
      refine Sc.block ?_
      refine Sc.seq ?_
      refine Sc.quiet 14 [0, 1, 2, 3, 4, 5, 6, 7, 8, 9, 10, 11, 12, 13] mixed (by kernel_rfl) ?_
      refine Sx.calm rfl rfl (Cm.move rfl) rfl ?_
      refine Sx.calm rfl rfl (Cm.move rfl) rfl ?_
      obtain ⟨⟨ba1, bn1, bc1⟩, hb1x, hb1n, hb1v, _⟩ := hbr.at (i := j) (by omega)
      obtain rfl : bn1 = ((stL (M.take i)).getD j []).length := hb1n
      obtain ⟨⟨ra1, rn1, rc1⟩, hr1x, hr1n, hr1v, _⟩ := hrr.at (i := j) (by omega)
      obtain rfl : rn1 = ((stL (M.take i)).getD j []).length := hr1n
      have hbc : cellH w9.heap (adr ba (j : Int).toNat) = some (.slice ba1 ((stL (M.take i)).getD j []).length bc1) := by rw [Int.toNat_natCast]; exact hbo.vw.get j _ hb1x
      have hrc : cellH w9.heap (adr ro (j : Int).toNat) = some (.slice ra1 ((stL (M.take i)).getD j []).length rc1) := by rw [Int.toNat_natCast]; exact hrown.vw.get j _ hr1x
      refine Sx.calm rfl rfl (Cm.indexAddr1 sl22 rfl rfl hbo.vw.non (by omega)) rfl ?_
      refine Sx.calm rfl rfl (Cm.ld sca30 rfl hbc) rfl ?_
      refine Sx.calm rfl rfl (Cm.strIn sl30 ty5 ty9 rfl hb1v) rfl ?_
      refine Sx.calm rfl rfl (Cm.move rfl) rfl ?_
      refine Sx.calm rfl rfl (Cm.nilCheck rfl) rfl ?_
      refine Sx.calm rfl rfl (Cm.field fld29_0 rfl) rfl ?_
      refine Sx.calm rfl rfl (Cm.ld sca22 rfl (cellF hro rfl)) rfl ?_
      refine Sx.calm rfl rfl (Cm.move rfl) rfl ?_
      refine Sx.calm rfl rfl (Cm.indexAddr1 sl22 rfl rfl hrown.vw.non (by omega)) rfl ?_
      refine Sx.calm rfl rfl (Cm.ld sca30 rfl hrc) rfl ?_
      refine Sx.calm rfl rfl (Cm.strIn sl30 ty5 ty9 rfl hr1v) rfl ?_
      refine Sx.calm rfl rfl (Cm.no (Cm.neqBs rfl rfl) (fun h => h rfl)) rfl ?_
      refine Sx.nil ?_
      refine At.weak [(5, _), (13, _), (14, _), (84, _), (100, _)] ⟨rfl, rfl, rfl, rfl, rfl, trivial⟩ ?_
      refine At.go ?_
      refine Sc.cond_f rfl ?_
      refine Sc.skip ?_
      refine At.block_normal ?_
      refine At.go ?_
      refine Sc.region ?_
      refine Sl.calm (Cm.move rfl) rfl ?_
      refine Sl.calm (Cm.add64 rfl rfl (by omega)) rfl ?_
      refine Sl.calm (Cm.assign rfl) rfl ?_
      refine Sl.nil ?_
      refine At.again (j + 1, q + 1) ⟨rfl, rfl, rfl, trivial⟩ ?_ (by show _ - (j + 1) < _ - j; omega)
      exact ⟨by show j + 1 ≤ _; omega, rfl⟩
    ·
      refine Sl.nil ?_
      refine At.weak [(5, _), (13, _), (14, _), (84, _)] ⟨rfl, rfl, rfl, rfl, trivial⟩ ?_
      refine At.go ?_
      refine Sc.cond_f rfl ?_
      refine Sc.exit ?_
      refine At.then_exit ?_
      refine At.then_exit ?_
      refine At.block_hit ?_
      refine At.go ?_
      refine Sc.seq ?_
      refine Sc.region ?_
      refine Sl.calm (Cm.assign rfl) rfl ?_
      refine Sl.nil ?_
      refine At.go ?_
      refine Sc.ret ?_
      refine At.ret1 rfl rfl ?_
      have hs34 := hf3.size
      exact ⟨_, rfl, rfl, ((hF14.trans_to hFw (fun k h => .inr (by omega))).trans hf9).draws q⟩
end Go.Proofs.Ytapmfoogjkdffaa
