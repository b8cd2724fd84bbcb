/- From the data that a law is handed to what its walk asks: slices of bytes, of integers, of slices of bytes. No condition. -/
import Derived.Test.YtpamandneifemaaGenk
import Derived.ProofKit
import Derived.OpenShut
import Derived.ShutString
import Derived.ChangeOld
import Derived.Below
import Derived.Deep.Slices
namespace Go.Proofs.Ytpamandneifemaa
open Go Go.RowKit Go.ChangeShapes Go.WideShapes Go.ChangeAt Go.Deep
set_option linter.unusedVariables false

theorem b8_of {n : Int} (h : (Lit.int .u8 n).wf = true) : Value.int .u8 n = b8 (UInt8.ofNat n.toNat) := by
  have hb : 0 ≤ n ∧ n ≤ 255 := by simpa [Lit.wf, IntKind.min, IntKind.max, IntKind.signed, IntKind.bits] using h
  have : ((UInt8.ofNat n.toNat).toNat : Int) = n := by
    rw [UInt8.toNat_ofNat']; omega
  rw [b8, this]

section
variable {H : Type} {enc : TypeId × Value → H} {P : Program} {w : World} {t e : TypeId} {d : DataW H} {p : List MemPlace}

theorem open_bytes_fuel (ht : P.underlying t = some (.slice e)) (he : P.underlying e = some (.int .u8)) (hc : P.cellsOf e = 1) {fuel : Nat} {v : Value} {x : DataW H × List MemPlace} (h : DataW.trod enc P w 0 (fun _ => true) true fuel t [v] = some x) :
    ∃ (a : Option Addr) (cap : Nat) (xs : List UInt8), v = .slice a xs.length cap ∧ Vw b8 w.heap a cap xs := by
  rcases open_ints ht he hc h with ⟨hcs, _⟩ | ⟨x, l, c, zs, hcs, _, hl, hm, hz, _, hcell, hwz⟩
  · refine ⟨none, 0, [], by simpa using hcs, Vw.nil 0 (Nat.zero_le _)⟩
  · have hz' : zs.length = c := by simpa using hz
    refine ⟨some x, c, (zs.take l).map (fun n => UInt8.ofNat n.toNat), ?_, by simp; omega, hm, fun _ => by simp, fun i u hu => ?_⟩
    · have : v = .slice (some x) l c := by simpa using hcs
      rw [this]; congr 1; simp; omega
    · rw [List.getElem?_map] at hu
      obtain ⟨n, hn, rfl⟩ := Option.map_eq_some_iff.1 hu
      rw [List.getElem?_take] at hn
      split at hn
      · have hi : i < zs.length := (List.getElem?_eq_some_iff.1 hn).1
        have := hcell i hi
        rw [show zs.getD i 0 = n from by simp [List.getD, hn]] at this
        rw [← b8_of (hwz n (List.mem_of_getElem? hn))]
        exact this
      · cases hn

theorem open_bytes (ht : P.underlying t = some (.slice e)) (he : P.underlying e = some (.int .u8)) (hc : P.cellsOf e = 1) {v : Value} (h : DataW.Trod enc P w 0 (fun _ => true) true t v d p) (hv : ∃ a n c, v = .slice a n c) :
    ∃ (a : Option Addr) (cap : Nat) (xs : List UInt8), v = .slice a xs.length cap ∧ Vw b8 w.heap a cap xs := by
  obtain ⟨fuel, hf⟩ := h
  obtain ⟨a, n, c, rfl⟩ := hv
  exact open_bytes_fuel ht he hc hf

theorem open_i64s (ht : P.underlying t = some (.slice e)) (he : P.underlying e = some (.int .i64)) (hc : P.cellsOf e = 1) {v : Value} (h : DataW.Trod enc P w 0 (fun _ => true) true t v d p) (hv : ∃ a n c, v = .slice a n c) :
    ∃ (a : Option Addr) (cap : Nat) (xs : List Int), v = .slice a xs.length cap ∧ Vw i64 w.heap a cap xs ∧ ∀ x ∈ xs, (Lit.int .i64 x).wf = true := by
  obtain ⟨fuel, hf⟩ := h
  obtain ⟨a, n, c, rfl⟩ := hv
  rcases open_ints ht he hc hf with ⟨hcs, _⟩ | ⟨x, l, c', zs, hcs, _, hl, hm, hz, _, hcell, hwz⟩
  · refine ⟨none, 0, [], by simpa [Value.cells] using hcs, Vw.nil 0 (Nat.zero_le _), by simp⟩
  · have hz' : zs.length = c' := by simpa using hz
    refine ⟨some x, c', zs.take l, ?_, ⟨by simp; omega, hm, fun _ => by simp, fun i u hu => ?_⟩, fun x hx => hwz x (List.mem_of_mem_take hx)⟩
    · have : Value.slice a n c = .slice (some x) l c' := by simpa [Value.cells] using hcs
      rw [this]; congr 1; simp; omega
    · rw [List.getElem?_take] at hu
      split at hu
      · have hi : i < zs.length := (List.getElem?_eq_some_iff.1 hu).1
        have := hcell i hi
        rw [show zs.getD i 0 = u from by simp [List.getD, hu]] at this
        exact this
      · cases hu

theorem open_rows {q : TypeId} (ht : P.underlying t = some (.slice e)) (he : P.underlying e = some (.slice q)) (hq : P.underlying q = some (.int .u8)) (hc : P.cellsOf e = 1) (hcq : P.cellsOf q = 1) {v : Value} (h : DataW.Trod enc P w 0 (fun _ => true) true t v d p) (hv : ∃ a n c, v = .slice a n c) :
    ∃ (a : Option Addr) (cap : Nat) (hs : List Hd) (L : List (List UInt8)), v = .slice a hs.length cap ∧ Vw hd w.heap a cap hs ∧ RowsV (fun k => k < w.heap.size) w.heap hs L := by
  obtain ⟨fuel, hf⟩ := h
  obtain ⟨a, n, c, rfl⟩ := hv
  rcases open_slice1 ht hc hf with ⟨hcs, _⟩ | ⟨x, l, c', m, n', V, D, Pl, hcs, _, hl, hm, hmm, _, hx⟩
  · refine ⟨none, 0, [], [], by simpa [Value.cells] using hcs, Vw.nil 0 (Nat.zero_le _), RowsV.nil⟩
  · simp only [if_true] at hmm
    have : Inhabited (Hd × List UInt8) := ⟨(⟨none, 0, 0⟩, [])⟩
    obtain ⟨Y, hY⟩ := choose_lt (α := Hd × List UInt8) (p := fun i y => V i = hd y.1 ∧ y.1.n = y.2.length ∧ Vw b8 w.heap y.1.a y.1.c y.2) (n := m) (fun i hi => by
      obtain ⟨a, cap, xs, h1, h2⟩ := open_bytes_fuel he hq hcq (hx i hi).2
      exact ⟨(⟨a, xs.length, cap⟩, xs), h1, rfl, h2⟩)
    refine ⟨some x, c', (List.range l).map (fun i => (Y i).1), (List.range l).map (fun i => (Y i).2), ?_, ⟨by simp; omega, hm, fun _ => by simp, fun i u hu => ?_⟩, by simp, fun i y xs hy hxs => ?_⟩
    · have : Value.slice a n c = .slice (some x) l c' := by simpa [Value.cells] using hcs
      rw [this]; simp
    · rw [List.getElem?_map] at hu
      obtain ⟨j, hj, rfl⟩ := Option.map_eq_some_iff.1 hu
      have hji : j = i ∧ i < l := by
        have := List.getElem?_eq_some_iff.1 hj; obtain ⟨h1, h2⟩ := this; simp at h1 h2; omega
      obtain ⟨rfl, hil⟩ := hji
      have h1 := (hx j (by omega)).1
      rw [(hY j (by omega)).1] at h1
      exact h1
    · rw [List.getElem?_map] at hy hxs
      obtain ⟨j, hj, rfl⟩ := Option.map_eq_some_iff.1 hy
      rw [hj] at hxs
      simp at hxs
      subst hxs
      have hjl : j < l := by have := List.mem_of_getElem? hj; simpa using this
      have h1 := hY j (by omega)
      exact ⟨h1.2.1, h1.2.2, fun hne k hk => by obtain ⟨b, hb, rfl⟩ := hk; exact h1.2.2.lt hne b hb⟩
end

theorem ret_true {W w' : World} {e : Ending} (h : Ret (fun v w' => v = .bool true ∧ Foot nob W w') e w') : e = .returned (.bool true) ∧ Below W.heap.size W w' := by
  obtain ⟨v, rfl, rfl, hf⟩ := h
  exact ⟨rfl, hf.below⟩
end Go.Proofs.Ytpamandneifemaa
