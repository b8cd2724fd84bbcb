/- From the data that a law is handed to what its walk asks: a slice of attributes. No condition. -/
import Derived.Test.YtpamandneifemaaXak
import Derived.Test.YtpamandneifemaaLiftk
import Derived.Deep.SlicePairs
namespace Go.Proofs.Ytpamandneifemaa
open Go Go.RowKit Go.ChangeShapes Go.WideShapes Go.ChangeAt Go.Deep
set_option linter.unusedVariables false

theorem bs_data (s : ByteArray) : bs s.data.toList = s := rfl
theorem bs_data_len (s : ByteArray) : s.data.toList.length = s.size := rfl

section
variable {H : Type} {enc : TypeId × Value → H} {P : Program} {w : World} {t e : TypeId} {d : DataW H} {p : List MemPlace}

theorem open_xattrs {q : TypeId} {f0 f1 : Field} (ht : P.underlying t = some (.slice e)) (he : P.underlying e = some (.struct #[f0, f1])) (ce : P.cellsOf e = 2) (o0 : f0.offset = 0) (o1 : f1.offset = 1) (c0 : P.cellsOf f0.type = 1) (c1 : P.cellsOf f1.type = 1)
    (hs : P.underlying f0.type = some .string) (hq : P.underlying f1.type = some (.slice q)) (hb : P.underlying q = some (.int .u8)) (hcq : P.cellsOf q = 1) {fuel : Nat} {v : Value} {x : DataW H × List MemPlace} (h : DataW.trod enc P w 0 (fun _ => true) true fuel t [v] = some x) :
    ∃ (a : Option Addr) (cap : Nat) (X : List Xa), v = .slice a X.length cap ∧ XaV w.heap a cap X := by
  rcases open_slice_pairs ht he ce o0 o1 c0 c1 h with ⟨hcs, _⟩ | ⟨a, len, cap, m, n, V0, V1, D0, D1, P0, P1, hcs, _, hl, hm, hmm, _, hx⟩
  · refine ⟨none, 0, [], by simpa using hcs, [], VwM.nil 0 (Nat.zero_le _), rfl, fun i x y hx => by simp at hx⟩
  · simp only [if_true] at hmm
    have : Inhabited ((List UInt8 × Hd) × Xa) := ⟨(([], ⟨none, 0, 0⟩), x0)⟩
    obtain ⟨Y, hY⟩ := choose_lt (α := (List UInt8 × Hd) × Xa) (p := fun i y => V0 i = .string (bs y.1.1) ∧ V1 i = hd y.1.2 ∧ y.1.1 = y.2.1 ∧ y.1.2.n = y.2.2.length ∧ Vw b8 w.heap y.1.2.a y.1.2.c y.2.2 ∧ y.2.1.length ≤ maxLen) (n := m) (fun i hi => by
      obtain ⟨_, _, h3, h4⟩ := hx i hi
      obtain ⟨s, hs1, _, hs2⟩ := DataW.trod_string hs h3
      obtain ⟨b, c, ys, h5, h6⟩ := open_bytes_fuel hq hb hcq h4
      have hs1 : V0 i = .string s := by simpa using hs1
      exact ⟨((s.data.toList, ⟨b, ys.length, c⟩), (s.data.toList, ys)), by rw [hs1]; rfl, h5, rfl, rfl, h6, hs2⟩)
    refine ⟨some a, cap, (List.range len).map (fun i => (Y i).2), by simpa using hcs, (List.range len).map (fun i => (Y i).1), ⟨by simp; omega, hm, fun _ => by simp, fun i x hxi j v hv => ?_⟩, by simp, fun i x y hxi hyi => ?_⟩
    · rw [List.getElem?_map] at hxi
      obtain ⟨k, hk, rfl⟩ := Option.map_eq_some_iff.1 hxi
      have hki : k = i ∧ i < len := by
        have := List.getElem?_eq_some_iff.1 hk; obtain ⟨h1, h2⟩ := this; simp at h1 h2; omega
      obtain ⟨rfl, hil⟩ := hki
      obtain ⟨h1, h2, _, _⟩ := hx k (by omega)
      obtain ⟨g1, g2, _⟩ := hY k (by omega)
      match j, hv with
      | 0, hv => have : v = .string (bs (Y k).1.1) := by simpa [encX] using hv.symm
                 rw [this, ← g1]; exact h1
      | 1, hv => have : v = hd (Y k).1.2 := by simpa [encX] using hv.symm
                 rw [this, ← g2]; exact h2
      | j + 2, hv => simp [encX] at hv
    · rw [List.getElem?_map] at hxi hyi
      obtain ⟨k, hk, rfl⟩ := Option.map_eq_some_iff.1 hxi
      rw [hk] at hyi
      simp at hyi
      subst hyi
      have hkl : k < len := by have := List.mem_of_getElem? hk; simpa using this
      obtain ⟨_, _, h3⟩ := hY k (by omega)
      exact h3
end
end Go.Proofs.Ytpamandneifemaa
