/- Small things that many walks use: numbers, fields of an object, slices of slices of bytes. No condition. -/
import Derived.Test.YtpamandneifemaaTyk
namespace Go.Proofs.Ytpamandneifemaa
open Go Go.RowKit
set_option linter.unusedVariables false

def inN (n : Nat) : Value := .int .i64 n
theorem inN_one (x : Nat) : (inN x).oneCell' = true := rfl
theorem b8_one (x : UInt8) : (b8 x).oneCell' = true := rfl

theorem tup2 {k k' : IntKind} {a b c d : Int} (h1 : a = c) (h2 : b = d) : Value.tuple #[.int k a, .int k' b] = Value.tuple #[.int k c, .int k' d] := by rw [h1, h2]
theorem cellF {H : Array Obj} {p : Nat} {cs : List Value} {T : TypeId} {fr : Nat × Nat} (h : H[p]? = some (.cells cs.toArray T fr)) {i : Nat} {v : Value} (hi : cs[i]? = some v) : cellH H ((⟨p, 0, none⟩ : Addr).add i) = some v := by
  rw [Addr.add_lit, Nat.zero_add]; simp [cellH, h, hi]

theorem cellF0 {H : Array Obj} {p : Nat} {cs : List Value} {T : TypeId} {fr : Nat × Nat} (h : H[p]? = some (.cells cs.toArray T fr)) {i : Nat} {v : Value} (hi : cs[i]? = some v) : cellH H (⟨p, i, none⟩ : Addr) = some v := by
  simp [cellH, h, hi]
/-- a slices three numbers -/
structure Hd where
  a : Option Addr
  n : Nat
  c : Nat
def hd (h : Hd) : Value := .slice h.a h.n h.c
theorem hd_one (h : Hd) : (hd h).oneCell' = true := rfl

/-- slices of bytes that read as L, in blocks of D -/
def RowsV (D : Nat → Prop) (H : Array Obj) (hs : List Hd) (L : List (List UInt8)) : Prop :=
  hs.length = L.length ∧ ∀ (i : Nat) (h : Hd) (xs : List UInt8), hs[i]? = some h → L[i]? = some xs → h.n = xs.length ∧ Vw b8 H h.a h.c xs ∧ (xs ≠ [] → ∀ k, blk h.a k → D k)

theorem Vw.keep' {α : Type} {enc : α → Value} {ao : Option Addr} {cap : Nat} {xs : List α} {w w' : World} {S : Nat → Prop} (h : Vw enc w.heap ao cap xs) (f : Foot S w w') (hs : xs ≠ [] → ∀ a, ao = some a → ¬ S a.block) : Vw enc w'.heap ao cap xs := by
  by_cases he : xs = []
  · subst he; exact Vw.nil cap h.max
  · exact h.keep f (hs he)

theorem RowsV.keep {D S : Nat → Prop} {w w' : World} {hs : List Hd} {L : List (List UInt8)} (h : RowsV D w.heap hs L) (f : Foot S w w') (hS : ∀ k, D k → ¬ S k) : RowsV D w'.heap hs L :=
  ⟨h.1, fun i x xs hx hxs => by
    obtain ⟨h1, h2, h3⟩ := h.2 i x xs hx hxs
    exact ⟨h1, h2.keep' f (fun hne a ha => hS _ (h3 hne _ ⟨a, ha, rfl⟩)), h3⟩⟩
theorem RowsV.nil {D : Nat → Prop} {H : Array Obj} : RowsV D H [] [] := ⟨rfl, fun i h xs hh => by simp at hh⟩
theorem RowsV.mono {D D' : Nat → Prop} {H : Array Obj} {hs : List Hd} {L : List (List UInt8)} (h : RowsV D H hs L) (hd : ∀ k, D k → D' k) : RowsV D' H hs L :=
  ⟨h.1, fun i x xs hx hxs => by obtain ⟨h1, h2, h3⟩ := h.2 i x xs hx hxs; exact ⟨h1, h2, fun hne k hk => hd k (h3 hne k hk)⟩⟩
theorem RowsV.snoc {D : Nat → Prop} {H : Array Obj} {hs : List Hd} {L : List (List UInt8)} (h : RowsV D H hs L) {x : Hd} {xs : List UInt8} (h1 : x.n = xs.length) (h2 : Vw b8 H x.a x.c xs) (h3 : xs ≠ [] → ∀ k, blk x.a k → D k) : RowsV D H (hs ++ [x]) (L ++ [xs]) := by
  refine ⟨by simp [h.1], fun i y ys hy hys => ?_⟩
  by_cases hi : i < hs.length
  · rw [List.getElem?_append_left hi] at hy
    rw [List.getElem?_append_left (by rw [← h.1]; exact hi)] at hys
    exact h.2 i y ys hy hys
  · have hi' : i = hs.length := by
      have := (List.getElem?_eq_some_iff.1 hy).1; simp at this; omega
    subst hi'
    simp at hy
    rw [h.1] at hys; simp at hys
    subst hy; subst hys
    exact ⟨h1, h2, h3⟩
theorem RowsV.at {D : Nat → Prop} {H : Array Obj} {hs : List Hd} {L : List (List UInt8)} (h : RowsV D H hs L) {i : Nat} (hi : i < L.length) :
    ∃ x : Hd, hs[i]? = some x ∧ x.n = (L.getD i []).length ∧ Vw b8 H x.a x.c (L.getD i []) ∧ (L.getD i [] ≠ [] → ∀ k, blk x.a k → D k) := by
  have hi2 : i < hs.length := by rw [h.1]; exact hi
  refine ⟨hs[i], List.getElem?_eq_getElem hi2, ?_⟩
  have := h.2 i hs[i] L[i] (List.getElem?_eq_getElem hi2) (List.getElem?_eq_getElem hi)
  simpa [List.getD, hi] using this

theorem fr_at (n : Nat) : Fr n (some (⟨n, 0, none⟩ : Addr)) := fun a ha => by cases ha; exact Nat.le_refl _
theorem fr_next {B n : Nat} {ao bo : Option Addr} (h : Fr B ao) (hr : ∀ a, bo = some a → ao = some a ∨ n ≤ a.block) (hn : B ≤ n) : Fr B bo := fun a ha => by
  rcases hr a ha with h1 | h1
  · exact h a h1
  · omega

theorem Foot.fresh {S : Nat → Prop} {w w' : World} (h : Foot S w w') (hs : ∀ k, S k → w.heap.size ≤ k) : Foot nob w w' :=
  ⟨h.os, h.tape, h.output, h.size, fun k hk _ => h.same k hk (fun h' => by have := hs k h'; omega)⟩
theorem Foot.any {S : Nat → Prop} {w w' : World} (h : Foot nob w w') : Foot S w w' := h.mono (fun _ h => h.elim)
theorem hf_lt {D : Nat → Prop} {S : Nat → Prop} {w w' : World} (h : Foot S w w') (hD : ∀ k, w.heap.size ≤ k → D k) : ∀ k, w'.heap.size ≤ k → D k := fun k hk => hD k (Nat.le_trans h.size hk)
end Go.Proofs.Ytpamandneifemaa
