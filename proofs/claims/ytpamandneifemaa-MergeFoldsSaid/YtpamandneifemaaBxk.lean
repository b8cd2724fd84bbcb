/- What a round of a range keeps; a slice in a box that grows. No condition. -/
import Derived.Test.YtpamandneifemaaRfk
namespace Go.Proofs.Ytpamandneifemaa
open Go Go.RowKit
set_option linter.unusedVariables false

theorem grown_foot {W W' : World} {row : Option Nat} (h : W.grownBy W' row) : Foot (fun k => some k = row) W W' := ⟨h.os, h.tape, h.output, h.size, fun k hk hn => h.block k hk hn⟩
theorem foot_below {S : Nat → Prop} {W w : World} {B : Nat} (h : Foot S W w) (hs : ∀ k, S k → B ≤ k) (hB : B ≤ W.heap.size) : Below B W w := ⟨h.os, h.tape, h.output, h.size, fun k hk => h.same k (by omega) (fun h' => by have := hs k h'; omega)⟩
theorem keeps_of {B : Nat} {S : Nat → Prop} {W w : World} (h : Foot S W w) (hs : ∀ k, S k → k < W.heap.size → ∃ cur T fr, W.heap[k]? = some (.cells cur T fr)) : KeepsFrom B W w :=
  ⟨h.size, fun k o _ hk ho => (h.same k (Array.getElem?_eq_some_iff.1 hk).1 (fun hS => by
    obtain ⟨cur, T, fr, e⟩ := hs k hS (Array.getElem?_eq_some_iff.1 hk).1
    rw [hk] at e; cases e; cases ho)).trans hk⟩
theorem OwnM.cells {α : Type} {k : Nat} {enc : α → List Value} {e : TypeId} {H : Array Obj} {ao : Option Addr} {cap : Nat} {xs : List α} (h : OwnM k enc e H ao cap xs) {a : Addr} (ha : ao = some a) : ∃ cur, H[a.block]? = some (.cells cur e (0, 0)) := by
  rcases h with ⟨rfl, _⟩ | ⟨g, cur, rfl, hg, _⟩
  · cases ha
  · cases ha; exact ⟨_, hg⟩
theorem Own.cells {α : Type} {enc : α → Value} {e : TypeId} {H : Array Obj} {ao : Option Addr} {cap : Nat} {xs : List α} (h : Own enc e H ao cap xs) {a : Addr} (ha : ao = some a) : ∃ cur, H[a.block]? = some (.cells cur e (0, 0)) := by
  rcases h with ⟨rfl, _⟩ | ⟨g, cur, rfl, hg, _⟩
  · cases ha
  · cases ha; exact ⟨_, hg⟩
/-- structs, gathered in a box -/
def BxI {α β : Type} (k : Nat) (enc : β → List Value) (e T : TypeId) (bx : Nat) (w0 : World) (f : α → β) (pre : List α) (w : World) : Prop :=
  ∃ oo oc, w.heap[bx]? = some (.cells [Value.slice oo pre.length oc].toArray T (0, 0)) ∧ OwnM k enc e w.heap oo oc (pre.map f) ∧ Fr w0.heap.size oo ∧ Foot (· = bx) w0 w
theorem BxI.own {α β : Type} {k : Nat} {enc : β → List Value} {e T : TypeId} {bx : Nat} {w0 : World} {f : α → β} : OwnFrom w0.heap.size (BxI (α := α) k enc e T bx w0 f) := fun pre W W' row ⟨oo, oc, h1, h2, h3, h4⟩ hg hr => by
  have g := grown_foot hg
  refine ⟨oo, oc, g.obj h1 (fun e => ?_), h2.keep g (fun a ha e => ?_), h3, h4.trans_to g (fun k e => .inr (hr k e.symm).1)⟩
  · obtain ⟨_, o, ho, hc⟩ := hr bx e.symm
    rw [h1] at ho; cases ho; cases hc
  · obtain ⟨_, o, ho, hc⟩ := hr a.block e.symm
    obtain ⟨cur, hcur⟩ := h2.cells ha
    rw [hcur] at ho; cases ho; cases hc
/-- bytes, gathered in a box -/
def BbI {α : Type} (e T : TypeId) (bx : Nat) (w0 : World) (f : List α → List UInt8) (pre : List α) (w : World) : Prop :=
  ∃ oo oc, w.heap[bx]? = some (.cells [Value.slice oo (f pre).length oc].toArray T (0, 0)) ∧ Own b8 e w.heap oo oc (f pre) ∧ Fr w0.heap.size oo ∧ Foot (· = bx) w0 w
theorem BbI.own {α : Type} {e T : TypeId} {bx : Nat} {w0 : World} {f : List α → List UInt8} : OwnFrom w0.heap.size (BbI (α := α) e T bx w0 f) := fun pre W W' row ⟨oo, oc, h1, h2, h3, h4⟩ hg hr => by
  have g := grown_foot hg
  refine ⟨oo, oc, g.obj h1 (fun e => ?_), h2.keep g (fun a ha e => ?_), h3, h4.trans_to g (fun k e => .inr (hr k e.symm).1)⟩
  · obtain ⟨_, o, ho, hc⟩ := hr bx e.symm
    rw [h1] at ho; cases ho; cases hc
  · obtain ⟨_, o, ho, hc⟩ := hr a.block e.symm
    obtain ⟨cur, hcur⟩ := h2.cells ha
    rw [hcur] at ho; cases ho; cases hc
end Go.Proofs.Ytpamandneifemaa
