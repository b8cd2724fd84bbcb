/- Nodes in memory. No condition. -/
import Derived.Test.YtpamandneifemaaXak
namespace Go.Proofs.Ytpamandneifemaa
open Go Go.RowKit
set_option linter.unusedVariables false

/-- a node, as it is told -/
structure Nd where
  names : List (List UInt8)
  ino : Int
  kind : Int
  md : Int
  ud : Int
  gd : Int
  data : List UInt8
  tgt : List UInt8
  xs : List Xa
  opq : Bool
/-- where a node's rows lie -/
structure NdH where
  names : Hd
  data : Hd
  xs : Hd
def hd0 : Hd := ⟨none, 0, 0⟩
def nd0 : Nd := ⟨[], 0, 0, 0, 0, 0, [], [], [], false⟩
def ndh0 : NdH := ⟨hd0, hd0, hd0⟩
def encN (p : NdH × Nd) : List Value := [hd p.1.names, .int .i64 p.2.ino, .int .i64 p.2.kind, .int .i64 p.2.md, .int .i64 p.2.ud, .int .i64 p.2.gd, hd p.1.data, .string (bs p.2.tgt), hd p.1.xs, .bool p.2.opq]
theorem encN_cells : CellsM 10 encN := fun p => ⟨rfl, by
  intro v hv
  simp only [encN, List.mem_cons, List.not_mem_nil, or_false] at hv
  rcases hv with rfl | rfl | rfl | rfl | rfl | rfl | rfl | rfl | rfl | rfl <;> rfl⟩
def strE (s : List UInt8) : Value := .string (bs s)
theorem strE_one : ∀ s, (strE s).oneCell' = true := fun _ => rfl
section
variable {D D' : Nat → Prop} {H : Array Obj}
def NmV (D : Nat → Prop) (H : Array Obj) (h : Hd) (l : List (List UInt8)) : Prop := h.n = l.length ∧ Vw strE H h.a h.c l ∧ (l ≠ [] → ∀ k, blk h.a k → D k)
def ByV (D : Nat → Prop) (H : Array Obj) (h : Hd) (l : List UInt8) : Prop := h.n = l.length ∧ Vw b8 H h.a h.c l ∧ (l ≠ [] → ∀ k, blk h.a k → D k)
def XsV (D : Nat → Prop) (H : Array Obj) (h : Hd) (X : List Xa) : Prop :=
  h.n = X.length ∧ ∃ ys : List (List UInt8 × Hd), VwM 2 encX H h.a h.c ys ∧ ys.length = X.length ∧ (ys ≠ [] → ∀ k, blk h.a k → D k) ∧ ∀ (i : Nat) (x : List UInt8 × Hd) (y : Xa), ys[i]? = some x → X[i]? = some y → x.1 = y.1 ∧ ByV D H x.2 y.2
def NdV (D : Nat → Prop) (H : Array Obj) (p : NdH × Nd) : Prop := NmV D H p.1.names p.2.names ∧ ByV D H p.1.data p.2.data ∧ XsV D H p.1.xs p.2.xs
def NodesV (D : Nat → Prop) (H : Array Obj) (ao : Option Addr) (cap : Nat) (ps : List (NdH × Nd)) : Prop := VwM 10 encN H ao cap ps ∧ ∀ p ∈ ps, NdV D H p
theorem VwM.keep' {α : Type} {k : Nat} {enc : α → List Value} {ao : Option Addr} {cap : Nat} {xs : List α} {w w' : World} {S : Nat → Prop} (h : VwM k enc w.heap ao cap xs) (f : Foot S w w') (hs : xs ≠ [] → ∀ a, ao = some a → ¬ S a.block) : VwM k enc w'.heap ao cap xs := by
  by_cases hx : xs = []
  · subst hx; exact ⟨h.le, h.max, h.non, fun i x hx => by simp at hx⟩
  · exact h.keep f (hs hx)
theorem NmV.keep {S : Nat → Prop} {w w' : World} {h : Hd} {l : List (List UInt8)} (v : NmV D w.heap h l) (f : Foot S w w') (hS : ∀ k, D k → ¬ S k) : NmV D w'.heap h l :=
  ⟨v.1, v.2.1.keep' f (fun hne a ha => hS _ (v.2.2 hne _ ⟨a, ha, rfl⟩)), v.2.2⟩
theorem ByV.keep {S : Nat → Prop} {w w' : World} {h : Hd} {l : List UInt8} (v : ByV D w.heap h l) (f : Foot S w w') (hS : ∀ k, D k → ¬ S k) : ByV D w'.heap h l :=
  ⟨v.1, v.2.1.keep' f (fun hne a ha => hS _ (v.2.2 hne _ ⟨a, ha, rfl⟩)), v.2.2⟩
theorem XsV.keep {S : Nat → Prop} {w w' : World} {h : Hd} {X : List Xa} (v : XsV D w.heap h X) (f : Foot S w w') (hS : ∀ k, D k → ¬ S k) : XsV D w'.heap h X := by
  obtain ⟨h1, ys, h2, h3, h4, h5⟩ := v
  exact ⟨h1, ys, h2.keep' f (fun hne a ha => hS _ (h4 hne _ ⟨a, ha, rfl⟩)), h3, h4, fun i x y hx hy => ⟨(h5 i x y hx hy).1, (h5 i x y hx hy).2.keep f hS⟩⟩
theorem NdV.keep {S : Nat → Prop} {w w' : World} {p : NdH × Nd} (v : NdV D w.heap p) (f : Foot S w w') (hS : ∀ k, D k → ¬ S k) : NdV D w'.heap p := ⟨v.1.keep f hS, v.2.1.keep f hS, v.2.2.keep f hS⟩
theorem NdV.grow {w w' : World} {p : NdH × Nd} (v : NdV D w.heap p) (f : Foot nob w w') : NdV D w'.heap p := v.keep f (fun _ _ => id)
theorem NmV.mono {h : Hd} {l : List (List UInt8)} (v : NmV D H h l) (hd : ∀ k, D k → D' k) : NmV D' H h l := ⟨v.1, v.2.1, fun hne k hk => hd k (v.2.2 hne k hk)⟩
theorem ByV.mono {h : Hd} {l : List UInt8} (v : ByV D H h l) (hd : ∀ k, D k → D' k) : ByV D' H h l := ⟨v.1, v.2.1, fun hne k hk => hd k (v.2.2 hne k hk)⟩
theorem XsV.mono {h : Hd} {X : List Xa} (v : XsV D H h X) (hd : ∀ k, D k → D' k) : XsV D' H h X := by
  obtain ⟨h1, ys, h2, h3, h4, h5⟩ := v
  exact ⟨h1, ys, h2, h3, fun hne k hk => hd k (h4 hne k hk), fun i x y hx hy => ⟨(h5 i x y hx hy).1, (h5 i x y hx hy).2.mono hd⟩⟩
theorem NdV.mono {p : NdH × Nd} (v : NdV D H p) (hd : ∀ k, D k → D' k) : NdV D' H p := ⟨v.1.mono hd, v.2.1.mono hd, v.2.2.mono hd⟩
theorem NodesV.keep {S : Nat → Prop} {w w' : World} {ao : Option Addr} {cap : Nat} {ps : List (NdH × Nd)} (v : NodesV D w.heap ao cap ps) (f : Foot S w w') (hS : ∀ k, D k → ¬ S k) (ha : ps ≠ [] → ∀ a, ao = some a → ¬ S a.block) : NodesV D w'.heap ao cap ps :=
  ⟨v.1.keep' f ha, fun p hp => (v.2 p hp).keep f hS⟩
theorem NodesV.grow {w w' : World} {ao : Option Addr} {cap : Nat} {ps : List (NdH × Nd)} (v : NodesV D w.heap ao cap ps) (f : Foot nob w w') : NodesV D w'.heap ao cap ps := v.keep f (fun _ _ => id) (fun _ _ _ => id)
theorem XsV.xav {h : Hd} {X : List Xa} (v : XsV D H h X) (hl : ∀ x ∈ X, x.1.length ≤ maxLen) : XaV H h.a h.c X := by
  obtain ⟨h1, ys, h2, h3, h4, h5⟩ := v
  exact ⟨ys, h2, h3, fun i x y hx hy => ⟨(h5 i x y hx hy).1, (h5 i x y hx hy).2.1, (h5 i x y hx hy).2.2.1, hl y (List.mem_of_getElem? hy)⟩⟩
/-- numbers that Go's int holds; texts that memory holds -/
def okN (n : Nd) : Prop := ∀ z ∈ [n.ino, n.kind, n.md, n.ud, n.gd], -9223372036854775808 ≤ z ∧ z ≤ 9223372036854775807
def smN (n : Nd) : Prop := n.tgt.length ≤ maxLen ∧ (∀ s ∈ n.names, s.length ≤ maxLen) ∧ ∀ x ∈ n.xs, x.1.length ≤ maxLen
end
end Go.Proofs.Ytpamandneifemaa
