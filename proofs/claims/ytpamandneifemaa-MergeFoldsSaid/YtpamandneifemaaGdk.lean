/- More of the calculus: three results, the first in a cell. No condition. -/
import Derived.Test.YtpamandneifemaaGbk
namespace Go.Proofs.Ytpamandneifemaa
open Go Go.RowKit
set_option linter.unusedVariables false
section
variable {P : Program} {N : Nat} {l : SF} {w : World} {fn : Func} {R : Ending → World → Prop}
/-- three results: a struct in a cell, two values -/
theorem At.retC3 {a u u2 : Nat} {t : TypeId} {x y : Value} {cs : List Value} {ad : Addr} (hr : fn.results = #[.cell a t, .tmp u, .tmp u2]) (ht : aggB P t cs.length = true) (ha : lk l a = some (.pointer (some ad))) (hx : lk l u = some x) (hy : lk l u2 = some y)
    (hc : ∀ j v, cs[j]? = some v → cellH w.heap (ad.add j) = some v) (h : R (.returned (.tuple #[.agg cs.toArray, x, y])) w) :
    At ⟨N, []⟩ .ret (bodyPost P fn R) l w := fun act ha' => by
  refine ⟨ha'.dfr, _, ?_, h⟩
  have h1 := ha'.has a _ ha
  have h2 := ha'.has u _ hx
  have h4 := ha'.has u2 _ hy
  have h3 := run_loadVar (P := P) (w := w) ht hc
  simp [results, hr, h1, h2, h4, asAddr, h3, Result.andThen]
end
section
variable {P : Program} {N : Nt} {Q : Exit → Act → World → Prop} {l : SF} {w : World} {ops : Array Oper} {rest : List Oper} {d : Nat} {ty t : TypeId} {pos : String} {aft : Array Edge}
/-- an empty slice of structs -/
theorem Sl.lit0M {α : Type} {k : Nat} {enc : α → List Value} (hk : CellsM k enc) {e : TypeId} {bytes : Nat} (ht : SliceT P t e k bytes) (hd : Nat.blt d N.n = true)
    (h : ∀ w', OwnM k enc e w'.heap (some ⟨w.heap.size, 0, none⟩) 0 ([] : List α) → w'.heap.size = w.heap.size + 1 → Foot nob w w' → Sl P N ops Q rest ((d, .slice (some ⟨w.heap.size, 0, none⟩) 0 0) :: l) w') :
    Sl P N ops Q (⟨some d, .buildSlice t 0 #[], ty, pos, aft, none⟩ :: rest) l w := by
  refine Sl.eff (w' := w.alloc (.cells #[] e)) (fun a ha => ?_) hd (h _ (ownM_new (xs := []) hk (heap_alloc_new w _) (Nat.zero_le _)) (by simp) (Foot.alloc _ _ _))
  simp [execOp, Instr.buildSlice, run_underlying ht.und, ht.size, Instr.fill, newRow]
  rw [range_set0]
end
end Go.Proofs.Ytpamandneifemaa
