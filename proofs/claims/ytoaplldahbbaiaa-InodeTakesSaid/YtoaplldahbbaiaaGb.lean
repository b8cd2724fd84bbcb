/- More of the calculus: a result that stands in a cell. No condition. -/
import Derived.Test.YtoaplldahbbaiaaGen
namespace Go.Proofs.Ytoaplldahbbaiaa
open Go Go.RowKit
set_option linter.unusedVariables false

section
variable {P : Program} {N : Nat} {l : SF} {w : World} {fn : Func} {R : Ending → World → Prop}
theorem run_loadVar {t : TypeId} {cs : List Value} {ad : Addr} (ht : aggB P t cs.length = true) (hc : ∀ j v, cs[j]? = some v → cellH w.heap (ad.add j) = some v) : (loadVar t ad).run P w = .ok (.agg cs.toArray) w := by
  have hl := run_loadCells_list (P := P) w ad cs hc
  simp only [Sem.run_bind, loadVar, aggB_isAgg ht w, aggB_size ht w, Result.andThen_ok, Sem.run_pure, if_true, hl]
/-- two results: a struct in a cell, a value -/
theorem At.retC {a u : Nat} {t : TypeId} {x : Value} {cs : List Value} {ad : Addr} (hr : fn.results = #[.cell a t, .tmp u]) (ht : aggB P t cs.length = true) (ha : lk l a = some (.pointer (some ad))) (hx : lk l u = some x)
    (hc : ∀ j v, cs[j]? = some v → cellH w.heap (ad.add j) = some v) (h : R (.returned (.tuple #[.agg cs.toArray, x])) w) :
    At N .ret (bodyPost P fn R) l w := fun act ha' => by
  refine ⟨ha'.dfr, _, ?_, h⟩
  have h1 := ha'.has a _ ha
  have h2 := ha'.has u _ hx
  have h3 := run_loadVar (P := P) (w := w) ht hc
  simp [results, hr, h1, h2, asAddr, h3, Result.andThen]
end
end Go.Proofs.Ytoaplldahbbaiaa
