/- More of the calculus: a result that stands in a cell. No condition. -/
import Derived.Test.YtpamandneifemaaGenk
namespace Go.Proofs.Ytpamandneifemaa
open Go Go.RowKit
set_option linter.unusedVariables false

section
variable {P : Program} {N : Nat} {l : SF} {w : World} {fn : Func} {R : Ending → World → Prop}
theorem run_loadVar {t : TypeId} {cs : List Value} {ad : Addr} (ht : aggB P t cs.length = true) (hc : ∀ j v, cs[j]? = some v → cellH w.heap (ad.add j) = some v) : (loadVar t ad).run P w = .ok (.agg cs.toArray) w := by
  have hl := run_loadCells_list (P := P) w ad cs hc
  simp only [Sem.run_bind, loadVar, aggB_isAgg ht w, aggB_size ht w, Result.andThen_ok, Sem.run_pure, if_true, hl]
/-- two results: a struct in a cell, a value -/
theorem At.retC {a u : Nat} {t : TypeId} {x : Value} {cs : List Value} {ad : Addr} (hr : fn.results = #[.cell a t, .tmp u]) (ht : aggB P t cs.length = true) (ha : lk l a = some (.pointer (some ad))) (hx : lk l u = some x)
    (hc : ∀ j v, cs[j]? = some v → cellH w.heap (ad.add j) = some v) (h : R (.returned (.tuple #[.agg cs.toArray, x])) w) :
    At ⟨N, []⟩ .ret (bodyPost P fn R) l w := fun act ha' => by
  refine ⟨ha'.dfr, _, ?_, h⟩
  have h1 := ha'.has a _ ha
  have h2 := ha'.has u _ hx
  have h3 := run_loadVar (P := P) (w := w) ht hc
  simp [results, hr, h1, h2, asAddr, h3, Result.andThen]
/-- a slice into an array: the array's address -/
theorem Cm.arrPtr {Q : Program} {N : Nt} {l : SF} {ty : TypeId} {pos : String} {aft : Array Edge} {CH : Array Obj → Prop} {x : Operand} {t e : TypeId} {g : Option (Nat × Bool)} {dd : Option Nat} {n : Nat}
    {ao : Option Addr} {c i len cap : Nat} (ht : Q.underlying t = some (.array n e)) (hx : evL l x = some (.slice (cutAo ao c i 1) len cap)) (hn : ao ≠ none) (hl : n ≤ len) (hi : i < c) :
    Cm Q N CH l ⟨dd, .sliceToArrayPointer t x, ty, pos, aft, g⟩ (.pointer (some (adr ao i))) := fun a w ha _ => by
  obtain ⟨a0, rfl⟩ := Option.ne_none_iff_exists'.1 hn
  have e1 : cutAo (some a0) c i 1 = some (adr (some a0) i) := by unfold cutAo; rw [if_neg (by omega)]; simp [adr]
  rw [e1] at hx
  simp only [execOp, ha.ev hx, Instr.arrayAt, Sem.run_bind, run_underlying ht, Result.andThen_ok]
  rw [if_neg (by omega)]
  simp
end
theorem wrap_byteN {x : Int} (h : 0 ≤ x) : IntKind.u8.wrap x = ((UInt8.ofNat x.toNat).toNat : Int) := by
  have h1 : IntKind.u8.wrap x = x % 256 := by
    show IntKind.wrap .u8 x = _
    simp [IntKind.wrap, IntKind.signed, IntKind.bits]
  rw [h1, UInt8.toNat_ofNat']
  omega
theorem Own.obj {α : Type} {enc : α → Value} {e : TypeId} {H : Array Obj} {g c : Nat} {xs : List α} (h : Own enc e H (some ⟨g, 0, none⟩) c xs) : ∃ cur, H[g]? = some (.cells cur e (0, 0)) := by
  rcases h with ⟨h, _⟩ | ⟨g', cur, h1, h2, _⟩
  · cases h
  · cases h1; exact ⟨cur, h2⟩

theorem wf_i64 {z : Int} (h : (Lit.int .i64 z).wf = true) : -9223372036854775808 ≤ z ∧ z ≤ 9223372036854775807 := by
  have h1 : IntKind.i64.min = -9223372036854775808 := rfl
  have h2 : IntKind.i64.max = 9223372036854775807 := rfl
  simp only [Lit.wf, h1, h2, Bool.and_eq_true, decide_eq_true_eq] at h
  exact h
theorem wf_u8 {z : Int} (h : (Lit.int .u8 z).wf = true) : 0 ≤ z ∧ z ≤ 255 := by
  have h1 : IntKind.u8.min = 0 := rfl
  have h2 : IntKind.u8.max = 255 := rfl
  simp only [Lit.wf, h1, h2, Bool.and_eq_true, decide_eq_true_eq] at h
  exact h
/-- bytes and an error, as they are handed back -/
def PutP (W : World) (r : List UInt8 × Int) : Value → World → Prop := fun v w' => ∃ ao c, v = .tuple #[.slice ao r.1.length c, .int .i64 r.2] ∧ Own b8 5 w'.heap ao c r.1 ∧ Fr W.heap.size ao ∧ Foot nob W w'
/-- the same, told apart -/
def PutE (W : World) (x : List UInt8) (e : Int) : Value → World → Prop := fun v w' => ∃ ao c, v = .tuple #[.slice ao x.length c, .int .i64 e] ∧ Own b8 5 w'.heap ao c x ∧ Fr W.heap.size ao ∧ Foot nob W w'
end Go.Proofs.Ytpamandneifemaa
