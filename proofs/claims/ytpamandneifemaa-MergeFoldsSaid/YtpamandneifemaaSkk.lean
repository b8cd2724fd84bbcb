/- Keys of maps: numbers, texts. No condition. -/
import Derived.Test.YtpamandneifemaaMpk
namespace Go.Proofs.Ytpamandneifemaa
open Go Go.RowKit
set_option linter.unusedVariables false

/-- the numbers of an int -/
abbrev I6 := { z : Int // -9223372036854775808 ≤ z ∧ z ≤ 9223372036854775807 }
def enI (z : I6) : Value := .int .i64 z.1
theorem keyI : KeyEnc Try.prog 3 enI := by
  refine ⟨Go.Maps.int_keyed ty3, fun a => ⟨.int .i64 a.1, ?_⟩, fun a b h => by unfold enI at h; exact Subtype.ext (by simpa using h)⟩
  have h1 : IntKind.i64.min = -9223372036854775808 := rfl
  have h2 : IntKind.i64.max = 9223372036854775807 := rfl
  have := a.2
  simp [keyOf, mapKey, enI, Lit.wf, h1, h2, this]

abbrev SK := {s : List UInt8 // s.length ≤ maxLen}
def enS (s : SK) : Value := .string (bs s.1)
theorem keyS : KeyEnc Try.prog 9 enS :=
  ⟨Maps.string_keyed (by kernel_rfl), fun a => ⟨.string a.1, by
    unfold keyOf
    rw [show Try.prog.underlying 9 = some .string by kernel_rfl]
    have h : a.1.length ≤ maxLen := a.2
    simp [mapKey, show Try.prog.underlying 9 = some .string by kernel_rfl, enS, bs, ByteArray.size, h]⟩, fun a b h => Subtype.ext (bs_inj (by simpa [enS] using h))⟩
def skOf (r : List UInt8) : SK := if h : r.length ≤ maxLen then ⟨r, h⟩ else ⟨[], by decide⟩
theorem skOf_eq {r : List UInt8} (h : r.length ≤ maxLen) : (skOf r).1 = r := by unfold skOf; rw [dif_pos h]
end Go.Proofs.Ytpamandneifemaa
