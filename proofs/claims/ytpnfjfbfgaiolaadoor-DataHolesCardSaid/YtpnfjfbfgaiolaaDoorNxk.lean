/- The blocks that a call may have made its own. No condition. -/
import Derived.Test.YtpnfjfbfgaiolaaDoorGenk
namespace Go.Proofs.YtpnfjfbfgaiolaaDoor
open Go Go.RowKit
set_option linter.unusedVariables false

/-- the blocks that a call may have made its own -/
def Nx (A : Nat → Prop) (W w' : World) : Nat → Prop := fun k => A k ∨ (W.heap.size ≤ k ∧ k < w'.heap.size)
theorem Foot.nx {A : Nat → Prop} {W w' : World} (h : Foot (fun k => A k ∨ W.heap.size ≤ k) W w') : Foot A W w' :=
  ⟨h.os, h.tape, h.output, h.size, fun k hk hn => h.same k hk (fun h' => h'.elim hn (fun h2 => by omega))⟩
end Go.Proofs.YtpnfjfbfgaiolaaDoor
