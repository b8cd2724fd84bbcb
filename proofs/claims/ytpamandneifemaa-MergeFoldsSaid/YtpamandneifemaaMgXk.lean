/- merge: the examples, in plain Lean. No condition. -/
import Derived.Test.YtpamandneifemaaMgPk
namespace Go.Proofs.Ytpamandneifemaa
open Go Go.RowKit Go.Maps
set_option linter.unusedVariables false

def nA (h : Hd) (L : List (List UInt8)) (k i : Int) (o : Bool) : NdH × Nd := (⟨h, hd0, hd0⟩, { nd0 with names := L, kind := k, ino := i, opq := o })
def nB (L : List (List UInt8)) (k i : Int) : Nd := { nd0 with names := L, kind := k, ino := i }
def r9 : NdH × Nd := (ndh0, { nd0 with ino := 9, kind := 1 })
theorem see_canon {Ls : Lys} (hg : GdA Ls) {ns : List (List (List UInt8))} (hs : ns.Pairwise (fun a b => lessN a b = true)) (hal : (Ls.all fun ps => ps.all fun p => decide (p.2.names ∈ ns)) = true) : canP (visL Ls) = numP (ns.filterMap (seeF Ls)) := by
  have hall : ∀ ps ∈ Ls, ∀ p ∈ ps, p.2.names ∈ ns := fun ps h1 p h2 => of_decide_eq_true (List.all_eq_true.1 (List.all_eq_true.1 hal ps h1) p h2)
  unfold canP
  rw [see_list hg hs (fun i p hi hp => hall (lyA Ls i) (by unfold lyA; rw [List.getD, List.getElem?_eq_getElem hi]; exact List.getElem_mem hi) p hp)]
theorem gdA2 {a b : List (NdH × Nd)} (ha : GdL a) (hb : GdL b) : GdA [a, b] := fun ps h => by
  rcases List.mem_cons.1 h with rfl | h
  · exact ha
  · rw [List.mem_singleton] at h; subst h; exact hb
theorem gdW (h : Hd) : GdL [r9, nA h [[97]] 4 1 false] := ⟨by show nmd [_, { nd0 with names := [[97]], kind := 4, ino := 1 }] = 0; decide +kernel, by simp [r9, nA, okN, nd0], by show _ ≤ 1024; simp⟩
theorem gdF (h g : Hd) : GdL [r9, nA h [[97]] 2 1 false, nA g [[98]] 2 5 false] := ⟨by show nmd [_, { nd0 with names := [[97]], kind := 2, ino := 1 }, { nd0 with names := [[98]], kind := 2, ino := 5 }] = 0; decide +kernel, by simp [r9, nA, okN, nd0], by show _ ≤ 1024; simp⟩
theorem gdD (h : Hd) (o : Bool) : GdL [r9, nA h [[100]] 1 1 o] := ⟨by show nmd [_, { nd0 with names := [[100]], kind := 1, ino := 1, opq := o }] = 0; cases o <;> decide +kernel, by simp [r9, nA, okN, nd0], by show _ ≤ 1024; simp⟩
theorem gdL (h g : Hd) : GdL [r9, nA h [[100]] 1 1 false, nA g [[100], [102]] 2 2 false] := ⟨by show nmd [_, { nd0 with names := [[100]], kind := 1, ino := 1 }, { nd0 with names := [[100], [102]], kind := 2, ino := 2 }] = 0; decide +kernel, by simp [r9, nA, okN, nd0], by show _ ≤ 1024; simp⟩
theorem exX (a b c : Hd) : nds (canP (visL [[r9, nA a [[97]] 4 1 false], [r9, nA b [[97]] 2 1 false, nA c [[98]] 2 5 false]])) = [nB [] 1 1, nB [[98]] 2 2] := by
  rw [see_canon (ns := [[], [[97]], [[98]]]) (gdA2 (gdW a) (gdF b c)) (by decide +kernel) (by kernel_rfl)]
  kernel_rfl
theorem exY (a b c : Hd) : nds (canP (visL [[r9, nA a [[100]] 1 1 false], [r9, nA b [[100]] 1 1 false, nA c [[100], [102]] 2 2 false]])) = [nB [] 1 1, nB [[100]] 1 2, nB [[100], [102]] 2 3] := by
  rw [see_canon (ns := [[], [[100]], [[100], [102]]]) (gdA2 (gdD a false) (gdL b c)) (by decide +kernel) (by kernel_rfl)]
  kernel_rfl
theorem exZ (a b c : Hd) : nds (canP (visL [[r9, nA a [[100]] 1 1 true], [r9, nA b [[100]] 1 1 false, nA c [[100], [102]] 2 2 false]])) = [nB [] 1 1, nB [[100]] 1 2] := by
  rw [see_canon (ns := [[], [[100]], [[100], [102]]]) (gdA2 (gdD a true) (gdL b c)) (by decide +kernel) (by kernel_rfl)]
  kernel_rfl
end Go.Proofs.Ytpamandneifemaa
