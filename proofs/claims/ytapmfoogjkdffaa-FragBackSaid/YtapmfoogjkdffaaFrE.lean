/- frag: the document's example, and the law FragPacks walked. No condition. -/
import Derived.Test.YtapmfoogjkdffaaFrD
namespace Go.Proofs.Ytapmfoogjkdffaa
open Go Go.RowKit
set_option linter.unusedVariables false

theorem add_okE {D : Nat → Prop} {p : Nat} {L : List (List UInt8)} {to : Option Addr} {tc : Nat} {t : List UInt8} {W : World} {n : Nat} {L' : List (List UInt8)} {a b : Nat} (e : addL L t = (L', a, b)) (hn : n = t.length) (hP : PackR D W.heap p L) (hD : ∀ k, D k → k < W.heap.size)
    (hv : Vw b8 W.heap to tc t) (hvD : t ≠ [] → ∀ a, to = some a → ¬ D a.block) (hb1 : L.flatten.length ≤ 1099511627776) (hb2 : L.length ≤ 1099511627776) :
    Calls Try.prog 17 [.pointer (some ⟨p, 0, none⟩), .slice to n tc].toArray W
      (Ret fun v w' => v = .tuple #[inN a, inN b] ∧ AddPost D W p L' w') := by
  subst hn
  have := add_ok D p L to tc t W hP hD hv hvD hb1 hb2
  rw [e] at this
  exact this

theorem sh1 : addL [] (List.replicate 100 0) = ([List.replicate 100 0], 1, 0) := by decide +kernel
theorem sh2 : addL [List.replicate 100 0] (List.replicate 28 0) = ([List.replicate 128 0], 1, 100) := by decide +kernel
theorem sh3 : addL [List.replicate 128 0] (List.replicate 1 0) = ([List.replicate 128 0, List.replicate 1 0], 2, 0) := by decide +kernel

theorem not_old {B : Nat} {D : Nat → Prop} (hD : ∀ k, D k → k < B) : ∀ a, some (⟨B, 0, none⟩ : Addr) = some a → ¬ D a.block := fun a ha h => by cases ha; have := hD _ h; exact absurd this (Nat.lt_irrefl _)

set_option maxHeartbeats 1000000 in
theorem shown13_ok (W : World) : Calls Try.prog 14 [].toArray W (Ret fun v w' => v = .bool true ∧ Foot nob W w') := by
  refine calls_of_sc 51 [] Try.func14 rfl rfl rfl (enter_slots trivial) ?_
  refine Sc.seq ?_
  refine Sc.region ?_
  refine Sl.calm (Cm.assign rfl) rfl ?_
  refine Sl.nil ?_
  refine At.go ?_
  refine Sc.seq ?_
  refine Sc.region ?_
  refine Sl.call fn16 rfl (new_ok W) rfl ?_
  rintro _ w1 ⟨rfl, hP1, hf1, hs1⟩
  refine Sl.calm (Cm.assign rfl) rfl ?_
  refine Sl.nil ?_
  refine At.weak [(0, _), (1, _)] ⟨rfl, rfl, trivial⟩ ?_
  refine At.go ?_
  refine Sc.seq ?_
  refine Sc.seq ?_
  refine Sc.region ?_
  refine Sl.calm (Cm.move rfl) rfl ?_
  refine Sl.calm (Cm.eqlPtrNil ptr25 rfl rfl) rfl ?_
  refine Sl.nil ?_
  refine At.weak [(0, _), (1, _), (10, _)] ⟨rfl, rfl, rfl, trivial⟩ ?_
  refine At.go ?_
  refine Sc.cond_f rfl ?_
  refine Sc.skip ?_
  refine At.go ?_
  refine Sc.seq ?_
  refine Sc.region ?_
  refine Sl.calm (Cm.move rfl) rfl ?_
  refine Sl.make b8 (0 : UInt8) sl30 z5 rfl rfl rfl (by decide) (by decide) (by decide) (by decide) rfl ?_
  intro w2 ho2 hs2 hf2
  have hD2 : ∀ k, k = W.heap.size → k < w1.heap.size := fun k h => by omega
  have hP2 := hP1.keep hf2 (fun _ _ h => h)
  refine Sl.call fn17 rfl (add_okE sh1 (by rfl) hP2 (fun k h => by have := hf2.size; have := hD2 k h; omega) ho2.vw (fun _ => not_old hD2) (by decide) (by decide)) rfl ?_
  rintro _ w3 ⟨rfl, D3, hP3, hD3, hD3s, hF3⟩
  have hF03 : Foot nob W w3 := (hf1.trans hf2).trans_to hF3 (fun k h => .inr (by omega))
  refine Sl.calm (Cm.move rfl) rfl ?_
  refine Sl.calm (Cm.extract rfl rfl) rfl ?_
  refine Sl.calm (Cm.extract rfl rfl) rfl ?_
  refine Sl.calm (Cm.assign rfl) rfl ?_
  refine Sl.calm (Cm.assign rfl) rfl ?_
  refine Sl.nil ?_
  refine At.weak [(0, _), (1, _), (2, _), (3, _), (10, _)] ⟨rfl, rfl, rfl, rfl, rfl, trivial⟩ ?_
  refine At.go ?_
  refine Sc.seq ?_
  refine Sc.region ?_
  refine Sl.calm (Cm.move rfl) rfl ?_
  refine Sl.make b8 (0 : UInt8) sl30 z5 rfl rfl rfl (by decide) (by decide) (by decide) (by decide) rfl ?_
  intro w4 ho4 hs4 hf4
  have hP4 := hP3.keep hf4 (fun _ _ h => h)
  have hn4 := not_old hD3s
  refine Sl.call fn17 rfl (add_okE sh2 (by rfl) hP4 (fun k h => by have := hf4.size; have := hD3s k h; omega) ho4.vw (fun _ => hn4) (by simp) (by simp)) rfl ?_
  rintro _ w5 ⟨rfl, D5, hP5, hD5, hD5s, hF5⟩
  have h3 : ∀ k, D3 k → W.heap.size ≤ k := fun k h => by rcases hD3 k h with h | h; omega; have := hf1.size; have := hf2.size; omega
  have hF05 : Foot nob W w5 := (hF03.trans hf4).trans_to hF5 (fun k h => .inr (h3 k h))
  refine Sl.calm (Cm.move rfl) rfl ?_
  refine Sl.calm (Cm.extract rfl rfl) rfl ?_
  refine Sl.calm (Cm.extract rfl rfl) rfl ?_
  refine Sl.calm (Cm.assign rfl) rfl ?_
  refine Sl.calm (Cm.assign rfl) rfl ?_
  refine Sl.nil ?_
  refine At.weak [(0, _), (1, _), (2, _), (3, _), (4, _), (5, _), (10, _)] ⟨rfl, rfl, rfl, rfl, rfl, rfl, rfl, trivial⟩ ?_
  refine At.go ?_
  refine Sc.seq ?_
  refine Sc.region ?_
  refine Sl.calm (Cm.move rfl) rfl ?_
  refine Sl.make b8 (0 : UInt8) sl30 z5 rfl rfl rfl (by decide) (by decide) (by decide) (by decide) rfl ?_
  intro w6 ho6 hs6 hf6
  have hP6 := hP5.keep hf6 (fun _ _ h => h)
  have hn6 := not_old hD5s
  refine Sl.call fn17 rfl (add_okE sh3 (by rfl) hP6 (fun k h => by have := hf6.size; have := hD5s k h; omega) ho6.vw (fun _ => hn6) (by simp) (by simp)) rfl ?_
  rintro _ w7 ⟨rfl, D7, hP7, hD7, hD7s, hF7⟩
  have h5 : ∀ k, D5 k → W.heap.size ≤ k := fun k h => by rcases hD5 k h with h | h; exact h3 k h; have := hF03.size; have := hf4.size; omega
  have hF07 : Foot nob W w7 := (hF05.trans hf6).trans_to hF7 (fun k h => .inr (h5 k h))
  refine Sl.calm (Cm.move rfl) rfl ?_
  refine Sl.calm (Cm.extract rfl rfl) rfl ?_
  refine Sl.calm (Cm.extract rfl rfl) rfl ?_
  refine Sl.calm (Cm.assign rfl) rfl ?_
  refine Sl.calm (Cm.assign rfl) rfl ?_
  refine Sl.nil ?_
  refine At.weak [(0, _), (1, _), (2, _), (3, _), (4, _), (5, _), (6, _), (7, _), (10, _)] ⟨rfl, rfl, rfl, rfl, rfl, rfl, rfl, rfl, rfl, trivial⟩ ?_
  refine At.go ?_
  refine Sc.seq ?_
  refine Sc.region ?_
  refine Sl.calm (Cm.move rfl) rfl ?_
  refine Sl.calm (Cm.yes (Cm.eql rfl rfl) (by decide)) rfl ?_
  refine Sl.calm (Cm.move rfl) rfl ?_
  refine Sl.want rfl rfl (Cm.move rfl) rfl ?_
  refine Sl.want rfl rfl (Cm.yes (Cm.eql rfl rfl) (by decide)) rfl ?_
  refine Sl.calm (Cm.pick_t rfl rfl) rfl ?_
  refine Sl.calm (Cm.move rfl) rfl ?_
  refine Sl.want rfl rfl (Cm.move rfl) rfl ?_
  refine Sl.want rfl rfl (Cm.yes (Cm.eql rfl rfl) (by decide)) rfl ?_
  refine Sl.calm (Cm.pick_t rfl rfl) rfl ?_
  refine Sl.calm (Cm.move rfl) rfl ?_
  refine Sl.want rfl rfl (Cm.move rfl) rfl ?_
  refine Sl.want rfl rfl (Cm.yes (Cm.eql rfl rfl) (by decide)) rfl ?_
  refine Sl.calm (Cm.pick_t rfl rfl) rfl ?_
  refine Sl.calm (Cm.move rfl) rfl ?_
  refine Sl.want rfl rfl (Cm.move rfl) rfl ?_
  refine Sl.want rfl rfl (Cm.yes (Cm.eql rfl rfl) (by decide)) rfl ?_
  refine Sl.calm (Cm.pick_t rfl rfl) rfl ?_
  refine Sl.calm (Cm.move rfl) rfl ?_
  refine Sl.want rfl rfl (Cm.move rfl) rfl ?_
  refine Sl.want rfl rfl (Cm.yes (Cm.eql rfl rfl) (by decide)) rfl ?_
  refine Sl.calm (Cm.pick_t rfl rfl) rfl ?_
  refine Sl.calm (Cm.assign rfl) rfl ?_
  refine Sl.nil ?_
  refine At.weak [(0, _), (1, _), (2, _), (3, _), (4, _), (5, _), (6, _), (7, _), (10, _)] ⟨rfl, rfl, rfl, rfl, rfl, rfl, rfl, rfl, rfl, trivial⟩ ?_
  refine At.go ?_
  refine Sc.ret ?_
  refine At.ret1 rfl rfl ?_
  exact ⟨_, rfl, rfl, hF07⟩
end Go.Proofs.Ytapmfoogjkdffaa
