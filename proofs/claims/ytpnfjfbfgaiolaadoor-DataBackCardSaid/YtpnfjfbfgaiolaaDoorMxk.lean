/- A region that draws its order and holds two operations that write and wait for nothing of each other: both ways. No condition. -/
import Derived.Test.YtpnfjfbfgaiolaaDoorGenk
namespace Go.Proofs.YtpnfjfbfgaiolaaDoor
open Go Go.RowKit
set_option linter.unusedVariables false

section
variable {P : Program} {ops : Array Oper} {CH : Array Obj → Prop} {N : Nt} {n : Nat} {effs : List Nat} {K0 : Act → World → Prop} {Q : Exit → Act → World → Prop} {l : SF} {w : World}
/-- the step of an operation that writes -/
theorem sx_step (hsel : Region.noSelect ops = true) (hfin : finB ops n = true) {i : Nat} {r : List Nat} {fuel : Nat} {listed : Array Bool} {a : Act} (he : effs.contains i = true) (hf : r.length ≤ fuel) (hm : mixOk ops n effs r (listed.setIfInBounds i true) = true)
    (ha : HasL N l a) (inv : HeadInv .any ops n listed) (hi : i < n) (hr : i ∈ Region.ready .any ops listed) (h : Sx P N ops n CH effs K0 (i :: r) l w) :
    wpOp P ops (Only K0) i (wpAnyC P .any ops n CH K0 fuel (listed.setIfInBounds i true)) a w := by
  obtain ⟨o, ho, h⟩ := h
  rw [he] at h
  simp only [cond_true] at h
  have h1 := h a ha
  unfold wpList at h1
  unfold wpOp
  simp only [ho]
  have key : ∀ a' w', wpList P ops (Only fun a w => ∃ l', HasL N l' a ∧ ∃ CH' : Array Obj → Prop, (∀ H, CH' H → CH H) ∧ (Nat.blt i n = true → CH' w.heap) ∧ Sx P N ops n CH' effs K0 r l' w) [] a' w' → wpAnyC P .any ops n CH K0 fuel (listed.setIfInBounds i true) a' w' := by
    intro a' w' h2
    obtain ⟨l', h3, CH', hsub, h4, h5⟩ := h2
    exact wpAnyC.mono hsub (sx_sound hsel hfin r CH' fuel _ l' a' w' hf hm h3 (.inl ⟨inv.set hr hi, h4 (by simpa [Nat.blt_eq] using hi)⟩) h5)
  split
  · rename_i hw
    rw [if_pos hw] at h1
    rcases h1 with h1 | ⟨_, _, _, h1⟩
    · exact .inl (Oper.wp_only key h1)
    · exact h1.elim
  · rename_i hw
    rw [if_neg hw] at h1
    exact key _ _ h1

def forkOk (ops : Array Oper) (n : Nat) (effs : List Nat) (i : Nat) (r1 : List Nat) (j : Nat) (r2 : List Nat) (listed : Array Bool) : Bool :=
  (match Region.ready .any ops listed with | [a, b] => (Nat.beq a i && Nat.beq b j) || (Nat.beq a j && Nat.beq b i) | _ => false) && Nat.blt i n && Nat.blt j n && effs.contains i && effs.contains j &&
  mixOk ops n effs r1 (listed.setIfInBounds i true) && mixOk ops n effs r2 (listed.setIfInBounds j true)
def preOk (ops : Array Oper) (n : Nat) (effs : List Nat) (i : Nat) (r1 : List Nat) (j : Nat) (r2 : List Nat) : List Nat → Array Bool → Bool
  | [], listed => forkOk ops n effs i r1 j r2 listed
  | k :: r, listed => (!effs.contains k) && (Region.ready .any ops listed).contains k && Region.free .any ops listed k && Nat.blt k n && preOk ops n effs i r1 j r2 r (listed.setIfInBounds k true)
/-- both ways from here -/
def KF (P : Program) (N : Nt) (ops : Array Oper) (n : Nat) (CH : Array Obj → Prop) (effs : List Nat) (K0 : Act → World → Prop) (i : Nat) (r1 : List Nat) (j : Nat) (r2 : List Nat) : Act → World → Prop :=
  fun a w => ∃ l', HasL N l' a ∧ Sx P N ops n CH effs K0 (i :: r1) l' w ∧ Sx P N ops n CH effs K0 (j :: r2) l' w
theorem sxf_sound (hsel : Region.noSelect ops = true) (hfin : finB ops n = true) {i j : Nat} {r1 r2 : List Nat} : ∀ (pre : List Nat) (fuel : Nat) (listed : Array Bool) (l : SF) (a : Act) (w : World), pre.length + r1.length + 1 ≤ fuel ∧ pre.length + r2.length + 1 ≤ fuel → preOk ops n effs i r1 j r2 pre listed = true →
    HasL N l a → HeadInv .any ops n listed → CH w.heap → Sx P N ops n CH effs (KF P N ops n CH effs K0 i r1 j r2) pre l w → wpAnyC P .any ops n CH K0 fuel listed a w
  | [], 0, _, _, _, _, hf, _, _, _, _, _ => by omega
  | [], f + 1, listed, l, a, w, hf, hm, ha, inv, hc, h => by
    obtain ⟨l', ha', h1, h2⟩ := h a ha
    simp only [preOk, forkOk, Bool.and_eq_true] at hm
    obtain ⟨⟨⟨⟨⟨⟨m1, m2⟩, m3⟩, m4⟩, m5⟩, m6⟩, m7⟩ := hm
    have hi : i < n := by simpa [Nat.blt_eq] using m2
    have hj : j < n := by simpa [Nat.blt_eq] using m3
    have hrd : Region.ready .any ops listed = [i, j] ∨ Region.ready .any ops listed = [j, i] := by
      split at m1
      · rename_i x y hxy
        simp only [Bool.or_eq_true, Bool.and_eq_true, Nat.beq_eq] at m1
        rw [hxy]
        rcases m1 with ⟨rfl, rfl⟩ | ⟨rfl, rfl⟩
        · exact .inl rfl
        · exact .inr rfl
      · cases m1
    have hmi : i ∈ Region.ready .any ops listed := by rcases hrd with h | h <;> rw [h] <;> simp
    have hmj : j ∈ Region.ready .any ops listed := by rcases hrd with h | h <;> rw [h] <;> simp
    simp at hf
    refine ⟨fun _ => hc, fun h0 => (by rw [h0] at hmi; cases hmi), fun k hk => ?_⟩
    have hk : k = i ∨ k = j := by
      rcases hrd with h | h <;> rw [h] at hk <;> simp at hk
      · exact hk
      · exact hk.symm
    rcases hk with rfl | rfl
    · exact sx_step hsel hfin m4 (by omega) m6 ha' inv hi hmi h1
    · exact sx_step hsel hfin m5 (by omega) m7 ha' inv hj hmj h2
  | k :: r, 0, _, _, _, _, hf, _, _, _, _, _ => by simp at hf
  | k :: r, f + 1, listed, l, a, w, hf, hm, ha, inv, hc, h => by
    obtain ⟨o, ho, h⟩ := h
    simp only [preOk, Bool.and_eq_true, Bool.not_eq_true'] at hm
    obtain ⟨⟨⟨⟨he, m1⟩, m2⟩, m3⟩, m4⟩ := hm
    rw [he] at h
    simp only [cond_false] at h
    obtain ⟨v, hy, l', hl', hs⟩ := h
    have hin : k < n := by simpa [Nat.blt_eq] using m3
    have hir : k ∈ Region.ready .any ops listed := by simpa using m1
    exact wpAnyC_first ho (Region.noSelect_spec hsel) hfin hin f listed a w inv hc (Region.free_spec ho m2) hir (hy a ha) (sxf_sound hsel hfin r f _ l' _ w (by simp at hf; omega) m4 (hl' a ha) (inv.set hir hin) hc hs)
theorem Sc.draw2 {id : Nat} {lops : List Oper} (n : Nat) (CH : Array Obj → Prop) (effs pre : List Nat) (i : Nat) (r1 : List Nat) (j : Nat) (r2 : List Nat) (hm : P.follows .mixedOrders = true) (hs : (Region.noSelect lops.toArray && finB lops.toArray n &&
    preOk lops.toArray n effs i r1 j r2 pre (Array.replicate lops.length false)) = true) (hc : CH w.heap) (hfu : (Nat.ble (pre.length + r1.length + 1) lops.length && Nat.ble (pre.length + r2.length + 1) lops.length) = true)
    (h : Sx P N lops.toArray n CH effs (KF P N lops.toArray n CH effs (fun a w => Q .normal a w) i r1 j r2) pre l (w.drewN 1)) : Sc P N (.region id lops.toArray true) Q l w := fun a ha => by
  simp only [Bool.and_eq_true] at hs
  obtain ⟨⟨hs, hfin⟩, hok⟩ := hs
  have h1 := sxf_sound (P := P) (N := N) (K0 := fun a w => Q .normal a w) hs hfin pre lops.length _ l a (w.drewN 1) (by simpa [Nat.ble_eq] using hfu) hok ha
    (by have := headInv0 (ops := lops.toArray) (n := n); simpa using this) hc h
  have h2 := wp_region_any (P := P) (id := id) (ops := lops.toArray) (Q := Only fun a w => Q .normal a w) (a := a) (w := w) hm (by
    have := h1.any
    simpa [World.drewN] using this)
  refine wp_mono h2 ?_
  intro e a' w' hq
  cases e <;> first | exact hq | exact hq.elim
theorem Sx.both {i j : Nat} {r1 r2 : List Nat} (h1 : Sx P N ops n CH effs K0 (i :: r1) l w) (h2 : Sx P N ops n CH effs K0 (j :: r2) l w) : Sx P N ops n CH effs (KF P N ops n CH effs K0 i r1 j r2) [] l w := fun a ha => ⟨l, ha, h1, h2⟩
end
end Go.Proofs.YtpnfjfbfgaiolaaDoor
