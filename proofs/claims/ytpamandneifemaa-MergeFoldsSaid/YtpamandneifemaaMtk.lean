/- A region that draws its order, walked in each order that the operations that write or call may stand in: a tree of them. No condition. -/
import Derived.Test.YtpamandneifemaaGenk
namespace Go.Proofs.Ytpamandneifemaa
open Go Go.RowKit
set_option linter.unusedVariables false

/-- the orders: who goes first, what computes behind it, and so on; or another goes first -/
inductive OT where
  | fin : OT
  | stop : OT
  | alt (i : Nat) (pre : List Nat) (t u : OT) : OT
def OT.heads : OT → List Nat
  | .alt i _ _ u => i :: u.heads
  | _ => []
def OT.dep : OT → Nat
  | .alt _ pre t u => Nat.max (pre.length + t.dep + 1) u.dep
  | _ => 0
section
variable {P : Program} {ops : Array Oper} {CH : Array Obj → Prop} {N : Nt} {effs : List Nat} {K0 : Act → World → Prop} {Q : Exit → Act → World → Prop} {l : SF} {w : World}
/-- a walk in a row -/
def Sy (P : Program) (N : Nt) (ops : Array Oper) (CH : Array Obj → Prop) (effs : List Nat) (K0 : Act → World → Prop) : List Nat → SF → World → Prop
  | [], l, w => ∀ a, HasL N l a → K0 a w
  | i :: r, l, w => ∃ o, ops[i]? = some o ∧
    (bif effs.contains i then Sl P N ops (Only fun a w => ∃ l', HasL N l' a ∧ CH w.heap ∧ Sy P N ops CH effs K0 r l' w) [o] l w
     else ∃ v, (∀ a, HasL N l a → YC P ops CH o v a) ∧ ∃ l', (∀ a, HasL N l a → HasL N l' (a.put o.dst v)) ∧ Sy P N ops CH effs K0 r l' w)
def KT (P : Program) (N : Nt) (ops : Array Oper) (CH : Array Obj → Prop) (effs : List Nat) (K0 : Act → World → Prop) : OT → Act → World → Prop
  | .fin, a, w => K0 a w
  | .stop, _, _ => True
  | .alt i pre t u, a, w => (∃ l', HasL N l' a ∧ Sy P N ops CH effs (KT P N ops CH effs K0 t) (i :: pre) l' w) ∧ KT P N ops CH effs K0 u a w
def preC (ops : Array Oper) (effs : List Nat) : List Nat → Array Bool → Option (Array Bool)
  | [], L => some L
  | k :: r, L => bif (!effs.contains k) && (Region.ready .any ops L).contains k && Region.free .any ops L k && Nat.blt k ops.size then preC ops effs r (L.setIfInBounds k true) else none
def okO (ops : Array Oper) (effs : List Nat) : Bool → OT → Array Bool → Bool
  | _, .fin, L => (Region.ready .any ops L).isEmpty
  | top, .stop, _ => !top
  | top, .alt i pre t u, L => (!top || (Region.ready .any ops L).all (i :: u.heads).contains) && effs.contains i && (Region.ready .any ops L).contains i && Nat.blt i ops.size &&
    (match preC ops effs pre (L.setIfInBounds i true) with | some L' => okO ops effs true t L' | none => false) && okO ops effs false u L
theorem finS (ops : Array Oper) : finB ops ops.size = true := by simp [finB]
theorem pre_run (hsel : Region.noSelect ops = true) {K : Act → World → Prop} {L' : Array Bool} {m : Nat}
    (hK : ∀ (f : Nat) (a : Act) (w : World), m ≤ f → HeadInv .any ops ops.size L' → CH w.heap → K a w → wpAnyC P .any ops ops.size CH K0 f L' a w) :
    ∀ (pre : List Nat) (f : Nat) (L : Array Bool) (l : SF) (a : Act) (w : World), pre.length + m ≤ f → preC ops effs pre L = some L' → HasL N l a → HeadInv .any ops ops.size L → CH w.heap → Sy P N ops CH effs K pre l w → wpAnyC P .any ops ops.size CH K0 f L a w
  | [], f, L, l, a, w, hf, hp, ha, inv, hc, h => by
    simp only [preC, Option.some.injEq] at hp
    subst hp
    exact hK f a w (by simpa using hf) inv hc (h a ha)
  | k :: r, 0, L, l, a, w, hf, hp, ha, inv, hc, h => by simp at hf
  | k :: r, f + 1, L, l, a, w, hf, hp, ha, inv, hc, h => by
    obtain ⟨o, ho, h⟩ := h
    cases hb : ((!effs.contains k) && (Region.ready .any ops L).contains k && Region.free .any ops L k && Nat.blt k ops.size) with
    | false => simp only [preC, hb, cond_false] at hp; cases hp
    | true =>
      simp only [preC, hb, cond_true] at hp
      simp only [Bool.and_eq_true, Bool.not_eq_true'] at hb
      obtain ⟨⟨⟨he, m1⟩, m2⟩, m3⟩ := hb
      rw [he] at h
      simp only [cond_false] at h
      obtain ⟨v, hy, l', hl', hs⟩ := h
      have hin : k < ops.size := by simpa [Nat.blt_eq] using m3
      have hir : k ∈ Region.ready .any ops L := by simpa using m1
      exact wpAnyC_first ho (Region.noSelect_spec hsel) (finS ops) hin f L a w inv hc (Region.free_spec ho m2) hir (hy a ha) (pre_run hsel hK r f _ l' _ w (by simp at hf; omega) hp (hl' a ha) (inv.set hir hin) hc hs)
theorem sy_step {i : Nat} {pre : List Nat} {K : Act → World → Prop} {f : Nat} {L : Array Bool} {a : Act} (he : effs.contains i = true) (ha : HasL N l a)
    (key : ∀ l' a' w', HasL N l' a' → CH w'.heap → Sy P N ops CH effs K pre l' w' → wpAnyC P .any ops ops.size CH K0 f (L.setIfInBounds i true) a' w')
    (h : Sy P N ops CH effs K (i :: pre) l w) : wpOp P ops (Only K0) i (wpAnyC P .any ops ops.size CH K0 f (L.setIfInBounds i true)) a w := by
  obtain ⟨o, ho, h⟩ := h
  rw [he] at h
  simp only [cond_true] at h
  have h1 := h a ha
  unfold wpList at h1
  unfold wpOp
  simp only [ho]
  have key2 : ∀ a' w', wpList P ops (Only fun a w => ∃ l', HasL N l' a ∧ CH w.heap ∧ Sy P N ops CH effs K pre l' w) [] a' w' → wpAnyC P .any ops ops.size CH K0 f (L.setIfInBounds i true) a' w' := by
    intro a' w' h2
    obtain ⟨l', h3, h4, h5⟩ := h2
    exact key l' a' w' h3 h4 h5
  split
  · rename_i hw
    rw [if_pos hw] at h1
    rcases h1 with h1 | ⟨_, _, _, h1⟩
    · exact .inl (Oper.wp_only key2 h1)
    · exact h1.elim
  · rename_i hw
    rw [if_neg hw] at h1
    exact key2 _ _ h1
theorem tree_sound (hsel : Region.noSelect ops = true) : ∀ (t : OT) (top : Bool) (f : Nat) (L : Array Bool) (a : Act) (w : World), t.dep ≤ f → okO ops effs top t L = true → HeadInv .any ops ops.size L → CH w.heap → KT P N ops CH effs K0 t a w →
    (top = true → wpAnyC P .any ops ops.size CH K0 f L a w) ∧ ∀ k ∈ t.heads, ∃ f', f = f' + 1 ∧ wpOp P ops (Only K0) k (wpAnyC P .any ops ops.size CH K0 f' (L.setIfInBounds k true)) a w
  | .fin, top, f, L, a, w, hf, hm, inv, hc, h => by
    have hr : Region.ready .any ops L = [] := by simpa [okO] using hm
    refine ⟨fun _ => ?_, fun k hk => by cases hk⟩
    cases f with
    | zero => exact ⟨fun _ => hc, hr, h⟩
    | succ f => exact ⟨fun _ => hc, fun _ => h, by rw [hr]; simp⟩
  | .stop, top, f, L, a, w, hf, hm, inv, hc, h => by
    refine ⟨fun e => by subst e; simp [okO] at hm, fun k hk => by cases hk⟩
  | .alt i pre t u, top, f, L, a, w, hf, hm, inv, hc, h => by
    simp only [okO, Bool.and_eq_true] at hm
    obtain ⟨⟨⟨⟨⟨m1, m2⟩, m3⟩, m4⟩, m5⟩, m6⟩ := hm
    have hf1 : pre.length + t.dep + 1 ≤ f := Nat.le_trans (Nat.le_max_left _ _) hf
    have hf2 : u.dep ≤ f := Nat.le_trans (Nat.le_max_right _ _) hf
    obtain ⟨f', rfl⟩ : ∃ f', f = f' + 1 := ⟨f - 1, by omega⟩
    obtain ⟨⟨l', ha, h1⟩, h2⟩ := h
    have hi : i < ops.size := by simpa [Nat.blt_eq] using m4
    have hr : i ∈ Region.ready .any ops L := by simpa using m3
    have hu := tree_sound hsel u false (f' + 1) L a w hf2 m6 inv hc h2
    have hhead : ∀ k ∈ i :: u.heads, ∃ f'', f' + 1 = f'' + 1 ∧ wpOp P ops (Only K0) k (wpAnyC P .any ops ops.size CH K0 f'' (L.setIfInBounds k true)) a w := by
      intro k hk
      rcases List.mem_cons.1 hk with rfl | hk
      · refine ⟨f', rfl, sy_step m2 ha (fun l2 a2 w2 hl2 hc2 hs2 => ?_) h1⟩
        cases hp : preC ops effs pre (L.setIfInBounds k true) with
        | none => rw [hp] at m5; cases m5
        | some L' =>
          rw [hp] at m5
          exact pre_run hsel (m := t.dep) (fun f3 a3 w3 hf3 inv3 hc3 hk3 => (tree_sound hsel t true f3 L' a3 w3 hf3 m5 inv3 hc3 hk3).1 rfl) pre f' _ l2 a2 w2 (by omega) hp hl2 (inv.set hr hi) hc2 hs2
      · exact hu.2 k hk
    refine ⟨fun e => ?_, hhead⟩
    subst e
    refine ⟨fun _ => hc, fun h0 => (by rw [h0] at hr; cases hr), fun k hk => ?_⟩
    simp only [Bool.not_true, Bool.false_or, List.all_eq_true] at m1
    obtain ⟨f'', e1, hw⟩ := hhead k (by simpa using m1 k hk)
    obtain rfl : f' = f'' := by omega
    exact hw
theorem Sc.drawT {id : Nat} {lops : List Oper} (CH : Array Obj → Prop) (effs pre : List Nat) (t : OT) (hm : P.follows .mixedOrders = true) (hs : (Region.noSelect lops.toArray &&
    (match preC lops.toArray effs pre (Array.replicate lops.length false) with | some L' => okO lops.toArray effs true t L' | none => false) && Nat.ble (pre.length + t.dep) lops.length) = true) (hc : CH w.heap)
    (h : Sy P N lops.toArray CH effs (KT P N lops.toArray CH effs (fun a w => Q .normal a w) t) pre l (w.drewN 1)) : Sc P N (.region id lops.toArray true) Q l w := fun a ha => by
  simp only [Bool.and_eq_true] at hs
  obtain ⟨⟨hs, hok⟩, hlen⟩ := hs
  have h1 : wpAnyC P .any lops.toArray lops.toArray.size CH (fun a w => Q .normal a w) lops.length (Array.replicate lops.length false) a (w.drewN 1) := by
    cases hp : preC lops.toArray effs pre (Array.replicate lops.length false) with
    | none => rw [hp] at hok; cases hok
    | some L' =>
      rw [hp] at hok
      exact pre_run hs (m := t.dep) (fun f3 a3 w3 hf3 inv3 hc3 hk3 => (tree_sound hs t true f3 L' a3 w3 hf3 hok inv3 hc3 hk3).1 rfl) pre lops.length _ l a _ (by simpa [Nat.ble_eq] using hlen) hp ha
        (by have := headInv0 (ops := lops.toArray) (n := lops.toArray.size); simpa using this) hc h
  have h2 := wp_region_any (P := P) (id := id) (ops := lops.toArray) (Q := Only fun a w => Q .normal a w) (a := a) (w := w) hm (by
    have := h1.any
    simpa [World.drewN] using this)
  refine wp_mono h2 ?_
  intro e a' w' hq
  cases e <;> first | exact hq | exact hq.elim

variable {r : List Nat} {i : Nat} {op : Op} {ty : TypeId} {pos : String} {aft : Array Edge} {d : Nat} {v : Value} {t u : OT}
theorem Sy.calm (hi : ops[i]? = some ⟨some d, op, ty, pos, aft, none⟩) (he : effs.contains i = false) (hv : Cm P N CH l ⟨some d, op, ty, pos, aft, none⟩ v) (hd : Nat.blt d N.n = true)
    (h : Sy P N ops CH effs K0 r ((d, v) :: l) w) : Sy P N ops CH effs K0 (i :: r) l w :=
  ⟨_, hi, by rw [he]; exact ⟨v, fun a ha => .inl ⟨by simp [Region.wanted], fun w hw => hv a w ha hw⟩, _, fun a ha => ha.put hd v, h⟩⟩
/-- what is asked behind an operation that writes or calls -/
def KY (P : Program) (N : Nt) (ops : Array Oper) (CH : Array Obj → Prop) (effs : List Nat) (K0 : Act → World → Prop) (r : List Nat) : Exit → Act → World → Prop := Only fun a w => ∃ l', HasL N l' a ∧ CH w.heap ∧ Sy P N ops CH effs K0 r l' w
theorem Sy.eff {o : Oper} (hi : ops[i]? = some o) (he : effs.contains i = true) (h : Sl P N ops (KY P N ops CH effs K0 r) [o] l w) : Sy P N ops CH effs K0 (i :: r) l w :=
  ⟨_, hi, by rw [he]; exact h⟩
theorem Sy.on (hc : CH w.heap) (h : Sy P N ops CH effs K0 r l w) : Sl P N ops (KY P N ops CH effs K0 r) [] l w := fun _ ha => ⟨l, ha, hc, h⟩
theorem Sy.nil (h : At N .normal Q l w) : Sy P N ops CH effs (KT P N ops CH effs (fun a w => Q .normal a w) .fin) [] l w := fun a ha => h a ha
theorem Sy.alt {pre : List Nat} (h1 : Sy P N ops CH effs (KT P N ops CH effs K0 t) (i :: pre) l w) (h2 : Sy P N ops CH effs (KT P N ops CH effs K0 u) [] l w) : Sy P N ops CH effs (KT P N ops CH effs K0 (.alt i pre t u)) [] l w := fun a ha => ⟨⟨l, ha, h1⟩, h2 a ha⟩
theorem Sy.stop : Sy P N ops CH effs (KT P N ops CH effs K0 .stop) [] l w := fun _ _ => trivial
end
end Go.Proofs.Ytpamandneifemaa
