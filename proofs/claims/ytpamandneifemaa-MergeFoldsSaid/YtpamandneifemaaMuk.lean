/- A region that draws its order, walked in each order that the operations that write or call may stand in; what reads does so ahead of one of them, n. No condition. -/
import Derived.Test.YtpamandneifemaaMtk
namespace Go.Proofs.Ytpamandneifemaa
open Go Go.RowKit
set_option linter.unusedVariables false

section
variable {P : Program} {ops : Array Oper} {CH : Array Obj → Prop} {N : Nt} {n : Nat} {R effs : List Nat} {K0 : Act → World → Prop} {Q : Exit → Act → World → Prop} {l : SF} {w : World}
theorem first_pure {i : Nat} {oi : Oper} {v : Value} (hi : ops[i]? = some oi) (hsel : ∀ (j : Nat) (o : Oper) cs b, ops[j]? = some o → o.op ≠ .select cs b) (hin : i ≠ n) :
    ∀ (fuel : Nat) (listed : Array Bool) (a : Act) (w : World), (listed.getD n false = false → CH w.heap) →
      (∀ j oj, ops[j]? = some oj → j ≠ i → listed.getD j true = false → (∀ e ∈ oj.after, Region.binds .any e = true → e.on ≠ i) → oi.apart ops oj = true) →
      i ∈ Region.ready .any ops listed → YC P ops (fun _ => True) oi v a →
      wpAnyC P .any ops n CH K0 fuel (listed.setIfInBounds i true) (a.put oi.dst v) w → wpAnyC P .any ops n CH K0 (fuel + 1) listed a w := by
  intro fuel
  induction fuel with
  | zero =>
    intro listed a w hc _ hr hy H
    refine ⟨hc, fun h => (by rw [h] at hr; cases hr), fun j hj => ?_⟩
    by_cases hji : j = i
    · subst hji; exact hy.wpOp hi trivial H
    · have := ready_mono hj hji
      rw [H.2.1] at this
      cases this
  | succ fuel ih =>
    intro listed a w hc hfree hr hy H
    refine ⟨hc, fun h => (by rw [h] at hr; cases hr), fun j hj => ?_⟩
    by_cases hji : j = i
    · subst hji; exact hy.wpOp hi trivial H
    · have h1 := H.2.2 j (ready_mono hj hji)
      obtain ⟨hjun, oj, hoj, hall⟩ := mem_ready.1 hj
      have hnot : ∀ e ∈ oj.after, Region.binds .any e = true → e.on ≠ i := fun e he hb heq => by
        have h1 := hall e he hb
        have h0 := (mem_ready.1 hr).1
        rw [heq] at h1
        rcases Nat.lt_or_ge i listed.size with h' | h'
        · simp [h'] at h0 h1; rw [h0] at h1; cases h1
        · simp [Array.getElem?_eq_none h'] at h1
      have h2 := wpOp_putC hoj (hfree j oj hoj hji hjun hnot) (fun cs b => hsel i oi cs b hi) (fun cs b => hsel j oj cs b hoj) hy h1
      have hfree' : ∀ k ok, ops[k]? = some ok → k ≠ i → (listed.setIfInBounds j true).getD k true = false →
          (∀ e ∈ ok.after, Region.binds .any e = true → e.on ≠ i) → oi.apart ops ok = true := fun k ok hk hki hun hno => by
        refine hfree k ok hk hki ?_ hno
        by_cases hjk : j = k
        · subst hjk; exact hjun
        · rw [getD_set_ne true hjk] at hun; exact hun
      have ch2 : (listed.setIfInBounds j true).getD n false = false → ((listed.setIfInBounds i true).setIfInBounds j true).getD n false = false := fun h4 => by
        rw [Array.setIfInBounds_comm _ _ (fun e => hji e.symm), getD_set_ne false hin]; exact h4
      refine wpOp_mono (fun a' w' h3 => ih (listed.setIfInBounds j true) a' w' (fun h4 => h3.2.ch (ch2 h4)) hfree' (ready_mono hr (Ne.symm hji)) h3.1 ?_) h2
      rw [Array.setIfInBounds_comm _ _ hji]
      exact h3.2
theorem first_read {i : Nat} {oi on : Oper} {v : Value} (hi : ops[i]? = some oi) (hsel : ∀ (j : Nat) (o : Oper) cs b, ops[j]? = some o → o.op ≠ .select cs b) (hin : i ≠ n) (hon : ops[n]? = some on) (hw : ∃ e ∈ on.after, Region.binds .any e = true ∧ e.on = i) :
    ∀ (fuel : Nat) (listed : Array Bool) (a : Act) (w : World), listed.getD n false = false → CH w.heap →
      (∀ j oj, ops[j]? = some oj → j ≠ i → listed.getD j true = false → (∀ e ∈ oj.after, Region.binds .any e = true → e.on ≠ i) → oi.apart ops oj = true) →
      i ∈ Region.ready .any ops listed → YC P ops CH oi v a →
      wpAnyC P .any ops n CH K0 fuel (listed.setIfInBounds i true) (a.put oi.dst v) w → wpAnyC P .any ops n CH K0 (fuel + 1) listed a w := by
  intro fuel
  induction fuel with
  | zero =>
    intro listed a w hun hc _ hr hy H
    refine ⟨fun _ => hc, fun h => (by rw [h] at hr; cases hr), fun j hj => ?_⟩
    by_cases hji : j = i
    · subst hji; exact hy.wpOp hi hc H
    · have := ready_mono hj hji
      rw [H.2.1] at this
      cases this
  | succ fuel ih =>
    intro listed a w hun hc hfree hr hy H
    refine ⟨fun _ => hc, fun h => (by rw [h] at hr; cases hr), fun j hj => ?_⟩
    by_cases hji : j = i
    · subst hji; exact hy.wpOp hi hc H
    · have h1 := H.2.2 j (ready_mono hj hji)
      obtain ⟨hjun, oj, hoj, hall⟩ := mem_ready.1 hj
      have hnot : ∀ e ∈ oj.after, Region.binds .any e = true → e.on ≠ i := fun e he hb heq => by
        have h1 := hall e he hb
        have h0 := (mem_ready.1 hr).1
        rw [heq] at h1
        rcases Nat.lt_or_ge i listed.size with h' | h'
        · simp [h'] at h0 h1; rw [h0] at h1; cases h1
        · simp [Array.getElem?_eq_none h'] at h1
      have hjn : j ≠ n := fun e => by
        subst e
        obtain ⟨e, he, hb, hei⟩ := hw
        rw [hoj] at hon; cases hon
        exact hnot e he hb hei
      have h2 := wpOp_putC hoj (hfree j oj hoj hji hjun hnot) (fun cs b => hsel i oi cs b hi) (fun cs b => hsel j oj cs b hoj) hy h1
      have hfree' : ∀ k ok, ops[k]? = some ok → k ≠ i → (listed.setIfInBounds j true).getD k true = false →
          (∀ e ∈ ok.after, Region.binds .any e = true → e.on ≠ i) → oi.apart ops ok = true := fun k ok hk hki hun hno => by
        refine hfree k ok hk hki ?_ hno
        by_cases hjk : j = k
        · subst hjk; exact hjun
        · rw [getD_set_ne true hjk] at hun; exact hun
      have hun' : (listed.setIfInBounds j true).getD n false = false := by rw [getD_set_ne false hjn]; exact hun
      have ch2 : ((listed.setIfInBounds i true).setIfInBounds j true).getD n false = false := by rw [getD_set_ne false hjn, getD_set_ne false hin]; exact hun
      refine wpOp_mono (fun a' w' h3 => ih (listed.setIfInBounds j true) a' w' hun' (h3.2.ch ch2) hfree' (ready_mono hr (Ne.symm hji)) h3.1 ?_) h2
      rw [Array.setIfInBounds_comm _ _ hji]
      exact h3.2
def CHr (R : List Nat) (CH : Array Obj → Prop) (i : Nat) : Array Obj → Prop := bif R.contains i then CH else fun _ => True
def Sz (P : Program) (N : Nt) (ops : Array Oper) (n : Nat) (R : List Nat) (CH : Array Obj → Prop) (effs : List Nat) (K0 : Act → World → Prop) : Bool → List Nat → SF → World → Prop
  | _, [], l, w => ∀ a, HasL N l a → K0 a w
  | fr, i :: r, l, w => ∃ o, ops[i]? = some o ∧
    (bif effs.contains i then Sl P N ops (Only fun a w => ∃ l', HasL N l' a ∧ ((fr && !Nat.beq i n) = true → CH w.heap) ∧ Sz P N ops n R CH effs K0 (fr && !Nat.beq i n) r l' w) [o] l w
     else ∃ v, (∀ a, HasL N l a → YC P ops (CHr R CH i) o v a) ∧ ∃ l', (∀ a, HasL N l a → HasL N l' (a.put o.dst v)) ∧ Sz P N ops n R CH effs K0 fr r l' w)
def KZ (P : Program) (N : Nt) (ops : Array Oper) (n : Nat) (R : List Nat) (CH : Array Obj → Prop) (effs : List Nat) (K0 : Act → World → Prop) : Bool → OT → Act → World → Prop
  | _, .fin, a, w => K0 a w
  | _, .stop, _, _ => True
  | fr, .alt i pre t u, a, w => (∃ l', HasL N l' a ∧ Sz P N ops n R CH effs (KZ P N ops n R CH effs K0 (fr && !Nat.beq i n) t) fr (i :: pre) l' w) ∧ KZ P N ops n R CH effs K0 fr u a w
def waitB (ops : Array Oper) (n k : Nat) : Bool := match ops[n]? with | some o => o.after.toList.any (fun e => Region.binds .any e && Nat.beq e.on k) | none => false
def preZ (ops : Array Oper) (n : Nat) (R effs : List Nat) : List Nat → Array Bool → Option (Array Bool)
  | [], L => some L
  | k :: r, L => bif (!effs.contains k) && (Region.ready .any ops L).contains k && Region.free .any ops L k && !Nat.beq k n && (!R.contains k || (waitB ops n k && !L.getD n false)) then preZ ops n R effs r (L.setIfInBounds k true) else none
def okZ (ops : Array Oper) (n : Nat) (R effs : List Nat) : Bool → Bool → OT → Array Bool → Bool
  | _, _, .fin, L => (Region.ready .any ops L).isEmpty
  | _, top, .stop, _ => !top
  | fr, top, .alt i pre t u, L => (!top || (Region.ready .any ops L).all (i :: u.heads).contains) && effs.contains i && (Region.ready .any ops L).contains i && (fr == !L.getD n false) && Nat.blt i L.size &&
    (match preZ ops n R effs pre (L.setIfInBounds i true) with | some L' => okZ ops n R effs (fr && !Nat.beq i n) true t L' | none => false) && okZ ops n R effs fr false u L
theorem preZ_n {k : Nat} : ∀ (pre : List Nat) (L L' : Array Bool), preZ ops n R effs pre L = some L' → L'.getD n false = L.getD n false
  | [], L, L', h => by simp only [preZ, Option.some.injEq] at h; rw [h]
  | k :: r, L, L', h => by
    cases hb : ((!effs.contains k) && (Region.ready .any ops L).contains k && Region.free .any ops L k && !Nat.beq k n && (!R.contains k || (waitB ops n k && !L.getD n false))) with
    | false => simp only [preZ, hb, cond_false] at h; cases h
    | true =>
      simp only [preZ, hb, cond_true] at h
      simp only [Bool.and_eq_true, Bool.not_eq_true'] at hb
      have hkn : k ≠ n := fun e => by have := hb.1.2; rw [e, Nat.beq_refl] at this; cases this
      rw [preZ_n (k := k) r _ _ h, getD_set_ne false hkn]
theorem preZ_run (hsel : Region.noSelect ops = true) {K : Act → World → Prop} {L' : Array Bool} {m : Nat} {fr : Bool}
    (hK : ∀ (f : Nat) (a : Act) (w : World), m ≤ f → (fr = true → CH w.heap) → K a w → wpAnyC P .any ops n CH K0 f L' a w) :
    ∀ (pre : List Nat) (f : Nat) (L : Array Bool) (l : SF) (a : Act) (w : World), pre.length + m ≤ f → preZ ops n R effs pre L = some L' → (L.getD n false = false → fr = true) → HasL N l a → (fr = true → CH w.heap) → Sz P N ops n R CH effs K fr pre l w → wpAnyC P .any ops n CH K0 f L a w
  | [], f, L, l, a, w, hf, hp, hfr, ha, hc, h => by
    simp only [preZ, Option.some.injEq] at hp
    subst hp
    exact hK f a w (by simpa using hf) hc (h a ha)
  | k :: r, 0, L, l, a, w, hf, hp, hfr, ha, hc, h => by simp at hf
  | k :: r, f + 1, L, l, a, w, hf, hp, hfr, ha, hc, h => by
    obtain ⟨o, ho, h⟩ := h
    cases hb : ((!effs.contains k) && (Region.ready .any ops L).contains k && Region.free .any ops L k && !Nat.beq k n && (!R.contains k || (waitB ops n k && !L.getD n false))) with
    | false => simp only [preZ, hb, cond_false] at hp; cases hp
    | true =>
      simp only [preZ, hb, cond_true] at hp
      simp only [Bool.and_eq_true, Bool.not_eq_true', Bool.or_eq_true] at hb
      obtain ⟨⟨⟨⟨he, m1⟩, m2⟩, m3⟩, m4⟩ := hb
      have hkn : k ≠ n := fun e => by rw [e, Nat.beq_refl] at m3; cases m3
      rw [he] at h
      simp only [cond_false] at h
      obtain ⟨v, hy, l', hl', hs⟩ := h
      have hir : k ∈ Region.ready .any ops L := by simpa using m1
      have hrec := preZ_run hsel hK r f _ l' _ w (by simp at hf; omega) hp (fun h0 => hfr (by rw [getD_set_ne false hkn] at h0; exact h0)) (hl' a ha) hc hs
      cases hR : R.contains k with
      | false =>
        have hy2 : YC P ops (fun _ => True) o v a := by have := hy a ha; unfold CHr at this; rw [hR] at this; exact this
        exact first_pure ho (Region.noSelect_spec hsel) hkn f L a w (fun h0 => hc (hfr h0)) (Region.free_spec ho m2) hir hy2 hrec
      | true =>
        have hy2 : YC P ops CH o v a := by have := hy a ha; unfold CHr at this; rw [hR] at this; exact this
        obtain ⟨m5, m6⟩ := m4.resolve_left (by rw [hR]; decide)
        unfold waitB at m5
        cases hon : ops[n]? with
        | none => rw [hon] at m5; cases m5
        | some on =>
          rw [hon] at m5
          obtain ⟨e, he1, he2⟩ := List.any_eq_true.1 m5
          simp only [Bool.and_eq_true, Nat.beq_eq] at he2
          exact first_read ho (Region.noSelect_spec hsel) hkn hon ⟨e, by simpa using he1, he2.1, he2.2⟩ f L a w m6 (hc (hfr m6)) (Region.free_spec ho m2) hir hy2 hrec
theorem sz_step {i : Nat} {pre : List Nat} {K : Act → World → Prop} {f : Nat} {L : Array Bool} {a : Act} {fr : Bool} (he : effs.contains i = true) (ha : HasL N l a)
    (key : ∀ l' a' w', HasL N l' a' → ((fr && !Nat.beq i n) = true → CH w'.heap) → Sz P N ops n R CH effs K (fr && !Nat.beq i n) pre l' w' → wpAnyC P .any ops n CH K0 f (L.setIfInBounds i true) a' w')
    (h : Sz P N ops n R CH effs K fr (i :: pre) l w) : wpOp P ops (Only K0) i (wpAnyC P .any ops n CH K0 f (L.setIfInBounds i true)) a w := by
  obtain ⟨o, ho, h⟩ := h
  rw [he] at h
  simp only [cond_true] at h
  have h1 := h a ha
  unfold wpList at h1
  unfold wpOp
  simp only [ho]
  have key2 : ∀ a' w', wpList P ops (Only fun a w => ∃ l', HasL N l' a ∧ ((fr && !Nat.beq i n) = true → CH w.heap) ∧ Sz P N ops n R CH effs K (fr && !Nat.beq i n) pre l' w) [] a' w' → wpAnyC P .any ops n CH K0 f (L.setIfInBounds i true) a' w' := by
    intro a' w' h2
    obtain ⟨l', h3, h4, h5⟩ := h2
    exact key l' a' w' h3 h4 h5
  split
  · rename_i hw
    rw [if_pos hw] at h1
    rcases h1 with h1 | ⟨_, _, _, h1⟩
    · exact .inl (Oper.wp_only key2 h1)
    · exact h1.elim
  · rename_i hw
    rw [if_neg hw] at h1
    exact key2 _ _ h1
theorem treeZ_sound (hsel : Region.noSelect ops = true) : ∀ (t : OT) (fr top : Bool) (f : Nat) (L : Array Bool) (a : Act) (w : World), t.dep ≤ f → okZ ops n R effs fr top t L = true → (L.getD n false = false → fr = true) → (fr = true → CH w.heap) → KZ P N ops n R CH effs K0 fr t a w →
    (top = true → wpAnyC P .any ops n CH K0 f L a w) ∧ ∀ k ∈ t.heads, ∃ f', f = f' + 1 ∧ wpOp P ops (Only K0) k (wpAnyC P .any ops n CH K0 f' (L.setIfInBounds k true)) a w
  | .fin, fr, top, f, L, a, w, hf, hm, hfr, hc, h => by
    have hr : Region.ready .any ops L = [] := by simpa [okZ] using hm
    refine ⟨fun _ => ?_, fun k hk => by cases hk⟩
    cases f with
    | zero => exact ⟨fun h0 => hc (hfr h0), hr, h⟩
    | succ f => exact ⟨fun h0 => hc (hfr h0), fun _ => h, by rw [hr]; simp⟩
  | .stop, fr, top, f, L, a, w, hf, hm, hfr, hc, h => by
    refine ⟨fun e => by subst e; simp [okZ] at hm, fun k hk => by cases hk⟩
  | .alt i pre t u, fr, top, f, L, a, w, hf, hm, hfr, hc, h => by
    simp only [okZ, Bool.and_eq_true] at hm
    obtain ⟨⟨⟨⟨⟨⟨m1, m2⟩, m3⟩, m4⟩, m5⟩, m6⟩, m7⟩ := hm
    have hf1 : pre.length + t.dep + 1 ≤ f := Nat.le_trans (Nat.le_max_left _ _) hf
    have hf2 : u.dep ≤ f := Nat.le_trans (Nat.le_max_right _ _) hf
    obtain ⟨f', rfl⟩ : ∃ f', f = f' + 1 := ⟨f - 1, by omega⟩
    obtain ⟨⟨l', ha, h1⟩, h2⟩ := h
    have hi : i < L.size := by simpa [Nat.blt_eq] using m5
    have hr : i ∈ Region.ready .any ops L := by simpa using m3
    have hu := treeZ_sound hsel u fr false (f' + 1) L a w hf2 m7 hfr hc h2
    have hfr2 : (L.setIfInBounds i true).getD n false = false → (fr && !Nat.beq i n) = true := fun h0 => by
      by_cases hin : i = n
      · subst hin; simp [hi] at h0
      · rw [getD_set_ne false hin] at h0
        rw [hfr h0]
        have : Nat.beq i n = false := by cases hb : Nat.beq i n with | false => rfl | true => exact absurd (Nat.eq_of_beq_eq_true hb) hin
        rw [this]; rfl
    have hhead : ∀ k ∈ i :: u.heads, ∃ f'', f' + 1 = f'' + 1 ∧ wpOp P ops (Only K0) k (wpAnyC P .any ops n CH K0 f'' (L.setIfInBounds k true)) a w := by
      intro k hk
      rcases List.mem_cons.1 hk with rfl | hk
      · refine ⟨f', rfl, sz_step m2 ha (fun l2 a2 w2 hl2 hc2 hs2 => ?_) h1⟩
        cases hp : preZ ops n R effs pre (L.setIfInBounds k true) with
        | none => rw [hp] at m6; cases m6
        | some L' =>
          rw [hp] at m6
          have hn' := preZ_n (k := k) pre _ _ hp
          exact preZ_run hsel (m := t.dep) (fun f3 a3 w3 hf3 hc3 hk3 => (treeZ_sound hsel t _ true f3 L' a3 w3 hf3 m6 (fun h0 => hfr2 (by rw [← hn']; exact h0)) hc3 hk3).1 rfl) pre f' _ l2 a2 w2 (by omega) hp hfr2 hl2 hc2 hs2
      · exact hu.2 k hk
    refine ⟨fun e => ?_, hhead⟩
    subst e
    refine ⟨fun h0 => hc (hfr h0), fun h0 => (by rw [h0] at hr; cases hr), fun k hk => ?_⟩
    simp only [Bool.not_true, Bool.false_or, List.all_eq_true] at m1
    obtain ⟨f'', e1, hw⟩ := hhead k (by simpa using m1 k hk)
    obtain rfl : f' = f'' := by omega
    exact hw
theorem Sc.drawZ {id : Nat} {lops : List Oper} (n : Nat) (R : List Nat) (CH : Array Obj → Prop) (effs pre : List Nat) (t : OT) (hm : P.follows .mixedOrders = true) (hs : (Region.noSelect lops.toArray &&
    (match preZ lops.toArray n R effs pre (Array.replicate lops.length false) with | some L' => okZ lops.toArray n R effs true true t L' | none => false) && Nat.ble (pre.length + t.dep) lops.length) = true) (hc : CH w.heap)
    (h : Sz P N lops.toArray n R CH effs (KZ P N lops.toArray n R CH effs (fun a w => Q .normal a w) true t) true pre l (w.drewN 1)) : Sc P N (.region id lops.toArray true) Q l w := fun a ha => by
  simp only [Bool.and_eq_true] at hs
  obtain ⟨⟨hs, hok⟩, hlen⟩ := hs
  have h1 : wpAnyC P .any lops.toArray n CH (fun a w => Q .normal a w) lops.length (Array.replicate lops.length false) a (w.drewN 1) := by
    cases hp : preZ lops.toArray n R effs pre (Array.replicate lops.length false) with
    | none => rw [hp] at hok; cases hok
    | some L' =>
      rw [hp] at hok
      exact preZ_run hs (m := t.dep) (fr := true) (fun f3 a3 w3 hf3 hc3 hk3 => (treeZ_sound hs t true true f3 L' a3 w3 hf3 hok (fun _ => rfl) hc3 hk3).1 rfl) pre lops.length _ l a _ (by simpa [Nat.ble_eq] using hlen) hp (fun _ => rfl) ha (fun _ => hc) h
  have h2 := wp_region_any (P := P) (id := id) (ops := lops.toArray) (Q := Only fun a w => Q .normal a w) (a := a) (w := w) hm (by
    have := h1.any
    simpa [World.drewN] using this)
  refine wp_mono h2 ?_
  intro e a' w' hq
  cases e <;> first | exact hq | exact hq.elim
variable {r : List Nat} {i : Nat} {op : Op} {ty : TypeId} {pos : String} {aft : Array Edge} {d : Nat} {v : Value} {t u : OT} {fr : Bool}
theorem Sz.calm (hi : ops[i]? = some ⟨some d, op, ty, pos, aft, none⟩) (he : effs.contains i = false) (hv : Cm P N (CHr R CH i) l ⟨some d, op, ty, pos, aft, none⟩ v) (hd : Nat.blt d N.n = true)
    (h : Sz P N ops n R CH effs K0 fr r ((d, v) :: l) w) : Sz P N ops n R CH effs K0 fr (i :: r) l w :=
  ⟨_, hi, by rw [he]; exact ⟨v, fun a ha => .inl ⟨by simp [Region.wanted], fun w hw => hv a w ha hw⟩, _, fun a ha => ha.put hd v, h⟩⟩
/-- what is asked behind an operation that writes or calls -/
def KW (P : Program) (N : Nt) (ops : Array Oper) (n : Nat) (R : List Nat) (CH : Array Obj → Prop) (effs : List Nat) (K0 : Act → World → Prop) (fr : Bool) (r : List Nat) : Exit → Act → World → Prop := Only fun a w => ∃ l', HasL N l' a ∧ (fr = true → CH w.heap) ∧ Sz P N ops n R CH effs K0 fr r l' w
theorem Sz.eff {o : Oper} (hi : ops[i]? = some o) (he : effs.contains i = true) (h : Sl P N ops (KW P N ops n R CH effs K0 (fr && !Nat.beq i n) r) [o] l w) : Sz P N ops n R CH effs K0 fr (i :: r) l w :=
  ⟨_, hi, by rw [he]; exact h⟩
theorem Sz.on (hc : CH w.heap) (h : Sz P N ops n R CH effs K0 fr r l w) : Sl P N ops (KW P N ops n R CH effs K0 fr r) [] l w := fun _ ha => ⟨l, ha, fun _ => hc, h⟩
theorem Sz.off (hf : fr = false) (h : Sz P N ops n R CH effs K0 fr r l w) : Sl P N ops (KW P N ops n R CH effs K0 fr r) [] l w := fun _ ha => ⟨l, ha, fun e => absurd (hf.symm.trans e) (by decide), h⟩
theorem Sz.nil (h : At N .normal Q l w) : Sz P N ops n R CH effs (KZ P N ops n R CH effs (fun a w => Q .normal a w) fr .fin) fr [] l w := fun a ha => h a ha
theorem Sz.alt {pre : List Nat} (h1 : Sz P N ops n R CH effs (KZ P N ops n R CH effs K0 (fr && !Nat.beq i n) t) fr (i :: pre) l w) (h2 : Sz P N ops n R CH effs (KZ P N ops n R CH effs K0 fr u) fr [] l w) : Sz P N ops n R CH effs (KZ P N ops n R CH effs K0 fr (.alt i pre t u)) fr [] l w := fun a ha => ⟨⟨l, ha, h1⟩, h2 a ha⟩
theorem Sz.stop : Sz P N ops n R CH effs (KZ P N ops n R CH effs K0 fr .stop) fr [] l w := fun _ _ => trivial
end
end Go.Proofs.Ytpamandneifemaa
