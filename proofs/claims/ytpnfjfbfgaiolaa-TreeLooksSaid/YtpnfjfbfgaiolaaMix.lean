/- A region that draws its order, walked once in an order of one's own: what only computes or reads is taken as early as it can be, what writes or calls stands in a row. No condition. -/
import Derived.Test.YtpnfjfbfgaiolaaEff
import Derived.StillTail
namespace Go.Proofs.Ytpnfjfbfgaiolaa
open Go Go.RowKit

section
variable {P : Program} {ops : Array Oper} {md : Region.Mode} {CH : Array Obj → Prop}

def YC (P : Program) (ops : Array Oper) (CH : Array Obj → Prop) (o : Oper) (v : Value) (a : Act) : Prop :=
  (Region.wanted o (yielded ops a.tmps) = true ∧ ∀ w, CH w.heap → (execOp a.eval o).run P w = .ok (.value v) w) ∨
  (Region.wanted o (yielded ops a.tmps) = false ∧ v = undef)

theorem YC.of_same {o : Oper} {v : Value} {a a' : Act} (hy : YC P ops CH o v a) (he : execOp a'.eval o = execOp a.eval o)
    (hw : Region.wanted o (yielded ops a'.tmps) = Region.wanted o (yielded ops a.tmps)) : YC P ops CH o v a' := by
  unfold YC at *
  rw [he, hw]
  exact hy

/-- no way out but the end -/
def Only (K : Act → World → Prop) : Exit → Act → World → Prop
  | .normal, a, w => K a w
  | _, _, _ => False

theorem YC.wpOp {i : Nat} {o : Oper} {v : Value} {a : Act} {Q : Exit → Act → World → Prop} (hi : ops[i]? = some o) (hy : YC P ops CH o v a)
    {K : Act → World → Prop} {w : World} (hc : CH w.heap) (h : K (a.put o.dst v) w) : wpOp P ops Q i K a w := by
  unfold Go.wpOp
  simp only [hi]
  rcases hy with ⟨hw, hv⟩ | ⟨hw, rfl⟩
  · simp only [hw, if_true, Oper.wp, hv w hc, Oper.upon]; exact .inl h
  · simp only [hw, Bool.false_eq_true, if_false]; exact h

theorem wpOp_putC {K0 : Act → World → Prop} {j : Nat} {oi oj : Oper} {v : Value} (hj : ops[j]? = some oj) (hap : oi.apart ops oj = true)
    (hsi : ∀ cs b, oi.op ≠ .select cs b) (hsj : ∀ cs b, oj.op ≠ .select cs b) {K : Act → World → Prop} {a : Act} {w : World}
    (hy : YC P ops CH oi v a) (h : wpOp P ops (Only K0) j K (a.put oi.dst v) w) :
    wpOp P ops (Only K0) j (fun a' w' => YC P ops CH oi v a' ∧ K (a'.put oi.dst v) w') a w := by
  obtain ⟨h1, h2, h3⟩ := Oper.apart_spec hap
  have keep : ∀ (a : Act), YC P ops CH oi v a → ∀ u, YC P ops CH oi v (a.put oj.dst u) := fun a hy u =>
    hy.of_same (execOp_put oi hsi a oj.dst u h3) (wanted_put oi a oj.dst u h3)
  have keepD : ∀ d, YC P ops CH oi v { a with defers := d :: a.defers } := fun d => hy.of_same rfl rfl
  unfold wpOp at *
  simp only [hj] at *
  rw [wanted_put oj a oi.dst v h1] at h
  split
  · rename_i hw
    simp only [hw, if_true] at h
    rcases h with h | ⟨hasks, hlets⟩
    case inr => exact .inr ⟨by unfold Oper.asks at *; rw [execOp_put oj hsj a oi.dst v h1] at hasks; exact hasks, hlets⟩
    refine .inl ?_
    unfold Oper.wp at *
    rw [execOp_put oj hsj a oi.dst v h1] at h
    generalize (execOp a.eval oj).run P w = r at *
    cases r with
    | ok n w' =>
      cases n <;> simp only [Oper.upon] at h ⊢
      case value u => exact ⟨keep a hy u, by rw [← Act.put_comm a v u h2]; exact h⟩
      case skip => exact ⟨keep a hy _, by rw [← Act.put_comm a v undef h2]; exact h⟩
      case defer d =>
        refine ⟨keep _ (keepD d) _, ?_⟩
        rw [← Act.put_comm _ v undef h2, ← Act.put_defers]
        exact h
      case enter f args =>
        refine Calls.mono h fun e w'' he => ?_
        cases e with
        | returned u => exact ⟨keep a hy u, by rw [← Act.put_comm a v u h2]; exact he⟩
        | panicked c => exact he
        | outgrown => exact he
      case row row args => exact Rows.mono h fun u w'' he => ⟨keep a hy u, by rw [← Act.put_comm a v u h2]; exact he⟩
    | halt x w' =>
      cases x <;> simp only [Oper.upon] at h ⊢
      case panic u => exact h
  · rename_i hw
    simp only [hw] at h
    exact ⟨keep a hy _, by rw [← Act.put_comm a v undef h2]; exact h⟩

/-- Whatever order is picked from here on, the heap staying in its class till operation n has come up. -/
def wpAnyC (P : Program) (md : Region.Mode) (ops : Array Oper) (n : Nat) (CH : Array Obj → Prop) (K0 : Act → World → Prop) : Nat → Array Bool → Act → World → Prop
  | 0, listed, a, w => (listed.getD n false = false → CH w.heap) ∧ Region.ready md ops listed = [] ∧ K0 a w
  | fuel + 1, listed, a, w => (listed.getD n false = false → CH w.heap) ∧
    (Region.ready md ops listed = [] → K0 a w) ∧
    ∀ i ∈ Region.ready md ops listed, wpOp P ops (Only K0) i (wpAnyC P md ops n CH K0 fuel (listed.setIfInBounds i true)) a w

theorem wpAnyC.ch {n : Nat} {K0 : Act → World → Prop} : ∀ {fuel : Nat} {listed : Array Bool} {a : Act} {w : World}, wpAnyC P md ops n CH K0 fuel listed a w → listed.getD n false = false → CH w.heap
  | 0, _, _, _, h => h.1
  | _ + 1, _, _, _, h => h.1

theorem wpAnyC.any {n : Nat} {K0 : Act → World → Prop} : ∀ {fuel : Nat} {listed : Array Bool} {a : Act} {w : World}, wpAnyC P md ops n CH K0 fuel listed a w → wpAny P md ops (Only K0) fuel listed a w
  | 0, _, _, _, h => h.2
  | _ + 1, _, _, _, h => ⟨h.2.1, fun i hi => wpOp_mono (fun _ _ h' => wpAnyC.any h') (h.2.2 i hi)⟩

/-- n is none of the operations, or all others come up ahead of it. -/
def finB (ops : Array Oper) (n : Nat) : Bool := Nat.ble ops.size n || (Region.sinkB .any ops n && Region.chainB .any ops n)

theorem fin_waits {n : Nat} {listed : Array Bool} (hf : finB ops n = true) (inv : HeadInv .any ops n listed) {i j : Nat} (hi : i < n) (hun : listed.getD i true = false) (hj : j ∈ Region.ready .any ops listed) : j < n := by
  have hjs : j < ops.size := by
    obtain ⟨_, o, ho, _⟩ := mem_ready.1 hj
    exact (Array.getElem?_eq_some_iff.1 ho).1
  simp only [finB, Bool.or_eq_true, Bool.and_eq_true, Nat.ble_eq] at hf
  rcases Nat.lt_or_ge n ops.size with hn | hn
  · rcases hf with hf | hf
    · omega
    · rcases Nat.lt_or_ge j n with h | h
      · exact h
      · exact absurd hj (tail_waits hf.1 hf.2 hn inv _ i rfl hi hun j h)
  · omega

theorem fin_waits_end {n : Nat} {listed : Array Bool} (hf : finB ops n = true) (inv : HeadInv .any ops n listed) {j : Nat} (hj : j ∈ Region.ready .any ops listed) (h : n < j) : False := by
  obtain ⟨_, o, ho, hall⟩ := mem_ready.1 hj
  have hjs : j < ops.size := (Array.getElem?_eq_some_iff.1 ho).1
  simp only [finB, Bool.or_eq_true, Bool.and_eq_true, Nat.ble_eq] at hf
  rcases hf with hf | hf
  · omega
  · have h1 := List.all_eq_true.1 hf.2 j (List.mem_range.2 hjs)
    simp only [Bool.or_eq_true, decide_eq_true_eq] at h1
    rcases h1 with h1 | h1
    · omega
    · obtain ⟨o', ho', e, he, hb, hon⟩ := Region.waitsFor_spec h1
      have : o' = o := Option.some.inj (ho'.symm.trans ho)
      subst this
      have h2 := hall e he hb
      rw [hon, getD_both (inv.tail (j - 1) (by omega) (by omega))] at h2
      cases h2

theorem getD_false_of {n : Nat} {listed : Array Bool} (inv : HeadInv .any ops n listed) : listed.getD n false = false := by
  rcases Nat.lt_or_ge n ops.size with h | h
  · exact getD_both (inv.tail n (Nat.le_refl _) h)
  · have : listed.size ≤ n := by rw [inv.size]; exact h
    simp [Array.getElem?_eq_none this]

theorem wpAnyC_first {n : Nat} {K0 : Act → World → Prop} {i : Nat} {oi : Oper} {v : Value} (hi : ops[i]? = some oi) (hsel : ∀ (j : Nat) (o : Oper) cs b, ops[j]? = some o → o.op ≠ .select cs b) (hf : finB ops n = true) (hin : i < n) :
    ∀ (fuel : Nat) (listed : Array Bool) (a : Act) (w : World), HeadInv .any ops n listed → CH w.heap →
      (∀ j oj, ops[j]? = some oj → j ≠ i → listed.getD j true = false → (∀ e ∈ oj.after, Region.binds .any e = true → e.on ≠ i) → oi.apart ops oj = true) →
      i ∈ Region.ready .any ops listed → YC P ops CH oi v a →
      wpAnyC P .any ops n CH K0 fuel (listed.setIfInBounds i true) (a.put oi.dst v) w → wpAnyC P .any ops n CH K0 (fuel + 1) listed a w := by
  intro fuel
  induction fuel with
  | zero =>
    intro listed a w _ hc _ hr hy H
    refine ⟨fun _ => hc, fun h => (by rw [h] at hr; cases hr), fun j hj => ?_⟩
    by_cases hji : j = i
    · subst hji; exact hy.wpOp hi hc H
    · have := ready_mono hj hji
      rw [H.2.1] at this
      cases this
  | succ fuel ih =>
    intro listed a w inv hc hfree hr hy H
    refine ⟨fun _ => hc, fun h => (by rw [h] at hr; cases hr), fun j hj => ?_⟩
    by_cases hji : j = i
    · subst hji; exact hy.wpOp hi hc H
    · have h1 := H.2.2 j (ready_mono hj hji)
      obtain ⟨hjun, oj, hoj, hall⟩ := mem_ready.1 hj
      have hjn : j < n := fin_waits hf inv hin (mem_ready.1 hr).1 hj
      have inv' := inv.set hj hjn
      have hnot : ∀ e ∈ oj.after, Region.binds .any e = true → e.on ≠ i := fun e he hb heq => by
        have h1 := hall e he hb
        have h0 := (mem_ready.1 hr).1
        rw [heq] at h1
        rcases Nat.lt_or_ge i listed.size with h' | h'
        · simp [h'] at h0 h1; rw [h0] at h1; cases h1
        · simp [Array.getElem?_eq_none h'] at h1
      have h2 := wpOp_putC hoj (hfree j oj hoj hji hjun hnot) (fun cs b => hsel i oi cs b hi) (fun cs b => hsel j oj cs b hoj) hy h1
      have hfree' : ∀ k ok, ops[k]? = some ok → k ≠ i → (listed.setIfInBounds j true).getD k true = false →
          (∀ e ∈ ok.after, Region.binds .any e = true → e.on ≠ i) → oi.apart ops ok = true := fun k ok hk hki hun hno => by
        refine hfree k ok hk hki ?_ hno
        by_cases hjk : j = k
        · subst hjk; exact hjun
        · rw [getD_set_ne true hjk] at hun; exact hun
      have hstill : ((listed.setIfInBounds i true).setIfInBounds j true).getD n false = false := by
        rw [getD_set_ne false (by omega), getD_set_ne false (by omega)]; exact getD_false_of inv
      refine wpOp_mono (fun a' w' h3 => ih (listed.setIfInBounds j true) a' w' inv' (h3.2.ch hstill) hfree' (ready_mono hr (Ne.symm hji)) h3.1 ?_) h2
      rw [Array.setIfInBounds_comm _ _ hji]
      exact h3.2

/-- the order: effs are the operations that write or call; n stands last, if it is one -/
def mixOk (ops : Array Oper) (n : Nat) (effs : List Nat) : List Nat → Array Bool → Bool
  | [], listed => (Region.ready .any ops listed).isEmpty
  | i :: r, listed =>
    (bif effs.contains i then (match Region.ready .any ops listed with | [j] => Nat.beq j i | _ => false) && (Nat.blt i n || r.isEmpty) else ((Region.ready .any ops listed).contains i && Region.free .any ops listed i && Nat.blt i n)) &&
    mixOk ops n effs r (listed.setIfInBounds i true)

/-- a walk in that order; what is known of all heaps to come may grow behind each operation that writes or calls -/
def Sx (P : Program) (N : Nt) (ops : Array Oper) (n : Nat) : (Array Obj → Prop) → List Nat → (Act → World → Prop) → List Nat → SF → World → Prop
  | _, _, K0, [], l, w => ∀ a, HasL N l a → K0 a w
  | CH, effs, K0, i :: r, l, w => ∃ o, ops[i]? = some o ∧
    (bif effs.contains i then Sl P N ops (Only fun a w => ∃ l', HasL N l' a ∧ ∃ CH' : Array Obj → Prop, (∀ H, CH' H → CH H) ∧ (Nat.blt i n = true → CH' w.heap) ∧ Sx P N ops n CH' effs K0 r l' w) [o] l w
     else ∃ v, (∀ a, HasL N l a → YC P ops CH o v a) ∧ ∃ l', (∀ a, HasL N l a → HasL N l' (a.put o.dst v)) ∧ Sx P N ops n CH effs K0 r l' w)

theorem wpAnyC.mono {n : Nat} {K0 : Act → World → Prop} {CH CH' : Array Obj → Prop} (hs : ∀ H, CH' H → CH H) : ∀ {fuel : Nat} {listed : Array Bool} {a : Act} {w : World}, wpAnyC P md ops n CH' K0 fuel listed a w → wpAnyC P md ops n CH K0 fuel listed a w
  | 0, _, _, _, h => ⟨fun h0 => hs _ (h.1 h0), h.2⟩
  | _ + 1, _, _, _, h => ⟨fun h0 => hs _ (h.1 h0), h.2.1, fun i hi => wpOp_mono (fun _ _ h' => wpAnyC.mono hs h') (h.2.2 i hi)⟩

theorem Oper.wp_only {o : Oper} {a : Act} {w : World} {K K' : Act → World → Prop} {M M' : Act → World → Prop} (h : ∀ a w, K a w → K' a w) (hh : o.wp P a w K (Only M)) : o.wp P a w K' (Only M') := by
  unfold Oper.wp at *
  generalize (execOp a.eval o).run P w = r at *
  cases r with
  | ok n w' =>
    cases n <;> simp only [Oper.upon] at hh ⊢ <;>
      first
        | exact h _ _ hh
        | exact Calls.mono hh (fun e w'' he => by cases e <;> first | exact h _ _ he | exact he.elim | (obtain ⟨_, _, hf⟩ := he; exact hf.elim))
        | exact Rows.mono hh (fun _ _ he => h _ _ he)
  | halt x w' => cases x <;> simp only [Oper.upon] at hh ⊢; exact hh.elim

theorem sx_sound {N : Nt} {n : Nat} {effs : List Nat} {K0 : Act → World → Prop} (hsel : Region.noSelect ops = true) (hfin : finB ops n = true) : ∀ (ord : List Nat) (CH : Array Obj → Prop) (fuel : Nat) (listed : Array Bool) (l : SF) (a : Act) (w : World), ord.length ≤ fuel → mixOk ops n effs ord listed = true →
    HasL N l a → (HeadInv .any ops n listed ∧ CH w.heap) ∨ (ord = [] ∧ listed.getD n false = true) → Sx P N ops n CH effs K0 ord l w → wpAnyC P .any ops n CH K0 fuel listed a w
  | [], CH, fuel, listed, l, a, w, _, hm, ha, hc, h => by
    have hr : Region.ready .any ops listed = [] := by simpa [mixOk] using hm
    have hch : listed.getD n false = false → CH w.heap := fun h0 => by
      rcases hc with hc | hc
      · exact hc.2
      · rw [hc.2] at h0; cases h0
    cases fuel with
    | zero => exact ⟨hch, hr, h a ha⟩
    | succ f => exact ⟨hch, fun _ => h a ha, by rw [hr]; simp⟩
  | i :: r, CH, 0, listed, l, a, w, hf, hm, ha, hc, h => by simp at hf
  | i :: r, CH, f + 1, listed, l, a, w, hf, hm, ha, hc, h => by
    obtain ⟨inv, hc⟩ := hc.resolve_right (fun hc => by cases hc.1)
    obtain ⟨o, ho, h⟩ := h
    simp only [mixOk, Bool.and_eq_true] at hm
    obtain ⟨hm1, hm2⟩ := hm
    cases he : effs.contains i with
    | true =>
      rw [he] at h hm1
      simp only [cond_true, Bool.and_eq_true] at h hm1
      obtain ⟨hm1, hm3⟩ := hm1
      have hr : Region.ready .any ops listed = [i] := by
        split at hm1
        · rename_i j hj; rw [hj, Nat.eq_of_beq_eq_true hm1]
        · cases hm1
      refine ⟨fun _ => hc, fun h0 => (by rw [hr] at h0; cases h0), fun j hj => ?_⟩
      have hjr := hj
      rw [hr] at hj
      obtain rfl : j = i := by simpa using hj
      have h1 := h a ha
      unfold wpList at h1
      unfold wpOp
      simp only [ho]
      have key : ∀ a' w', wpList P ops (Only fun a w => ∃ l', HasL N l' a ∧ ∃ CH' : Array Obj → Prop, (∀ H, CH' H → CH H) ∧ (Nat.blt j n = true → CH' w.heap) ∧ Sx P N ops n CH' effs K0 r l' w) [] a' w' → wpAnyC P .any ops n CH K0 f (listed.setIfInBounds j true) a' w' := by
        intro a' w' h2
        obtain ⟨l', h3, CH', hsub, h4, h5⟩ := h2
        refine wpAnyC.mono hsub (sx_sound hsel hfin r CH' f _ l' a' w' (by simp at hf; omega) hm2 h3 ?_ h5)
        rcases Nat.lt_or_ge j n with hjn | hjn
        · exact .inl ⟨inv.set hjr hjn, h4 (by simpa [Nat.blt_eq] using hjn)⟩
        · have hjs : j < ops.size := (Array.getElem?_eq_some_iff.1 ho).1
          have hb : Nat.blt j n = false := by rw [← Bool.not_eq_true, Nat.blt_eq]; omega
          simp only [hb, Bool.false_or, List.isEmpty_iff] at hm3
          have hr0 : r = [] := hm3
          · have hjn' : j = n := by
              rcases Nat.lt_or_ge n j with h6 | h6
              · -- the last one stands at n: all others are ahead of it
                have h7 := fin_waits_end hfin inv hjr h6
                exact h7.elim
              · omega
            subst hjn'
            exact .inr ⟨hr0, by simp [inv.size, hjs]⟩
      split
      · rename_i hw
        rw [if_pos hw] at h1
        rcases h1 with h1 | ⟨_, _, _, h1⟩
        · exact .inl (Oper.wp_only key h1)
        · exact h1.elim
      · rename_i hw
        rw [if_neg hw] at h1
        exact key _ _ h1
    | false =>
      rw [he] at h hm1
      simp only [cond_false, Bool.and_eq_true] at h hm1
      obtain ⟨v, hy, l', hl', hs⟩ := h
      have hin : i < n := by simpa [Nat.blt_eq] using hm1.2
      have hir : i ∈ Region.ready .any ops listed := by simpa using hm1.1.1
      exact wpAnyC_first ho (Region.noSelect_spec hsel) hfin hin f listed a w inv hc (Region.free_spec ho hm1.1.2) hir (hy a ha) (sx_sound hsel hfin r CH f _ l' _ w (by simp at hf; omega) hm2 (hl' a ha) (.inl ⟨inv.set hir hin, hc⟩) hs)

variable {N : Nt} {Q : Exit → Act → World → Prop} {l : SF} {w : World}

theorem headInv0 {n : Nat} : HeadInv .any ops n (Array.replicate ops.size false) :=
  ⟨by simp, (fun j oj hj hl => by rw [getD_replicate_false] at hl; cases hl), (fun t _ ht => by simp [ht])⟩

theorem Sc.draw {id : Nat} {lops : List Oper} (n : Nat) (CH : Array Obj → Prop) (effs ord : List Nat) (hm : P.follows .mixedOrders = true) (hs : (Region.noSelect lops.toArray && finB lops.toArray n &&
    mixOk lops.toArray n effs ord (Array.replicate lops.length false) && Nat.ble ord.length lops.length) = true) (hc : CH w.heap)
    (h : Sx P N lops.toArray n CH effs (fun a w => Q .normal a w) ord l (w.drewN 1)) : Sc P N (.region id lops.toArray true) Q l w := fun a ha => by
  simp only [Bool.and_eq_true] at hs
  obtain ⟨⟨⟨hs, hfin⟩, hok⟩, hlen⟩ := hs
  have h1 := sx_sound (P := P) (N := N) (K0 := fun a w => Q .normal a w) hs hfin ord CH lops.length _ l a (w.drewN 1) (by simpa [Nat.ble_eq] using hlen) hok ha
    (.inl ⟨by have := headInv0 (ops := lops.toArray) (n := n); simpa using this, hc⟩) h
  have h2 := wp_region_any (P := P) (id := id) (ops := lops.toArray) (Q := Only fun a w => Q .normal a w) (a := a) (w := w) hm (by
    have := h1.any
    simpa [World.drewN] using this)
  refine wp_mono h2 ?_
  intro e a' w' hq
  cases e <;> first | exact hq | exact hq.elim

variable {n : Nat} {effs : List Nat} {K0 : Act → World → Prop} {r : List Nat} {i : Nat} {op : Op} {ty : TypeId} {pos : String} {aft : Array Edge} {d : Nat} {v : Value}

theorem Sx.calm (hi : ops[i]? = some ⟨some d, op, ty, pos, aft, none⟩) (he : effs.contains i = false) (hv : Cm P N CH l ⟨some d, op, ty, pos, aft, none⟩ v) (hd : Nat.blt d N.n = true)
    (h : Sx P N ops n CH effs K0 r ((d, v) :: l) w) : Sx P N ops n CH effs K0 (i :: r) l w :=
  ⟨_, hi, by rw [he]; exact ⟨v, fun a ha => .inl ⟨by simp [Region.wanted], fun w hw => hv a w ha hw⟩, _, fun a ha => ha.put hd v, h⟩⟩
theorem Sx.want {j s : Nat} {b : Bool} (hi : ops[i]? = some ⟨some d, op, ty, pos, aft, some (j, b)⟩) (he : effs.contains i = false) (hj : (ops[j]?).bind (·.dst) = some s) (hs : lk l s = some (.bool b))
    (hv : Cm P N CH l ⟨some d, op, ty, pos, aft, some (j, b)⟩ v) (hd : Nat.blt d N.n = true)
    (h : Sx P N ops n CH effs K0 r ((d, v) :: l) w) : Sx P N ops n CH effs K0 (i :: r) l w :=
  ⟨_, hi, by rw [he]; exact ⟨v, fun a ha => .inl ⟨by simp [Region.wanted, yielded_of ha hj hs], fun w hw => hv a w ha hw⟩, _, fun a ha => ha.put hd v, h⟩⟩
theorem Sx.fork {p : Prop} [Decidable p] (hi : ops[i]? = some ⟨some d, op, ty, pos, aft, none⟩) (he : effs.contains i = false) (hv : Cm P N CH l ⟨some d, op, ty, pos, aft, none⟩ (.bool (decide p))) (hd : Nat.blt d N.n = true)
    (h1 : p → Sx P N ops n CH effs K0 r ((d, .bool true) :: l) w) (h2 : ¬ p → Sx P N ops n CH effs K0 r ((d, .bool false) :: l) w) : Sx P N ops n CH effs K0 (i :: r) l w := by
  by_cases h : p
  · rw [decide_eq_true h] at hv; exact Sx.calm hi he hv hd (h1 h)
  · rw [decide_eq_false h] at hv; exact Sx.calm hi he hv hd (h2 h)
theorem Sx.forkWant {p : Prop} [Decidable p] {j s : Nat} {b : Bool} (hi : ops[i]? = some ⟨some d, op, ty, pos, aft, some (j, b)⟩) (he : effs.contains i = false) (hj : (ops[j]?).bind (·.dst) = some s) (hs : lk l s = some (.bool b))
    (hv : Cm P N CH l ⟨some d, op, ty, pos, aft, some (j, b)⟩ (.bool (decide p))) (hd : Nat.blt d N.n = true)
    (h1 : p → Sx P N ops n CH effs K0 r ((d, .bool true) :: l) w) (h2 : ¬ p → Sx P N ops n CH effs K0 r ((d, .bool false) :: l) w) : Sx P N ops n CH effs K0 (i :: r) l w := by
  by_cases h : p
  · rw [decide_eq_true h] at hv; exact Sx.want hi he hj hs hv hd (h1 h)
  · rw [decide_eq_false h] at hv; exact Sx.want hi he hj hs hv hd (h2 h)
theorem Sx.skip {j s : Nat} {b : Bool} {u : Value} (hi : ops[i]? = some ⟨some d, op, ty, pos, aft, some (j, b)⟩) (he : effs.contains i = false) (hj : (ops[j]?).bind (·.dst) = some s) (hs : lk l s = some u) (hb : skipB u b = true) (hd : Nat.blt d N.n = true)
    (h : Sx P N ops n CH effs K0 r ((d, undef) :: l) w) : Sx P N ops n CH effs K0 (i :: r) l w :=
  ⟨_, hi, by rw [he]; exact ⟨undef, fun a ha => .inr ⟨by
    simp only [Region.wanted, yielded_of ha hj hs]
    cases u <;> simp_all [skipB], rfl⟩, _, fun a ha => ha.put hd undef, h⟩⟩
/-- what is asked behind an operation that writes or calls -/
def KX (P : Program) (N : Nt) (ops : Array Oper) (n : Nat) (CH : Array Obj → Prop) (effs : List Nat) (K0 : Act → World → Prop) (i : Nat) (r : List Nat) : Exit → Act → World → Prop :=
  Only fun a w => ∃ l', HasL N l' a ∧ ∃ CH' : Array Obj → Prop, (∀ H, CH' H → CH H) ∧ (Nat.blt i n = true → CH' w.heap) ∧ Sx P N ops n CH' effs K0 r l' w
theorem Sx.eff {o : Oper} (hi : ops[i]? = some o) (he : effs.contains i = true) (h : Sl P N ops (KX P N ops n CH effs K0 i r) [o] l w) : Sx P N ops n CH effs K0 (i :: r) l w :=
  ⟨_, hi, by rw [he]; exact h⟩
theorem Sx.on (hc : CH w.heap) (h : Sx P N ops n CH effs K0 r l w) : Sl P N ops (KX P N ops n CH effs K0 i r) [] l w := fun _ ha => ⟨l, ha, CH, fun _ h => h, fun _ => hc, h⟩
/-- .. and more is known from here on -/
theorem Sx.add (E : Array Obj → Prop) (hc : CH w.heap) (he : E w.heap) (h : Sx P N ops n (fun H => CH H ∧ E H) effs K0 r l w) : Sl P N ops (KX P N ops n CH effs K0 i r) [] l w := fun _ ha => ⟨l, ha, _, fun _ h => h.1, fun _ => ⟨hc, he⟩, h⟩
theorem Sx.last (hb : Nat.blt i n = false) (h : Sx P N ops n CH effs K0 r l w) : Sl P N ops (KX P N ops n CH effs K0 i r) [] l w := fun _ ha => ⟨l, ha, CH, fun _ h => h, (fun h0 => by rw [hb] at h0; cases h0), h⟩
theorem Sx.nil (h : At N .normal Q l w) : Sx P N ops n CH effs (fun a w => Q .normal a w) [] l w := fun a ha => h a ha
/-- A region that only reads. -/
theorem Sc.quiet {id : Nat} {lops : List Oper} (n : Nat) (ord : List Nat) (hm : P.follows .mixedOrders = true) (hs : (Region.noSelect lops.toArray && finB lops.toArray n &&
    mixOk lops.toArray n [] ord (Array.replicate lops.length false) && Nat.ble ord.length lops.length) = true)
    (h : Sx P N lops.toArray n (· = w.heap) [] (fun a w => Q .normal a w) ord l (w.drewN 1)) : Sc P N (.region id lops.toArray true) Q l w :=
  Sc.draw n (· = w.heap) [] ord hm hs rfl h
end
end Go.Proofs.Ytpnfjfbfgaiolaa
