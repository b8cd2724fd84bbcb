/- A small calculus for walking: frames as association lists, one lemma for each operation. No condition. -/
import Derived.Test.YtpnfjfbfgaiolaaRows
import Derived.WalkKit
import Derived.WalkSpells
import Derived.WalkLawsBesides
import Derived.Deep.Quiet
import Derived.Deep.LoopGhost
import Derived.Orders
namespace Go.Proofs.Ytpnfjfbfgaiolaa
open Go Go.RowKit

/-! ### frames -/
abbrev SF := List (Nat × Value)

def lk : SF → Nat → Option Value
  | [], _ => none
  | (s, v) :: r, t => bif Nat.beq s t then some v else lk r t

theorem lk_cons_eq {d : Nat} {v : Value} {l : SF} : lk ((d, v) :: l) d = some v := by simp [lk]
theorem lk_cons_ne {d t : Nat} {v : Value} {l : SF} (h : d ≠ t) : lk ((d, v) :: l) t = lk l t := by
  have : Nat.beq d t = false := by rw [← Bool.not_eq_true, Nat.beq_eq]; exact h
  simp [lk, this]

def evL (l : SF) : Operand → Option Value
  | .tmp t => lk l t
  | .const v => some v
  | .global g => some (.pointer (some ⟨g, 0, none⟩))
  | .func f => some (.func (.func f) #[] #[])

/-- how many slots, what is deferred -/
structure Nt where
  n : Nat
  ds : List Deferred
structure HasL (N : Nt) (l : SF) (a : Act) : Prop where
  dfr : a.defers = N.ds
  siz : a.tmps.size = N.n
  has : ∀ t v, lk l t = some v → a.tmps[t]? = some v

theorem HasL.ev {N : Nt} {l : SF} {a : Act} (h : HasL N l a) {x : Operand} {v : Value} (hx : evL l x = some v) : a.eval x = v := by
  cases x with
  | tmp t => have := h.has t v hx; simp [Act.eval, this]
  | const u => simpa [evL, Act.eval] using hx
  | global g => simpa [evL, Act.eval] using hx
  | func f => simpa [evL, Act.eval] using hx

theorem HasL.put {N : Nt} {l : SF} {a : Act} (h : HasL N l a) {d : Nat} (hd : Nat.blt d N.n = true) (v : Value) : HasL N ((d, v) :: l) (a.put (some d) v) := by
  have hd' : d < N.n := by simpa [Nat.blt_eq] using hd
  refine ⟨h.dfr, by simp [Act.put, h.siz], fun t u ht => ?_⟩
  by_cases e : d = t
  · subst e
    rw [lk_cons_eq] at ht
    cases ht
    simp [Act.put, h.siz, hd']
  · rw [lk_cons_ne e] at ht
    have := h.has t u ht
    simp only [Act.put]
    rw [Array.getElem?_setIfInBounds_ne e]
    exact this

theorem HasL.put_none {N : Nt} {l : SF} {a : Act} (h : HasL N l a) (v : Value) : HasL N l (a.put none v) := h

/-- l is held by l, entry by entry. -/
def Sub : SF → SF → Prop
  | [], _ => True
  | (t, v) :: r, l => lk l t = some v ∧ Sub r l

theorem Sub.lk : ∀ {l' l : SF}, Sub l' l → ∀ t v, Go.Proofs.Ytpnfjfbfgaiolaa.lk l' t = some v → Go.Proofs.Ytpnfjfbfgaiolaa.lk l t = some v
  | [], _, _, t, v, h => by simp [Go.Proofs.Ytpnfjfbfgaiolaa.lk] at h
  | (s, u) :: r, l, hs, t, v, h => by
    by_cases e : s = t
    · subst e; rw [lk_cons_eq] at h; cases h; exact hs.1
    · rw [lk_cons_ne e] at h; exact Sub.lk hs.2 t v h

theorem HasL.sub {N : Nt} {l l' : SF} {a : Act} (h : HasL N l a) (hs : Sub l' l) : HasL N l' a := ⟨h.dfr, h.siz, fun t v ht => h.has t v (hs.lk t v ht)⟩

/-- The entries of some slots. -/
def pick : List Nat → SF → SF
  | [], _ => []
  | t :: r, l => match lk l t with
    | some v => (t, v) :: pick r l
    | none => pick r l

theorem sub_pick : ∀ (ts : List Nat) (l : SF), Sub (pick ts l) l
  | [], _ => trivial
  | t :: r, l => by
    unfold pick
    split
    · rename_i v hv; exact ⟨hv, sub_pick r l⟩
    · exact sub_pick r l

/-! ### code -/
section
variable {P : Program} {N : Nt} {Q : Exit → Act → World → Prop} {l : SF} {w : World}

def Sc (P : Program) (N : Nt) (c : Code) (Q : Exit → Act → World → Prop) (l : SF) (w : World) : Prop := ∀ a, HasL N l a → c.wp P Q a w
def Sl (P : Program) (N : Nt) (ops : Array Oper) (Q : Exit → Act → World → Prop) (rest : List Oper) (l : SF) (w : World) : Prop := ∀ a, HasL N l a → wpList P ops Q rest a w

theorem Sc.weak {c : Code} {l' : SF} (hs : Sub l' l) (h : Sc P N c Q l' w) : Sc P N c Q l w := fun a ha => h a (ha.sub hs)
theorem Sc.pick {c : Code} (ts : List Nat) {l' : SF} (e : pick ts l = l') (h : Sc P N c Q l' w) : Sc P N c Q l w := fun a ha => h a (e ▸ ha.sub (sub_pick ts l))
theorem Sl.weak {ops : Array Oper} {rest : List Oper} {l' : SF} (hs : Sub l' l) (h : Sl P N ops Q rest l' w) : Sl P N ops Q rest l w := fun a ha => h a (ha.sub hs)

theorem Sc.seq {x y : Code} (h : Sc P N x (Exit.then (y.wp P Q) Q) l w) : Sc P N (.seq x y) Q l w := fun a ha => wp_seq (h a ha)
theorem Sc.block {id : Nat} {c : Code} (h : Sc P N c (Exit.inBlock id Q) l w) : Sc P N (.block id c) Q l w := fun a ha => wp_block (h a ha)
theorem Sc.region {id : Nat} {ops : List Oper} (h : Sl P N ops.toArray Q ops l w) : Sc P N (.region id ops.toArray false) Q l w := fun a ha => wp_region_lit (h a ha)
theorem Sc.cond {c : Operand} {x y : Code} {t : Bool} (hc : evL l c = some (.bool t)) (h : Sc P N (if t then x else y) Q l w) : Sc P N (.cond c x y) Q l w := fun a ha => wp_cond (ha.ev hc) (h a ha)
theorem Sc.cond_t {c : Operand} {x y : Code} (hc : evL l c = some (.bool true)) (h : Sc P N x Q l w) : Sc P N (.cond c x y) Q l w := fun a ha => wp_cond (ha.ev hc) (h a ha)
theorem Sc.cond_f {c : Operand} {x y : Code} (hc : evL l c = some (.bool false)) (h : Sc P N y Q l w) : Sc P N (.cond c x y) Q l w := fun a ha => wp_cond (ha.ev hc) (h a ha)

/-- what is asked at a way out: Q at this exit, of every frame that holds l. -/
def At (N : Nt) (e : Exit) (Q : Exit → Act → World → Prop) (l : SF) (w : World) : Prop := ∀ a, HasL N l a → Q e a w

theorem Sc.skip (h : At N .normal Q l w) : Sc P N .skip Q l w := fun a ha => wp_skip (h a ha)
theorem Sc.ret (h : At N .ret Q l w) : Sc P N .ret Q l w := fun a ha => wp_ret (h a ha)
theorem Sc.exit {id : Nat} (h : At N (.exit id) Q l w) : Sc P N (.exit id) Q l w := fun a ha => wp_exit (h a ha)
theorem Sl.nil {ops : Array Oper} (h : At N .normal Q l w) : Sl P N ops Q [] l w := fun a ha => wpList_nil (h a ha)

theorem At.go {y : Code} (h : Sc P N y Q l w) : At N .normal (Exit.then (y.wp P Q) Q) l w := fun a ha => h a ha
theorem At.then_ret {K : Act → World → Prop} (h : At N .ret Q l w) : At N .ret (Exit.then K Q) l w := fun a ha => h a ha
theorem At.then_exit {K : Act → World → Prop} {id : Nat} (h : At N (.exit id) Q l w) : At N (.exit id) (Exit.then K Q) l w := fun a ha => h a ha
theorem At.block_ret {i : Nat} (h : At N .ret Q l w) : At N .ret (Exit.inBlock i Q) l w := fun a ha => h a ha
theorem At.block_normal {i : Nat} (h : At N .normal Q l w) : At N .normal (Exit.inBlock i Q) l w := fun a ha => h a ha
theorem At.block_hit {i : Nat} (h : At N .normal Q l w) : At N (.exit i) (Exit.inBlock i Q) l w := fun a ha => by
  show (if i = i then Q .normal a w else Q (.exit i) a w)
  rw [if_pos rfl]; exact h a ha
theorem At.block_miss {i j : Nat} (hij : Nat.beq j i = false) (h : At N (.exit j) Q l w) : At N (.exit j) (Exit.inBlock i Q) l w := fun a ha => by
  show (if j = i then Q .normal a w else Q (.exit j) a w)
  rw [if_neg (fun e => by subst e; simp at hij)]; exact h a ha
theorem At.weak {e : Exit} (l' : SF) (hs : Sub l' l) (h : At N e Q l' w) : At N e Q l w := fun a ha => h a (ha.sub hs)
theorem At.pick {e : Exit} (ts : List Nat) {l' : SF} (hp : Go.Proofs.Ytpnfjfbfgaiolaa.pick ts l = l') (h : At N e Q l' w) : At N e Q l w := fun a ha => h a (hp ▸ ha.sub (sub_pick ts l))

/-- A loop: β, what is kept; L, the slots of it; J, what holds of it and of the world; μ goes down. -/
def Again (N : Nt) {β : Type} (L : β → SF) (J : β → World → Prop) (μ : β → Nat) (b : β) (a' : Act) (w' : World) : Prop := ∃ b', HasL N (L b') a' ∧ J b' w' ∧ μ b' < μ b

theorem Sc.loop {β : Type} (L : β → SF) (J : β → World → Prop) (μ : β → Nat) {c : Code} (b0 : β) (hl : Sub (L b0) l) (h0 : J b0 w)
    (round : ∀ b w, J b w → Sc P N c (Exit.then (Again N L J μ b) Q) (L b) w) : Sc P N (.loop c) Q l w := by
  intro a ha
  refine wp_loop_ghost (fun n a w => ∃ b, μ b = n ∧ HasL N (L b) a ∧ J b w) (μ b0) ⟨b0, rfl, ha.sub hl, h0⟩ ?_
  rintro n a w ⟨b, rfl, hL, hJ⟩
  refine wp_mono (round b w hJ a hL) ?_
  intro e a' w' hq
  cases e with
  | normal => obtain ⟨b', h1, h2, h3⟩ := hq; exact ⟨μ b', h3, b', rfl, h1, h2⟩
  | exit id => exact hq
  | goto l => exact hq
  | ret => exact hq
  | panic ch => exact hq
  | outgrown => exact hq

theorem At.again {β : Type} {L : β → SF} {J : β → World → Prop} {μ : β → Nat} {b : β} (b' : β) (hl : Sub (L b') l) (hJ : J b' w) (hm : μ b' < μ b) :
    At N .normal (Exit.then (Again N L J μ b) Q) l w := fun _ ha => ⟨b', ha.sub hl, hJ, hm⟩

/-- A cut between two pieces: R, what the second may lean on. -/
theorem Sc.cut {x y : Code} {β : Type} (L : β → SF) (J : β → World → Prop) (h1 : Sc P N x (Exit.then (fun a w => ∃ b, HasL N (L b) a ∧ J b w) Q) l w)
    (h2 : ∀ b w, J b w → Sc P N y Q (L b) w) : Sc P N (.seq x y) Q l w := fun a ha =>
  wp_seq (wp_mono (h1 a ha) fun e a' w' hq => by
    cases e with
    | normal => obtain ⟨b, h3, h4⟩ := hq; exact h2 b w' h4 a' h3
    | exit id => exact hq
    | goto l => exact hq
    | ret => exact hq
    | panic ch => exact hq
    | outgrown => exact hq)

theorem At.cut {β : Type} {L : β → SF} {J : β → World → Prop} (b : β) (hl : Sub (L b) l) (hJ : J b w) :
    At N .normal (Exit.then (fun a w => ∃ b, HasL N (L b) a ∧ J b w) Q) l w := fun _ ha => ⟨b, ha.sub hl, hJ⟩

/-! ### entering, leaving -/
theorem calls_of_sc {P : Program} {f : FuncId} {fn : Func} {c : Code} {args : List Value} {w : World} {R : Ending → World → Prop} (N : Nat) (l : SF)
    (hf : P.funcs[f]? = some fn) (hb : fn.body = some c) (hN : fn.ntmps = N) (hle : Nat.ble args.length N = true)
    (hl : ∀ t v, lk l t = some v → args[t]? = some v)
    (h : Sc P ⟨N, []⟩ c (bodyPost P fn R) l w) : Calls P f args.toArray w R := by
  refine calls_of_wp hf hb (h _ ⟨rfl, ?_, ?_⟩)
  · have : args.length ≤ N := by simpa [Nat.ble_eq] using hle
    simp [hN]; omega
  · intro t v ht
    have := hl t v ht
    have hlt : t < args.length := (List.getElem?_eq_some_iff.1 this).1
    rw [List.getElem?_eq_getElem hlt] at this
    simpa [Array.getElem?_append, hlt] using this

theorem enter_slots {args : List Value} {l : SF} (h : Sub l ((List.range args.length).zip args)) : ∀ t v, lk l t = some v → args[t]? = some v := by
  have key : ∀ (vs : List Value) (k : Nat) t v, lk ((List.range' k vs.length).zip vs) t = some v → vs[t - k]? = some v := by
    intro vs
    induction vs with
    | nil => intro k t v h; simp [lk] at h
    | cons x xs ih =>
      intro k t v h
      simp only [List.length_cons, List.range'_succ, List.zip_cons_cons] at h
      by_cases e : k = t
      · subst e; rw [lk_cons_eq] at h; cases h; simp
      · rw [lk_cons_ne e] at h
        have h2 := ih (k + 1) t v h
        by_cases hlt : k < t
        · rw [show t - k = (t - (k + 1)) + 1 by omega]; simpa using h2
        · have hnone : lk ((List.range' (k + 1) xs.length).zip xs) t = none := by
            have : ∀ (ys : List Value) (m : Nat), t < m → lk ((List.range' m ys.length).zip ys) t = none := by
              intro ys
              induction ys with
              | nil => intro m _; simp [lk]
              | cons y ys ihy => intro m hm; simp only [List.length_cons, List.range'_succ, List.zip_cons_cons]; rw [lk_cons_ne (by omega)]; exact ihy (m + 1) (by omega)
            exact this xs (k + 1) (by omega)
          rw [hnone] at h; cases h
  intro t v ht
  have h1 := h.lk t v ht
  rw [List.range_eq_range'] at h1
  simpa using key args 0 t v h1

theorem At.ret1 {P : Program} {N : Nat} {fn : Func} {R : Ending → World → Prop} {l : SF} {w : World} {t : Nat} {v : Value} (hr : fn.results = #[.tmp t]) (hv : lk l t = some v) (h : R (.returned v) w) :
    At ⟨N, []⟩ .ret (bodyPost P fn R) l w := fun a ha => ⟨ha.dfr, v, by rw [results_tmp hr]; simp [ha.has t v hv], h⟩
theorem At.ret2 {P : Program} {N : Nat} {fn : Func} {R : Ending → World → Prop} {l : SF} {w : World} {t u : Nat} {v x : Value} (hr : fn.results = #[.tmp t, .tmp u]) (hv : lk l t = some v) (hx : lk l u = some x)
    (h : R (.returned (.tuple #[v, x])) w) :
    At ⟨N, []⟩ .ret (bodyPost P fn R) l w := fun a ha => ⟨ha.dfr, _, by rw [results_tmp2 hr], by simpa [ha.has t v hv, ha.has u x hx] using h⟩
theorem At.ret3 {P : Program} {N : Nat} {fn : Func} {R : Ending → World → Prop} {l : SF} {w : World} {t u s : Nat} {v x y : Value} (hr : fn.results = #[.tmp t, .tmp u, .tmp s]) (hv : lk l t = some v) (hx : lk l u = some x) (hy : lk l s = some y)
    (h : R (.returned (.tuple #[v, x, y])) w) :
    At ⟨N, []⟩ .ret (bodyPost P fn R) l w := fun a ha => ⟨ha.dfr, _, by rw [results_tmp3 hr], by simpa [ha.has t v hv, ha.has u x hx, ha.has s y hy] using h⟩
theorem At.end0 {P : Program} {N : Nat} {fn : Func} {R : Ending → World → Prop} {l : SF} {w : World} (hr : fn.results = #[]) (h : R (.returned (.tuple #[])) w) :
    At ⟨N, []⟩ .normal (bodyPost P fn R) l w := fun a ha => ⟨ha.dfr, _, by rw [results_none hr], h⟩
theorem At.ret0 {P : Program} {N : Nat} {fn : Func} {R : Ending → World → Prop} {l : SF} {w : World} (hr : fn.results = #[]) (h : R (.returned (.tuple #[])) w) :
    At ⟨N, []⟩ .ret (bodyPost P fn R) l w := fun a ha => ⟨ha.dfr, _, by rw [results_none hr], h⟩
end
end Go.Proofs.Ytpnfjfbfgaiolaa
