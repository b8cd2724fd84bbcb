/- A small calculus for walking: frames as association lists, one lemma for each operation. No condition. -/
import Derived.WalkKit
import Derived.WalkSpells
import Derived.WalkLawsBesides
import Derived.Deep.Quiet
import Derived.Deep.LoopGhost
import Derived.Orders
import Derived.IntWalk
import Derived.Laws.BytesArg
import Derived.StillTail
import Derived.Lib.Bytealg
import Derived.Lib.ConvBytes
import Derived.Laws.Small
import Derived.Laws.StructEq
import Derived.Laws.Rows
import Derived.Test.YtpamandneifemaaRows
namespace Go.Proofs.Ytpamandneifemaa
open Go Go.RowKit

/-! ### frames -/
abbrev SF := List (Nat × Value)

def lk : SF → Nat → Option Value
  | [], _ => none
  | (s, v) :: r, t => bif Nat.beq s t then some v else lk r t

theorem lk_cons_eq {d : Nat} {v : Value} {l : SF} : lk ((d, v) :: l) d = some v := by simp [lk]
theorem lk_cons_ne {d t : Nat} {v : Value} {l : SF} (h : d ≠ t) : lk ((d, v) :: l) t = lk l t := by
  have : Nat.beq d t = false := by rw [← Bool.not_eq_true, Nat.beq_eq]; exact h
  simp [lk, this]

def evL (l : SF) : Operand → Option Value
  | .tmp t => lk l t
  | .const v => some v
  | .global g => some (.pointer (some ⟨g, 0, none⟩))
  | .func f => some (.func (.func f) #[] #[])

/-- how many slots, what is deferred -/
structure Nt where
  n : Nat
  ds : List Deferred
structure HasL (N : Nt) (l : SF) (a : Act) : Prop where
  dfr : a.defers = N.ds
  siz : a.tmps.size = N.n
  has : ∀ t v, lk l t = some v → a.tmps[t]? = some v

theorem HasL.ev {N : Nt} {l : SF} {a : Act} (h : HasL N l a) {x : Operand} {v : Value} (hx : evL l x = some v) : a.eval x = v := by
  cases x with
  | tmp t => have := h.has t v hx; simp [Act.eval, this]
  | const u => simpa [evL, Act.eval] using hx
  | global g => simpa [evL, Act.eval] using hx
  | func f => simpa [evL, Act.eval] using hx

theorem HasL.put {N : Nt} {l : SF} {a : Act} (h : HasL N l a) {d : Nat} (hd : Nat.blt d N.n = true) (v : Value) : HasL N ((d, v) :: l) (a.put (some d) v) := by
  have hd' : d < N.n := by simpa [Nat.blt_eq] using hd
  refine ⟨h.dfr, by simp [Act.put, h.siz], fun t u ht => ?_⟩
  by_cases e : d = t
  · subst e
    rw [lk_cons_eq] at ht
    cases ht
    simp [Act.put, h.siz, hd']
  · rw [lk_cons_ne e] at ht
    have := h.has t u ht
    simp only [Act.put]
    rw [Array.getElem?_setIfInBounds_ne e]
    exact this

theorem HasL.put_none {N : Nt} {l : SF} {a : Act} (h : HasL N l a) (v : Value) : HasL N l (a.put none v) := h

/-- l is held by l, entry by entry. -/
def Sub : SF → SF → Prop
  | [], _ => True
  | (t, v) :: r, l => lk l t = some v ∧ Sub r l

theorem Sub.lk : ∀ {l' l : SF}, Sub l' l → ∀ t v, Go.Proofs.Ytpamandneifemaa.lk l' t = some v → Go.Proofs.Ytpamandneifemaa.lk l t = some v
  | [], _, _, t, v, h => by simp [Go.Proofs.Ytpamandneifemaa.lk] at h
  | (s, u) :: r, l, hs, t, v, h => by
    by_cases e : s = t
    · subst e; rw [lk_cons_eq] at h; cases h; exact hs.1
    · rw [lk_cons_ne e] at h; exact Sub.lk hs.2 t v h

theorem HasL.sub {N : Nt} {l l' : SF} {a : Act} (h : HasL N l a) (hs : Sub l' l) : HasL N l' a := ⟨h.dfr, h.siz, fun t v ht => h.has t v (hs.lk t v ht)⟩

/-- The entries of some slots. -/
def pick : List Nat → SF → SF
  | [], _ => []
  | t :: r, l => match lk l t with
    | some v => (t, v) :: pick r l
    | none => pick r l

theorem sub_pick : ∀ (ts : List Nat) (l : SF), Sub (pick ts l) l
  | [], _ => trivial
  | t :: r, l => by
    unfold pick
    split
    · rename_i v hv; exact ⟨hv, sub_pick r l⟩
    · exact sub_pick r l

/-! ### code -/
section
variable {P : Program} {N : Nt} {Q : Exit → Act → World → Prop} {l : SF} {w : World}

def Sc (P : Program) (N : Nt) (c : Code) (Q : Exit → Act → World → Prop) (l : SF) (w : World) : Prop := ∀ a, HasL N l a → c.wp P Q a w
def Sl (P : Program) (N : Nt) (ops : Array Oper) (Q : Exit → Act → World → Prop) (rest : List Oper) (l : SF) (w : World) : Prop := ∀ a, HasL N l a → wpList P ops Q rest a w

theorem Sc.weak {c : Code} {l' : SF} (hs : Sub l' l) (h : Sc P N c Q l' w) : Sc P N c Q l w := fun a ha => h a (ha.sub hs)
theorem Sc.pick {c : Code} (ts : List Nat) {l' : SF} (e : pick ts l = l') (h : Sc P N c Q l' w) : Sc P N c Q l w := fun a ha => h a (e ▸ ha.sub (sub_pick ts l))
theorem Sl.weak {ops : Array Oper} {rest : List Oper} {l' : SF} (hs : Sub l' l) (h : Sl P N ops Q rest l' w) : Sl P N ops Q rest l w := fun a ha => h a (ha.sub hs)

theorem Sc.seq {x y : Code} (h : Sc P N x (Exit.then (y.wp P Q) Q) l w) : Sc P N (.seq x y) Q l w := fun a ha => wp_seq (h a ha)
theorem Sc.block {id : Nat} {c : Code} (h : Sc P N c (Exit.inBlock id Q) l w) : Sc P N (.block id c) Q l w := fun a ha => wp_block (h a ha)
theorem Sc.region {id : Nat} {ops : List Oper} (h : Sl P N ops.toArray Q ops l w) : Sc P N (.region id ops.toArray false) Q l w := fun a ha => wp_region_lit (h a ha)
theorem Sc.cond {c : Operand} {x y : Code} {t : Bool} (hc : evL l c = some (.bool t)) (h : Sc P N (if t then x else y) Q l w) : Sc P N (.cond c x y) Q l w := fun a ha => wp_cond (ha.ev hc) (h a ha)
theorem Sc.cond_t {c : Operand} {x y : Code} (hc : evL l c = some (.bool true)) (h : Sc P N x Q l w) : Sc P N (.cond c x y) Q l w := fun a ha => wp_cond (ha.ev hc) (h a ha)
theorem Sc.cond_f {c : Operand} {x y : Code} (hc : evL l c = some (.bool false)) (h : Sc P N y Q l w) : Sc P N (.cond c x y) Q l w := fun a ha => wp_cond (ha.ev hc) (h a ha)

/-- what is asked at a way out: Q at this exit, of every frame that holds l. -/
def At (N : Nt) (e : Exit) (Q : Exit → Act → World → Prop) (l : SF) (w : World) : Prop := ∀ a, HasL N l a → Q e a w

theorem Sc.skip (h : At N .normal Q l w) : Sc P N .skip Q l w := fun a ha => wp_skip (h a ha)
theorem Sc.ret (h : At N .ret Q l w) : Sc P N .ret Q l w := fun a ha => wp_ret (h a ha)
theorem Sc.exit {id : Nat} (h : At N (.exit id) Q l w) : Sc P N (.exit id) Q l w := fun a ha => wp_exit (h a ha)
theorem Sl.nil {ops : Array Oper} (h : At N .normal Q l w) : Sl P N ops Q [] l w := fun a ha => wpList_nil (h a ha)

theorem At.go {y : Code} (h : Sc P N y Q l w) : At N .normal (Exit.then (y.wp P Q) Q) l w := fun a ha => h a ha
theorem At.then_ret {K : Act → World → Prop} (h : At N .ret Q l w) : At N .ret (Exit.then K Q) l w := fun a ha => h a ha
theorem At.then_exit {K : Act → World → Prop} {id : Nat} (h : At N (.exit id) Q l w) : At N (.exit id) (Exit.then K Q) l w := fun a ha => h a ha
theorem At.block_ret {i : Nat} (h : At N .ret Q l w) : At N .ret (Exit.inBlock i Q) l w := fun a ha => h a ha
theorem At.block_normal {i : Nat} (h : At N .normal Q l w) : At N .normal (Exit.inBlock i Q) l w := fun a ha => h a ha
theorem At.block_hit {i : Nat} (h : At N .normal Q l w) : At N (.exit i) (Exit.inBlock i Q) l w := fun a ha => by
  show (if i = i then Q .normal a w else Q (.exit i) a w)
  rw [if_pos rfl]; exact h a ha
theorem At.block_miss {i j : Nat} (hij : Nat.beq j i = false) (h : At N (.exit j) Q l w) : At N (.exit j) (Exit.inBlock i Q) l w := fun a ha => by
  show (if j = i then Q .normal a w else Q (.exit j) a w)
  rw [if_neg (fun e => by subst e; simp at hij)]; exact h a ha
theorem At.weak {e : Exit} (l' : SF) (hs : Sub l' l) (h : At N e Q l' w) : At N e Q l w := fun a ha => h a (ha.sub hs)
theorem At.pick {e : Exit} (ts : List Nat) {l' : SF} (hp : Go.Proofs.Ytpamandneifemaa.pick ts l = l') (h : At N e Q l' w) : At N e Q l w := fun a ha => h a (hp ▸ ha.sub (sub_pick ts l))

/-- A loop: β, what is kept; L, the slots of it; J, what holds of it and of the world; μ goes down. -/
def Again (N : Nt) {β : Type} (L : β → SF) (J : β → World → Prop) (μ : β → Nat) (b : β) (a' : Act) (w' : World) : Prop := ∃ b', HasL N (L b') a' ∧ J b' w' ∧ μ b' < μ b

theorem Sc.loop {β : Type} (L : β → SF) (J : β → World → Prop) (μ : β → Nat) {c : Code} (b0 : β) (hl : Sub (L b0) l) (h0 : J b0 w)
    (round : ∀ b w, J b w → Sc P N c (Exit.then (Again N L J μ b) Q) (L b) w) : Sc P N (.loop c) Q l w := by
  intro a ha
  refine wp_loop_ghost (fun n a w => ∃ b, μ b = n ∧ HasL N (L b) a ∧ J b w) (μ b0) ⟨b0, rfl, ha.sub hl, h0⟩ ?_
  rintro n a w ⟨b, rfl, hL, hJ⟩
  refine wp_mono (round b w hJ a hL) ?_
  intro e a' w' hq
  cases e with
  | normal => obtain ⟨b', h1, h2, h3⟩ := hq; exact ⟨μ b', h3, b', rfl, h1, h2⟩
  | exit id => exact hq
  | goto l => exact hq
  | ret => exact hq
  | panic ch => exact hq
  | outgrown => exact hq

theorem At.again {β : Type} {L : β → SF} {J : β → World → Prop} {μ : β → Nat} {b : β} (b' : β) (hl : Sub (L b') l) (hJ : J b' w) (hm : μ b' < μ b) :
    At N .normal (Exit.then (Again N L J μ b) Q) l w := fun _ ha => ⟨b', ha.sub hl, hJ, hm⟩

/-- A cut between two pieces: R, what the second may lean on. -/
theorem Sc.cut {x y : Code} {β : Type} (L : β → SF) (J : β → World → Prop) (h1 : Sc P N x (Exit.then (fun a w => ∃ b, HasL N (L b) a ∧ J b w) Q) l w)
    (h2 : ∀ b w, J b w → Sc P N y Q (L b) w) : Sc P N (.seq x y) Q l w := fun a ha =>
  wp_seq (wp_mono (h1 a ha) fun e a' w' hq => by
    cases e with
    | normal => obtain ⟨b, h3, h4⟩ := hq; exact h2 b w' h4 a' h3
    | exit id => exact hq
    | goto l => exact hq
    | ret => exact hq
    | panic ch => exact hq
    | outgrown => exact hq)

theorem At.cut {β : Type} {L : β → SF} {J : β → World → Prop} (b : β) (hl : Sub (L b) l) (hJ : J b w) :
    At N .normal (Exit.then (fun a w => ∃ b, HasL N (L b) a ∧ J b w) Q) l w := fun _ ha => ⟨b, ha.sub hl, hJ⟩

/-! ### entering, leaving -/
theorem calls_of_sc {P : Program} {f : FuncId} {fn : Func} {c : Code} {args : List Value} {w : World} {R : Ending → World → Prop} (N : Nat) (l : SF)
    (hf : P.funcs[f]? = some fn) (hb : fn.body = some c) (hN : fn.ntmps = N) (hle : Nat.ble args.length N = true)
    (hl : ∀ t v, lk l t = some v → args[t]? = some v)
    (h : Sc P ⟨N, []⟩ c (bodyPost P fn R) l w) : Calls P f args.toArray w R := by
  refine calls_of_wp hf hb (h _ ⟨rfl, ?_, ?_⟩)
  · have : args.length ≤ N := by simpa [Nat.ble_eq] using hle
    simp [hN]; omega
  · intro t v ht
    have := hl t v ht
    have hlt : t < args.length := (List.getElem?_eq_some_iff.1 this).1
    rw [List.getElem?_eq_getElem hlt] at this
    simpa [Array.getElem?_append, hlt] using this

theorem enter_slots {args : List Value} {l : SF} (h : Sub l ((List.range args.length).zip args)) : ∀ t v, lk l t = some v → args[t]? = some v := by
  have key : ∀ (vs : List Value) (k : Nat) t v, lk ((List.range' k vs.length).zip vs) t = some v → vs[t - k]? = some v := by
    intro vs
    induction vs with
    | nil => intro k t v h; simp [lk] at h
    | cons x xs ih =>
      intro k t v h
      simp only [List.length_cons, List.range'_succ, List.zip_cons_cons] at h
      by_cases e : k = t
      · subst e; rw [lk_cons_eq] at h; cases h; simp
      · rw [lk_cons_ne e] at h
        have h2 := ih (k + 1) t v h
        by_cases hlt : k < t
        · rw [show t - k = (t - (k + 1)) + 1 by omega]; simpa using h2
        · have hnone : lk ((List.range' (k + 1) xs.length).zip xs) t = none := by
            have : ∀ (ys : List Value) (m : Nat), t < m → lk ((List.range' m ys.length).zip ys) t = none := by
              intro ys
              induction ys with
              | nil => intro m _; simp [lk]
              | cons y ys ihy => intro m hm; simp only [List.length_cons, List.range'_succ, List.zip_cons_cons]; rw [lk_cons_ne (by omega)]; exact ihy (m + 1) (by omega)
            exact this xs (k + 1) (by omega)
          rw [hnone] at h; cases h
  intro t v ht
  have h1 := h.lk t v ht
  rw [List.range_eq_range'] at h1
  simpa using key args 0 t v h1

theorem At.ret1 {P : Program} {N : Nat} {fn : Func} {R : Ending → World → Prop} {l : SF} {w : World} {t : Nat} {v : Value} (hr : fn.results = #[.tmp t]) (hv : lk l t = some v) (h : R (.returned v) w) :
    At ⟨N, []⟩ .ret (bodyPost P fn R) l w := fun a ha => ⟨ha.dfr, v, by rw [results_tmp hr]; simp [ha.has t v hv], h⟩
theorem At.ret2 {P : Program} {N : Nat} {fn : Func} {R : Ending → World → Prop} {l : SF} {w : World} {t u : Nat} {v x : Value} (hr : fn.results = #[.tmp t, .tmp u]) (hv : lk l t = some v) (hx : lk l u = some x)
    (h : R (.returned (.tuple #[v, x])) w) :
    At ⟨N, []⟩ .ret (bodyPost P fn R) l w := fun a ha => ⟨ha.dfr, _, by rw [results_tmp2 hr], by simpa [ha.has t v hv, ha.has u x hx] using h⟩
theorem At.ret3 {P : Program} {N : Nat} {fn : Func} {R : Ending → World → Prop} {l : SF} {w : World} {t u s : Nat} {v x y : Value} (hr : fn.results = #[.tmp t, .tmp u, .tmp s]) (hv : lk l t = some v) (hx : lk l u = some x) (hy : lk l s = some y)
    (h : R (.returned (.tuple #[v, x, y])) w) :
    At ⟨N, []⟩ .ret (bodyPost P fn R) l w := fun a ha => ⟨ha.dfr, _, by rw [results_tmp3 hr], by simpa [ha.has t v hv, ha.has u x hx, ha.has s y hy] using h⟩
theorem At.end0 {P : Program} {N : Nat} {fn : Func} {R : Ending → World → Prop} {l : SF} {w : World} (hr : fn.results = #[]) (h : R (.returned (.tuple #[])) w) :
    At ⟨N, []⟩ .normal (bodyPost P fn R) l w := fun a ha => ⟨ha.dfr, _, by rw [results_none hr], h⟩
theorem At.ret0 {P : Program} {N : Nat} {fn : Func} {R : Ending → World → Prop} {l : SF} {w : World} (hr : fn.results = #[]) (h : R (.returned (.tuple #[])) w) :
    At ⟨N, []⟩ .ret (bodyPost P fn R) l w := fun a ha => ⟨ha.dfr, _, by rw [results_none hr], h⟩
end
end Go.Proofs.Ytpamandneifemaa
/- One lemma for each operation, over frames as association lists. No condition. -/
namespace Go.Proofs.Ytpamandneifemaa
open Go Go.RowKit

def cellH (H : Array Obj) (a : Addr) : Option Value :=
  match H[a.block]? with
  | some (.cells c _ _) => if a.spot.isSome then none else c[a.off]?
  | _ => none
theorem cell?_eq (w : World) (a : Addr) : w.cell? a = cellH w.heap a := rfl

/-- An operation that only computes or reads: of every frame that holds l, over every heap of the class. -/
def Cm (P : Program) (N : Nt) (CH : Array Obj → Prop) (l : SF) (o : Oper) (v : Value) : Prop :=
  ∀ a w, HasL N l a → CH w.heap → (execOp a.eval o).run P w = .ok (.value v) w

def skipB : Value → Bool → Bool
  | .bool c, b => c != b
  | .tuple _, _ => true
  | _, _ => false

section
variable {P : Program} {N : Nt} {Q : Exit → Act → World → Prop} {l : SF} {w : World} {ops : Array Oper} {rest : List Oper}
variable {op : Op} {ty : TypeId} {pos : String} {aft : Array Edge} {d : Nat} {v : Value} {CH : Array Obj → Prop}

theorem Sl.calm (hv : Cm P N (· = w.heap) l ⟨some d, op, ty, pos, aft, none⟩ v) (hd : Nat.blt d N.n = true) (h : Sl P N ops Q rest ((d, v) :: l) w) :
    Sl P N ops Q (⟨some d, op, ty, pos, aft, none⟩ :: rest) l w := fun a ha => by
  unfold wpList
  rw [if_pos (by simp [Region.wanted])]
  refine .inl ?_
  unfold Oper.wp
  rw [hv a w ha rfl]
  exact h _ (ha.put hd v)

theorem yielded_of {a : Act} (ha : HasL N l a) {j s : Nat} {u : Value} (hj : (ops[j]?).bind (·.dst) = some s) (hs : lk l s = some u) :
    yielded ops a.tmps j = (match u with | .bool b => some b | _ => none) := by
  unfold yielded
  rw [hj]
  simp only [Option.bind_some, ha.has s u hs]
  cases u <;> rfl

theorem Sl.want {j s : Nat} {b : Bool} (hj : (ops[j]?).bind (·.dst) = some s) (hs : lk l s = some (.bool b))
    (hv : Cm P N (· = w.heap) l ⟨some d, op, ty, pos, aft, some (j, b)⟩ v) (hd : Nat.blt d N.n = true) (h : Sl P N ops Q rest ((d, v) :: l) w) :
    Sl P N ops Q (⟨some d, op, ty, pos, aft, some (j, b)⟩ :: rest) l w := fun a ha => by
  unfold wpList
  rw [if_pos (by simp [Region.wanted, yielded_of ha hj hs])]
  refine .inl ?_
  unfold Oper.wp
  rw [hv a w ha rfl]
  exact h _ (ha.put hd v)

theorem Sl.fork {p : Prop} [Decidable p] (hv : Cm P N (· = w.heap) l ⟨some d, op, ty, pos, aft, none⟩ (.bool (decide p))) (hd : Nat.blt d N.n = true)
    (h1 : p → Sl P N ops Q rest ((d, .bool true) :: l) w) (h2 : ¬ p → Sl P N ops Q rest ((d, .bool false) :: l) w) :
    Sl P N ops Q (⟨some d, op, ty, pos, aft, none⟩ :: rest) l w := by
  by_cases h : p
  · rw [decide_eq_true h] at hv; exact Sl.calm hv hd (h1 h)
  · rw [decide_eq_false h] at hv; exact Sl.calm hv hd (h2 h)
theorem Sl.forkWant {p : Prop} [Decidable p] {j s : Nat} {b : Bool} (hj : (ops[j]?).bind (·.dst) = some s) (hs : lk l s = some (.bool b))
    (hv : Cm P N (· = w.heap) l ⟨some d, op, ty, pos, aft, some (j, b)⟩ (.bool (decide p))) (hd : Nat.blt d N.n = true)
    (h1 : p → Sl P N ops Q rest ((d, .bool true) :: l) w) (h2 : ¬ p → Sl P N ops Q rest ((d, .bool false) :: l) w) :
    Sl P N ops Q (⟨some d, op, ty, pos, aft, some (j, b)⟩ :: rest) l w := by
  by_cases h : p
  · rw [decide_eq_true h] at hv; exact Sl.want hj hs hv hd (h1 h)
  · rw [decide_eq_false h] at hv; exact Sl.want hj hs hv hd (h2 h)

theorem Sl.skip {j s : Nat} {b : Bool} {u : Value} (hj : (ops[j]?).bind (·.dst) = some s) (hs : lk l s = some u) (hb : skipB u b = true) (hd : Nat.blt d N.n = true)
    (h : Sl P N ops Q rest ((d, undef) :: l) w) :
    Sl P N ops Q (⟨some d, op, ty, pos, aft, some (j, b)⟩ :: rest) l w := fun a ha => by
  unfold wpList
  rw [if_neg (by
    simp only [Region.wanted, yielded_of ha hj hs]
    cases u <;> simp_all [skipB])]
  exact h _ (ha.put hd undef)

/-! ### operations that compute -/
section
variable {x y : Operand} {t t' : TypeId} {g : Option (Nat × Bool)} {dd : Option Nat}
variable {k k' : IntKind} {m n : Int}

theorem Cm.move (hx : evL l x = some v) : Cm P N CH l ⟨dd, .move x, ty, pos, aft, g⟩ v := fun a w ha _ => by simp [execOp, ha.ev hx]
theorem Cm.assign (hx : evL l x = some v) : Cm P N CH l ⟨dd, .assign x, ty, pos, aft, g⟩ v := fun a w ha _ => by simp [execOp, ha.ev hx]
theorem Cm.pick_t {c : Operand} (hc : evL l c = some (.bool true)) (hx : evL l x = some v) : Cm P N CH l ⟨dd, .pick c x y, ty, pos, aft, g⟩ v := fun a w ha _ => by
  simp [execOp, ha.ev hc, ha.ev hx, asBool]
theorem Cm.pick_f {c : Operand} (hc : evL l c = some (.bool false)) (hy : evL l y = some v) : Cm P N CH l ⟨dd, .pick c x y, ty, pos, aft, g⟩ v := fun a w ha _ => by
  simp [execOp, ha.ev hc, ha.ev hy, asBool]

theorem Cm.addW (hx : evL l x = some (.int k m)) (hy : evL l y = some (.int k n)) : Cm P N CH l ⟨dd, .binOp .add t x y t', ty, pos, aft, g⟩ (.int k (k.wrap (m + n))) := fun a w ha _ => by
  simp [execOp, ha.ev hx, ha.ev hy, eqGuard, binOp, Op.intArith]
theorem Cm.subW (hx : evL l x = some (.int k m)) (hy : evL l y = some (.int k n)) : Cm P N CH l ⟨dd, .binOp .sub t x y t', ty, pos, aft, g⟩ (.int k (k.wrap (m - n))) := fun a w ha _ => by
  simp [execOp, ha.ev hx, ha.ev hy, eqGuard, binOp, Op.intArith]
theorem Cm.mulW (hx : evL l x = some (.int k m)) (hy : evL l y = some (.int k n)) : Cm P N CH l ⟨dd, .binOp .mul t x y t', ty, pos, aft, g⟩ (.int k (k.wrap (m * n))) := fun a w ha _ => by
  simp [execOp, ha.ev hx, ha.ev hy, eqGuard, binOp, Op.intArith]

theorem wrap64_id {z : Int} (h : -9223372036854775808 ≤ z ∧ z ≤ 9223372036854775807) : IntKind.i64.wrap z = z := IntWalk.i64_in z (by omega)

theorem Cm.add64 (hx : evL l x = some (.int .i64 m)) (hy : evL l y = some (.int .i64 n)) (hb : -9223372036854775808 ≤ m + n ∧ m + n ≤ 9223372036854775807) :
    Cm P N CH l ⟨dd, .binOp .add t x y t', ty, pos, aft, g⟩ (.int .i64 (m + n)) := by
  have := @Cm.addW P N l ty pos aft CH x y t t' g dd .i64 m n hx hy; rwa [wrap64_id hb] at this
theorem Cm.sub64 (hx : evL l x = some (.int .i64 m)) (hy : evL l y = some (.int .i64 n)) (hb : -9223372036854775808 ≤ m - n ∧ m - n ≤ 9223372036854775807) :
    Cm P N CH l ⟨dd, .binOp .sub t x y t', ty, pos, aft, g⟩ (.int .i64 (m - n)) := by
  have := @Cm.subW P N l ty pos aft CH x y t t' g dd .i64 m n hx hy; rwa [wrap64_id hb] at this
theorem Cm.mul64 (hx : evL l x = some (.int .i64 m)) (hy : evL l y = some (.int .i64 n)) (hb : -9223372036854775808 ≤ m * n ∧ m * n ≤ 9223372036854775807) :
    Cm P N CH l ⟨dd, .binOp .mul t x y t', ty, pos, aft, g⟩ (.int .i64 (m * n)) := by
  have := @Cm.mulW P N l ty pos aft CH x y t t' g dd .i64 m n hx hy; rwa [wrap64_id hb] at this

theorem Cm.quoW (hx : evL l x = some (.int k m)) (hy : evL l y = some (.int k n)) (hn : n ≠ 0) : Cm P N CH l ⟨dd, .binOp .quo t x y t', ty, pos, aft, g⟩ (.int k (k.wrap (m.tdiv n))) := fun a w ha _ => by
  simp [execOp, ha.ev hx, ha.ev hy, eqGuard, binOp, Op.intDiv, hn]
theorem Cm.quo64 (hx : evL l x = some (.int .i64 m)) (hy : evL l y = some (.int .i64 n)) (hm : 0 ≤ m ∧ m ≤ 9223372036854775807) (hn : 1 ≤ n) : Cm P N CH l ⟨dd, .binOp .quo t x y t', ty, pos, aft, g⟩ (.int .i64 (m / n)) := by
  have := @Cm.quoW P N l ty pos aft CH x y t t' g dd .i64 m n hx hy (by omega)
  rw [Int.tdiv_eq_ediv_of_nonneg hm.1, wrap64_id ⟨by have := Int.ediv_nonneg hm.1 (show 0 ≤ n by omega); omega, Int.le_trans (Int.ediv_le_self n hm.1) hm.2⟩] at this
  exact this
theorem Cm.remW (hx : evL l x = some (.int k m)) (hy : evL l y = some (.int k n)) (hn : n ≠ 0) : Cm P N CH l ⟨dd, .binOp .rem t x y t', ty, pos, aft, g⟩ (.int k (m.tmod n)) := fun a w ha _ => by
  simp [execOp, ha.ev hx, ha.ev hy, eqGuard, binOp, Op.intDiv, hn]
theorem Cm.rem64 (hx : evL l x = some (.int k m)) (hy : evL l y = some (.int k n)) (hm : 0 ≤ m) (hn : n ≠ 0) : Cm P N CH l ⟨dd, .binOp .rem t x y t', ty, pos, aft, g⟩ (.int k (m % n)) := by
  have := @Cm.remW P N l ty pos aft CH x y t t' g dd k m n hx hy hn
  rw [Int.tmod_eq_emod_of_nonneg hm] at this
  exact this

theorem Cm.lss (hx : evL l x = some (.int k m)) (hy : evL l y = some (.int k n)) : Cm P N CH l ⟨dd, .binOp .lss t x y t', ty, pos, aft, g⟩ (.bool (decide (m < n))) := fun a w ha _ => by
  simp [execOp, ha.ev hx, ha.ev hy, eqGuard, binOp, Op.intCmp]
theorem Cm.leq (hx : evL l x = some (.int k m)) (hy : evL l y = some (.int k n)) : Cm P N CH l ⟨dd, .binOp .leq t x y t', ty, pos, aft, g⟩ (.bool (decide (m ≤ n))) := fun a w ha _ => by
  simp [execOp, ha.ev hx, ha.ev hy, eqGuard, binOp, Op.intCmp]
theorem Cm.gtr (hx : evL l x = some (.int k m)) (hy : evL l y = some (.int k n)) : Cm P N CH l ⟨dd, .binOp .gtr t x y t', ty, pos, aft, g⟩ (.bool (decide (n < m))) := fun a w ha _ => by
  simp [execOp, ha.ev hx, ha.ev hy, eqGuard, binOp, Op.intCmp]
theorem Cm.geq (hx : evL l x = some (.int k m)) (hy : evL l y = some (.int k n)) : Cm P N CH l ⟨dd, .binOp .geq t x y t', ty, pos, aft, g⟩ (.bool (decide (n ≤ m))) := fun a w ha _ => by
  simp [execOp, ha.ev hx, ha.ev hy, eqGuard, binOp, Op.intCmp]
theorem Cm.eql (hx : evL l x = some (.int k m)) (hy : evL l y = some (.int k n)) : Cm P N CH l ⟨dd, .binOp .eql t x y t', ty, pos, aft, g⟩ (.bool (decide (m = n))) := fun a w ha _ => by
  simp [execOp, ha.ev hx, ha.ev hy, eqGuard, binOp, Op.intCmp]; rfl
theorem Cm.neq (hx : evL l x = some (.int k m)) (hy : evL l y = some (.int k n)) : Cm P N CH l ⟨dd, .binOp .neq t x y t', ty, pos, aft, g⟩ (.bool (decide (m ≠ n))) := fun a w ha _ => by
  simp [execOp, ha.ev hx, ha.ev hy, eqGuard, binOp, Op.intCmp]
  by_cases h : m = n <;> simp [h]

/-- A Bool that is known. -/
theorem Cm.yes {o : Oper} {p : Prop} [Decidable p] (h : Cm P N CH l o (.bool (decide p))) (hp : p) : Cm P N CH l o (.bool true) := by rwa [decide_eq_true hp] at h
theorem Cm.no {o : Oper} {p : Prop} [Decidable p] (h : Cm P N CH l o (.bool (decide p))) (hp : ¬ p) : Cm P N CH l o (.bool false) := by rwa [decide_eq_false hp] at h
theorem Cm.tell {o : Oper} {p : Prop} [Decidable p] (h : Cm P N CH l o (.bool (decide p))) {b : Bool} (hp : decide p = b) : Cm P N CH l o (.bool b) := by rwa [hp] at h
theorem Cm.ofEq {o : Oper} {u : Value} (h : Cm P N CH l o v) (e : v = u) : Cm P N CH l o u := e ▸ h

theorem Cm.not {b : Bool} (hx : evL l x = some (.bool b)) : Cm P N CH l ⟨dd, .unOp .not t x, ty, pos, aft, g⟩ (.bool (!b)) := fun a w ha _ => by
  simp [execOp, ha.ev hx, Op.unary]
theorem Cm.negW (hx : evL l x = some (.int k m)) : Cm P N CH l ⟨dd, .unOp .neg t x, ty, pos, aft, g⟩ (.int k (k.wrap (0 - m))) := fun a w ha _ => by
  simp [execOp, ha.ev hx, Op.unary, Op.intArith]
theorem Cm.neg64 (hx : evL l x = some (.int .i64 m)) (hb : -9223372036854775807 ≤ m ∧ m ≤ 9223372036854775807) : Cm P N CH l ⟨dd, .unOp .neg t x, ty, pos, aft, g⟩ (.int .i64 (-m)) := by
  have := @Cm.negW P N l ty pos aft CH x t g dd .i64 m hx
  rw [wrap64_id (by omega), Int.zero_sub] at this
  exact this

theorem Cm.convI (hs : (P.underlying t).isSome = true) (hd : P.underlying t' = some (.int k')) (hx : evL l x = some (.int k m)) : Cm P N CH l ⟨dd, .convert t t' x, ty, pos, aft, g⟩ (.int k' (k'.wrap m)) := fun a w ha _ => by
  obtain ⟨u, hu⟩ := Option.isSome_iff_exists.1 hs
  simp only [execOp, ha.ev hx, convert, Sem.run_bind, run_underlying hu, run_underlying hd, Result.andThen_ok]
  cases u <;> simp [Conv.intToInt]
theorem Cm.convI_in (hs : (P.underlying t).isSome = true) (hd : P.underlying t' = some (.int k')) (hx : evL l x = some (.int k m)) (hw : k'.wrap m = n) : Cm P N CH l ⟨dd, .convert t t' x, ty, pos, aft, g⟩ (.int k' n) := by
  have := @Cm.convI P N l ty pos aft CH x t t' g dd k k' m hs hd hx; rwa [hw] at this

theorem Cm.extract {vs : List Value} {i : Nat} (hx : evL l x = some (.tuple vs.toArray)) (hi : vs[i]? = some v) : Cm P N CH l ⟨dd, .extract x i, ty, pos, aft, g⟩ v := fun a w ha _ => by
  simp [execOp, ha.ev hx, Instr.extract, hi]
theorem Cm.nilCheck {ad : Addr} (hx : evL l x = some (.pointer (some ad))) : Cm P N CH l ⟨dd, .nilCheck x, ty, pos, aft, g⟩ (.pointer (some ad)) := fun a w ha _ => by
  simp [execOp, ha.ev hx]

/-- facts on a type -/
structure SliceT (P : Program) (t e : TypeId) (size bytes : Nat) : Prop where
  und : P.underlying t = some (.slice e)
  inf : (P.info? e).map (fun i => (i.zero.map (·.cells.size), i.size, i.bytes)) = some (some size, size, bytes)

theorem SliceT.parts {e : TypeId} {size bytes : Nat} (h : SliceT P t e size bytes) : ∃ i z, P.info? e = some i ∧ i.zero = some z ∧ z.cells.size = size ∧ i.size = size ∧ i.bytes = bytes := by
  obtain ⟨i, hi, h1⟩ := Option.map_eq_some_iff.1 h.inf
  simp only [Prod.mk.injEq] at h1
  obtain ⟨z, hz, h2⟩ := Option.map_eq_some_iff.1 h1.1
  exact ⟨i, z, hi, hz, h2, h1.2.1, h1.2.2⟩
theorem SliceT.size {e : TypeId} {size bytes : Nat} (h : SliceT P t e size bytes) (w : World) : (sizeOf e).run P w = .ok size w := by
  obtain ⟨i, z, hi, h1, hz, h2, h3⟩ := h.parts
  simp [sizeOf, typeInfo, hi, h2]

theorem Cm.len {e : TypeId} {size bytes : Nat} (ht : SliceT P t e size bytes) {ao : Option Addr} {c n : Nat} (hx : evL l x = some (.slice ao n c)) :
    Cm P N CH l ⟨dd, .call ⟨.builtin .len, #[x], #[t]⟩, ty, pos, aft, g⟩ (.int .i64 n) := fun a w ha _ => by
  simp [execOp, ha.ev hx, resolve, invoke, builtin, Builtin.len_, run_underlying ht.und, goInt]
theorem Cm.lenS (ht : P.underlying t = some .string) {s : ByteArray} (hx : evL l x = some (.string s)) :
    Cm P N CH l ⟨dd, .call ⟨.builtin .len, #[x], #[t]⟩, ty, pos, aft, g⟩ (.int .i64 s.size) := fun a w ha _ => by
  simp [execOp, ha.ev hx, resolve, invoke, builtin, Builtin.len_, run_underlying ht, goInt]
theorem Cm.min2 {ts : Array TypeId} (hx : evL l x = some (.int k m)) (hy : evL l y = some (.int k n)) :
    Cm P N CH l ⟨dd, .call ⟨.builtin .min, #[x, y], ts⟩, ty, pos, aft, g⟩ (.int k (if n < m then n else m)) := fun a w ha _ => by
  simp [execOp, ha.ev hx, ha.ev hy, resolve, invoke, builtin, Builtin.min_, Builtin.min2]
theorem Cm.max2 {ts : Array TypeId} (hx : evL l x = some (.int k m)) (hy : evL l y = some (.int k n)) :
    Cm P N CH l ⟨dd, .call ⟨.builtin .max, #[x, y], ts⟩, ty, pos, aft, g⟩ (.int k (if m < n then n else m)) := fun a w ha _ => by
  simp [execOp, ha.ev hx, ha.ev hy, resolve, invoke, builtin, Builtin.max_, Builtin.max2]

/-- the place of an element -/
def adr (ao : Option Addr) (i : Nat) : Addr := (ao.getD ⟨0, 0, none⟩).add i

theorem Cm.indexAddr {e : TypeId} {size bytes : Nat} (ht : SliceT P t e size bytes) {ao : Option Addr} {c len : Nat} (hx : evL l x = some (.slice ao len c)) (hy : evL l y = some (.int k n))
    (hao : len ≠ 0 → ao ≠ none) (hn : 0 ≤ n ∧ n < len) :
    Cm P N CH l ⟨dd, .indexAddr t x y, ty, pos, aft, g⟩ (.pointer (some (adr ao (n.toNat * size)))) := fun a w ha _ => by
  have : ao ≠ none := hao (by omega)
  cases ao with
  | none => exact absurd rfl this
  | some ad => simp [execOp, ha.ev hx, ha.ev hy, Instr.indexAt, asIntOf, run_underlying ht.und, ht.size w, hn, adr]

theorem Cm.indexAddr1 {e : TypeId} {bytes : Nat} (ht : SliceT P t e 1 bytes) {ao : Option Addr} {c len : Nat} (hx : evL l x = some (.slice ao len c)) (hy : evL l y = some (.int k n))
    (hao : len ≠ 0 → ao ≠ none) (hn : 0 ≤ n ∧ n < len) :
    Cm P N CH l ⟨dd, .indexAddr t x y, ty, pos, aft, g⟩ (.pointer (some (adr ao n.toNat))) := by
  have := @Cm.indexAddr P N l ty pos aft CH x y t g dd k n e 1 bytes ht ao c len hx hy hao hn
  rwa [Nat.mul_one] at this
end
end
end Go.Proofs.Ytpamandneifemaa
/- Memory in the calculus: what is read, what is written, what stays. No condition. -/
namespace Go.Proofs.Ytpamandneifemaa
open Go Go.RowKit

/-! ### what a piece of code leaves alone -/
/-- w is w with new blocks, and with writes to the blocks of S alone. -/
structure Foot (S : Nat → Prop) (w w' : World) : Prop where
  os : w'.os = w.os
  tape : w'.tape = w.tape
  output : w'.output = w.output
  size : w.heap.size ≤ w'.heap.size
  same : ∀ k, k < w.heap.size → ¬ S k → w'.heap[k]? = w.heap[k]?

def nob : Nat → Prop := fun _ => False

theorem Foot.refl (S : Nat → Prop) (w : World) : Foot S w w := ⟨rfl, rfl, rfl, Nat.le_refl _, fun _ _ _ => rfl⟩
theorem Foot.trans {S : Nat → Prop} {a b c : World} (h : Foot S a b) (k : Foot S b c) : Foot S a c :=
  ⟨k.os.trans h.os, k.tape.trans h.tape, k.output.trans h.output, Nat.le_trans h.size k.size,
    fun i hi hs => (k.same i (Nat.lt_of_lt_of_le hi h.size) hs).trans (h.same i hi hs)⟩
/-- The second step writes, beyond S, only what is new since the first world. -/
theorem Foot.step {S S' : Nat → Prop} {a b c : World} (h : Foot S a b) (k : Foot S' b c) (hs : ∀ i, S' i → S i ∨ a.heap.size ≤ i) : Foot S a c :=
  ⟨k.os.trans h.os, k.tape.trans h.tape, k.output.trans h.output, Nat.le_trans h.size k.size,
    fun i hi hn => (k.same i (Nat.lt_of_lt_of_le hi h.size) (fun h' => by rcases hs i h' with h1 | h1; exact hn h1; omega)).trans (h.same i hi hn)⟩
theorem Foot.trans_to {S S' : Nat → Prop} {a b c : World} (h : Foot S a b) (k : Foot S' b c) (hs : ∀ i, S' i → S i ∨ a.heap.size ≤ i) : Foot S a c := h.step k hs
theorem Foot.mono {S S' : Nat → Prop} {a b : World} (h : Foot S a b) (hs : ∀ i, S i → S' i) : Foot S' a b :=
  ⟨h.os, h.tape, h.output, h.size, fun i hi hn => h.same i hi (fun h' => hn (hs i h'))⟩
theorem Foot.draws {S : Nat → Prop} {a b : World} (h : Foot S a b) (n : Nat) : Foot S a (b.drewN n) := ⟨h.os, h.tape, h.output, h.size, h.same⟩
theorem Foot.undraw {S : Nat → Prop} {w w' : World} {n : Nat} (h : Foot S (w.drewN n) w') : Foot S w w' := ⟨h.os, h.tape, h.output, h.size, h.same⟩
theorem Foot.ofDraws {S : Nat → Prop} {w : World} (n : Nat) : Foot S w (w.drewN n) := (Foot.refl S w).draws n
theorem Foot.alloc (S : Nat → Prop) (w : World) (o : Obj) : Foot S w (w.alloc o) := ⟨rfl, rfl, rfl, by simp, fun _ hk _ => Below.heap_alloc w o _ hk⟩
theorem Foot.drawAlloc (S : Nat → Prop) (w : World) (o : Obj) : Foot S w (w.drew.alloc o) := ⟨rfl, rfl, rfl, by simp, fun _ hk _ => Below.heap_alloc w.drew o _ hk⟩
theorem Foot.below {w w' : World} (h : Foot nob w w') : Below w.heap.size w w' := ⟨h.os, h.tape, h.output, h.size, fun k hk => h.same k hk id⟩
theorem Foot.obj {S : Nat → Prop} {w w' : World} (h : Foot S w w') {g : Nat} {o : Obj} (hg : w.heap[g]? = some o) (hs : ¬ S g) : w'.heap[g]? = some o :=
  (h.same g (Array.getElem?_eq_some_iff.1 hg).1 hs).trans hg
theorem Foot.new {S : Nat → Prop} {w w' : World} (h : Foot S w w') : w.heap.size ≤ w'.heap.size := h.size

/-- the block of an address that may be none -/
def blk (ao : Option Addr) : Nat → Prop := fun k => ∃ a, ao = some a ∧ a.block = k
def Fr (B : Nat) (ao : Option Addr) : Prop := ∀ a, ao = some a → B ≤ a.block
def Lt (B : Nat) (ao : Option Addr) : Prop := ∀ a, ao = some a → a.block < B
def Ap (ao bo : Option Addr) : Prop := ∀ a b, ao = some a → bo = some b → a.block ≠ b.block
theorem Ap.symm {a b : Option Addr} (h : Ap a b) : Ap b a := fun x y hx hy e => h y x hy hx e.symm
theorem Ap.of {B : Nat} {a b : Option Addr} (h1 : Lt B a) (h2 : Fr B b) : Ap a b := fun x y hx hy e => by have := h1 x hx; have := h2 y hy; omega
theorem Ap.of' {B : Nat} {a b : Option Addr} (h1 : Fr B a) (h2 : Lt B b) : Ap a b := (Ap.of h2 h1).symm
theorem Ap.none_left {b : Option Addr} : Ap none b := fun _ _ h => by cases h
theorem Ap.none_right {b : Option Addr} : Ap b none := fun _ _ _ h => by cases h
theorem Ap.not {a b : Option Addr} (h : Ap a b) : ∀ x, a = some x → ¬ blk b x.block := fun x hx ⟨y, hy, e⟩ => h x y hx hy e.symm
theorem Fr.none {B : Nat} : Fr B none := fun _ h => by cases h
theorem Fr.mono {B B' : Nat} {a : Option Addr} (h : Fr B a) (hB : B' ≤ B) : Fr B' a := fun x hx => Nat.le_trans hB (h x hx)
theorem Fr.step {B : Nat} {a : Option Addr} (h : Fr B a) {S : Nat → Prop} : ∀ i, blk a i → S i ∨ B ≤ i := fun i ⟨x, hx, e⟩ => .inr (by have := h x hx; omega)
theorem Lt.mono {B B' : Nat} {a : Option Addr} (h : Lt B a) (hB : B ≤ B') : Lt B' a := fun x hx => Nat.lt_of_lt_of_le (h x hx) hB

/-! ### rows that are read -/
theorem add_block (a : Addr) (n : Nat) : (a.add n).block = a.block := by unfold Addr.add; split <;> rfl
theorem adr_block (a : Addr) (n : Nat) : (adr (some a) n).block = a.block := add_block a n

/-- A slice of one-cell elements that reads as xs. -/
structure Vw {α : Type} (enc : α → Value) (H : Array Obj) (ao : Option Addr) (cap : Nat) (xs : List α) : Prop where
  le : xs.length ≤ cap
  max : cap ≤ maxLen
  non : xs.length ≠ 0 → ao ≠ none
  get : ∀ i x, xs[i]? = some x → cellH H (adr ao i) = some (enc x)

def b8 (x : UInt8) : Value := .int .u8 x.toNat
def i64 (x : Int) : Value := .int .i64 x

section
variable {α : Type} {enc : α → Value} {H : Array Obj} {ao : Option Addr} {cap : Nat} {xs : List α}

theorem Vw.at (h : Vw enc H ao cap xs) {i : Nat} (hi : i < xs.length) : cellH H (adr ao i) = some (enc xs[i]) := h.get i _ (List.getElem?_eq_getElem hi)
theorem Vw.gd (h : Vw enc H ao cap xs) (dflt : α) {i : Nat} (hi : i < xs.length) : cellH H (adr ao i) = some (enc (xs.getD i dflt)) := by
  rw [h.at hi]; simp [List.getD, hi]
/-- .. at an index that is a number -/
theorem Vw.gz (h : Vw enc H ao cap xs) (dflt : α) (i : Nat) {z : Int} (hz : z = i) (hi : i < xs.length) : cellH H (adr ao z.toNat) = some (enc (xs.getD i dflt)) := by
  subst hz; exact h.gd dflt hi
theorem Vw.len63 (h : Vw enc H ao cap xs) : (xs.length : Int) ≤ 9223372036854775807 := by have := h.le; have := h.max; unfold maxLen at this; omega
theorem Vw.nil (c : Nat) (hc : c ≤ maxLen) : Vw enc H ao c [] := ⟨by simp, hc, by simp, by simp⟩
theorem Vw.lt (h : Vw enc H ao cap xs) (hne : xs ≠ []) : Lt H.size ao := fun a ha => by
  have hl : 0 < xs.length := List.length_pos_iff.2 hne
  have := h.at hl
  subst ha
  unfold cellH at this
  split at this
  · rename_i hb; rw [adr_block] at hb; exact (Array.getElem?_eq_some_iff.1 hb).1
  · cases this
theorem Vw.keep {w w' : World} {S : Nat → Prop} (h : Vw enc w.heap ao cap xs) (f : Foot S w w') (hs : ∀ a, ao = some a → ¬ S a.block) : Vw enc w'.heap ao cap xs := by
  refine ⟨h.le, h.max, h.non, fun i x hx => ?_⟩
  have h1 := h.get i x hx
  have hne : xs.length ≠ 0 := by intro e; have : xs = [] := List.eq_nil_of_length_eq_zero e; subst this; simp at hx
  cases hao : ao with
  | none => exact absurd hao (h.non hne)
  | some a =>
    rw [hao] at h1
    rw [← h1]
    unfold cellH
    rw [adr_block, f.same a.block (h.lt (fun e => hne (by simp [e])) a hao) (hs a hao)]
theorem Vw.grow {w w' : World} (h : Vw enc w.heap ao cap xs) (f : Foot nob w w') : Vw enc w'.heap ao cap xs := h.keep f (fun _ _ => id)
theorem Vw.take (h : Vw enc H ao cap xs) (n : Nat) : Vw enc H ao cap (xs.take n) :=
  ⟨by have := h.le; simp; omega, h.max, fun hn => h.non (fun e => hn (by have : xs = [] := List.eq_nil_of_length_eq_zero e; simp [this])), fun i x hx => h.get i x (by
    rw [List.getElem?_take] at hx
    split at hx
    · exact hx
    · cases hx)⟩
end

theorem adr_add (a : Addr) (i j : Nat) : (a.add i).add j = a.add (i + j) := by
  unfold Addr.add
  by_cases hi : i = 0
  · simp [hi]
  · by_cases hj : j = 0
    · simp [hj]
    · simp [hi, hj, Nat.add_assoc]

/-- the address of x[l:h:m] -/
def cutAo (ao : Option Addr) (m l size : Nat) : Option Addr := if m = l then ao else ao.map (·.add (l * size))

section
variable {α : Type} {enc : α → Value} {H : Array Obj} {ao : Option Addr} {cap : Nat} {xs : List α}
theorem Vw.cut (v : Vw enc H ao cap xs) {l h m : Nat} (hl : l ≤ h) (hh : h ≤ xs.length) (hm : h ≤ m) (hmc : m ≤ cap) :
    Vw enc H (cutAo ao m l 1) (m - l) ((xs.drop l).take (h - l)) := by
  refine ⟨by simp; omega, by have := v.max; omega, fun hne => ?_, fun i x hx => ?_⟩
  · have h0 : xs.length ≠ 0 := by simp at hne; omega
    have := v.non h0
    unfold cutAo
    split
    · exact this
    · cases ao <;> simp_all
  · have hi : i < h - l := by
      have := (List.getElem?_eq_some_iff.1 hx).1; simp at this; omega
    have hx' : xs[l + i]? = some x := by
      rw [List.getElem?_take, if_pos hi, List.getElem?_drop] at hx; exact hx
    have h1 := v.get (l + i) x hx'
    rw [← h1]
    unfold cutAo
    rw [if_neg (by omega)]
    cases ao with
    | none => exact absurd rfl (v.non (by have := (List.getElem?_eq_some_iff.1 hx').1; omega))
    | some a => simp [adr, adr_add]
theorem Lt.cut {B : Nat} (h : Lt B ao) (m l s : Nat) : Lt B (cutAo ao m l s) := by
  unfold cutAo; split
  · exact h
  · intro a ha
    cases ao with
    | none => simp at ha
    | some b => simp at ha; subst ha; rw [add_block]; exact h b rfl
theorem Fr.cut {B : Nat} (h : Fr B ao) (m l s : Nat) : Fr B (cutAo ao m l s) := by
  unfold cutAo; split
  · exact h
  · intro a ha
    cases ao with
    | none => simp at ha
    | some b => simp at ha; subst ha; rw [add_block]; exact h b rfl
theorem cutAo_zero (ao : Option Addr) (m s : Nat) : cutAo ao m 0 s = ao := by
  unfold cutAo; split
  · rfl
  · cases ao with
    | none => rfl
    | some a => simp [Addr.add]
theorem blk_cut {m l s k : Nat} (h : blk (cutAo ao m l s) k) : blk ao k := by
  obtain ⟨a, ha, rfl⟩ := h
  unfold cutAo at ha
  split at ha
  · exact ⟨a, ha, rfl⟩
  · cases ao with
    | none => simp at ha
    | some b => simp at ha; subst ha; exact ⟨b, rfl, (add_block _ _).symm⟩
theorem Ap.cut {bo : Option Addr} (h : Ap ao bo) (m l s : Nat) : Ap (cutAo ao m l s) bo := by
  intro a b ha hb e
  obtain ⟨c, hc, h1⟩ := blk_cut (ao := ao) ⟨a, ha, rfl⟩
  exact h c b hc hb (h1.trans e)
end

/-! ### rows of one's own -/
/-- A slice of one-cell elements that owns its whole block (or is nil). -/
def Own {α : Type} (enc : α → Value) (e : TypeId) (H : Array Obj) (ao : Option Addr) (cap : Nat) (xs : List α) : Prop :=
  (ao = none ∧ cap = 0 ∧ xs = []) ∨
  ∃ g cur, ao = some ⟨g, 0, none⟩ ∧ H[g]? = some (.cells cur e (0, 0)) ∧ xs.length ≤ cap ∧ cap ≤ maxLen ∧ cur.size = cap ∧ cur.toList.take xs.length = xs.map enc

section
variable {α : Type} {enc : α → Value} {e : TypeId} {H : Array Obj} {ao : Option Addr} {cap : Nat} {xs : List α}
theorem Own.nil : Own enc e H none 0 ([] : List α) := .inl ⟨rfl, rfl, rfl⟩
theorem Own.vw (h : Own enc e H ao cap xs) : Vw enc H ao cap xs := by
  rcases h with ⟨rfl, rfl, rfl⟩ | ⟨g, cur, rfl, hg, h1, h2, h3, h4⟩
  · exact Vw.nil 0 (Nat.zero_le _)
  · refine ⟨h1, h2, fun _ => by simp, fun i x hx => ?_⟩
    have hi : i < xs.length := (List.getElem?_eq_some_iff.1 hx).1
    have hadd : (adr (some ⟨g, 0, none⟩) i) = ⟨g, i, none⟩ := by
      show (⟨g, 0, none⟩ : Addr).add i = _
      rw [Addr.add_lit, Nat.zero_add]
    rw [hadd]
    simp only [cellH, hg]
    have h5 : (cur.toList.take xs.length)[i]? = some (enc x) := by rw [h4, List.getElem?_map, hx]; rfl
    rw [List.getElem?_take, if_pos hi] at h5
    simpa using h5
theorem Own.lt (h : Own enc e H ao cap xs) : Lt H.size ao := by
  intro a ha
  rcases h with ⟨rfl, _⟩ | ⟨g, cur, rfl, hg, _⟩
  · cases ha
  · cases ha; exact (Array.getElem?_eq_some_iff.1 hg).1
theorem Own.keep {w w' : World} {S : Nat → Prop} (h : Own enc e w.heap ao cap xs) (f : Foot S w w') (hs : ∀ a, ao = some a → ¬ S a.block) : Own enc e w'.heap ao cap xs := by
  rcases h with h | ⟨g, cur, rfl, hg, r⟩
  · exact .inl h
  · exact .inr ⟨g, cur, rfl, f.obj hg (hs _ rfl), r⟩
theorem Own.grow {w w' : World} (h : Own enc e w.heap ao cap xs) (f : Foot nob w w') : Own enc e w'.heap ao cap xs := h.keep f (fun _ _ => id)
theorem Own.row {w : World} (h : Own enc e w.heap ao cap xs) : w.ownsRow 0 e 1 (.slice ao xs.length cap) xs.length (xs.map enc) := by
  refine ⟨by simp, ?_⟩
  rcases h with ⟨rfl, rfl, rfl⟩ | ⟨g, cur, rfl, hg, h1, h2, h3, h4⟩
  · exact .inl ⟨rfl, rfl⟩
  · exact .inr ⟨g, cap, cur, rfl, Nat.zero_le _, hg, h1, h2, by omega, by rw [Nat.mul_one]; exact h4⟩
end

theorem Foot.ofGrown {w w' : World} {ao : Option Addr} {n c : Nat} (h : w.grownBy w' (Value.slice ao n c).ownBlock) : Foot (blk ao) w w' :=
  ⟨h.os, h.tape, h.output, h.size, fun k hk hn => h.block k hk (fun e => by
    cases ao with
    | none => simp [Value.ownBlock] at e
    | some a => simp [Value.ownBlock] at e; exact hn ⟨a, rfl, e.symm⟩)⟩

theorem run_append_nothing {P : Program} {w : World} {t ty e : TypeId} {i : TypeInfo} (ht : P.underlying t = some (.slice e)) (hi : P.info? e = some i)
    {ao : Option Addr} {n cap : Nat} (hn : n ≤ cap) {bo : Option Addr} {bcap : Nat} :
    (Builtin.append_ #[t, t] ty #[.slice ao n cap, .slice bo 0 bcap]).run P w = .ok (.slice ao n cap) w := by
  cases ao <;> cases bo <;> simp [Builtin.append_, run_underlying ht, sizeOf, typeInfo, hi, Builtin.lenOf, Builtin.firstCells, hn, storeCells, loadCells, loadCellsFrom]

/-- append(out, x..): out ones own, x whatever reads as a list. -/
theorem run_append_own1 {α : Type} {enc : α → Value} (henc : ∀ x, (enc x).oneCell' = true) {P : Program} {w : World} {t ty e : TypeId} {bytes : Nat} (ht : SliceT P t e 1 bytes)
    {ao : Option Addr} {cap : Nat} {xs : List α} (ho : Own enc e w.heap ao cap xs) {bo : Option Addr} {bcap : Nat} {ys : List α} (hy : Vw enc w.heap bo bcap ys)
    (hb : (xs.length + ys.length) * bytes ≤ 140737488355328) (hm : xs.length + ys.length ≤ maxLen) :
    ∃ ao' cap' w', (Builtin.append_ #[t, t] ty #[.slice ao xs.length cap, .slice bo ys.length bcap]).run P w = .ok (.slice ao' (xs.length + ys.length) cap') w' ∧
      Own enc e w'.heap ao' cap' (xs ++ ys) ∧ Foot (blk ao) w w' ∧ (∀ a, ao' = some a → ao = some a ∨ w.heap.size ≤ a.block) ∧ (ao' = none → ao = none ∧ ys = []) := by
  obtain ⟨i, z, hi, h1, hz, h2, h3⟩ := ht.parts
  have hnews1 : ∀ u ∈ ys.map enc, u.oneCell' = true := by intro u hu; obtain ⟨x, _, rfl⟩ := List.mem_map.1 hu; exact henc x
  have hsmall : xs.length + ys.length ≤ 9223372036854775807 := by unfold maxLen at hm; omega
  by_cases hys : ys = []
  · subst hys
    refine ⟨ao, cap, w, ?_, by simpa using ho, Foot.refl _ _, fun a ha => .inl ha, fun h => ⟨h, rfl⟩⟩
    exact run_append_nothing ht.und hi ho.vw.le
  · have hne : ys.length ≠ 0 := fun e => hys (List.eq_nil_of_length_eq_zero e)
    obtain ⟨b, rfl⟩ : ∃ b, bo = some b := Option.ne_none_iff_exists'.1 (hy.non hne)
    have hnews : ∀ j u, (ys.map enc)[j]? = some u → w.cell? (b.add j) = some u := by
      intro j u hu
      rw [List.getElem?_map] at hu
      obtain ⟨x, hx, rfl⟩ := Option.map_eq_some_iff.1 hu
      exact hy.get j x hx
    have hl : (ys.map enc).length = ys.length * i.size := by simp [h2]
    have big : ∀ (old : Nat), old < xs.length + ys.length → Own enc e (w.drew.alloc (.cells ((xs.map enc).toArray ++ (ys.map enc).toArray ++ Builtin.zeroCells z.cells (grownCap w (xs.length + ys.length) old e - (xs.length + ys.length))) e)).heap
        (some ⟨w.heap.size, 0, none⟩) (grownCap w (xs.length + ys.length) old e) (xs ++ ys) := by
      intro old _
      have hge := grownCap_ge w (xs.length + ys.length) old e
      refine .inr ⟨w.heap.size, _, rfl, heap_alloc_new w.drew _, by simpa using hge, grownCap_le_maxLen w _ old e hm, ?_, ?_⟩
      · simp only [Array.size_append, List.size_toArray, List.length_map, size_zeroCells, hz]; omega
      · simp [List.take_append]
        exact List.take_of_length_le (by simp)
    have hfoot : ∀ (old : Nat), Foot (blk ao) w (w.drew.alloc (.cells ((xs.map enc).toArray ++ (ys.map enc).toArray ++ Builtin.zeroCells z.cells (grownCap w (xs.length + ys.length) old e - (xs.length + ys.length))) e)) := fun old => Foot.drawAlloc _ _ _
    rcases ho with ⟨rfl, rfl, rfl⟩ | ⟨g, cur, rfl, hg, g1, g2, g3, g4⟩
    · have hr := run_append_nil (P := P) w t ty e i z ht.und hi h1 b ys.length bcap (ys.map enc) hl hnews (by omega) (by simp at hsmall; omega) (by simp at hb; rw [h3]; omega)
      have hB := big 0 (by simp; omega)
      have hF := hfoot 0
      simp only [List.length_nil, Nat.zero_add, List.map_nil, List.nil_append, Array.empty_append] at hB hF ⊢
      exact ⟨_, _, _, hr, hB, hF, fun a ha => .inr (by cases ha; exact Nat.le_refl _), fun h => by cases h⟩
    · have holds : ∀ j v, (xs.map enc)[j]? = some v → w.cell? ((⟨g, 0, none⟩ : Addr).add j) = some v := by
        intro j v hv
        rw [List.getElem?_map] at hv
        obtain ⟨x, hx, rfl⟩ := Option.map_eq_some_iff.1 hv
        exact (Own.vw (.inr ⟨g, cur, rfl, hg, g1, g2, g3, g4⟩ : Own enc e w.heap (some ⟨g, 0, none⟩) cap xs)).get j x hx
      by_cases hroom : xs.length + ys.length ≤ cap
      · have hr := run_append_room (P := P) w t ty e i ht.und hi g xs.length cap cur hg b ys.length bcap (ys.map enc) hl hnews hnews1 hroom (by simp [h2, g3]; omega)
        refine ⟨_, _, _, hr, .inr ⟨g, _, rfl, setRow_heap w g cur _ e _ hg, by simpa using hroom, g2, ?_, ?_⟩, ?_, fun a ha => .inl ha, fun h => by cases h⟩
        · simp [h2, g3]; omega
        · rw [h2, Nat.mul_one, g4]; simp [List.take_append]
          exact List.take_of_length_le (by simp)
        · exact ⟨rfl, rfl, rfl, by simp [World.setRow], fun k hk hn => setRow_other w g k _ (fun e => hn ⟨_, rfl, e.symm⟩)⟩
      · have hr := run_append_grow (P := P) w t ty e i z ht.und hi h1 ⟨g, 0, none⟩ xs.length cap (xs.map enc) (by simp [h2]) holds b ys.length bcap (ys.map enc) hl hnews (by omega) (by omega)
          (by rw [h3]; exact growslice_fits (by omega) hb)
        exact ⟨_, _, _, hr, big cap (by omega), hfoot cap, fun a ha => .inr (by cases ha; exact Nat.le_refl _), fun h => by cases h⟩
end Go.Proofs.Ytpamandneifemaa
/- Operations that read or write memory, calls, appends, in the calculus. No condition. -/
namespace Go.Proofs.Ytpamandneifemaa
open Go Go.RowKit

/-- a string, by its bytes -/
def bs (xs : List UInt8) : ByteArray := ⟨xs.toArray⟩
theorem bs_toList (xs : List UInt8) : (bs xs).toList = xs := by rw [ByteArray.toList_eq]; simp [bs]
theorem bs_inj {a b : List UInt8} (h : bs a = bs b) : a = b := by rw [← bs_toList a, h, bs_toList]
theorem bs_size (xs : List UInt8) : (bs xs).size = xs.length := by simp [bs, ByteArray.size]

/-- an ending with a value -/
def Ret (R : Value → World → Prop) (e : Ending) (w : World) : Prop := ∃ v, e = .returned v ∧ R v w

def evLs (l : SF) : List Operand → Option (List Value)
  | [] => some []
  | x :: r => match evL l x, evLs l r with
    | some v, some vs => some (v :: vs)
    | _, _ => none

theorem HasL.evs {N : Nt} {l : SF} {a : Act} (h : HasL N l a) : ∀ {xs : List Operand} {vs : List Value}, evLs l xs = some vs → xs.map a.eval = vs
  | [], vs, e => by simp [evLs] at e; simp [e]
  | x :: r, vs, e => by
    unfold evLs at e
    split at e
    · rename_i v us h1 h2
      cases e
      simp [h.ev h1, h.evs h2]
    · cases e

/-- a type whose variables are one cell -/
def scaB (P : Program) (t : TypeId) : Bool :=
  (match P.underlying t with | some (.struct _) | some (.array _ _) | none => false | _ => true) && ((P.info? t).map (·.size) == some 1)
theorem sca_agg {P : Program} {t : TypeId} (h : scaB P t = true) (w : World) : (isAgg t).run P w = .ok false w := by
  simp only [scaB, Bool.and_eq_true] at h
  unfold isAgg
  cases hu : P.underlying t with
  | none => simp [hu] at h
  | some d => rw [Sem.run_bind, run_underlying hu w]; cases d <;> simp_all
theorem sca_size {P : Program} {t : TypeId} (h : scaB P t = true) (w : World) : (sizeOf t).run P w = .ok 1 w := by
  simp only [scaB, Bool.and_eq_true, beq_iff_eq] at h
  obtain ⟨i, hi, h1⟩ := Option.map_eq_some_iff.1 h.2
  simp [sizeOf, typeInfo, hi, h1]

/-- a fields place -/
def fldB (P : Program) (s f off : Nat) : Bool :=
  match P.underlying s with
  | some (.struct fs) => match fs[f]? with
    | some fd => fd.offset == off && (match (P.info? fd.type).map (·.size) with | some n => n != 0 | none => false)
    | none => false
  | _ => false

def fnB (P : Program) (f : FuncId) : Bool :=
  match P.funcs[f]? with
  | some fn => !(fn.name == "runtime.NumGoroutine") && fn.body.isSome
  | none => false
theorem run_callFunc_fnB {P : Program} {f : FuncId} (h : fnB P f = true) (args : Array Value) (w : World) : (callFunc f args).run P w = .ok (.enter f args) w := by
  unfold fnB at h
  split at h
  · rename_i fn hf
    simp only [Bool.and_eq_true, Bool.not_eq_true'] at h
    have hb : fn.body.isNone = false := by cases hb : fn.body <;> simp_all
    unfold callFunc
    rw [Sem.run_bind, run_program, Result.andThen_ok, hf]
    simp only [h.1, hb]
    rfl
  · cases h

section
variable {P : Program} {N : Nt} {Q : Exit → Act → World → Prop} {l : SF} {w : World} {ops : Array Oper} {rest : List Oper}
variable {op : Op} {ty : TypeId} {pos : String} {aft : Array Edge} {d : Nat} {v : Value} {CH : Array Obj → Prop}
variable {x y : Operand} {t t' : TypeId} {g : Option (Nat × Bool)} {dd : Option Nat}

theorem Sl.eff {w' : World} (hr : ∀ a, HasL N l a → (execOp a.eval ⟨some d, op, ty, pos, aft, none⟩).run P w = .ok (.value v) w') (hd : Nat.blt d N.n = true) (h : Sl P N ops Q rest ((d, v) :: l) w') :
    Sl P N ops Q (⟨some d, op, ty, pos, aft, none⟩ :: rest) l w := fun a ha => by
  unfold wpList
  rw [if_pos (by simp [Region.wanted])]
  refine .inl ?_
  unfold Oper.wp
  rw [hr a ha]
  exact h _ (ha.put hd v)
theorem Sl.effSkip {w' : World} (hr : ∀ a, HasL N l a → (execOp a.eval ⟨none, op, ty, pos, aft, none⟩).run P w = .ok .skip w') (h : Sl P N ops Q rest l w') :
    Sl P N ops Q (⟨none, op, ty, pos, aft, none⟩ :: rest) l w := fun a ha => by
  unfold wpList
  rw [if_pos (by simp [Region.wanted])]
  refine .inl ?_
  unfold Oper.wp
  rw [hr a ha]
  exact h _ ha

/-! calls -/
theorem run_call {f : FuncId} {xs : List Operand} {vs : List Value} {ts : Array TypeId} {a : Act} (hf : fnB P f = true) (ha : HasL N l a) (hx : evLs l xs = some vs) :
    (execOp a.eval ⟨dd, .call ⟨.value (.func f), xs.toArray, ts⟩, ty, pos, aft, g⟩).run P w = .ok (.enter f vs.toArray) w := by
  simp [execOp, resolve, Act.eval, Deferred.ofValue, invoke, run_callFunc_fnB hf]
  rw [← ha.evs hx]

theorem Sl.call {f : FuncId} {xs : List Operand} {vs : List Value} {ts : Array TypeId} (hf : fnB P f = true) (hx : evLs l xs = some vs) {R : Value → World → Prop} (hc : Calls P f vs.toArray w (Ret R)) (hd : Nat.blt d N.n = true)
    (h : ∀ v w', R v w' → Sl P N ops Q rest ((d, v) :: l) w') :
    Sl P N ops Q (⟨some d, .call ⟨.value (.func f), xs.toArray, ts⟩, ty, pos, aft, none⟩ :: rest) l w := fun a ha => by
  unfold wpList
  rw [if_pos (by simp [Region.wanted])]
  refine .inl ?_
  unfold Oper.wp
  rw [run_call hf ha hx]
  refine hc.mono ?_
  rintro e w' ⟨v, rfl, hR⟩
  exact h v w' hR _ (ha.put hd v)
theorem Sl.callWant {f : FuncId} {xs : List Operand} {vs : List Value} {ts : Array TypeId} {j s : Nat} {b : Bool} (hj : (ops[j]?).bind (·.dst) = some s) (hs : lk l s = some (.bool b)) (hf : fnB P f = true) (hx : evLs l xs = some vs) {R : Value → World → Prop} (hc : Calls P f vs.toArray w (Ret R)) (hd : Nat.blt d N.n = true)
    (h : ∀ v w', R v w' → Sl P N ops Q rest ((d, v) :: l) w') :
    Sl P N ops Q (⟨some d, .call ⟨.value (.func f), xs.toArray, ts⟩, ty, pos, aft, some (j, b)⟩ :: rest) l w := fun a ha => by
  unfold wpList
  rw [if_pos (by simp [Region.wanted, yielded_of ha hj hs])]
  refine .inl ?_
  unfold Oper.wp
  rw [run_call hf ha hx]
  refine hc.mono ?_
  rintro e w' ⟨v, rfl, hR⟩
  exact h v w' hR _ (ha.put hd v)
theorem Sl.callN {f : FuncId} {xs : List Operand} {vs : List Value} {ts : Array TypeId} (hf : fnB P f = true) (hx : evLs l xs = some vs) {R : Value → World → Prop} (hc : Calls P f vs.toArray w (Ret R))
    (h : ∀ v w', R v w' → Sl P N ops Q rest l w') :
    Sl P N ops Q (⟨none, .call ⟨.value (.func f), xs.toArray, ts⟩, ty, pos, aft, none⟩ :: rest) l w := fun a ha => by
  unfold wpList
  rw [if_pos (by simp [Region.wanted])]
  refine .inl ?_
  unfold Oper.wp
  rw [run_call hf ha hx]
  refine hc.mono ?_
  rintro e w' ⟨v, rfl, hR⟩
  exact h v w' hR _ ha

/-! reads -/
theorem Cm.load {ad : Addr} (ht : scaB P t = true) (hx : evL l x = some (.pointer (some ad))) (hc : ∀ H, CH H → cellH H ad = some v) : Cm P N CH l ⟨dd, .load t x, ty, pos, aft, g⟩ v := fun a w ha hw => by
  have := hc _ hw
  simp [execOp, ha.ev hx, Instr.loadAt, Instr.sureAddr, loadVar, sca_agg ht, cell?_eq, this]
theorem Cm.ld {H : Array Obj} {ad : Addr} (ht : scaB P t = true) (hx : evL l x = some (.pointer (some ad))) (hc : cellH H ad = some v) : Cm P N (· = H) l ⟨dd, .load t x, ty, pos, aft, g⟩ v :=
  Cm.load ht hx (fun _ e => by rw [e]; exact hc)
theorem Cm.field {ad : Addr} {s f off : Nat} (hs : fldB P s f off = true) (hx : evL l x = some (.pointer (some ad))) : Cm P N CH l ⟨dd, .fieldAddr s x f, ty, pos, aft, g⟩ (.pointer (some (ad.add off))) := fun a w ha _ => by
  unfold fldB at hs
  split at hs
  · rename_i fs hu
    split at hs
    · rename_i fd hf
      simp only [Bool.and_eq_true, beq_iff_eq] at hs
      obtain ⟨h1, h2⟩ := hs
      split at h2
      · rename_i n hn
        obtain ⟨i, hi, h3⟩ := Option.map_eq_some_iff.1 hn
        have h4 : i.size ≠ 0 := by rw [h3]; simpa using h2
        simp [execOp, ha.ev hx, Instr.fieldAt, run_underlying hu, hf, Instr.sureAddr, fieldPlace, sizeOf, typeInfo, hi, h4, h1]
      · cases h2
    · cases hs
  · cases hs

theorem run_sliceBound_ok (k : IntKind) {i : Int} {y : Nat} {code : BoundsCode} (w : World) (h : 0 ≤ i ∧ i ≤ y) : (Instr.sliceBound (.int k i) y code).run P w = .ok i.toNat w := by
  simp [Instr.sliceBound, asIntOf, h]

/-- x[l:] -/
theorem Cm.sliceL {e : TypeId} {size bytes : Nat} (ht : SliceT P t e size bytes) {ao : Option Addr} {len cap : Nat} {kl : IntKind} {n : Int} {lo : Operand} (hx : evL l x = some (.slice ao len cap)) (hl : evL l lo = some (.int kl n))
    (hn : 0 ≤ n ∧ n ≤ len) : Cm P N CH l ⟨dd, .slice t x (some lo) none none, ty, pos, aft, g⟩ (.slice (cutAo ao cap n.toNat size) (len - n.toNat) (cap - n.toNat)) := fun a w ha _ => by
  simp [execOp, ha.ev hx, ha.ev hl, Instr.sliceAt, Instr.slice, run_underlying ht.und, Instr.sliceBounds, run_sliceBound_ok _ _ hn, ht.size, cutAo]
/-- x[:h] -/
theorem Cm.sliceH {e : TypeId} {size bytes : Nat} (ht : SliceT P t e size bytes) {ao : Option Addr} {len cap : Nat} {kh : IntKind} {n : Int} {hi : Operand} (hx : evL l x = some (.slice ao len cap)) (hh : evL l hi = some (.int kh n))
    (hn : 0 ≤ n ∧ n ≤ cap) : Cm P N CH l ⟨dd, .slice t x none (some hi) none, ty, pos, aft, g⟩ (.slice (cutAo ao cap 0 size) n.toNat cap) := fun a w ha _ => by
  simp [execOp, ha.ev hx, ha.ev hh, Instr.sliceAt, Instr.slice, run_underlying ht.und, Instr.sliceBounds, run_sliceBound_ok _ _ hn, ht.size, cutAo]
/-- x[l:h] -/
theorem Cm.sliceLH {e : TypeId} {size bytes : Nat} (ht : SliceT P t e size bytes) {ao : Option Addr} {len cap : Nat} {kl kh : IntKind} {m n : Int} {lo hi : Operand} (hx : evL l x = some (.slice ao len cap)) (hl : evL l lo = some (.int kl m)) (hh : evL l hi = some (.int kh n))
    (hm : 0 ≤ m ∧ m ≤ n) (hn : n ≤ cap) : Cm P N CH l ⟨dd, .slice t x (some lo) (some hi) none, ty, pos, aft, g⟩ (.slice (cutAo ao cap m.toNat size) (n.toNat - m.toNat) (cap - m.toNat)) := fun a w ha _ => by
  have h1 : 0 ≤ n ∧ n ≤ (cap : Int) := ⟨by omega, hn⟩
  have h2 : 0 ≤ m ∧ m ≤ (n.toNat : Int) := ⟨hm.1, by omega⟩
  simp only [execOp, ha.ev hx, ha.ev hl, ha.ev hh, Instr.sliceAt, Instr.slice, run_underlying ht.und, Instr.sliceBounds, Option.map_some, Option.map_none, Sem.run_bind, Result.andThen_ok, Sem.run_pure,
    run_sliceBound_ok _ _ h1, run_sliceBound_ok _ _ h2, ht.size, cutAo]
/-- x[l:h:m] -/
theorem Cm.sliceLHM {e : TypeId} {size bytes : Nat} (ht : SliceT P t e size bytes) {ao : Option Addr} {len cap : Nat} {kl kh km : IntKind} {m n q : Int} {lo hi mx : Operand} (hx : evL l x = some (.slice ao len cap)) (hl : evL l lo = some (.int kl m)) (hh : evL l hi = some (.int kh n)) (hq : evL l mx = some (.int km q))
    (hm : 0 ≤ m ∧ m ≤ n) (hn : n ≤ q) (hqc : q ≤ cap) : Cm P N CH l ⟨dd, .slice t x (some lo) (some hi) (some mx), ty, pos, aft, g⟩ (.slice (cutAo ao q.toNat m.toNat size) (n.toNat - m.toNat) (q.toNat - m.toNat)) := fun a w ha _ => by
  have h0 : 0 ≤ q ∧ q ≤ (cap : Int) := ⟨by omega, hqc⟩
  have h1 : 0 ≤ n ∧ n ≤ (q.toNat : Int) := ⟨by omega, by omega⟩
  have h2 : 0 ≤ m ∧ m ≤ (n.toNat : Int) := ⟨hm.1, by omega⟩
  simp only [execOp, ha.ev hx, ha.ev hl, ha.ev hh, ha.ev hq, Instr.sliceAt, Instr.slice, run_underlying ht.und, Instr.sliceBounds, Option.map_some, Sem.run_bind, Result.andThen_ok, Sem.run_pure,
    run_sliceBound_ok _ _ h0, run_sliceBound_ok _ _ h1, run_sliceBound_ok _ _ h2, ht.size, cutAo]

/-- string(b) -/
theorem Cm.str {e : TypeId} {size bytes : Nat} (ht : SliceT P t e size bytes) (he : P.underlying e = some (.int .u8)) (hd : P.underlying t' = some .string) {ao : Option Addr} {cap : Nat} {xs : List UInt8} (hx : evL l x = some (.slice ao xs.length cap)) (hv : ∀ H, CH H → Vw b8 H ao cap xs) :
    Cm P N CH l ⟨dd, .convert t t' x, ty, pos, aft, g⟩ (.string (bs xs)) := fun a w ha hw => by
  have hv := hv _ hw
  simp only [execOp, ha.ev hx, Sem.run_bind]
  cases hao : ao with
  | none =>
    have hn : xs = [] := by
      rcases Nat.eq_zero_or_pos xs.length with h0 | h0
      · exact List.eq_nil_of_length_eq_zero h0
      · exact absurd hao (hv.non (by omega))
    subst hn
    rw [run_convert_bytes_nil w t e ht.und he _ _ t' hd]
    rfl
  | some b =>
    have hl : (loadCells b xs.length).run P w = .ok ((xs.map fun u => ((u.toNat : Int))).map (Value.int .u8)).toArray w := by
      have := run_loadCells_list (P := P) w b (xs.map b8) (fun j u hj => by
        rw [List.getElem?_map] at hj
        obtain ⟨q, hq, rfl⟩ := Option.map_eq_some_iff.1 hj
        have := hv.get j q hq
        rw [hao] at this
        exact this)
      rw [List.length_map] at this
      rw [this, List.map_map]; rfl
    rw [run_convert_bytes_string w t t' e _ xs.length cap ht.und he hd, run_bytesToString w b xs.length cap _ hl, foldl_push_bytes]
    simp [bs, ByteArray.empty, ByteArray.emptyWithCapacity, Function.comp_def]
    rfl
theorem Cm.strIn {H : Array Obj} {e : TypeId} {size bytes : Nat} (ht : SliceT P t e size bytes) (he : P.underlying e = some (.int .u8)) (hd : P.underlying t' = some .string) {ao : Option Addr} {cap : Nat} {xs : List UInt8} (hx : evL l x = some (.slice ao xs.length cap)) (hv : Vw b8 H ao cap xs) :
    Cm P N (· = H) l ⟨dd, .convert t t' x, ty, pos, aft, g⟩ (.string (bs xs)) := Cm.str ht he hd hx (fun _ e => by rw [e]; exact hv)

theorem Cm.eqlS {a b : ByteArray} (hx : evL l x = some (.string a)) (hy : evL l y = some (.string b)) : Cm P N CH l ⟨dd, .binOp .eql t x y t', ty, pos, aft, g⟩ (.bool (decide (a.toList = b.toList))) := fun c w ha _ => by
  simp [execOp, ha.ev hx, ha.ev hy, eqGuard, binOp, Op.stringOp]
  by_cases h : a.toList = b.toList <;> simp [h]
theorem Cm.neqS {a b : ByteArray} (hx : evL l x = some (.string a)) (hy : evL l y = some (.string b)) : Cm P N CH l ⟨dd, .binOp .neq t x y t', ty, pos, aft, g⟩ (.bool (decide (a.toList ≠ b.toList))) := fun c w ha _ => by
  simp [execOp, ha.ev hx, ha.ev hy, eqGuard, binOp, Op.stringOp]
  by_cases h : a.toList = b.toList <;> simp [h]
theorem Cm.eqlBs {a b : List UInt8} (hx : evL l x = some (.string (bs a))) (hy : evL l y = some (.string (bs b))) : Cm P N CH l ⟨dd, .binOp .eql t x y t', ty, pos, aft, g⟩ (.bool (decide (a = b))) := by
  have := @Cm.eqlS P N l ty pos aft CH x y t t' g dd (bs a) (bs b) hx hy; simpa only [bs_toList] using this
theorem Cm.neqBs {a b : List UInt8} (hx : evL l x = some (.string (bs a))) (hy : evL l y = some (.string (bs b))) : Cm P N CH l ⟨dd, .binOp .neq t x y t', ty, pos, aft, g⟩ (.bool (decide (a ≠ b))) := by
  have := @Cm.neqS P N l ty pos aft CH x y t t' g dd (bs a) (bs b) hx hy; simpa only [bs_toList] using this

/-- a pointer against nil -/
def ptrB (P : Program) (t : TypeId) : Bool := match P.underlying t with | some (.pointer _) => true | _ => false
theorem ptr_und {P : Program} {t : TypeId} (h : ptrB P t = true) : P.underlying t = some (.pointer (P.pointee t)) := by
  unfold ptrB at h
  split at h
  · rename_i e hu; simp [Program.pointee, hu]
  · cases h
theorem Cm.eqlPtrNil {p : Option Addr} (ht : ptrB P t = true) (hx : evL l x = some (.pointer p)) (hy : evL l y = some (.pointer none)) : Cm P N CH l ⟨dd, .binOp .eql t x y t', ty, pos, aft, g⟩ (.bool p.isNone) := fun c w ha _ => by
  have := run_eql_pointer_nil (P := P) w t p (ptr_und ht)
  simp only [execOp, ha.ev hx, ha.ev hy]
  cases p <;> simp [eqGuard, this]
theorem Cm.neqPtrNil {p : Option Addr} (ht : ptrB P t = true) (hx : evL l x = some (.pointer p)) (hy : evL l y = some (.pointer none)) : Cm P N CH l ⟨dd, .binOp .neq t x y t', ty, pos, aft, g⟩ (.bool (!p.isNone)) := fun c w ha _ => by
  have := run_neq_pointer_nil (P := P) w t p (ptr_und ht)
  simp only [execOp, ha.ev hx, ha.ev hy]
  cases p <;> simp [eqGuard, this]

/-! new memory, stores -/
theorem Sl.append {α : Type} {enc : α → Value} (henc : ∀ x, (enc x).oneCell' = true) {e : TypeId} {bytes : Nat} (ht : SliceT P t e 1 bytes)
    {ao bo : Option Addr} {cap bcap : Nat} {xs ys : List α} (hx : evL l x = some (.slice ao xs.length cap)) (hy : evL l y = some (.slice bo ys.length bcap))
    (ho : Own enc e w.heap ao cap xs) (hv : Vw enc w.heap bo bcap ys)
    (hb : (xs.length + ys.length) * bytes ≤ 140737488355328) (hm : xs.length + ys.length ≤ maxLen) (hd : Nat.blt d N.n = true)
    (h : ∀ ao' cap' w', Own enc e w'.heap ao' cap' (xs ++ ys) → Foot (blk ao) w w' → (∀ a, ao' = some a → ao = some a ∨ w.heap.size ≤ a.block) → (ao' = none → ao = none ∧ ys = []) →
      Sl P N ops Q rest ((d, .slice ao' (xs ++ ys).length cap') :: l) w') :
    Sl P N ops Q (⟨some d, .call ⟨.builtin .append, #[x, y], #[t, t]⟩, ty, pos, aft, none⟩ :: rest) l w := by
  obtain ⟨ao', cap', w', hr, h1, h2, h3, h4⟩ := run_append_own1 henc (ty := ty) ht ho hv hb hm
  refine Sl.eff (w' := w') (v := .slice ao' (xs ++ ys).length cap') (fun a ha => ?_) hd (h ao' cap' w' h1 h2 h3 h4)
  simp [execOp, ha.ev hx, ha.ev hy, resolve, invoke, builtin, hr]

theorem Sl.box {T : TypeId} (hx : evL l x = some v) (hd : Nat.blt d N.n = true)
    (h : ∀ w', w'.heap[w.heap.size]? = some (.cells v.cells T (0, 0)) → w'.heap.size = w.heap.size + 1 → Foot nob w w' → Sl P N ops Q rest ((d, .pointer (some ⟨w.heap.size, 0, none⟩)) :: l) w') :
    Sl P N ops Q (⟨some d, .box T x, ty, pos, aft, none⟩ :: rest) l w := by
  refine Sl.eff (w' := w.alloc (.cells v.cells T)) (fun a ha => ?_) hd (h _ (heap_alloc_new w _) (by simp) (Foot.alloc _ _ _))
  simp [execOp, ha.ev hx, Instr.box, newVar, newRow]

theorem Sl.allocZ {T : TypeId} {z : Value} {size bytes : Nat} (hT : (P.info? T).map (fun i => (i.zero, i.size, i.bytes)) = some (some z, size, bytes)) (hd : Nat.blt d N.n = true)
    (h : ∀ w', w'.heap[w.heap.size]? = some (.cells z.cells T (0, 0)) → w'.heap.size = w.heap.size + 1 → Foot nob w w' → Sl P N ops Q rest ((d, .pointer (some ⟨w.heap.size, 0, none⟩)) :: l) w') :
    Sl P N ops Q (⟨some d, .alloc T, ty, pos, aft, none⟩ :: rest) l w := by
  obtain ⟨i, hi, h1, h2, h3⟩ := info_parts hT
  refine Sl.eff (w' := w.alloc (.cells z.cells T)) (fun a ha => ?_) hd (h _ (heap_alloc_new w _) (by simp) (Foot.alloc _ _ _))
  simp [execOp, Instr.alloc, zeroValue, typeInfo, hi, h1, newVar, newRow]

theorem own_new {α : Type} {enc : α → Value} {e : TypeId} {H : Array Obj} {g : Nat} {xs : List α} (hg : H[g]? = some (.cells (xs.map enc).toArray e (0, 0))) (hm : xs.length ≤ maxLen) : Own enc e H (some ⟨g, 0, none⟩) xs.length xs :=
  .inr ⟨g, _, rfl, hg, Nat.le_refl _, hm, by simp, by simp; exact List.take_of_length_le (by simp)⟩

theorem range_set0 {f : Nat → Value} : (Array.range 0).map f = #[] := by apply Array.ext'; simp
theorem range_set1 {f : Nat → Value} {u : Value} : ((Array.range 1).map f).setIfInBounds 0 u = #[u] := by apply Array.ext'; simp [List.range_succ]
theorem range_set2 {f : Nat → Value} {u u' : Value} : (((Array.range 2).map f).setIfInBounds 0 u).setIfInBounds 1 u' = #[u, u'] := by apply Array.ext'; simp [List.range_succ]

theorem Sl.lit0 {α : Type} (enc : α → Value) {e : TypeId} {bytes : Nat} (ht : SliceT P t e 1 bytes) (hd : Nat.blt d N.n = true)
    (h : ∀ w', Own enc e w'.heap (some ⟨w.heap.size, 0, none⟩) 0 ([] : List α) → w'.heap.size = w.heap.size + 1 → Foot nob w w' → Sl P N ops Q rest ((d, .slice (some ⟨w.heap.size, 0, none⟩) 0 0) :: l) w') :
    Sl P N ops Q (⟨some d, .buildSlice t 0 #[], ty, pos, aft, none⟩ :: rest) l w := by
  refine Sl.eff (w' := w.alloc (.cells #[] e)) (fun a ha => ?_) hd (h _ (own_new (xs := []) (heap_alloc_new w _) (Nat.zero_le _)) (by simp) (Foot.alloc _ _ _))
  simp [execOp, Instr.buildSlice, run_underlying ht.und, ht.size, Instr.fill, newRow]
  rw [range_set0]
theorem Sl.lit1 {α : Type} {enc : α → Value} {e : TypeId} {bytes : Nat} (ht : SliceT P t e 1 bytes) {u : α} (hu : (enc u).oneCell' = true) (hx : evL l x = some (enc u)) (hd : Nat.blt d N.n = true)
    (h : ∀ w', Own enc e w'.heap (some ⟨w.heap.size, 0, none⟩) 1 [u] → w'.heap.size = w.heap.size + 1 → Foot nob w w' → Sl P N ops Q rest ((d, .slice (some ⟨w.heap.size, 0, none⟩) 1 1) :: l) w') :
    Sl P N ops Q (⟨some d, .buildSlice t 1 #[(0, x)], ty, pos, aft, none⟩ :: rest) l w := by
  obtain ⟨i, z, hi, h1, hz, h2, h3⟩ := ht.parts
  have hc : (enc u).cells = #[enc u] := by cases he : enc u <;> simp_all [Value.cells, Value.oneCell']
  refine Sl.eff (w' := w.alloc (.cells #[enc u] e)) (fun a ha => ?_) hd (h _ (own_new (xs := [u]) (heap_alloc_new w _) (by simp [maxLen])) (by simp) (Foot.alloc _ _ _))
  simp [execOp, Instr.buildSlice, run_underlying ht.und, ht.size, zeroValue, typeInfo, hi, h1, Instr.fill, ha.ev hx, hc, newRow]
  rw [range_set1]
theorem Sl.lit2 {α : Type} {enc : α → Value} {e : TypeId} {bytes : Nat} (ht : SliceT P t e 1 bytes) {u u' : α} (hu : ∀ x, (enc x).oneCell' = true) (hx : evL l x = some (enc u)) (hy : evL l y = some (enc u')) (hd : Nat.blt d N.n = true)
    (h : ∀ w', Own enc e w'.heap (some ⟨w.heap.size, 0, none⟩) 2 [u, u'] → w'.heap.size = w.heap.size + 1 → Foot nob w w' → Sl P N ops Q rest ((d, .slice (some ⟨w.heap.size, 0, none⟩) 2 2) :: l) w') :
    Sl P N ops Q (⟨some d, .buildSlice t 2 #[(0, x), (1, y)], ty, pos, aft, none⟩ :: rest) l w := by
  obtain ⟨i, z, hi, h1, hz, h2, h3⟩ := ht.parts
  have hc : ∀ u, (enc u).cells = #[enc u] := fun u => by have := hu u; cases he : enc u <;> simp_all [Value.cells, Value.oneCell']
  refine Sl.eff (w' := w.alloc (.cells #[enc u, enc u'] e)) (fun a ha => ?_) hd (h _ (own_new (xs := [u, u']) (heap_alloc_new w _) (by simp [maxLen])) (by simp) (Foot.alloc _ _ _))
  simp [execOp, Instr.buildSlice, run_underlying ht.und, ht.size, zeroValue, typeInfo, hi, h1, Instr.fill, ha.ev hx, ha.ev hy, hc, newRow]
  rw [range_set2]

/-- a store of one cell into a block that is known -/
theorem Sl.store {b o : Nat} {cur : List Value} {T : TypeId} (ht : scaB P t = true) (hx : evL l x = some (.pointer (some ⟨b, o, none⟩))) (hy : evL l y = some v) (h1 : v.oneCell' = true)
    (hg : w.heap[b]? = some (.cells cur.toArray T (0, 0))) (ho : Nat.blt o cur.length = true)
    (h : ∀ w', w'.heap[b]? = some (.cells (cur.set o v).toArray T (0, 0)) → w'.heap.size = w.heap.size → Foot (· = b) w w' → Sl P N ops Q rest l w') :
    Sl P N ops Q (⟨none, .store t x y, ty, pos, aft, none⟩ :: rest) l w := by
  have ho' : o < cur.length := by simpa [Nat.blt_eq] using ho
  have hb := (Array.getElem?_eq_some_iff.1 hg)
  have hc : v.cells = #[v] := by cases v <;> simp_all [Value.cells, Value.oneCell']
  have hcell : w.cell? ((⟨b, o, none⟩ : Addr).add 0) = some cur[o] := by simp [Addr.add, World.cell?, hg, ho']
  have hfro : w.frozen? ((⟨b, o, none⟩ : Addr).add 0) = false := by simp [Addr.add, World.frozen?, hg]
  refine Sl.effSkip (w' := w.setCell ⟨b, o, none⟩ v) (fun a ha => ?_) (h _ ?_ ?_ ?_)
  · simp [execOp, ha.ev hx, ha.ev hy, Instr.storeAt, Instr.sureAddr, storeVar, sca_size ht, hc, storeCells, run_store P w _ v _ h1, hcell, hfro]
    simp [Addr.add]
  · simp [World.setCell, Array.getElem?_modify, hg]
  · simp [World.setCell]
  · exact ⟨rfl, rfl, rfl, by simp [World.setCell], fun k hk hn => Below.heap_setCell _ _ _ _ hn⟩
end
end Go.Proofs.Ytpamandneifemaa
/- A region that draws its order, walked once in an order of one's own: what only computes or reads is taken as early as it can be, what writes or calls stands in a row. No condition. -/
namespace Go.Proofs.Ytpamandneifemaa
open Go Go.RowKit

section
variable {P : Program} {ops : Array Oper} {md : Region.Mode} {CH : Array Obj → Prop}

def YC (P : Program) (ops : Array Oper) (CH : Array Obj → Prop) (o : Oper) (v : Value) (a : Act) : Prop :=
  (Region.wanted o (yielded ops a.tmps) = true ∧ ∀ w, CH w.heap → (execOp a.eval o).run P w = .ok (.value v) w) ∨
  (Region.wanted o (yielded ops a.tmps) = false ∧ v = undef)

theorem YC.of_same {o : Oper} {v : Value} {a a' : Act} (hy : YC P ops CH o v a) (he : execOp a'.eval o = execOp a.eval o)
    (hw : Region.wanted o (yielded ops a'.tmps) = Region.wanted o (yielded ops a.tmps)) : YC P ops CH o v a' := by
  unfold YC at *
  rw [he, hw]
  exact hy

/-- no way out but the end -/
def Only (K : Act → World → Prop) : Exit → Act → World → Prop
  | .normal, a, w => K a w
  | _, _, _ => False

theorem YC.wpOp {i : Nat} {o : Oper} {v : Value} {a : Act} {Q : Exit → Act → World → Prop} (hi : ops[i]? = some o) (hy : YC P ops CH o v a)
    {K : Act → World → Prop} {w : World} (hc : CH w.heap) (h : K (a.put o.dst v) w) : wpOp P ops Q i K a w := by
  unfold Go.wpOp
  simp only [hi]
  rcases hy with ⟨hw, hv⟩ | ⟨hw, rfl⟩
  · simp only [hw, if_true, Oper.wp, hv w hc, Oper.upon]; exact .inl h
  · simp only [hw, Bool.false_eq_true, if_false]; exact h

theorem wpOp_putC {K0 : Act → World → Prop} {j : Nat} {oi oj : Oper} {v : Value} (hj : ops[j]? = some oj) (hap : oi.apart ops oj = true)
    (hsi : ∀ cs b, oi.op ≠ .select cs b) (hsj : ∀ cs b, oj.op ≠ .select cs b) {K : Act → World → Prop} {a : Act} {w : World}
    (hy : YC P ops CH oi v a) (h : wpOp P ops (Only K0) j K (a.put oi.dst v) w) :
    wpOp P ops (Only K0) j (fun a' w' => YC P ops CH oi v a' ∧ K (a'.put oi.dst v) w') a w := by
  obtain ⟨h1, h2, h3⟩ := Oper.apart_spec hap
  have keep : ∀ (a : Act), YC P ops CH oi v a → ∀ u, YC P ops CH oi v (a.put oj.dst u) := fun a hy u =>
    hy.of_same (execOp_put oi hsi a oj.dst u h3) (wanted_put oi a oj.dst u h3)
  have keepD : ∀ d, YC P ops CH oi v { a with defers := d :: a.defers } := fun d => hy.of_same rfl rfl
  unfold wpOp at *
  simp only [hj] at *
  rw [wanted_put oj a oi.dst v h1] at h
  split
  · rename_i hw
    simp only [hw, if_true] at h
    rcases h with h | ⟨hasks, hlets⟩
    case inr => exact .inr ⟨by unfold Oper.asks at *; rw [execOp_put oj hsj a oi.dst v h1] at hasks; exact hasks, hlets⟩
    refine .inl ?_
    unfold Oper.wp at *
    rw [execOp_put oj hsj a oi.dst v h1] at h
    generalize (execOp a.eval oj).run P w = r at *
    cases r with
    | ok n w' =>
      cases n <;> simp only [Oper.upon] at h ⊢
      case value u => exact ⟨keep a hy u, by rw [← Act.put_comm a v u h2]; exact h⟩
      case skip => exact ⟨keep a hy _, by rw [← Act.put_comm a v undef h2]; exact h⟩
      case defer d =>
        refine ⟨keep _ (keepD d) _, ?_⟩
        rw [← Act.put_comm _ v undef h2, ← Act.put_defers]
        exact h
      case enter f args =>
        refine Calls.mono h fun e w'' he => ?_
        cases e with
        | returned u => exact ⟨keep a hy u, by rw [← Act.put_comm a v u h2]; exact he⟩
        | panicked c => exact he
        | outgrown => exact he
      case row row args => exact Rows.mono h fun u w'' he => ⟨keep a hy u, by rw [← Act.put_comm a v u h2]; exact he⟩
    | halt x w' =>
      cases x <;> simp only [Oper.upon] at h ⊢
      case panic u => exact h
  · rename_i hw
    simp only [hw] at h
    exact ⟨keep a hy _, by rw [← Act.put_comm a v undef h2]; exact h⟩

/-- Whatever order is picked from here on, the heap staying in its class till operation n has come up. -/
def wpAnyC (P : Program) (md : Region.Mode) (ops : Array Oper) (n : Nat) (CH : Array Obj → Prop) (K0 : Act → World → Prop) : Nat → Array Bool → Act → World → Prop
  | 0, listed, a, w => (listed.getD n false = false → CH w.heap) ∧ Region.ready md ops listed = [] ∧ K0 a w
  | fuel + 1, listed, a, w => (listed.getD n false = false → CH w.heap) ∧
    (Region.ready md ops listed = [] → K0 a w) ∧
    ∀ i ∈ Region.ready md ops listed, wpOp P ops (Only K0) i (wpAnyC P md ops n CH K0 fuel (listed.setIfInBounds i true)) a w

theorem wpAnyC.ch {n : Nat} {K0 : Act → World → Prop} : ∀ {fuel : Nat} {listed : Array Bool} {a : Act} {w : World}, wpAnyC P md ops n CH K0 fuel listed a w → listed.getD n false = false → CH w.heap
  | 0, _, _, _, h => h.1
  | _ + 1, _, _, _, h => h.1

theorem wpAnyC.any {n : Nat} {K0 : Act → World → Prop} : ∀ {fuel : Nat} {listed : Array Bool} {a : Act} {w : World}, wpAnyC P md ops n CH K0 fuel listed a w → wpAny P md ops (Only K0) fuel listed a w
  | 0, _, _, _, h => h.2
  | _ + 1, _, _, _, h => ⟨h.2.1, fun i hi => wpOp_mono (fun _ _ h' => wpAnyC.any h') (h.2.2 i hi)⟩

/-- n is none of the operations, or all others come up ahead of it. -/
def finB (ops : Array Oper) (n : Nat) : Bool := Nat.ble ops.size n || (Region.sinkB .any ops n && Region.chainB .any ops n)

theorem fin_waits {n : Nat} {listed : Array Bool} (hf : finB ops n = true) (inv : HeadInv .any ops n listed) {i j : Nat} (hi : i < n) (hun : listed.getD i true = false) (hj : j ∈ Region.ready .any ops listed) : j < n := by
  have hjs : j < ops.size := by
    obtain ⟨_, o, ho, _⟩ := mem_ready.1 hj
    exact (Array.getElem?_eq_some_iff.1 ho).1
  simp only [finB, Bool.or_eq_true, Bool.and_eq_true, Nat.ble_eq] at hf
  rcases Nat.lt_or_ge n ops.size with hn | hn
  · rcases hf with hf | hf
    · omega
    · rcases Nat.lt_or_ge j n with h | h
      · exact h
      · exact absurd hj (tail_waits hf.1 hf.2 hn inv _ i rfl hi hun j h)
  · omega

theorem fin_waits_end {n : Nat} {listed : Array Bool} (hf : finB ops n = true) (inv : HeadInv .any ops n listed) {j : Nat} (hj : j ∈ Region.ready .any ops listed) (h : n < j) : False := by
  obtain ⟨_, o, ho, hall⟩ := mem_ready.1 hj
  have hjs : j < ops.size := (Array.getElem?_eq_some_iff.1 ho).1
  simp only [finB, Bool.or_eq_true, Bool.and_eq_true, Nat.ble_eq] at hf
  rcases hf with hf | hf
  · omega
  · have h1 := List.all_eq_true.1 hf.2 j (List.mem_range.2 hjs)
    simp only [Bool.or_eq_true, decide_eq_true_eq] at h1
    rcases h1 with h1 | h1
    · omega
    · obtain ⟨o', ho', e, he, hb, hon⟩ := Region.waitsFor_spec h1
      have : o' = o := Option.some.inj (ho'.symm.trans ho)
      subst this
      have h2 := hall e he hb
      rw [hon, getD_both (inv.tail (j - 1) (by omega) (by omega))] at h2
      cases h2

theorem getD_false_of {n : Nat} {listed : Array Bool} (inv : HeadInv .any ops n listed) : listed.getD n false = false := by
  rcases Nat.lt_or_ge n ops.size with h | h
  · exact getD_both (inv.tail n (Nat.le_refl _) h)
  · have : listed.size ≤ n := by rw [inv.size]; exact h
    simp [Array.getElem?_eq_none this]

theorem wpAnyC_first {n : Nat} {K0 : Act → World → Prop} {i : Nat} {oi : Oper} {v : Value} (hi : ops[i]? = some oi) (hsel : ∀ (j : Nat) (o : Oper) cs b, ops[j]? = some o → o.op ≠ .select cs b) (hf : finB ops n = true) (hin : i < n) :
    ∀ (fuel : Nat) (listed : Array Bool) (a : Act) (w : World), HeadInv .any ops n listed → CH w.heap →
      (∀ j oj, ops[j]? = some oj → j ≠ i → listed.getD j true = false → (∀ e ∈ oj.after, Region.binds .any e = true → e.on ≠ i) → oi.apart ops oj = true) →
      i ∈ Region.ready .any ops listed → YC P ops CH oi v a →
      wpAnyC P .any ops n CH K0 fuel (listed.setIfInBounds i true) (a.put oi.dst v) w → wpAnyC P .any ops n CH K0 (fuel + 1) listed a w := by
  intro fuel
  induction fuel with
  | zero =>
    intro listed a w _ hc _ hr hy H
    refine ⟨fun _ => hc, fun h => (by rw [h] at hr; cases hr), fun j hj => ?_⟩
    by_cases hji : j = i
    · subst hji; exact hy.wpOp hi hc H
    · have := ready_mono hj hji
      rw [H.2.1] at this
      cases this
  | succ fuel ih =>
    intro listed a w inv hc hfree hr hy H
    refine ⟨fun _ => hc, fun h => (by rw [h] at hr; cases hr), fun j hj => ?_⟩
    by_cases hji : j = i
    · subst hji; exact hy.wpOp hi hc H
    · have h1 := H.2.2 j (ready_mono hj hji)
      obtain ⟨hjun, oj, hoj, hall⟩ := mem_ready.1 hj
      have hjn : j < n := fin_waits hf inv hin (mem_ready.1 hr).1 hj
      have inv' := inv.set hj hjn
      have hnot : ∀ e ∈ oj.after, Region.binds .any e = true → e.on ≠ i := fun e he hb heq => by
        have h1 := hall e he hb
        have h0 := (mem_ready.1 hr).1
        rw [heq] at h1
        rcases Nat.lt_or_ge i listed.size with h' | h'
        · simp [h'] at h0 h1; rw [h0] at h1; cases h1
        · simp [Array.getElem?_eq_none h'] at h1
      have h2 := wpOp_putC hoj (hfree j oj hoj hji hjun hnot) (fun cs b => hsel i oi cs b hi) (fun cs b => hsel j oj cs b hoj) hy h1
      have hfree' : ∀ k ok, ops[k]? = some ok → k ≠ i → (listed.setIfInBounds j true).getD k true = false →
          (∀ e ∈ ok.after, Region.binds .any e = true → e.on ≠ i) → oi.apart ops ok = true := fun k ok hk hki hun hno => by
        refine hfree k ok hk hki ?_ hno
        by_cases hjk : j = k
        · subst hjk; exact hjun
        · rw [getD_set_ne true hjk] at hun; exact hun
      have hstill : ((listed.setIfInBounds i true).setIfInBounds j true).getD n false = false := by
        rw [getD_set_ne false (by omega), getD_set_ne false (by omega)]; exact getD_false_of inv
      refine wpOp_mono (fun a' w' h3 => ih (listed.setIfInBounds j true) a' w' inv' (h3.2.ch hstill) hfree' (ready_mono hr (Ne.symm hji)) h3.1 ?_) h2
      rw [Array.setIfInBounds_comm _ _ hji]
      exact h3.2

/-- the order: effs are the operations that write or call; n stands last, if it is one -/
def mixOk (ops : Array Oper) (n : Nat) (effs : List Nat) : List Nat → Array Bool → Bool
  | [], listed => (Region.ready .any ops listed).isEmpty
  | i :: r, listed =>
    (bif effs.contains i then (match Region.ready .any ops listed with | [j] => Nat.beq j i | _ => false) && (Nat.blt i n || r.isEmpty) else ((Region.ready .any ops listed).contains i && Region.free .any ops listed i && Nat.blt i n)) &&
    mixOk ops n effs r (listed.setIfInBounds i true)

/-- a walk in that order; what is known of all heaps to come may grow behind each operation that writes or calls -/
def Sx (P : Program) (N : Nt) (ops : Array Oper) (n : Nat) : (Array Obj → Prop) → List Nat → (Act → World → Prop) → List Nat → SF → World → Prop
  | _, _, K0, [], l, w => ∀ a, HasL N l a → K0 a w
  | CH, effs, K0, i :: r, l, w => ∃ o, ops[i]? = some o ∧
    (bif effs.contains i then Sl P N ops (Only fun a w => ∃ l', HasL N l' a ∧ ∃ CH' : Array Obj → Prop, (∀ H, CH' H → CH H) ∧ (Nat.blt i n = true → CH' w.heap) ∧ Sx P N ops n CH' effs K0 r l' w) [o] l w
     else ∃ v, (∀ a, HasL N l a → YC P ops CH o v a) ∧ ∃ l', (∀ a, HasL N l a → HasL N l' (a.put o.dst v)) ∧ Sx P N ops n CH effs K0 r l' w)

theorem wpAnyC.mono {n : Nat} {K0 : Act → World → Prop} {CH CH' : Array Obj → Prop} (hs : ∀ H, CH' H → CH H) : ∀ {fuel : Nat} {listed : Array Bool} {a : Act} {w : World}, wpAnyC P md ops n CH' K0 fuel listed a w → wpAnyC P md ops n CH K0 fuel listed a w
  | 0, _, _, _, h => ⟨fun h0 => hs _ (h.1 h0), h.2⟩
  | _ + 1, _, _, _, h => ⟨fun h0 => hs _ (h.1 h0), h.2.1, fun i hi => wpOp_mono (fun _ _ h' => wpAnyC.mono hs h') (h.2.2 i hi)⟩

theorem Oper.wp_only {o : Oper} {a : Act} {w : World} {K K' : Act → World → Prop} {M M' : Act → World → Prop} (h : ∀ a w, K a w → K' a w) (hh : o.wp P a w K (Only M)) : o.wp P a w K' (Only M') := by
  unfold Oper.wp at *
  generalize (execOp a.eval o).run P w = r at *
  cases r with
  | ok n w' =>
    cases n <;> simp only [Oper.upon] at hh ⊢ <;>
      first
        | exact h _ _ hh
        | exact Calls.mono hh (fun e w'' he => by cases e <;> first | exact h _ _ he | exact he.elim | (obtain ⟨_, _, hf⟩ := he; exact hf.elim))
        | exact Rows.mono hh (fun _ _ he => h _ _ he)
  | halt x w' => cases x <;> simp only [Oper.upon] at hh ⊢; exact hh.elim

theorem sx_sound {N : Nt} {n : Nat} {effs : List Nat} {K0 : Act → World → Prop} (hsel : Region.noSelect ops = true) (hfin : finB ops n = true) : ∀ (ord : List Nat) (CH : Array Obj → Prop) (fuel : Nat) (listed : Array Bool) (l : SF) (a : Act) (w : World), ord.length ≤ fuel → mixOk ops n effs ord listed = true →
    HasL N l a → (HeadInv .any ops n listed ∧ CH w.heap) ∨ (ord = [] ∧ listed.getD n false = true) → Sx P N ops n CH effs K0 ord l w → wpAnyC P .any ops n CH K0 fuel listed a w
  | [], CH, fuel, listed, l, a, w, _, hm, ha, hc, h => by
    have hr : Region.ready .any ops listed = [] := by simpa [mixOk] using hm
    have hch : listed.getD n false = false → CH w.heap := fun h0 => by
      rcases hc with hc | hc
      · exact hc.2
      · rw [hc.2] at h0; cases h0
    cases fuel with
    | zero => exact ⟨hch, hr, h a ha⟩
    | succ f => exact ⟨hch, fun _ => h a ha, by rw [hr]; simp⟩
  | i :: r, CH, 0, listed, l, a, w, hf, hm, ha, hc, h => by simp at hf
  | i :: r, CH, f + 1, listed, l, a, w, hf, hm, ha, hc, h => by
    obtain ⟨inv, hc⟩ := hc.resolve_right (fun hc => by cases hc.1)
    obtain ⟨o, ho, h⟩ := h
    simp only [mixOk, Bool.and_eq_true] at hm
    obtain ⟨hm1, hm2⟩ := hm
    cases he : effs.contains i with
    | true =>
      rw [he] at h hm1
      simp only [cond_true, Bool.and_eq_true] at h hm1
      obtain ⟨hm1, hm3⟩ := hm1
      have hr : Region.ready .any ops listed = [i] := by
        split at hm1
        · rename_i j hj; rw [hj, Nat.eq_of_beq_eq_true hm1]
        · cases hm1
      refine ⟨fun _ => hc, fun h0 => (by rw [hr] at h0; cases h0), fun j hj => ?_⟩
      have hjr := hj
      rw [hr] at hj
      obtain rfl : j = i := by simpa using hj
      have h1 := h a ha
      unfold wpList at h1
      unfold wpOp
      simp only [ho]
      have key : ∀ a' w', wpList P ops (Only fun a w => ∃ l', HasL N l' a ∧ ∃ CH' : Array Obj → Prop, (∀ H, CH' H → CH H) ∧ (Nat.blt j n = true → CH' w.heap) ∧ Sx P N ops n CH' effs K0 r l' w) [] a' w' → wpAnyC P .any ops n CH K0 f (listed.setIfInBounds j true) a' w' := by
        intro a' w' h2
        obtain ⟨l', h3, CH', hsub, h4, h5⟩ := h2
        refine wpAnyC.mono hsub (sx_sound hsel hfin r CH' f _ l' a' w' (by simp at hf; omega) hm2 h3 ?_ h5)
        rcases Nat.lt_or_ge j n with hjn | hjn
        · exact .inl ⟨inv.set hjr hjn, h4 (by simpa [Nat.blt_eq] using hjn)⟩
        · have hjs : j < ops.size := (Array.getElem?_eq_some_iff.1 ho).1
          have hb : Nat.blt j n = false := by rw [← Bool.not_eq_true, Nat.blt_eq]; omega
          simp only [hb, Bool.false_or, List.isEmpty_iff] at hm3
          have hr0 : r = [] := hm3
          · have hjn' : j = n := by
              rcases Nat.lt_or_ge n j with h6 | h6
              · -- the last one stands at n: all others are ahead of it
                have h7 := fin_waits_end hfin inv hjr h6
                exact h7.elim
              · omega
            subst hjn'
            exact .inr ⟨hr0, by simp [inv.size, hjs]⟩
      split
      · rename_i hw
        rw [if_pos hw] at h1
        rcases h1 with h1 | ⟨_, _, _, h1⟩
        · exact .inl (Oper.wp_only key h1)
        · exact h1.elim
      · rename_i hw
        rw [if_neg hw] at h1
        exact key _ _ h1
    | false =>
      rw [he] at h hm1
      simp only [cond_false, Bool.and_eq_true] at h hm1
      obtain ⟨v, hy, l', hl', hs⟩ := h
      have hin : i < n := by simpa [Nat.blt_eq] using hm1.2
      have hir : i ∈ Region.ready .any ops listed := by simpa using hm1.1.1
      exact wpAnyC_first ho (Region.noSelect_spec hsel) hfin hin f listed a w inv hc (Region.free_spec ho hm1.1.2) hir (hy a ha) (sx_sound hsel hfin r CH f _ l' _ w (by simp at hf; omega) hm2 (hl' a ha) (.inl ⟨inv.set hir hin, hc⟩) hs)

variable {N : Nt} {Q : Exit → Act → World → Prop} {l : SF} {w : World}

theorem headInv0 {n : Nat} : HeadInv .any ops n (Array.replicate ops.size false) :=
  ⟨by simp, (fun j oj hj hl => by rw [getD_replicate_false] at hl; cases hl), (fun t _ ht => by simp [ht])⟩

theorem Sc.draw {id : Nat} {lops : List Oper} (n : Nat) (CH : Array Obj → Prop) (effs ord : List Nat) (hm : P.follows .mixedOrders = true) (hs : (Region.noSelect lops.toArray && finB lops.toArray n &&
    mixOk lops.toArray n effs ord (Array.replicate lops.length false) && Nat.ble ord.length lops.length) = true) (hc : CH w.heap)
    (h : Sx P N lops.toArray n CH effs (fun a w => Q .normal a w) ord l (w.drewN 1)) : Sc P N (.region id lops.toArray true) Q l w := fun a ha => by
  simp only [Bool.and_eq_true] at hs
  obtain ⟨⟨⟨hs, hfin⟩, hok⟩, hlen⟩ := hs
  have h1 := sx_sound (P := P) (N := N) (K0 := fun a w => Q .normal a w) hs hfin ord CH lops.length _ l a (w.drewN 1) (by simpa [Nat.ble_eq] using hlen) hok ha
    (.inl ⟨by have := headInv0 (ops := lops.toArray) (n := n); simpa using this, hc⟩) h
  have h2 := wp_region_any (P := P) (id := id) (ops := lops.toArray) (Q := Only fun a w => Q .normal a w) (a := a) (w := w) hm (by
    have := h1.any
    simpa [World.drewN] using this)
  refine wp_mono h2 ?_
  intro e a' w' hq
  cases e <;> first | exact hq | exact hq.elim

variable {n : Nat} {effs : List Nat} {K0 : Act → World → Prop} {r : List Nat} {i : Nat} {op : Op} {ty : TypeId} {pos : String} {aft : Array Edge} {d : Nat} {v : Value}

theorem Sx.calm (hi : ops[i]? = some ⟨some d, op, ty, pos, aft, none⟩) (he : effs.contains i = false) (hv : Cm P N CH l ⟨some d, op, ty, pos, aft, none⟩ v) (hd : Nat.blt d N.n = true)
    (h : Sx P N ops n CH effs K0 r ((d, v) :: l) w) : Sx P N ops n CH effs K0 (i :: r) l w :=
  ⟨_, hi, by rw [he]; exact ⟨v, fun a ha => .inl ⟨by simp [Region.wanted], fun w hw => hv a w ha hw⟩, _, fun a ha => ha.put hd v, h⟩⟩
theorem Sx.want {j s : Nat} {b : Bool} (hi : ops[i]? = some ⟨some d, op, ty, pos, aft, some (j, b)⟩) (he : effs.contains i = false) (hj : (ops[j]?).bind (·.dst) = some s) (hs : lk l s = some (.bool b))
    (hv : Cm P N CH l ⟨some d, op, ty, pos, aft, some (j, b)⟩ v) (hd : Nat.blt d N.n = true)
    (h : Sx P N ops n CH effs K0 r ((d, v) :: l) w) : Sx P N ops n CH effs K0 (i :: r) l w :=
  ⟨_, hi, by rw [he]; exact ⟨v, fun a ha => .inl ⟨by simp [Region.wanted, yielded_of ha hj hs], fun w hw => hv a w ha hw⟩, _, fun a ha => ha.put hd v, h⟩⟩
theorem Sx.fork {p : Prop} [Decidable p] (hi : ops[i]? = some ⟨some d, op, ty, pos, aft, none⟩) (he : effs.contains i = false) (hv : Cm P N CH l ⟨some d, op, ty, pos, aft, none⟩ (.bool (decide p))) (hd : Nat.blt d N.n = true)
    (h1 : p → Sx P N ops n CH effs K0 r ((d, .bool true) :: l) w) (h2 : ¬ p → Sx P N ops n CH effs K0 r ((d, .bool false) :: l) w) : Sx P N ops n CH effs K0 (i :: r) l w := by
  by_cases h : p
  · rw [decide_eq_true h] at hv; exact Sx.calm hi he hv hd (h1 h)
  · rw [decide_eq_false h] at hv; exact Sx.calm hi he hv hd (h2 h)
theorem Sx.forkWant {p : Prop} [Decidable p] {j s : Nat} {b : Bool} (hi : ops[i]? = some ⟨some d, op, ty, pos, aft, some (j, b)⟩) (he : effs.contains i = false) (hj : (ops[j]?).bind (·.dst) = some s) (hs : lk l s = some (.bool b))
    (hv : Cm P N CH l ⟨some d, op, ty, pos, aft, some (j, b)⟩ (.bool (decide p))) (hd : Nat.blt d N.n = true)
    (h1 : p → Sx P N ops n CH effs K0 r ((d, .bool true) :: l) w) (h2 : ¬ p → Sx P N ops n CH effs K0 r ((d, .bool false) :: l) w) : Sx P N ops n CH effs K0 (i :: r) l w := by
  by_cases h : p
  · rw [decide_eq_true h] at hv; exact Sx.want hi he hj hs hv hd (h1 h)
  · rw [decide_eq_false h] at hv; exact Sx.want hi he hj hs hv hd (h2 h)
theorem Sx.skip {j s : Nat} {b : Bool} {u : Value} (hi : ops[i]? = some ⟨some d, op, ty, pos, aft, some (j, b)⟩) (he : effs.contains i = false) (hj : (ops[j]?).bind (·.dst) = some s) (hs : lk l s = some u) (hb : skipB u b = true) (hd : Nat.blt d N.n = true)
    (h : Sx P N ops n CH effs K0 r ((d, undef) :: l) w) : Sx P N ops n CH effs K0 (i :: r) l w :=
  ⟨_, hi, by rw [he]; exact ⟨undef, fun a ha => .inr ⟨by
    simp only [Region.wanted, yielded_of ha hj hs]
    cases u <;> simp_all [skipB], rfl⟩, _, fun a ha => ha.put hd undef, h⟩⟩
/-- what is asked behind an operation that writes or calls -/
def KX (P : Program) (N : Nt) (ops : Array Oper) (n : Nat) (CH : Array Obj → Prop) (effs : List Nat) (K0 : Act → World → Prop) (i : Nat) (r : List Nat) : Exit → Act → World → Prop :=
  Only fun a w => ∃ l', HasL N l' a ∧ ∃ CH' : Array Obj → Prop, (∀ H, CH' H → CH H) ∧ (Nat.blt i n = true → CH' w.heap) ∧ Sx P N ops n CH' effs K0 r l' w
theorem Sx.eff {o : Oper} (hi : ops[i]? = some o) (he : effs.contains i = true) (h : Sl P N ops (KX P N ops n CH effs K0 i r) [o] l w) : Sx P N ops n CH effs K0 (i :: r) l w :=
  ⟨_, hi, by rw [he]; exact h⟩
theorem Sx.on (hc : CH w.heap) (h : Sx P N ops n CH effs K0 r l w) : Sl P N ops (KX P N ops n CH effs K0 i r) [] l w := fun _ ha => ⟨l, ha, CH, fun _ h => h, fun _ => hc, h⟩
/-- .. and more is known from here on -/
theorem Sx.add (E : Array Obj → Prop) (hc : CH w.heap) (he : E w.heap) (h : Sx P N ops n (fun H => CH H ∧ E H) effs K0 r l w) : Sl P N ops (KX P N ops n CH effs K0 i r) [] l w := fun _ ha => ⟨l, ha, _, fun _ h => h.1, fun _ => ⟨hc, he⟩, h⟩
theorem Sx.last (hb : Nat.blt i n = false) (h : Sx P N ops n CH effs K0 r l w) : Sl P N ops (KX P N ops n CH effs K0 i r) [] l w := fun _ ha => ⟨l, ha, CH, fun _ h => h, (fun h0 => by rw [hb] at h0; cases h0), h⟩
theorem Sx.nil (h : At N .normal Q l w) : Sx P N ops n CH effs (fun a w => Q .normal a w) [] l w := fun a ha => h a ha
/-- A region that only reads. -/
theorem Sc.quiet {id : Nat} {lops : List Oper} (n : Nat) (ord : List Nat) (hm : P.follows .mixedOrders = true) (hs : (Region.noSelect lops.toArray && finB lops.toArray n &&
    mixOk lops.toArray n [] ord (Array.replicate lops.length false) && Nat.ble ord.length lops.length) = true)
    (h : Sx P N lops.toArray n (· = w.heap) [] (fun a w => Q .normal a w) ord l (w.drewN 1)) : Sc P N (.region id lops.toArray true) Q l w :=
  Sc.draw n (· = w.heap) [] ord hm hs rfl h
end
end Go.Proofs.Ytpamandneifemaa
/- More operations: struct literals, make, comparisons with nil, stores into rows. No condition. -/
namespace Go.Proofs.Ytpamandneifemaa
open Go Go.RowKit

/-- the places of a structs fields -/
def places (P : Program) (t : TypeId) : Option (List (Nat × Nat)) :=
  match P.underlying t with
  | some (.struct fs) => fs.toList.mapM fun f => (P.info? f.type).map fun i => (f.offset, i.size)
  | _ => none

theorem run_mapM_places {P : Program} {w : World} : ∀ (fs : List Field) (pl : List (Nat × Nat)), (fs.mapM fun f => (P.info? f.type).map fun i => (f.offset, i.size)) = some pl →
    (fs.mapM fun (f : Field) => (do pure (f.offset, ← sizeOf f.type) : Sem (Nat × Nat))).run P w = .ok pl w
  | [], pl, h => by simp at h; subst h; simp
  | f :: r, pl, h => by
    simp only [List.mapM_cons, Option.bind_eq_bind, Option.bind_eq_some_iff, Option.map_eq_some_iff, Option.pure_def, Option.some.injEq] at h
    obtain ⟨p, ⟨i, hi, rfl⟩, ps, hps, rfl⟩ := h
    have ih := run_mapM_places (w := w) r ps hps
    simp [List.mapM_cons, sizeOf, typeInfo, hi]
    simp [sizeOf, typeInfo] at ih
    rw [ih]; rfl

def evPs (l : SF) : List (Nat × Operand) → Option (List (Nat × Value))
  | [] => some []
  | (i, x) :: r => match evL l x, evPs l r with
    | some v, some vs => some ((i, v) :: vs)
    | _, _ => none

theorem HasL.evPs {N : Nt} {l : SF} {a : Act} (h : HasL N l a) : ∀ {xs : List (Nat × Operand)} {vs : List (Nat × Value)}, Go.Proofs.Ytpamandneifemaa.evPs l xs = some vs → xs.map (fun p => (p.1, a.eval p.2)) = vs
  | [], vs, e => by simp [Go.Proofs.Ytpamandneifemaa.evPs] at e; simp [e]
  | (i, x) :: r, vs, e => by
    unfold Go.Proofs.Ytpamandneifemaa.evPs at e
    split at e
    · rename_i v us h1 h2
      cases e
      simp [h.ev h1, h.evPs h2]
    · cases e

section
variable {P : Program} {N : Nt} {Q : Exit → Act → World → Prop} {l : SF} {w : World} {ops : Array Oper} {rest : List Oper}
variable {op : Op} {ty : TypeId} {pos : String} {aft : Array Edge} {d : Nat} {v : Value} {CH : Array Obj → Prop}
variable {x y : Operand} {t t' : TypeId} {g : Option (Nat × Bool)} {dd : Option Nat}

theorem Cm.build {parts : List (Nat × Operand)} {vs : List (Nat × Value)} {pl : List (Nat × Nat)} {zc cs : Array Value} (hp : places P t = some pl) (hz : (P.info? t).map (fun i => i.zero.map (·.cells)) = some (some zc))
    (hx : evPs l parts = some vs) (hf : Instr.fill (fun i => pl.toArray[i]?) zc vs = some cs) : Cm P N CH l ⟨dd, .build t parts.toArray, ty, pos, aft, g⟩ (.agg cs) := fun a w ha _ => by
  unfold places at hp
  split at hp
  · rename_i fs hu
    obtain ⟨i, hi, h1⟩ := Option.map_eq_some_iff.1 hz
    obtain ⟨z, hz', rfl⟩ := Option.map_eq_some_iff.1 h1
    have hm := run_mapM_places (P := P) (w := w) fs.toList pl hp
    have hm' : (fs.mapM fun (f : Field) => (do pure (f.offset, ← sizeOf f.type) : Sem (Nat × Nat))).run P w = .ok pl.toArray w := by
      rw [← Array.toArray_toList (xs := fs), List.mapM_toArray]
      simp only [Sem.run_map, hm, Result.andThen_ok]
    have hv := ha.evPs hx
    simp only [execOp, Instr.build, Sem.run_bind, zeroValue, typeInfo, run_program, Result.andThen_ok, hi, hz', run_underlying hu, Sem.run_pure, hm', List.map_toArray, hv]
    rw [hf]
    simp
  · cases hp

theorem Cm.eqlSlNil {e : TypeId} {size bytes : Nat} (ht : SliceT P t e size bytes) {ao : Option Addr} {n c : Nat} (hx : evL l x = some (.slice ao n c)) (hy : evL l y = some (.slice none 0 0)) : Cm P N CH l ⟨dd, .binOp .eql t x y t', ty, pos, aft, g⟩ (.bool ao.isNone) := fun b w ha _ => by
  simp only [execOp, ha.ev hx, ha.ev hy]
  have := Lib.run_eql_slice_nil w t e ao n c 0 0 ht.und
  cases ao <;> simp [eqGuard] at this ⊢ <;> simp [this]
theorem Cm.neqSlNil {e : TypeId} {size bytes : Nat} (ht : SliceT P t e size bytes) {ao : Option Addr} {n c : Nat} (hx : evL l x = some (.slice ao n c)) (hy : evL l y = some (.slice none 0 0)) : Cm P N CH l ⟨dd, .binOp .neq t x y t', ty, pos, aft, g⟩ (.bool (!ao.isNone)) := fun b w ha _ => by
  simp only [execOp, ha.ev hx, ha.ev hy]
  have := run_neq_slice_nil_any w t e ao n c 0 0 ht.und
  cases ao <;> simp [eqGuard] at this ⊢ <;> simp [this]

/-- make([]T, n, m) -/
theorem Sl.make {α : Type} (enc : α → Value) {e : TypeId} (z0 : α) {bytes : Nat} (ht : SliceT P t e 1 bytes) (hz : (P.info? e).map (·.zero) = some (some (enc z0))) (h1 : (enc z0).oneCell' = true) {k k' : IntKind} {n m : Int}
    (hx : evL l x = some (.int k n)) (hy : evL l y = some (.int k' m)) (h0 : 0 ≤ n) (hnm : n ≤ m) (hn : (bytes : Int) * m ≤ 281474976710656) (hm : m ≤ 9223372036854775807) (hd : Nat.blt d N.n = true)
    (h : ∀ w', Own enc e w'.heap (some ⟨w.heap.size, 0, none⟩) m.toNat (List.replicate n.toNat z0) → w'.heap.size = w.heap.size + 1 → Foot nob w w' → Sl P N ops Q rest ((d, .slice (some ⟨w.heap.size, 0, none⟩) n.toNat m.toNat) :: l) w') :
    Sl P N ops Q (⟨some d, .makeSlice t x y, ty, pos, aft, none⟩ :: rest) l w := by
  obtain ⟨i, z, hi, hz1, hzc, h2, h3⟩ := ht.parts
  have hzz : z = enc z0 := by rw [hi] at hz; simp [hz1] at hz; exact hz
  subst hzz
  have hc : (enc z0).cells = #[enc z0] := by cases he : enc z0 <;> simp_all [Value.cells, Value.oneCell']
  have hr := run_make (P := P) w t e i (enc z0) ht.und hi hz1 k k' n m h0 hnm (by rw [h3]; exact hn) hm
  have hmc : madeCells (enc z0).cells (m.toNat * i.size) = (List.replicate m.toNat (enc z0)).toArray := by
    rw [hc, h2, Nat.mul_one]; apply Array.ext'; rw [toList_madeCells_one]
  rw [hmc] at hr
  refine Sl.eff (w' := w.alloc (.cells (List.replicate m.toNat (enc z0)).toArray e)) (fun a ha => ?_) hd (h _ ?_ (by simp) (Foot.alloc _ _ _))
  · simp only [execOp, ha.ev hx, ha.ev hy, Sem.run_bind, hr, Result.andThen_ok, Sem.run_pure]
  · refine .inr ⟨w.heap.size, _, rfl, heap_alloc_new w _, by simp; omega, by unfold maxLen; omega, by simp, ?_⟩
    simp; omega

theorem Own.set {α : Type} {enc : α → Value} {e : TypeId} {H H' : Array Obj} {ao : Option Addr} {cap : Nat} {xs : List α} (h : Own enc e H ao cap xs) {a : Addr} (ha : ao = some a) {i : Nat} {u : α} {cur : Array Value} (hg : H[a.block]? = some (.cells cur e (0, 0)))
    (hg' : H'[a.block]? = some (.cells (cur.setIfInBounds i (enc u)) e (0, 0))) : Own enc e H' ao cap (xs.set i u) := by
  rcases h with ⟨rfl, _⟩ | ⟨g, cur', rfl, hg2, h1, h2, h3, h4⟩
  · cases ha
  · cases ha
    rw [hg] at hg2
    cases hg2
    refine .inr ⟨g, _, rfl, hg', by simpa using h1, h2, by simpa using h3, ?_⟩
    simp only [List.length_set, Array.toList_setIfInBounds, List.map_set]
    rw [List.take_set, h4]

/-- out[i] = u, out ones own -/
theorem Sl.storeRow {α : Type} {enc : α → Value} (henc : ∀ x, (enc x).oneCell' = true) (ht : scaB P t = true) {e : TypeId} {ao : Option Addr} {cap : Nat} {xs : List α} {z : Int} {u : α} (hx : evL l x = some (.pointer (some (adr ao z.toNat)))) (hy : evL l y = some (enc u))
    (ho : Own enc e w.heap ao cap xs) (hz : 0 ≤ z ∧ z < xs.length)
    (h : ∀ w', Own enc e w'.heap ao cap (xs.set z.toNat u) → w'.heap.size = w.heap.size → Foot (blk ao) w w' → Sl P N ops Q rest l w') :
    Sl P N ops Q (⟨none, .store t x y, ty, pos, aft, none⟩ :: rest) l w := by
  have ho2 := ho
  rcases ho with ⟨rfl, _, rfl⟩ | ⟨g, cur, rfl, hg, h1, h2, h3, h4⟩
  · simp at hz; omega
  · have hi : z.toNat < cur.toList.length := by simp [h3]; omega
    have e1 : adr (some (⟨g, 0, none⟩ : Addr)) z.toNat = ⟨g, z.toNat, none⟩ := by
      show (⟨g, 0, none⟩ : Addr).add _ = _
      rw [Addr.add_lit, Nat.zero_add]
    rw [e1] at hx
    refine Sl.store (cur := cur.toList) (T := e) ht hx hy (henc u) (by simpa using hg) (by simpa [Nat.blt_eq] using hi) ?_
    intro w' hw hs hf
    refine h w' (Own.set ho2 (i := z.toNat) rfl hg ?_) hs (hf.mono (fun k hk => ⟨_, rfl, hk.symm⟩))
    rw [hw]
    congr 2
    apply Array.ext'; simp
end
end Go.Proofs.Ytpamandneifemaa
/- More operations: shifts, bits, strings, bools, bytes of a string. No condition. -/
namespace Go.Proofs.Ytpamandneifemaa
open Go Go.RowKit

section
variable {P : Program} {N : Nt} {Q : Exit → Act → World → Prop} {l : SF} {w : World} {ops : Array Oper} {rest : List Oper}
variable {op : Op} {ty : TypeId} {pos : String} {aft : Array Edge} {d : Nat} {v : Value} {CH : Array Obj → Prop}
variable {x y : Operand} {t t' : TypeId} {g : Option (Nat × Bool)} {dd : Option Nat} {k k' : IntKind} {m n : Int}

theorem Cm.shr (hx : evL l x = some (.int .i64 m)) (hy : evL l y = some (.int k' n)) (hn : 0 ≤ n ∧ n ≤ 64) : Cm P N CH l ⟨dd, .binOp .shr t x y t', ty, pos, aft, g⟩ (.int .i64 (m / 2 ^ n.toNat)) := fun a w ha _ => by
  have h1 : ¬ (n < 0) := by omega
  have h2 : min n.toNat 64 = n.toNat := by omega
  have h3 : m.fdiv (2 ^ n.toNat) = m / 2 ^ n.toNat := Int.fdiv_eq_ediv_of_nonneg _ (Int.pow_nonneg (by decide))
  have h4 : (Op.shift .shr .i64 m k' n).run P w = .ok (.int .i64 (m / 2 ^ n.toNat)) w := by
    unfold Op.shift
    rw [if_neg h1]
    show (pure (Value.int .i64 (m.fdiv (2 ^ min n.toNat 64))) : Sem Value).run P w = _
    rw [h2, h3]; rfl
  simp only [execOp, ha.ev hx, ha.ev hy, eqGuard, binOp, Sem.run_bind]
  simp
theorem Cm.shlW (hx : evL l x = some (.int .i64 m)) (hy : evL l y = some (.int k' n)) (hn : 0 ≤ n ∧ n ≤ 64) : Cm P N CH l ⟨dd, .binOp .shl t x y t', ty, pos, aft, g⟩ (.int .i64 (IntKind.i64.wrap (m * 2 ^ n.toNat))) := fun a w ha _ => by
  have h1 : ¬ (n < 0) := by omega
  have h2 : min n.toNat 64 = n.toNat := by omega
  have h4 : (Op.shift .shl .i64 m k' n).run P w = .ok (.int .i64 (IntKind.i64.wrap (m * 2 ^ n.toNat))) w := by
    unfold Op.shift
    rw [if_neg h1]
    show (pure (Value.int .i64 (IntKind.i64.wrap (m * 2 ^ min n.toNat 64))) : Sem Value).run P w = _
    rw [h2]; rfl
  simp only [execOp, ha.ev hx, ha.ev hy, eqGuard, binOp, Sem.run_bind]
  simp
theorem Cm.shl64 (hx : evL l x = some (.int .i64 m)) (hy : evL l y = some (.int k' n)) (hn : 0 ≤ n ∧ n ≤ 64) (hb : -9223372036854775808 ≤ m * 2 ^ n.toNat ∧ m * 2 ^ n.toNat ≤ 9223372036854775807) :
    Cm P N CH l ⟨dd, .binOp .shl t x y t', ty, pos, aft, g⟩ (.int .i64 (m * 2 ^ n.toNat)) := by
  have := @Cm.shlW P N l ty pos aft CH x y t t' g dd k' m n hx hy hn
  rwa [wrap64_id hb] at this

theorem bits_nat {a : Nat} (h : a < 2 ^ 63) : (BitVec.ofInt 64 (a : Int)).toNat = a := by
  simp; omega
theorem Cm.orN {a b : Nat} (hx : evL l x = some (.int .i64 a)) (hy : evL l y = some (.int .i64 b)) (ha : a < 2 ^ 63) (hb : b < 2 ^ 63) : Cm P N CH l ⟨dd, .binOp .or t x y t', ty, pos, aft, g⟩ (.int .i64 ((a ||| b : Nat) : Int)) := fun c w hc _ => by
  have h1 : (a ||| b) < 2 ^ 63 := Nat.or_lt_two_pow ha hb
  have h2 : (BitVec.ofInt 64 (a : Int) ||| BitVec.ofInt 64 (b : Int)).toNat = a ||| b := by
    rw [BitVec.toNat_or, bits_nat ha, bits_nat hb]
  have h3 : (Op.intBits .or .i64 (a : Int) (b : Int)).run P w = .ok (.int .i64 ((a ||| b : Nat) : Int)) w := by
    show (pure (Value.int .i64 (IntKind.i64.wrap ((BitVec.ofInt 64 (a : Int) ||| BitVec.ofInt 64 (b : Int)).toNat : Int))) : Sem Value).run P w = _
    rw [h2, wrap64_id (by omega)]; rfl
  simp [execOp, hc.ev hx, hc.ev hy, binOp, eqGuard]
  rw [h3]; rfl
theorem Cm.andN {a b : Nat} (hx : evL l x = some (.int .i64 a)) (hy : evL l y = some (.int .i64 b)) (ha : a < 2 ^ 63) (hb : b < 2 ^ 63) : Cm P N CH l ⟨dd, .binOp .and t x y t', ty, pos, aft, g⟩ (.int .i64 ((a &&& b : Nat) : Int)) := fun c w hc _ => by
  have h1 : (a &&& b) < 2 ^ 63 := Nat.lt_of_le_of_lt Nat.and_le_left ha
  have h2 : (BitVec.ofInt 64 (a : Int) &&& BitVec.ofInt 64 (b : Int)).toNat = a &&& b := by
    rw [BitVec.toNat_and, bits_nat ha, bits_nat hb]
  have h3 : (Op.intBits .and .i64 (a : Int) (b : Int)).run P w = .ok (.int .i64 ((a &&& b : Nat) : Int)) w := by
    show (pure (Value.int .i64 (IntKind.i64.wrap ((BitVec.ofInt 64 (a : Int) &&& BitVec.ofInt 64 (b : Int)).toNat : Int))) : Sem Value).run P w = _
    rw [h2, wrap64_id (by omega)]; rfl
  simp [execOp, hc.ev hx, hc.ev hy, binOp, eqGuard]
  rw [h3]; rfl

/-! strings -/
theorem Cm.lssBs {a b : List UInt8} (hx : evL l x = some (.string (bs a))) (hy : evL l y = some (.string (bs b))) : Cm P N CH l ⟨dd, .binOp .lss t x y t', ty, pos, aft, g⟩ (.bool (Op.bytesLess a b)) := fun c w ha _ => by
  simp [execOp, ha.ev hx, ha.ev hy, eqGuard, binOp, Op.stringOp, bs_toList]
theorem Cm.leqBs {a b : List UInt8} (hx : evL l x = some (.string (bs a))) (hy : evL l y = some (.string (bs b))) : Cm P N CH l ⟨dd, .binOp .leq t x y t', ty, pos, aft, g⟩ (.bool (Op.bytesLess a b || a == b)) := fun c w ha _ => by
  simp [execOp, ha.ev hx, ha.ev hy, eqGuard, binOp, Op.stringOp, bs_toList]
theorem Cm.gtrBs {a b : List UInt8} (hx : evL l x = some (.string (bs a))) (hy : evL l y = some (.string (bs b))) : Cm P N CH l ⟨dd, .binOp .gtr t x y t', ty, pos, aft, g⟩ (.bool (!(Op.bytesLess a b || a == b))) := fun c w ha _ => by
  simp [execOp, ha.ev hx, ha.ev hy, eqGuard, binOp, Op.stringOp, bs_toList]
theorem Cm.geqBs {a b : List UInt8} (hx : evL l x = some (.string (bs a))) (hy : evL l y = some (.string (bs b))) : Cm P N CH l ⟨dd, .binOp .geq t x y t', ty, pos, aft, g⟩ (.bool (!Op.bytesLess a b)) := fun c w ha _ => by
  simp [execOp, ha.ev hx, ha.ev hy, eqGuard, binOp, Op.stringOp, bs_toList]
theorem Cm.lenBs (ht : P.underlying t = some .string) {s : List UInt8} (hx : evL l x = some (.string (bs s))) :
    Cm P N CH l ⟨dd, .call ⟨.builtin .len, #[x], #[t]⟩, ty, pos, aft, g⟩ (.int .i64 s.length) := by
  have := @Cm.lenS P N l ty pos aft CH x t g dd ht (bs s) hx
  rwa [bs_size] at this
theorem Cm.idxS (ht : P.underlying t = some .string) {s : List UInt8} (hx : evL l x = some (.string (bs s))) (hy : evL l y = some (.int k n)) (hn : 0 ≤ n ∧ n < s.length) :
    Cm P N CH l ⟨dd, .index t x y, ty, pos, aft, g⟩ (b8 (s.getD n.toNat 0)) := fun c w ha _ => by
  have h1 : n.toNat < s.length := by omega
  have h2 : n.toNat < (bs s).size := by rw [bs_size]; exact h1
  have h3 : (bs s)[n.toNat]? = some (s.getD n.toNat 0) := by
    rw [getElem?_pos (bs s) n.toNat h2]
    have : (bs s)[n.toNat] = s[n.toNat] := rfl
    rw [this, List.getD, List.getElem?_eq_getElem h1]; rfl
  simp [execOp, ha.ev hx, ha.ev hy, Instr.index, asIntOf, run_underlying ht, hn.1, h3, b8]
theorem Cm.strConv (hs : P.underlying t = some .string) (hd : P.underlying t' = some .string) {s : ByteArray} (hx : evL l x = some (.string s)) : Cm P N CH l ⟨dd, .convert t t' x, ty, pos, aft, g⟩ (.string s) := fun c w ha _ => by
  simp [execOp, ha.ev hx, convert, run_underlying hs, run_underlying hd]
theorem Cm.catBs {a b : List UInt8} (hx : evL l x = some (.string (bs a))) (hy : evL l y = some (.string (bs b))) (hl : a.length + b.length ≤ 9223372036854775807) : Cm P N CH l ⟨dd, .binOp .add t x y t', ty, pos, aft, g⟩ (.string (bs (a ++ b))) := fun c w ha _ => by
  have h1 : bs a ++ bs b = bs (a ++ b) := by
    apply ByteArray.ext; simp [bs, ByteArray.data_append]
  have h2 : ¬ (((bs a).size + (bs b).size : Nat) : Int) > IntKind.i64.max := by
    rw [bs_size, bs_size]; show ¬ (_ > (9223372036854775807 : Int)); omega
  simp only [execOp, ha.ev hx, ha.ev hy, binOp, Op.stringOp, if_neg h2]
  simp [eqGuard, h1]

/-- strings.IndexByte below: a function that the model stands in for -/
structure IbT (P : Program) (f : FuncId) : Prop where
  fn : ∃ fn, P.funcs[f]? = some fn ∧ (fn.name == "runtime.NumGoroutine") = false ∧ fn.body.isNone = true ∧ Extern.findNext fn = none ∧ Extern.find fn = some Extern.BytealgIndexByte.indexByte
theorem IbT.mk' {P : Program} {f : FuncId} {fn : Func} (h0 : P.funcs[f]? = some fn) (h1 : (fn.name == "runtime.NumGoroutine") = false) (h2 : fn.body.isNone = true) (h3 : Extern.findNext fn = none) (h4 : Extern.find fn = some Extern.BytealgIndexByte.indexByte) : IbT P f := ⟨fn, h0, h1, h2, h3, h4⟩
theorem Cm.indexByte {f : FuncId} {ts : Array TypeId} (hf : IbT P f) {s : List UInt8} {c : Int} (hx : evL l x = some (.string (bs s))) (hy : evL l y = some (.int .u8 c)) :
    Cm P N CH l ⟨dd, .call ⟨.value (.func f), #[x, y], ts⟩, ty, pos, aft, g⟩ (.int .i64 (Lib.indexByte s c.toNat.toUInt8)) := fun a w ha _ => by
  obtain ⟨fn, h0, h1, h2, h3, h4⟩ := hf
  have hr := run_callFunc_extern h0 h1 h2 h3 h4 #[.string (bs s), .int .u8 c] w
  rw [Lib.run_indexByteString] at hr
  simp only [Result.andThen_ok] at hr
  rw [← ha.ev hx, ← ha.ev hy] at hr
  simp [execOp, resolve, Act.eval, Deferred.ofValue, invoke] at hr ⊢
  rw [hr]; rfl
theorem indexByte_neg (s : List UInt8) (c : UInt8) : Lib.indexByte s c < 0 ↔ c ∉ s := by
  induction s with
  | nil => simp [Lib.indexByte]
  | cons b r ih =>
    have hge := Lib.indexByte_ge r c
    unfold Lib.indexByte
    by_cases h : b = c
    · simp [h]
    · simp only [beq_iff_eq, h, if_false, List.mem_cons, not_or]
      split
      · rename_i h1
        rw [h1] at ih
        have := ih.1 (by decide)
        exact ⟨fun _ => ⟨fun e => h e.symm, this⟩, fun _ => by decide⟩
      · rename_i h1
        constructor
        · intro h2; omega
        · intro h2
          have := ih.2 h2.2
          omega

/-! bools -/
theorem Cm.eqlBool (ht : P.underlying t = some .bool) {a b : Bool} (hx : evL l x = some (.bool a)) (hy : evL l y = some (.bool b)) : Cm P N CH l ⟨dd, .binOp .eql t x y t', ty, pos, aft, g⟩ (.bool (a == b)) := fun c w ha _ => by
  simp [execOp, ha.ev hx, ha.ev hy, eqGuard, binOp, run_equal_bool w t a b ht]
theorem Cm.neqBool (ht : P.underlying t = some .bool) {a b : Bool} (hx : evL l x = some (.bool a)) (hy : evL l y = some (.bool b)) : Cm P N CH l ⟨dd, .binOp .neq t x y t', ty, pos, aft, g⟩ (.bool (a != b)) := fun c w ha _ => by
  simp [execOp, ha.ev hx, ha.ev hy, eqGuard, binOp, run_equal_bool w t a b ht, bne]

/-! bytes of a string; a slice of bytes that is marked -/
theorem Sl.bytesOf {e : TypeId} {size bytes : Nat} (hs : P.underlying t = some .string) (ht : SliceT P t' e size bytes) (he : P.underlying e = some (.int .u8)) {s : List UInt8} (hx : evL l x = some (.string (bs s))) (hl : s.length ≤ maxLen) (hd : Nat.blt d N.n = true)
    (h : ∀ w' cap, Vw b8 w'.heap (some ⟨w.heap.size, 0, none⟩) cap s → w'.heap.size = w.heap.size + 1 → Foot nob w w' → Sl P N ops Q rest ((d, .slice (some ⟨w.heap.size, 0, none⟩) s.length cap) :: l) w') :
    Sl P N ops Q (⟨some d, .convert t t' x, ty, pos, aft, none⟩ :: rest) l w := by
  have hr := Lib.run_convert_string_bytes (P := P) w t t' e (bs s) hs ht.und he
  rw [bs_size] at hr
  refine Sl.eff (w' := Lib.bytesWorld w e (bs s)) (fun a ha => ?_) hd (h _ (grownCap w s.length 0 e) ⟨grownCap_ge w _ _ _, grownCap_le_maxLen w _ _ e hl, fun _ => by simp, fun i u hu => ?_⟩ (Lib.bytesWorld_size _ _ _) ?_)
  · simp [execOp, ha.ev hx, hr]
  · have hi : i < s.length := (List.getElem?_eq_some_iff.1 hu).1
    have e1 : adr (some (⟨w.heap.size, 0, none⟩ : Addr)) i = ⟨w.heap.size, i, none⟩ := by
      show (⟨w.heap.size, 0, none⟩ : Addr).add _ = _
      rw [Addr.add_lit, Nat.zero_add]
    rw [e1, ← cell?_eq, Lib.bytesWorld_cell w e (bs s) i (by rw [bs_size]; exact hi)]
    simp [bs, hu, b8]
  · refine ⟨rfl, rfl, rfl, by rw [Lib.bytesWorld_size]; omega, fun k hk _ => Lib.bytesWorld_at_old w e _ k hk⟩

theorem Sl.markB {e : TypeId} {size bytes : Nat} (ht : SliceT P t e size bytes) (he : P.underlying e = some (.int .u8)) {a : Nat} {cap : Nat} {xs : List UInt8} {cur : Array Value} (hx : evL l x = some (.slice (some ⟨a, 0, none⟩) xs.length cap))
    (hg : w.heap[a]? = some (.cells cur e (0, 0))) (hv : Vw b8 w.heap (some ⟨a, 0, none⟩) cap xs) (hd : Nat.blt d N.n = true)
    (h : ∀ w', Vw b8 w'.heap (some ⟨a, 0, none⟩) cap xs → w'.heap.size = w.heap.size → Foot (· = a) w w' → Sl P N ops Q rest ((d, .slice (some ⟨a, 0, none⟩) xs.length cap) :: l) w') :
    Sl P N ops Q (⟨some d, .convert t t x, ty, pos, aft, none⟩ :: rest) l w := by
  have hsh : w.shape? a = some (e, cur.size) := by simp [World.shape?, hg]
  have hlt := (Array.getElem?_eq_some_iff.1 hg)
  obtain ⟨hal, hge⟩ := hlt
  refine Sl.eff (w' := w.freeze ⟨a, cur.size, none⟩ 1) (fun c hc => ?_) hd (h _ ⟨hv.le, hv.max, hv.non, fun i u hu => ?_⟩ ?_ ?_)
  · simp [execOp, hc.ev hx, convert, run_underlying ht.und, run_underlying he, markStringish, hsh]
  · have h1 := hv.get i u hu
    have e1 : adr (some (⟨a, 0, none⟩ : Addr)) i = ⟨a, i, none⟩ := by
      show (⟨a, 0, none⟩ : Addr).add _ = _
      rw [Addr.add_lit, Nat.zero_add]
    rw [e1] at h1 ⊢
    have h2 : (w.freeze ⟨a, cur.size, none⟩ 1).heap[a]? = some (.cells cur e (cur.size, cur.size + 1)) := by
      simp [World.freeze, Array.getElem?_modify, hg]
    unfold cellH at h1 ⊢
    rw [hg] at h1
    rw [h2]
    exact h1
  · simp [World.freeze]
  · exact ⟨rfl, rfl, rfl, by simp [World.freeze], fun k hk hn => by
      simp [World.freeze, Array.getElem?_modify, Ne.symm hn]⟩
end
end Go.Proofs.Ytpamandneifemaa
/- Rows of elements of several cells: what is read, what is ones own, append, literals, loads and stores of a whole element. No condition. -/
namespace Go.Proofs.Ytpamandneifemaa
open Go Go.RowKit

theorem cellH_lt {H : Array Obj} {a : Addr} {v : Value} (h : cellH H a = some v) : a.block < H.size := by
  unfold cellH at h
  split at h
  · rename_i hb; exact (Array.getElem?_eq_some_iff.1 hb).1
  · cases h
theorem cellH_keep {w w' : World} {S : Nat → Prop} {a : Addr} {v : Value} (h : cellH w.heap a = some v) (f : Foot S w w') (hs : ¬ S a.block) : cellH w'.heap a = some v := by
  have hl := cellH_lt h
  unfold cellH at h ⊢
  rw [f.same _ hl hs]; exact h

/-- A slice of k-cell elements that reads as xs. -/
structure VwM {α : Type} (k : Nat) (enc : α → List Value) (H : Array Obj) (ao : Option Addr) (cap : Nat) (xs : List α) : Prop where
  le : xs.length ≤ cap
  max : cap ≤ maxLen
  non : xs.length ≠ 0 → ao ≠ none
  get : ∀ i x, xs[i]? = some x → ∀ j v, (enc x)[j]? = some v → cellH H (adr ao (i * k + j)) = some v

section
variable {α : Type} {k : Nat} {enc : α → List Value} {H : Array Obj} {ao : Option Addr} {cap : Nat} {xs : List α}
theorem VwM.nil (c : Nat) (hc : c ≤ maxLen) : VwM k enc H ao c [] := ⟨by simp, hc, by simp, by simp⟩
theorem VwM.len63 (h : VwM k enc H ao cap xs) : (xs.length : Int) ≤ 9223372036854775807 := by have := h.le; have := h.max; unfold maxLen at this; omega
theorem VwM.keep {w w' : World} {S : Nat → Prop} (h : VwM k enc w.heap ao cap xs) (f : Foot S w w') (hs : ∀ a, ao = some a → ¬ S a.block) : VwM k enc w'.heap ao cap xs := by
  refine ⟨h.le, h.max, h.non, fun i x hx j v hv => cellH_keep (h.get i x hx j v hv) f ?_⟩
  have hne : xs.length ≠ 0 := by have := (List.getElem?_eq_some_iff.1 hx).1; omega
  cases hao : ao with
  | none => exact absurd hao (h.non hne)
  | some a => rw [adr_block]; exact hs a hao
theorem VwM.grow {w w' : World} (h : VwM k enc w.heap ao cap xs) (f : Foot nob w w') : VwM k enc w'.heap ao cap xs := h.keep f (fun _ _ => id)
theorem VwM.take (h : VwM k enc H ao cap xs) (n : Nat) : VwM k enc H ao cap (xs.take n) :=
  ⟨by have := h.le; simp; omega, h.max, fun hn => h.non (fun e => hn (by have : xs = [] := List.eq_nil_of_length_eq_zero e; simp [this])), fun i x hx => h.get i x (by
    rw [List.getElem?_take] at hx
    split at hx
    · exact hx
    · cases hx)⟩
/-- the cells of an element, at its address -/
theorem VwM.row (h : VwM k enc H ao cap xs) {i : Nat} {x : α} (hx : xs[i]? = some x) : ∀ j v, (enc x)[j]? = some v → cellH H ((adr ao (i * k)).add j) = some v := fun j v hv => by
  have h1 := h.get i x hx j v hv
  rwa [adr, ← adr_add] at h1
theorem VwM.rowZ (h : VwM k enc H ao cap xs) {z : Int} (i : Nat) (hz : z = i) {x : α} (hx : xs[i]? = some x) : ∀ j v, (enc x)[j]? = some v → cellH H ((adr ao (z.toNat * k)).add j) = some v := by
  subst hz; exact h.row hx
theorem VwM.lt (h : VwM k enc H ao cap xs) (hne : xs ≠ []) (henc : ∀ x, enc x ≠ []) : Lt H.size ao := fun a ha => by
  have hl : 0 < xs.length := List.length_pos_iff.2 hne
  have hq : (enc xs[0])[0]? = some ((enc xs[0])[0]'(List.length_pos_iff.2 (henc _))) := List.getElem?_eq_getElem _
  have h1 := cellH_lt (h.get 0 xs[0] (List.getElem?_eq_getElem hl) 0 _ hq)
  subst ha
  rwa [adr_block] at h1
theorem VwM.cut (v : VwM k enc H ao cap xs) {l h m : Nat} (hl : l ≤ h) (hh : h ≤ xs.length) (hm : h ≤ m) (hmc : m ≤ cap) :
    VwM k enc H (cutAo ao m l k) (m - l) ((xs.drop l).take (h - l)) := by
  refine ⟨by simp; omega, by have := v.max; omega, fun hne => ?_, fun i x hx j u hu => ?_⟩
  · have h0 : xs.length ≠ 0 := by simp at hne; omega
    have := v.non h0
    unfold cutAo
    split
    · exact this
    · cases ao <;> simp_all
  · have hi : i < h - l := by
      have := (List.getElem?_eq_some_iff.1 hx).1; simp at this; omega
    have hx' : xs[l + i]? = some x := by
      rw [List.getElem?_take, if_pos hi, List.getElem?_drop] at hx; exact hx
    have h1 := v.get (l + i) x hx' j u hu
    rw [← h1]
    unfold cutAo
    rw [if_neg (by omega)]
    cases ao with
    | none => exact absurd rfl (v.non (by have := (List.getElem?_eq_some_iff.1 hx').1; omega))
    | some a => simp [adr, adr_add, Nat.add_mul, Nat.add_assoc]
end

/-- A slice of k-cell elements that owns its whole block (or is nil). -/
def OwnM {α : Type} (k : Nat) (enc : α → List Value) (e : TypeId) (H : Array Obj) (ao : Option Addr) (cap : Nat) (xs : List α) : Prop :=
  (ao = none ∧ cap = 0 ∧ xs = []) ∨
  ∃ g cur, ao = some ⟨g, 0, none⟩ ∧ H[g]? = some (.cells cur e (0, 0)) ∧ xs.length ≤ cap ∧ cap ≤ maxLen ∧ cur.size = cap * k ∧ cur.toList.take (xs.length * k) = xs.flatMap enc

/-- each element has k cells -/
def CellsM {α : Type} (k : Nat) (enc : α → List Value) : Prop := ∀ x, (enc x).length = k ∧ ∀ v ∈ enc x, v.oneCell' = true

theorem flatMap_len {α : Type} {k : Nat} {enc : α → List Value} (hk : ∀ x, (enc x).length = k) : ∀ xs : List α, (xs.flatMap enc).length = xs.length * k
  | [] => by simp
  | x :: r => by simp [flatMap_len hk r, hk x, Nat.add_mul]; omega
theorem flatMap_at {α : Type} {k : Nat} {enc : α → List Value} (hk : ∀ x, (enc x).length = k) : ∀ (xs : List α) (i : Nat) (x : α), xs[i]? = some x → ∀ j v, (enc x)[j]? = some v → (xs.flatMap enc)[i * k + j]? = some v
  | [], i, x, h, j, v, hv => by simp at h
  | y :: r, 0, x, h, j, v, hv => by
    simp at h; subst h
    have : j < (enc y).length := (List.getElem?_eq_some_iff.1 hv).1
    simp [List.getElem?_append_left this, hv]
  | y :: r, i + 1, x, h, j, v, hv => by
    have := flatMap_at hk r i x (by simpa using h) j v hv
    rw [List.flatMap_cons, List.getElem?_append_right (by rw [hk y]; rw [Nat.add_mul]; omega), hk y]
    rw [← this]; congr 1; rw [Nat.add_mul]; omega
theorem flatMap_of {α : Type} {k : Nat} {enc : α → List Value} (hk : ∀ x, (enc x).length = k) (hk0 : 0 < k) : ∀ (xs : List α) (q : Nat) (v : Value), (xs.flatMap enc)[q]? = some v → ∃ x, xs[q / k]? = some x ∧ (enc x)[q % k]? = some v
  | [], q, v, h => by simp at h
  | y :: r, q, v, h => by
    rw [List.flatMap_cons] at h
    by_cases hq : q < k
    · rw [List.getElem?_append_left (by rw [hk y]; exact hq)] at h
      exact ⟨y, by simp [Nat.div_eq_of_lt hq], by rwa [Nat.mod_eq_of_lt hq]⟩
    · rw [List.getElem?_append_right (by rw [hk y]; omega), hk y] at h
      obtain ⟨x, h1, h2⟩ := flatMap_of hk hk0 r (q - k) v h
      refine ⟨x, ?_, ?_⟩
      · rw [show q / k = (q - k) / k + 1 from by rw [← Nat.add_div_right _ hk0, Nat.sub_add_cancel (by omega)]]; simpa using h1
      · rwa [show q % k = (q - k) % k from by rw [← Nat.add_mod_right (q - k), Nat.sub_add_cancel (by omega)]]

section
variable {α : Type} {k : Nat} {enc : α → List Value} {e : TypeId} {H : Array Obj} {ao : Option Addr} {cap : Nat} {xs : List α}
theorem OwnM.nil : OwnM k enc e H none 0 ([] : List α) := .inl ⟨rfl, rfl, rfl⟩
theorem OwnM.lt (h : OwnM k enc e H ao cap xs) : Lt H.size ao := by
  intro a ha
  rcases h with ⟨rfl, _⟩ | ⟨g, cur, rfl, hg, _⟩
  · cases ha
  · cases ha; exact (Array.getElem?_eq_some_iff.1 hg).1
theorem OwnM.keep {w w' : World} {S : Nat → Prop} (h : OwnM k enc e w.heap ao cap xs) (f : Foot S w w') (hs : ∀ a, ao = some a → ¬ S a.block) : OwnM k enc e w'.heap ao cap xs := by
  rcases h with h | ⟨g, cur, rfl, hg, r⟩
  · exact .inl h
  · exact .inr ⟨g, cur, rfl, f.obj hg (hs _ rfl), r⟩
theorem OwnM.grow {w w' : World} (h : OwnM k enc e w.heap ao cap xs) (f : Foot nob w w') : OwnM k enc e w'.heap ao cap xs := h.keep f (fun _ _ => id)
theorem OwnM.vw (hk : CellsM k enc) (h : OwnM k enc e H ao cap xs) : VwM k enc H ao cap xs := by
  rcases h with ⟨rfl, rfl, rfl⟩ | ⟨g, cur, rfl, hg, h1, h2, h3, h4⟩
  · exact VwM.nil 0 (Nat.zero_le _)
  · refine ⟨h1, h2, fun _ => by simp, fun i x hx j v hv => ?_⟩
    have hi : i < xs.length := (List.getElem?_eq_some_iff.1 hx).1
    have hj : j < k := by have := (List.getElem?_eq_some_iff.1 hv).1; rwa [(hk x).1] at this
    have hadd : (adr (some ⟨g, 0, none⟩) (i * k + j)) = ⟨g, i * k + j, none⟩ := by
      show (⟨g, 0, none⟩ : Addr).add _ = _
      rw [Addr.add_lit, Nat.zero_add]
    rw [hadd]
    simp only [cellH, hg]
    have h5 := flatMap_at (fun x => (hk x).1) xs i x hx j v hv
    have hlt : i * k + j < xs.length * k := by
      have := Nat.mul_le_mul_right k (show i + 1 ≤ xs.length from hi)
      rw [Nat.add_mul] at this; omega
    rw [← h4, List.getElem?_take, if_pos hlt] at h5
    simpa using h5
end

/-- append(out, x..): out ones own, x whatever reads as a list. -/
theorem run_append_ownM {α : Type} {k : Nat} {enc : α → List Value} (henc : CellsM k enc) (hk0 : 0 < k) {P : Program} {w : World} {t ty e : TypeId} {bytes : Nat} (ht : SliceT P t e k bytes)
    {ao : Option Addr} {cap : Nat} {xs : List α} (ho : OwnM k enc e w.heap ao cap xs) {bo : Option Addr} {bcap : Nat} {ys : List α} (hy : VwM k enc w.heap bo bcap ys)
    (hb : (xs.length + ys.length) * bytes ≤ 140737488355328) (hm : xs.length + ys.length ≤ maxLen) :
    ∃ ao' cap' w', (Builtin.append_ #[t, t] ty #[.slice ao xs.length cap, .slice bo ys.length bcap]).run P w = .ok (.slice ao' (xs.length + ys.length) cap') w' ∧
      OwnM k enc e w'.heap ao' cap' (xs ++ ys) ∧ Foot (blk ao) w w' ∧ (∀ a, ao' = some a → ao = some a ∨ w.heap.size ≤ a.block) ∧ (ao' = none → ao = none ∧ ys = []) := by
  obtain ⟨i, z, hi, h1, hz, h2, h3⟩ := ht.parts
  have hkl : ∀ x, (enc x).length = k := fun x => (henc x).1
  have hnews1 : ∀ u ∈ ys.flatMap enc, u.oneCell' = true := by intro u hu; obtain ⟨x, _, hx⟩ := List.mem_flatMap.1 hu; exact (henc x).2 u hx
  have hsmall : xs.length + ys.length ≤ 9223372036854775807 := by unfold maxLen at hm; omega
  by_cases hys : ys = []
  · subst hys
    refine ⟨ao, cap, w, ?_, by simpa using ho, Foot.refl _ _, fun a ha => .inl ha, fun h => ⟨h, rfl⟩⟩
    exact run_append_nothing ht.und hi (ho.vw henc).le
  · have hne : ys.length ≠ 0 := fun e => hys (List.eq_nil_of_length_eq_zero e)
    obtain ⟨b, rfl⟩ : ∃ b, bo = some b := Option.ne_none_iff_exists'.1 (hy.non hne)
    have hnews : ∀ j u, (ys.flatMap enc)[j]? = some u → w.cell? (b.add j) = some u := by
      intro j u hu
      obtain ⟨x, hx1, hx2⟩ := flatMap_of hkl hk0 ys j u hu
      have := hy.get _ x hx1 _ u hx2
      rwa [Nat.mul_comm, Nat.div_add_mod] at this
    have hl : (ys.flatMap enc).length = ys.length * i.size := by rw [flatMap_len hkl, h2]
    have big : ∀ (old : Nat), old < xs.length + ys.length → OwnM k enc e (w.drew.alloc (.cells ((xs.flatMap enc).toArray ++ (ys.flatMap enc).toArray ++ Builtin.zeroCells z.cells (grownCap w (xs.length + ys.length) old e - (xs.length + ys.length))) e)).heap
        (some ⟨w.heap.size, 0, none⟩) (grownCap w (xs.length + ys.length) old e) (xs ++ ys) := by
      intro old _
      have hge := grownCap_ge w (xs.length + ys.length) old e
      refine .inr ⟨w.heap.size, _, rfl, heap_alloc_new w.drew _, by simpa using hge, grownCap_le_maxLen w _ old e hm, ?_, ?_⟩
      · simp only [Array.size_append, List.size_toArray, flatMap_len hkl, size_zeroCells, hz]; rw [← Nat.add_mul, ← Nat.add_mul]; congr 1; omega
      · have h6 : ((xs ++ ys).flatMap enc).length = (xs ++ ys).length * k := flatMap_len hkl _
        rw [List.flatMap_append] at h6 ⊢
        simp only [Array.toList_append]
        rw [List.take_append_of_le_length (by rw [h6]; exact Nat.le_refl _)]
        exact List.take_of_length_le (by rw [h6]; exact Nat.le_refl _)
    have hfoot : ∀ (old : Nat), Foot (blk ao) w (w.drew.alloc (.cells ((xs.flatMap enc).toArray ++ (ys.flatMap enc).toArray ++ Builtin.zeroCells z.cells (grownCap w (xs.length + ys.length) old e - (xs.length + ys.length))) e)) := fun old => Foot.drawAlloc _ _ _
    rcases ho with ⟨rfl, rfl, rfl⟩ | ⟨g, cur, rfl, hg, g1, g2, g3, g4⟩
    · have hr := run_append_nil (P := P) w t ty e i z ht.und hi h1 b ys.length bcap (ys.flatMap enc) hl hnews (by omega) (by simp at hsmall; omega) (by simp at hb; rw [h3]; omega)
      have hB := big 0 (by simp; omega)
      have hF := hfoot 0
      simp only [List.length_nil, Nat.zero_add, List.flatMap_nil, List.nil_append, Array.empty_append] at hB hF ⊢
      exact ⟨_, _, _, hr, hB, hF, fun a ha => .inr (by cases ha; exact Nat.le_refl _), fun h => by cases h⟩
    · have holds : ∀ j v, (xs.flatMap enc)[j]? = some v → w.cell? ((⟨g, 0, none⟩ : Addr).add j) = some v := by
        intro j v hv
        obtain ⟨x, hx1, hx2⟩ := flatMap_of hkl hk0 xs j v hv
        have := (OwnM.vw henc (.inr ⟨g, cur, rfl, hg, g1, g2, g3, g4⟩ : OwnM k enc e w.heap (some ⟨g, 0, none⟩) cap xs)).get _ x hx1 _ v hx2
        rwa [Nat.mul_comm, Nat.div_add_mod] at this
      by_cases hroom : xs.length + ys.length ≤ cap
      · have hmul : (xs.length + ys.length) * k ≤ cap * k := Nat.mul_le_mul_right k hroom
        have hmul2 := hmul
        rw [Nat.add_mul] at hmul2
        have hr := run_append_room (P := P) w t ty e i ht.und hi g xs.length cap cur hg b ys.length bcap (ys.flatMap enc) hl hnews hnews1 hroom (by rw [flatMap_len hkl, h2, g3]; exact hmul2)
        have hcl : cur.toList.length = cap * k := by simp [g3]
        have hle1 : xs.length * k ≤ cap * k := Nat.mul_le_mul_right k (by omega)
        have hlen1 : (cur.toList.take (xs.length * k)).length = xs.length * k := by rw [List.length_take, hcl, Nat.min_eq_left hle1]
        refine ⟨_, _, _, hr, .inr ⟨g, _, rfl, setRow_heap w g cur _ e _ hg, by simpa using hroom, g2, ?_, ?_⟩, ?_, fun a ha => .inl ha, fun h => by cases h⟩
        · rw [h2]; simp only [List.size_toArray, List.length_append, hlen1, flatMap_len hkl, List.length_drop, Array.length_toList, g3]; omega
        · have h6 : ((xs ++ ys).flatMap enc).length = (xs ++ ys).length * k := flatMap_len hkl _
          rw [h2, g4, List.flatMap_append] at *
          rw [List.take_append_of_le_length (by rw [h6]; exact Nat.le_refl _)]
          exact List.take_of_length_le (by rw [h6]; exact Nat.le_refl _)
        · exact ⟨rfl, rfl, rfl, by simp [World.setRow], fun k hk hn => setRow_other w g k _ (fun e => hn ⟨_, rfl, e.symm⟩)⟩
      · have hr := run_append_grow (P := P) w t ty e i z ht.und hi h1 ⟨g, 0, none⟩ xs.length cap (xs.flatMap enc) (by rw [flatMap_len hkl, h2]) holds b ys.length bcap (ys.flatMap enc) hl hnews (by omega) (by omega)
          (by rw [h3]; exact growslice_fits (by omega) hb)
        exact ⟨_, _, _, hr, big cap (by omega), hfoot cap, fun a ha => .inr (by cases ha; exact Nat.le_refl _), fun h => by cases h⟩

/-- a type whose variables are k cells -/
def aggB (P : Program) (t : TypeId) (k : Nat) : Bool :=
  (match P.underlying t with | some (.struct _) | some (.array _ _) => true | _ => false) && ((P.info? t).map (·.size) == some k)
theorem aggB_isAgg {P : Program} {t : TypeId} {k : Nat} (h : aggB P t k = true) (w : World) : (Go.isAgg t).run P w = .ok true w := by
  simp only [aggB, Bool.and_eq_true] at h
  unfold Go.isAgg
  cases hu : P.underlying t with
  | none => simp [hu] at h
  | some d => rw [Sem.run_bind, run_underlying hu w]; cases d <;> simp_all
theorem aggB_size {P : Program} {t : TypeId} {k : Nat} (h : aggB P t k = true) (w : World) : (sizeOf t).run P w = .ok k w := by
  simp only [aggB, Bool.and_eq_true, beq_iff_eq] at h
  obtain ⟨i, hi, h1⟩ := Option.map_eq_some_iff.1 h.2
  simp [sizeOf, typeInfo, hi, h1]

section
variable {P : Program} {N : Nt} {Q : Exit → Act → World → Prop} {l : SF} {w : World} {ops : Array Oper} {rest : List Oper}
variable {op : Op} {ty : TypeId} {pos : String} {aft : Array Edge} {d : Nat} {v : Value} {CH : Array Obj → Prop}
variable {x y : Operand} {t t' : TypeId} {g : Option (Nat × Bool)} {dd : Option Nat}

theorem Cm.loadM {ad : Addr} {cs : List Value} (ht : aggB P t cs.length = true) (hx : evL l x = some (.pointer (some ad))) (hc : ∀ H, CH H → ∀ j v, cs[j]? = some v → cellH H (ad.add j) = some v) :
    Cm P N CH l ⟨dd, .load t x, ty, pos, aft, g⟩ (.agg cs.toArray) := fun a w ha hw => by
  have h1 := hc _ hw
  have hl := run_loadCells_list (P := P) w ad cs h1
  simp only [execOp, ha.ev hx, Instr.loadAt, Instr.sureAddr, Sem.run_bind, loadVar, aggB_isAgg ht w, aggB_size ht w, Result.andThen_ok, Sem.run_pure, if_true, hl]
theorem Cm.ldM {H : Array Obj} {ad : Addr} {cs : List Value} (ht : aggB P t cs.length = true) (hx : evL l x = some (.pointer (some ad))) (hc : ∀ j v, cs[j]? = some v → cellH H (ad.add j) = some v) :
    Cm P N (· = H) l ⟨dd, .load t x, ty, pos, aft, g⟩ (.agg cs.toArray) := Cm.loadM ht hx (fun _ e => by rw [e]; exact hc)

/-- a store of an element into a block that is known -/
theorem Sl.storeM {b o : Nat} {cur vs : List Value} {T : TypeId} (ht : aggB P t vs.length = true) (hx : evL l x = some (.pointer (some ⟨b, o, none⟩))) (hy : evL l y = some (.agg vs.toArray)) (h1 : ∀ v ∈ vs, v.oneCell' = true)
    (hg : w.heap[b]? = some (.cells cur.toArray T (0, 0))) (ho : o + vs.length ≤ cur.length)
    (h : ∀ w', w'.heap[b]? = some (.cells (cur.take o ++ vs ++ cur.drop (o + vs.length)).toArray T (0, 0)) → w'.heap.size = w.heap.size → Foot (· = b) w w' → Sl P N ops Q rest l w') :
    Sl P N ops Q (⟨none, .store t x y, ty, pos, aft, none⟩ :: rest) l w := by
  have hst := run_storeCells_at P b o T vs 0 cur.toArray w hg (by simpa using ho) h1
  simp only [Nat.add_zero] at hst
  refine Sl.effSkip (w' := _) (fun a ha => ?_) (h (w.setRow b (cur.take o ++ vs ++ cur.drop (o + vs.length)).toArray) ?_ ?_ ?_)
  · simp only [execOp, ha.ev hx, ha.ev hy, Instr.storeAt, Instr.sureAddr, Sem.run_bind, storeVar, aggB_size ht w, Result.andThen_ok, Sem.run_pure, Value.cells, List.size_toArray, ne_eq, not_true, if_false, hst]
  · exact setRow_heap w b cur.toArray _ T _ hg
  · simp [World.setRow]
  · exact ⟨rfl, rfl, rfl, by simp [World.setRow], fun k hk hn => setRow_other w b k _ (fun e => hn e)⟩
/-- .. into a variable, whole -/
theorem Sl.storeAll {b : Nat} {cur vs : List Value} {T : TypeId} (ht : aggB P t vs.length = true) (hx : evL l x = some (.pointer (some ⟨b, 0, none⟩))) (hy : evL l y = some (.agg vs.toArray)) (h1 : ∀ v ∈ vs, v.oneCell' = true)
    (hg : w.heap[b]? = some (.cells cur.toArray T (0, 0))) (ho : vs.length = cur.length)
    (h : ∀ w', w'.heap[b]? = some (.cells vs.toArray T (0, 0)) → w'.heap.size = w.heap.size → Foot (· = b) w w' → Sl P N ops Q rest l w') :
    Sl P N ops Q (⟨none, .store t x y, ty, pos, aft, none⟩ :: rest) l w := by
  refine Sl.storeM ht hx hy h1 hg (by omega) (fun w' h2 h3 h4 => h w' ?_ h3 h4)
  rw [h2]; simp [ho]

theorem Sl.appendM {α : Type} {k : Nat} {enc : α → List Value} (henc : CellsM k enc) (hk0 : Nat.blt 0 k = true) {e : TypeId} {bytes : Nat} (ht : SliceT P t e k bytes)
    {ao bo : Option Addr} {cap bcap : Nat} {xs ys : List α} (hx : evL l x = some (.slice ao xs.length cap)) (hy : evL l y = some (.slice bo ys.length bcap))
    (ho : OwnM k enc e w.heap ao cap xs) (hv : VwM k enc w.heap bo bcap ys)
    (hb : (xs.length + ys.length) * bytes ≤ 140737488355328) (hm : xs.length + ys.length ≤ maxLen) (hd : Nat.blt d N.n = true)
    (h : ∀ ao' cap' w', OwnM k enc e w'.heap ao' cap' (xs ++ ys) → Foot (blk ao) w w' → (∀ a, ao' = some a → ao = some a ∨ w.heap.size ≤ a.block) → (ao' = none → ao = none ∧ ys = []) →
      Sl P N ops Q rest ((d, .slice ao' (xs ++ ys).length cap') :: l) w') :
    Sl P N ops Q (⟨some d, .call ⟨.builtin .append, #[x, y], #[t, t]⟩, ty, pos, aft, none⟩ :: rest) l w := by
  obtain ⟨ao', cap', w', hr, h1, h2, h3, h4⟩ := run_append_ownM henc (by simpa [Nat.blt_eq] using hk0) (ty := ty) ht ho hv hb hm
  refine Sl.eff (w' := w') (v := .slice ao' (xs ++ ys).length cap') (fun a ha => ?_) hd (h ao' cap' w' h1 h2 h3 h4)
  simp [execOp, ha.ev hx, ha.ev hy, resolve, invoke, builtin, hr]

/-- a literal of a row: its cells -/
theorem Sl.litG {e : TypeId} {size bytes : Nat} (ht : SliceT P t e size bytes) {n : Nat} {parts : List (Nat × Operand)} {vs : List (Nat × Value)} {zc cs : Array Value}
    (hz : (P.info? e).map (fun i => i.zero.map (·.cells)) = some (some zc)) (hn : Nat.ble (n * size) 16777216 = true) (hn0 : Nat.blt 0 (n * size) = true) (hx : evPs l parts = some vs)
    (hf : Instr.fill (fun i => some (i * size, size)) ((Array.range (n * size)).map (zc[· % zc.size]!)) vs = some cs) (hd : Nat.blt d N.n = true)
    (h : ∀ w', w'.heap[w.heap.size]? = some (.cells cs e (0, 0)) → w'.heap.size = w.heap.size + 1 → Foot nob w w' → Sl P N ops Q rest ((d, .slice (some ⟨w.heap.size, 0, none⟩) n n) :: l) w') :
    Sl P N ops Q (⟨some d, .buildSlice t n parts.toArray, ty, pos, aft, none⟩ :: rest) l w := by
  obtain ⟨i, hi, h1⟩ := Option.map_eq_some_iff.1 hz
  obtain ⟨z, hz', rfl⟩ := Option.map_eq_some_iff.1 h1
  have hn' : ¬ (n * size > 2 ^ 24) := by have : n * size ≤ 16777216 := by simpa [Nat.ble_eq] using hn
                                         show ¬ (_ > 16777216); omega
  have hn0' : ¬ (n * size = 0) := by have : 0 < n * size := by simpa [Nat.blt_eq] using hn0
                                     omega
  refine Sl.eff (w' := w.alloc (.cells cs e)) (fun a ha => ?_) hd (h _ (heap_alloc_new w _) (by simp) (Foot.alloc _ _ _))
  have hv := ha.evPs hx
  simp only [execOp, Instr.buildSlice, Sem.run_bind, run_underlying ht.und, ht.size, Result.andThen_ok, if_neg hn', if_neg hn0', Sem.run_pure, zeroValue, typeInfo, run_program, hi, hz', List.map_toArray, hv]
  rw [hf]
  simp [newRow]
theorem ownM_new {α : Type} {k : Nat} {enc : α → List Value} (hk : CellsM k enc) {e : TypeId} {H : Array Obj} {g : Nat} {xs : List α} (hg : H[g]? = some (.cells (xs.flatMap enc).toArray e (0, 0))) (hm : xs.length ≤ maxLen) : OwnM k enc e H (some ⟨g, 0, none⟩) xs.length xs :=
  .inr ⟨g, _, rfl, hg, Nat.le_refl _, hm, by simp [flatMap_len (fun x => (hk x).1)], by simp; exact List.take_of_length_le (by rw [flatMap_len (fun x => (hk x).1)]; exact Nat.le_refl _)⟩
/-- a call of a function that stands in a slot -/
theorem run_callV {f : FuncId} {xs : List Operand} {vs : List Value} {ts : Array TypeId} {a : Act} (hf : fnB P f = true) (ha : HasL N l a) (hc : evL l x = some (.func (.func f) #[] #[])) (hx : evLs l xs = some vs) :
    (execOp a.eval ⟨dd, .call ⟨.value x, xs.toArray, ts⟩, ty, pos, aft, g⟩).run P w = .ok (.enter f vs.toArray) w := by
  have h1 := ha.ev hc
  simp [execOp, resolve, h1, Deferred.ofValue, invoke, run_callFunc_fnB hf]
  rw [← ha.evs hx]
theorem Sl.callV {f : FuncId} {xs : List Operand} {vs : List Value} {ts : Array TypeId} (hf : fnB P f = true) (hc0 : evL l x = some (.func (.func f) #[] #[])) (hx : evLs l xs = some vs) {R : Value → World → Prop} (hc : Calls P f vs.toArray w (Ret R)) (hd : Nat.blt d N.n = true)
    (h : ∀ v w', R v w' → Sl P N ops Q rest ((d, v) :: l) w') :
    Sl P N ops Q (⟨some d, .call ⟨.value x, xs.toArray, ts⟩, ty, pos, aft, none⟩ :: rest) l w := fun a ha => by
  unfold wpList
  rw [if_pos (by simp [Region.wanted])]
  refine .inl ?_
  unfold Oper.wp
  rw [run_callV hf ha hc0 hx]
  refine hc.mono ?_
  rintro e w' ⟨v, rfl, hR⟩
  exact h v w' hR _ (ha.put hd v)

/-- structs that are compared: fields of one cell, numbers, texts, Bools -/
def okV (P : Program) (t : TypeId) (v : Value) : Prop :=
  match P.underlying t, v with
  | some (.int k), .int k' _ => k' = k
  | some .string, .string _ => True
  | some .bool, .bool _ => True
  | _, _ => False
theorem eqFields_ok {P : Program} (w : World) {d d1 : Nat} (hd1 : d1 = d + 1) {xs ys : Array Value} : ∀ (fs : List Field), (∀ f ∈ fs, f.name ≠ "_" ∧ ∃ a b, xs[f.offset]? = some a ∧ ys[f.offset]? = some b ∧ okV P f.type a ∧ okV P f.type b) →
    ∃ r, (Op.eqFields d1 xs ys fs).run P w = .ok r w ∧ (r = true ↔ ∀ f ∈ fs, xs[f.offset]? = ys[f.offset]?)
  | [], _ => ⟨true, by simp [Op.eqFields], by simp⟩
  | f :: fs, h => by
    subst hd1
    obtain ⟨h1, a, b, h2, h3, h4, h5⟩ := h f (by simp)
    obtain ⟨r, hr, hr2⟩ := eqFields_ok (d := d) w rfl fs (fun g hg => h g (by simp [hg]))
    have hag : (isAgg f.type).run P w = .ok false w := by
      unfold isAgg okV at *
      cases hu : P.underlying f.type with
      | none => simp [hu] at h4
      | some u => rw [Sem.run_bind, run_underlying hu w]; cases u <;> simp_all
    have hpa : (part f.type xs f.offset).run P w = .ok a w := by
      unfold part; rw [Sem.run_bind, hag]; simp [h2]
    have hpb : (part f.type ys f.offset).run P w = .ok b w := by
      unfold part; rw [Sem.run_bind, hag]; simp [h3]
    have he : ∃ q, (Op.equalIn (d + 1) f.type a b).run P w = .ok q w ∧ (q = true ↔ a = b) := by
      unfold okV at h4 h5
      cases hu : P.underlying f.type with
      | none => simp [hu] at h4
      | some u =>
        cases u <;> simp [hu] at h4 h5 <;> cases a <;> simp at h4 <;> cases b <;> simp at h5
        case int.int.int k k1 m k2 n => subst h4; subst h5; exact ⟨m == n, run_equalIn_int w d _ _ _ m n hu, by simp⟩
        case string.string.string m n => exact ⟨_, run_equalIn_string w d _ m n hu, by rw [beq_iff_eq, ByteArray.toList_eq, ByteArray.toList_eq]; simp [ByteArray.ext_iff]⟩
        case bool.bool.bool m n => exact ⟨_, run_equalIn_bool w d _ m n hu, by simp⟩
    obtain ⟨q, hq, hq2⟩ := he
    refine ⟨q && r, ?_, ?_⟩
    · unfold Op.eqFields
      rw [if_pos h1]
      simp only [Sem.run_bind, hpa, hpb, hq, Result.andThen_ok]
      cases q <;> simp [hr]
    · rw [Bool.and_eq_true, hq2, hr2]
      simp [h2, h3]

/-- new(T) -/
theorem Sl.allocC {T : TypeId} {zc : Array Value} (hz : (P.info? T).map (fun i => i.zero.map (·.cells)) = some (some zc)) (hd : Nat.blt d N.n = true)
    (h : ∀ w', w'.heap[w.heap.size]? = some (.cells zc T (0, 0)) → w'.heap.size = w.heap.size + 1 → Foot nob w w' → Sl P N ops Q rest ((d, .pointer (some ⟨w.heap.size, 0, none⟩)) :: l) w') :
    Sl P N ops Q (⟨some d, .alloc T, ty, pos, aft, none⟩ :: rest) l w := by
  obtain ⟨i, hi, h1⟩ := Option.map_eq_some_iff.1 hz
  obtain ⟨z, hz', rfl⟩ := Option.map_eq_some_iff.1 h1
  refine Sl.eff (w' := w.alloc (.cells z.cells T)) (fun a ha => ?_) hd (h _ (heap_alloc_new w _) (by simp) (Foot.alloc _ _ _))
  simp [execOp, Instr.alloc, zeroValue, typeInfo, hi, hz', newVar, newRow]
theorem Cm.notB {b : Bool} (hx : evL l x = some (.bool b)) : Cm P N CH l ⟨dd, .unOp .not t x, ty, pos, aft, g⟩ (.bool (decide (b = false))) := by
  have h := @Cm.not P N l ty pos aft CH x t g dd b hx
  cases b <;> exact h
/-- a Bool as a question -/
theorem Cm.ofBool {o : Oper} {b : Bool} (h : Cm P N CH l o (.bool b)) : Cm P N CH l o (.bool (decide (b = true))) := by
  have : decide (b = true) = b := by cases b <;> rfl
  rwa [this]
end
end Go.Proofs.Ytpamandneifemaa
