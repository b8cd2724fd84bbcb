/- A range over a function, in the calculus: rounds, marks, the iterator's call of yield. No condition. -/
import Derived.Test.YtpamandneifemaaGbk
import Derived.RangeFuncWrites
import Derived.RangeFuncCalls
import Derived.RangeFuncLeaves
import Derived.RangeFuncBound
import Derived.OrdersIn
namespace Go.Proofs.Ytpamandneifemaa
open Go Go.RowKit
set_option linter.unusedVariables false

/-! operations in a round -/
def noDefer (o : Oper) : Bool := match o.op with | .defer _ => false | _ => true
def NoOut (Q : Exit → Act → World → Prop) : Prop := ¬ LetsOut Q
theorem NoOut.then {Q : Exit → Act → World → Prop} {K : Act → World → Prop} (h : NoOut Q) : NoOut (Exit.then K Q) := fun ⟨a, w, e⟩ => h ⟨a, w, e⟩
theorem NoOut.block {Q : Exit → Act → World → Prop} {i : Nat} (h : NoOut Q) : NoOut (Exit.inBlock i Q) := fun ⟨a, w, e⟩ => h ⟨a, w, e⟩
theorem NoOut.post {α : Type} {B : Nat} {Kp : World → World → Prop} {I : List α → World → Prop} {Ix : Code → List α → World → Prop} {xs : List α} {W : World} : NoOut (ownPostG B Kp I Ix xs W) := fun ⟨_, _, e⟩ => e

section
variable {P : Program} {lp n : Nat}
abbrev FR (lp : Nat) : Fence := Fence.wide.inRound lp
theorem calls_FR {f : FuncId} {args : Array Value} {w : World} {R : Ending → World → Prop} (h : Calls P f args w R) : CallsIn (FR lp) n P f args w R := CallsIn.inRound lp (callsIn_wide.2 h)
theorem rows_FR {row : String} {args : Array Value} {w : World} {R : Value → World → Prop} (h : Rows P row args w R) : RowsIn (FR lp) n P row args w R := fun c cs _ => by
  obtain ⟨v, w', r, s⟩ := h c cs
  exact ⟨v, w', r, stepsIn_wide.2 s⟩
theorem upon_FR {o : Oper} {a : Act} {next next' : Act → World → Prop} {Q : Exit → Act → World → Prop} (hn : ∀ a w, next a w → next' a w) {r : Result Next} (h : o.upon P a next Q r) : o.uponIn (FR lp) n P a next' Q r := by
  rcases r with ⟨x, w'⟩ | ⟨c, w'⟩
  · cases x with
    | value v => exact hn _ _ h
    | skip => exact hn _ _ h
    | defer d => exact hn _ _ h
    | enter f args =>
      refine ⟨fun hd => absurd hd (by simp [FR, Fence.wide]), calls_FR (Calls.mono h ?_)⟩
      rintro e w'' he
      cases e with
      | returned v => exact hn _ _ he
      | panicked ch => exact he
      | outgrown => exact he
    | row row args => exact ⟨fun hd => absurd hd (by simp [FR, Fence.wide]), rows_FR (Rows.mono h (fun v w'' he => hn _ _ he))⟩
    | _ => exact h.elim
  · cases c <;> first | exact h | exact h.elim
theorem list_FR {ops : Array Oper} {Q : Exit → Act → World → Prop} (hQ : NoOut Q) : ∀ (rest : List Oper), rest.all noDefer = true → ∀ (a : Act) (w : World), wpList P ops Q rest a w → wpListIn (FR lp) n P ops Q rest a w
  | [], _, _, _, h => h
  | o :: rest, hd, a, w, h => by
    rw [List.all_cons, Bool.and_eq_true] at hd
    unfold wpList at h
    unfold wpListIn
    by_cases hw : Region.wanted o (yielded ops a.tmps)
    · rw [if_pos hw] at h ⊢
      rcases h with h | ⟨_, h⟩
      · refine ⟨fun _ _ => trivial, ?_⟩
        rw [Oper.semAt_eq _ _ _ (fun c hc => by have := hd.1; simp [noDefer, hc] at this)]
        exact upon_FR (list_FR hQ rest hd.2) h
      · exact absurd h hQ
    · rw [if_neg hw] at h ⊢
      exact ⟨fun _ _ => trivial, list_FR hQ rest hd.2 _ _ h⟩
theorem any_FR {ops : Array Oper} {Q : Exit → Act → World → Prop} (hQ : NoOut Q) (hd : ∀ (i : Nat) (o : Oper), ops[i]? = some o → noDefer o = true) : ∀ (fuel : Nat) (listed : Array Bool) (a : Act) (w : World), wpAny P .any ops Q fuel listed a w → wpAnyIn (FR lp) n P .any ops Q fuel listed a w
  | 0, _, _, _, h => h
  | fuel + 1, listed, a, w, h => ⟨h.1, fun i hi => by
    have h2 := h.2 i hi
    unfold wpOp at h2
    unfold wpOpIn
    cases ho : ops[i]? with
    | none => rw [ho] at h2; exact any_FR hQ hd fuel _ a w h2
    | some o =>
      rw [ho] at h2
      simp only at h2 ⊢
      by_cases hw : Region.wanted o (yielded ops a.tmps)
      · rw [if_pos hw] at h2 ⊢
        rcases h2 with h2 | ⟨_, h2⟩
        · refine ⟨fun _ _ => trivial, ?_⟩
          rw [Oper.semAt_eq _ _ _ (fun c hc => by have := hd i o ho; simp [noDefer, hc] at this)]
          exact upon_FR (any_FR hQ hd fuel _) h2
        · exact absurd h2 hQ
      · rw [if_neg hw] at h2 ⊢
        exact ⟨fun _ _ => trivial, any_FR hQ hd fuel _ _ _ h2⟩⟩
end

/-! code in a round -/
def Rc (lp n : Nat) (P : Program) (N : Nt) (c : Code) (Q : Exit → Act → World → Prop) (l : SF) (w : World) : Prop := ∀ a, HasL N l a → c.wpIn (FR lp) n P Q a w
section
variable {P : Program} {N : Nt} {Q : Exit → Act → World → Prop} {l : SF} {w : World} {lp n : Nat}
theorem Rc.seq {x y : Code} (h : Rc lp n P N x (Exit.then (y.wpIn (FR lp) n P Q) Q) l w) : Rc lp n P N (.seq x y) Q l w := fun a ha => wpIn_seq (h a ha)
theorem Rc.block {id : Nat} {c : Code} (h : Rc lp n P N c (Exit.inBlock id Q) l w) : Rc lp n P N (.block id c) Q l w := fun a ha => wpIn_block (h a ha)
theorem Rc.region {id : Nat} {ops : List Oper} (hQ : NoOut Q) (hd : ops.all noDefer = true) (h : Sl P N ops.toArray Q ops l w) : Rc lp n P N (.region id ops.toArray false) Q l w := fun a ha => wpIn_region_lit (list_FR hQ ops hd a w (h a ha))
theorem Rc.cond_t {c : Operand} {x y : Code} (hc : evL l c = some (.bool true)) (h : Rc lp n P N x Q l w) : Rc lp n P N (.cond c x y) Q l w := fun a ha => wpIn_cond (ha.ev hc) (h a ha)
theorem Rc.cond_f {c : Operand} {x y : Code} (hc : evL l c = some (.bool false)) (h : Rc lp n P N y Q l w) : Rc lp n P N (.cond c x y) Q l w := fun a ha => wpIn_cond (ha.ev hc) (h a ha)
theorem Rc.skip (h : At N .normal Q l w) : Rc lp n P N .skip Q l w := fun a ha => wpIn_skip (h a ha)
theorem Rc.exit {id : Nat} (h : At N (.exit id) Q l w) : Rc lp n P N (.exit id) Q l w := fun a ha => wpIn_exit (h a ha)
theorem At.goR {y : Code} (h : Rc lp n P N y Q l w) : At N .normal (Exit.then (y.wpIn (FR lp) n P Q) Q) l w := fun a ha => h a ha
theorem Rc.cut {x y : Code} {β : Type} (L : β → SF) (J : β → World → Prop) (h1 : Rc lp n P N x (Exit.then (fun a w => ∃ b, HasL N (L b) a ∧ J b w) Q) l w)
    (h2 : ∀ b w, J b w → Rc lp n P N y Q (L b) w) : Rc lp n P N (.seq x y) Q l w := fun a ha =>
  wpIn_seq (wpIn_mono (h1 a ha) fun e a' w' hq => by
    cases e with
    | normal => obtain ⟨b, hb, hJ⟩ := hq; exact h2 b w' hJ a' hb
    | _ => exact hq)
theorem Rc.draw {id : Nat} {lops : List Oper} (m : Nat) (CH : Array Obj → Prop) (effs ord : List Nat) (hm : P.follows .mixedOrders = true) (hs : (Region.noSelect lops.toArray && finB lops.toArray m &&
    mixOk lops.toArray m effs ord (Array.replicate lops.length false) && Nat.ble ord.length lops.length) = true) (hd : lops.all noDefer = true) (hc : CH w.heap)
    (h : Sx P N lops.toArray m CH effs (fun a w => Q .normal a w) ord l (w.drewN 1)) : Rc lp n P N (.region id lops.toArray true) Q l w := fun a ha => by
  simp only [Bool.and_eq_true] at hs
  obtain ⟨⟨⟨hs, hfin⟩, hok⟩, hlen⟩ := hs
  have h1 := sx_sound (P := P) (N := N) (K0 := fun a w => Q .normal a w) hs hfin ord CH lops.length _ l a (w.drewN 1) (by simpa [Nat.ble_eq] using hlen) hok ha
    (.inl ⟨by have := headInv0 (ops := lops.toArray) (n := m); simpa using this, hc⟩) h
  have h3 : ∀ (i : Nat) (o : Oper), lops.toArray[i]? = some o → noDefer o = true := fun i o ho => List.all_eq_true.1 hd o (List.mem_of_getElem? (by simpa using ho))
  have h2 := wpIn_region_any (F := FR lp) (n := n) (P := P) (id := id) (ops := lops.toArray) (Q := Only fun a w => Q .normal a w) (a := a) (w := w) hm (by
    have := any_FR (lp := lp) (n := n) (fun ⟨_, _, e⟩ => e) h3 _ _ _ _ h1.any
    simpa [World.drewN] using this)
  refine wpIn_mono h2 ?_
  intro e a' w' hq
  cases e <;> first | exact hq | exact hq.elim
theorem Rc.quiet {id : Nat} {lops : List Oper} (m : Nat) (ord : List Nat) (hm : P.follows .mixedOrders = true) (hs : (Region.noSelect lops.toArray && finB lops.toArray m &&
    mixOk lops.toArray m [] ord (Array.replicate lops.length false) && Nat.ble ord.length lops.length) = true) (hd : lops.all noDefer = true)
    (h : Sx P N lops.toArray m (· = w.heap) [] (fun a w => Q .normal a w) ord l (w.drewN 1)) : Rc lp n P N (.region id lops.toArray true) Q l w :=
  Rc.draw m (· = w.heap) [] ord hm hs hd rfl h
/-- a round ends -/
theorem At.roundEnd {α : Type} {B : Nat} {Kp : World → World → Prop} {I : List α → World → Prop} {Ix : Code → List α → World → Prop} {xs : List α} {W : World} (h : KeepsFrom B W w ∧ Kp W w ∧ I xs w) : At N .normal (ownPostG B Kp I Ix xs W) l w := fun _ _ => h
end

/-! operations ahead of a call of yield -/
def Si (n : Nat) (P : Program) (N : Nt) (ops : Array Oper) (Q : Exit → Act → World → Prop) (rest : List Oper) (l : SF) (w : World) : Prop := ∀ a, HasL N l a → wpListIn Fence.wide n P ops Q rest a w
section
variable {P : Program} {N : Nt} {Q : Exit → Act → World → Prop} {l : SF} {w : World} {n : Nat} {ops : Array Oper} {rest : List Oper}
variable {op : Op} {ty : TypeId} {pos : String} {aft : Array Edge} {d : Nat} {v : Value} {x : Operand}
theorem Sc.regionI (n : Nat) {id : Nat} {ops : List Oper} (h : Si n P N ops.toArray Q ops l w) : Sc P N (.region id ops.toArray false) Q l w := fun a ha => wpIn_wide.1 (wpIn_region_lit (h a ha))
theorem Si.calm (hv : Cm P N (· = w.heap) l ⟨some d, op, ty, pos, aft, none⟩ v) (hd : Nat.blt d N.n = true) (h : Si n P N ops Q rest ((d, v) :: l) w) :
    Si n P N ops Q (⟨some d, op, ty, pos, aft, none⟩ :: rest) l w := fun a ha => by
  unfold wpListIn
  rw [if_pos (by simp [Region.wanted])]
  refine ⟨fun _ _ => trivial, ?_⟩
  show Oper.uponIn _ _ _ _ _ _ _ ((execOp a.eval _).run P w)
  rw [hv a w ha rfl]
  exact h _ (ha.put hd v)
theorem Si.nil (h : At N .normal Q l w) : Si n P N ops Q [] l w := fun a ha => wpListIn_nil (h a ha)
theorem Si.yield {r : Nat} {xs : List Operand} {vs : List Value} {ts : Array TypeId} {A B : World → Prop} (hc : evL l x = some (.func (.yield r) #[] #[])) (hx : evLs l xs = some vs)
    (hy : YieldAt Fence.wide (n - 1) P r vs.toArray w (fun e W' => (e = .returned (.bool true) ∧ A W') ∨ (e = .returned (.bool false) ∧ B W'))) (hd : Nat.blt d N.n = true)
    (h1 : ∀ W', A W' → Si n P N ops Q rest ((d, .bool true) :: l) W') (h2 : ∀ W', B W' → Si n P N ops Q rest ((d, .bool false) :: l) W') :
    Si n P N ops Q (⟨some d, .call ⟨.value x, xs.toArray, ts⟩, ty, pos, aft, none⟩ :: rest) l w := fun a ha => by
  unfold wpListIn
  rw [if_pos (by simp [Region.wanted])]
  refine ⟨fun _ _ => trivial, ?_⟩
  obtain ⟨fn, tmps, assign, body, hrun, hR⟩ := hy
  have e : (execOp a.eval ⟨some d, .call ⟨.value x, xs.toArray, ts⟩, ty, pos, aft, none⟩).run P w = .ok (.round r fn tmps assign body) w := by
    have h1 := ha.ev hc
    simp [execOp, resolve, h1, Deferred.ofValue, invoke, callFunc]
    rw [← ha.evs hx] at hrun
    exact hrun
  have e2 : (Oper.semAt Fence.wide.round a.eval ⟨some d, .call ⟨.value x, xs.toArray, ts⟩, ty, pos, aft, none⟩).run P w = .ok (.round r fn tmps assign body) w := e
  rw [e2]
  refine ⟨fun hd => absurd hd (by simp [Fence.wide]), hR.mono ?_⟩
  rintro e W' (⟨rfl, hA⟩ | ⟨rfl, hB⟩)
  · exact h1 W' hA _ (ha.put hd _)
  · exact h2 W' hB _ (ha.put hd _)
end

/-! a function that holds such a range -/
def Nt.col (N : Nt) (D : Nat) : Nt := ⟨N.n, { target := .collected D, args := #[] } :: N.ds⟩
theorem calls_of_scM {P : Program} {f : FuncId} {fn : Func} {c : Code} {args : List Value} {w : World} {R : Ending → World → Prop} (N : Nat) (l : SF)
    (hf : P.funcs[f]? = some fn) (hb : fn.body = some c) (hN : fn.ntmps = N) (hle : Nat.ble args.length N = true)
    (hl : ∀ t v, lk l t = some v → args[t]? = some v)
    (h : Sc P ⟨N, []⟩ c (bodyPostM Fence.wide 4 P fn R) l w) : Calls P f args.toArray w R := by
  refine callsIn_wide.1 (callsIn_of_wp_marks (F := Fence.wide) (n := 4) hf hb trivial (wpIn_wide.2 (h _ ⟨rfl, ?_, ?_⟩)))
  · have : args.length ≤ N := by simpa [Nat.ble_eq] using hle
    simp [hN]; omega
  · intro t v ht
    have := hl t v ht
    have hlt : t < args.length := (List.getElem?_eq_some_iff.1 this).1
    rw [List.getElem?_eq_getElem hlt] at this
    simpa [Array.getElem?_append, hlt] using this
section
variable {P : Program} {N D : Nat} {fn : Func} {R : Ending → World → Prop} {l : SF} {w : World}
theorem leaves_end {tmps : Array Value} {v : Value} (hr : (results fn tmps).run P w = .ok v w) (h : R (.returned v) w) : LeavesInM Fence.wide 4 P fn tmps R [] .returning w := by
  unfold LeavesInM LeavesIn
  exact ⟨v, hr, h⟩
theorem leaves_mark {tmps : Array Value} {v : Value} (hD : w.heap[D]? = some (.deferred (some []))) (hr : (results fn tmps).run P (w.putObj D (.deferred none)) = .ok v (w.putObj D (.deferred none))) (h : R (.returned v) (w.putObj D (.deferred none))) :
    LeavesInM Fence.wide 4 P fn tmps R [{ target := .collected D, args := #[] }] .returning w :=
  ⟨by simp, .inl ⟨_, _, rfl, run_takeDeferred hD, leaves_end hr h⟩⟩
/-- what the mark's taking leaves -/
theorem foot_mark (hD : w.heap[D]? = some (.deferred (some []))) : Foot (· = D) w (w.putObj D (.deferred none)) :=
  ⟨rfl, rfl, rfl, by simp, fun k _ hk => World.putObj_heap_other hk⟩
theorem At.ret2M {t u : Nat} {v x : Value} (hr : fn.results = #[.tmp t, .tmp u]) (hv : lk l t = some v) (hx : lk l u = some x) (h : R (.returned (.tuple #[v, x])) w) : At ⟨N, []⟩ .ret (bodyPostM Fence.wide 4 P fn R) l w := fun a ha => by
  show LeavesInM _ _ _ _ _ _ a.defers _ _
  rw [ha.dfr]
  exact leaves_end (by rw [results_tmp2 hr]) (by simpa [ha.has t v hv, ha.has u x hx] using h)
theorem At.ret2D {t u : Nat} {v x : Value} (hr : fn.results = #[.tmp t, .tmp u]) (hv : lk l t = some v) (hx : lk l u = some x) (hD : w.heap[D]? = some (.deferred (some [])))
    (h : ∀ w', w' = w.putObj D (.deferred none) → Foot (· = D) w w' → R (.returned (.tuple #[v, x])) w') : At (Nt.col ⟨N, []⟩ D) .ret (bodyPostM Fence.wide 4 P fn R) l w := fun a ha => by
  show LeavesInM _ _ _ _ _ _ a.defers _ _
  rw [ha.dfr]
  exact leaves_mark hD (by rw [results_tmp2 hr]) (by simpa [ha.has t v hv, ha.has u x hx] using h _ rfl (foot_mark hD))
end

/-! the range -/
theorem own_never {α : Type} {B : Nat} (c : Code) : OwnFrom B ((fun (_ : Code) (_ : List α) (_ : World) => False) c) := fun _ _ _ _ h _ _ => h.elim
theorem Sc.range {α : Type} {P : Program} {N : Nt} {l : SF} {w w0 : World} {Q : Exit → Act → World → Prop} {f p q : Nat} {rid : Nat} {ty : TypeId} {pos : String} {aft : Array Edge} {body : Code} {gf : Nat} {lb : Array Value} {enc : α → Value}
    {Kp : World → World → Prop} {S Sp : List α → Prop} {M : Nat}
    (hf : lk l f = some (.func (.func gf) #[] lb)) (hg : fnB P gf = true) (hseq : SeqStopsK Fence.wide 3 P gf lb (fun x => #[enc x]) Kp S Sp M w0)
    (hKt : ∀ {A B C : World}, Kp A B → Kp B C → Kp A C) (hKb : ∀ (W : World) (l : Nat) (o o' : Obj), w.heap.size ≤ l → W.heap[l]? = some o → o.isCells = false → o.isWalk = false → Kp W (W.putObj l o')) (hb0 : Below w0.heap.size w0 w)
    (hp : Nat.blt p N.n = true) (hq : Nat.blt q N.n = true)
    (I : List α → World → Prop) (hI : OwnFrom w.heap.size I) (h0 : I [] w)
    (hbody : ∀ (lp : Nat) (pre : List α) (x : α) (W : World), I pre W → pre.length < M → Rc lp 2 P ⟨N.n, []⟩ body (ownPostG w.heap.size Kp I (fun _ _ _ => False) (pre ++ [x]) W) ((q, enc x) :: (p, enc x) :: l) W)
    (hdone : ∀ (D : Nat) (xs : List α) (W : World), w.heap.size ≤ D → S xs → I xs W → W.heap[D]? = some (.deferred (some [])) → At (N.col D) .normal Q l W) :
    Sc P N (.rangeFunc (.tmp f) #[p] (.region rid #[⟨some q, .assign (.tmp p), ty, pos, aft, none⟩] false) body) Q l w := fun a ha => by
  refine wpIn_wide.1 (wpIn_rangeFunc_ownG (F := Fence.wide) (n := 4) rfl (by decide) (gf := gf) (lb := lb) (ha.ev (x := .tmp f) hf) trivial (run_callFunc_fnB hg) hseq hKt hKb hb0 (fun _ => rfl) I (fun _ _ _ => False) hI own_never h0
    (fun x => { tmps := (a.tmps.setIfInBounds p (enc x)).setIfInBounds q (enc x), defers := [] }) ?_ ?_ ?_ ?_)
  · intro lp x W K hK
    refine wpIn_region_lit (l := [_]) ?_
    unfold wpListIn
    rw [if_pos (by simp [Region.wanted])]
    refine ⟨fun _ _ => trivial, ?_⟩
    have hps : p < a.tmps.size := by rw [ha.siz]; simpa [Nat.blt_eq] using hp
    have e : (execOp (Act.eval { tmps := a.tmps.setIfInBounds p (enc x), defers := [] }) ⟨some q, .assign (.tmp p), ty, pos, aft, none⟩).run P W = .ok (.value (enc x)) W := by
      simp [execOp, Act.eval, hps]
    have ez : (#[p].zip #[enc x]).foldl (fun t (x : Nat × Value) => match x with | (p, v) => t.setIfInBounds p v) a.tmps = a.tmps.setIfInBounds p (enc x) := by simp
    rw [ez, Oper.semAt_eq _ _ _ (fun c hc => by cases hc), e]
    exact hK
  · intro lp pre x W hi hlt
    refine hbody lp pre x W hi hlt _ ⟨rfl, by simp [ha.siz], ?_⟩
    have h1 : HasL N ((q, enc x) :: (p, enc x) :: l) ((a.put (some p) (enc x)).put (some q) (enc x)) := (ha.put hp _).put hq _
    exact h1.has
  · intro D xs W hD hS hi hK
    exact hdone D xs W hD hS hi hK _ ⟨by show _ :: a.defers = _; rw [ha.dfr]; rfl, ha.siz, ha.has⟩
  · intro D c pre W _ _ h _
    exact h.elim
end Go.Proofs.Ytpamandneifemaa
