/- tree: equality of attributes; the reference's May. No condition beyond the bounds that each states. -/
import Derived.Laws.StructEq
import Derived.Test.YtpamandneifemaaKG
import Derived.Test.YtpamandneifemaaXbk
namespace Go.Proofs.Ytpamandneifemaa
open Go Go.RowKit
set_option linter.unusedVariables false

/-! a struct of three numbers -/
def st3B (P : Program) (t e : TypeId) : Bool := match P.underlying t with
  | some (.struct fs) => (match fs.toList with
    | [f0, f1, f2] => decide (f0.type = e ∧ f0.offset = 0 ∧ f0.name ≠ "_") && decide (f1.type = e ∧ f1.offset = 1 ∧ f1.name ≠ "_") && decide (f2.type = e ∧ f2.offset = 2 ∧ f2.name ≠ "_")
    | _ => false)
  | _ => false
theorem run_eq3 {P : Program} {t e : TypeId} (h : st3B P t e = true) (he : P.underlying e = some (.int .i64)) (hs : P.stoodInHeld t = false) (w : World) (a b c a' b' c' : Int) :
    (Op.equalIn 10000 t (.agg [.int .i64 a, .int .i64 b, .int .i64 c].toArray) (.agg [.int .i64 a', .int .i64 b', .int .i64 c'].toArray)).run P w = .ok (decide (a = a' ∧ b = b' ∧ c = c')) w := by
  unfold st3B at h
  split at h
  · rename_i fs hu
    split at h
    · rename_i f0 f1 f2 hl
      simp only [Bool.and_eq_true, decide_eq_true_eq] at h
      obtain ⟨⟨⟨t0, o0, n0⟩, ⟨t1, o1, n1⟩⟩, ⟨t2, o2, n2⟩⟩ := h
      have hf : P.fieldsOf t = fs := by unfold Program.fieldsOf; rw [hu]
      rw [run_equalIn_struct w 9999 t _ _ (by rw [hf]; exact hu) hs, hf, hl]
      have hp : ∀ (cs : Array Value) (o : Nat) (v : Value), cs[o]? = some v → (part e cs o).run P w = .ok v w := fun cs o v hv => by
        simp [part, isAgg, run_underlying he, hv]
      have hq : ∀ (x y : Int), (Op.equalIn 9999 e (.int .i64 x) (.int .i64 y)).run P w = .ok (x == y) w := fun x y => run_equalIn_int w 9998 e .i64 .i64 x y he
      simp only [Op.eqFields, n0, n1, n2, ne_eq, not_false_eq_true, if_true, t0, o0, t1, o1, t2, o2, Sem.run_bind]
      rw [hp _ 0 (.int .i64 a) rfl, Result.andThen_ok, hp _ 0 (.int .i64 a') rfl, Result.andThen_ok, hq, Result.andThen_ok]
      by_cases h1 : a = a'
      · subst h1
        simp only [beq_self_eq_true, Bool.not_true, Bool.false_eq_true, if_false, Sem.run_bind, true_and]
        rw [hp _ 1 (.int .i64 b) rfl, Result.andThen_ok, hp _ 1 (.int .i64 b') rfl, Result.andThen_ok, hq, Result.andThen_ok]
        by_cases h2 : b = b'
        · subst h2
          simp only [beq_self_eq_true, Bool.not_true, Bool.false_eq_true, if_false, Sem.run_bind, true_and]
          rw [hp _ 2 (.int .i64 c) rfl, Result.andThen_ok, hp _ 2 (.int .i64 c') rfl, Result.andThen_ok, hq, Result.andThen_ok]
          by_cases h3 : c = c'
          · subst h3; simp
          · simp [h3]
        · simp [h2]
      · simp [h1]
    · cases h
  · cases h
section
variable {P : Program} {N : Nt} {l : SF} {ty t' : TypeId} {pos : String} {aft : Array Edge} {dd : Option Nat} {g : Option (Nat × Bool)} {CH : Array Obj → Prop} {x y : Operand} {t e : TypeId}
theorem Cm.neqA3 (h : st3B P t e = true) (he : P.underlying e = some (.int .i64)) (hs : P.stoodInHeld t = false) (hg : P.eqGuardType P.depth t = false) {a b c a' b' c' : Int} (hx : evL l x = some (.agg [.int .i64 a, .int .i64 b, .int .i64 c].toArray)) (hy : evL l y = some (.agg [.int .i64 a', .int .i64 b', .int .i64 c'].toArray)) :
    Cm P N CH l ⟨dd, .binOp .neq t x y t', ty, pos, aft, g⟩ (.bool (decide (¬ (a = a' ∧ b = b' ∧ c = c')))) := fun k w ha _ => by
  simp only [execOp, ha.ev hx, ha.ev hy, Sem.run_bind, run_eqGuard_agg w .neq t x y _ _ hg, Result.andThen_ok, run_neq_struct, run_eq3 h he hs]
  simp
theorem Cm.eqlA3 (h : st3B P t e = true) (he : P.underlying e = some (.int .i64)) (hs : P.stoodInHeld t = false) (hg : P.eqGuardType P.depth t = false) {a b c a' b' c' : Int} (hx : evL l x = some (.agg [.int .i64 a, .int .i64 b, .int .i64 c].toArray)) (hy : evL l y = some (.agg [.int .i64 a', .int .i64 b', .int .i64 c'].toArray)) :
    Cm P N CH l ⟨dd, .binOp .eql t x y t', ty, pos, aft, g⟩ (.bool (decide (a = a' ∧ b = b' ∧ c = c'))) := fun k w ha _ => by
  simp only [execOp, ha.ev hx, ha.ev hy, Sem.run_bind, run_eqGuard_agg w .eql t x y _ _ hg, Result.andThen_ok, run_eql_struct, run_eq3 h he hs]
  simp
end
theorem stA : st3B Try.prog 31 3 = true := by kernel_rfl
theorem stAi : Try.prog.underlying 3 = some (.int .i64) := by kernel_rfl
theorem stAh : Try.prog.stoodInHeld 31 = false := by kernel_rfl
theorem stAg : Try.prog.eqGuardType Try.prog.depth 31 = false := by kernel_rfl
theorem cellsF {H : Array Obj} {q : Nat} {cs ds : List Value} {T : TypeId} {fr : Nat × Nat} (h : H[q]? = some (.cells cs.toArray T fr)) (o : Nat) (hd : (cs.drop o).take ds.length = ds) : ∀ (j : Nat) (v : Value), ds[j]? = some v → cellH H (((⟨q, 0, none⟩ : Addr).add o).add j) = some v := by
  intro j v hj
  rw [add2]
  refine cellF h ?_
  rw [← hd, List.getElem?_take] at hj
  split at hj
  · rw [List.getElem?_drop] at hj; exact hj
  · cases hj
def encA (n : Nd) : List Value := [.int .i64 n.md, .int .i64 n.ud, .int .i64 n.gd]

/-! May -/
variable {D : Nat → Prop}
set_option maxHeartbeats 4000000 in
theorem rmay_ok (p : NdH × Nd) (W : World) (hn : NdV D W.heap p) (hsm : smN p.2) :
    Calls Try.prog 41 [.agg (encN p).toArray].toArray W (Ret fun v w' => v = .bool (decide (mayN p.2)) ∧ Foot nob W w') := by
  have no : ∀ w', ¬ mayN p.2 → Foot nob W w' → Ret (fun v w' => v = .bool (decide (mayN p.2)) ∧ Foot nob W w') (.returned (.bool false)) w' := fun w' h f => ⟨_, rfl, by rw [decide_eq_false h], f⟩
  have yes : ∀ w', (mayN p.2 ↔ mayX p.2.xs) → Foot nob W w' → Ret (fun v w' => v = .bool (decide (mayN p.2)) ∧ Foot nob W w') (.returned (.bool (decide (mayX p.2.xs)))) w' := fun w' h f => ⟨_, rfl, congrArg _ (decide_eq_decide.2 h.symm), f⟩
  refine calls_of_sc 95 [(0, _)] Try.func41 rfl rfl rfl (enter_slots ⟨rfl, trivial⟩) ?_
  refine Sc.seq ?_
  refine Sc.region ?_
  refine Sl.box rfl rfl ?_
  intro w1 hg1 hs1 hf1
  obtain ⟨g, hg⟩ : ∃ g, g = W.heap.size := ⟨_, rfl⟩
  rw [← hg] at hg1 hs1 ⊢
  replace hg1 : w1.heap[g]? = some (.cells (encN p).toArray 35 (0, 0)) := hg1
  refine Sl.calm (Cm.assign rfl) rfl ?_
  refine Sl.nil ?_
  refine At.go ?_
  refine Sc.seq ?_
  refine Sc.seq ?_
  refine Sc.region ?_
  refine Sl.calm (Cm.field fld35_2 rfl) rfl ?_
  refine Sl.calm (Cm.ld sca3 rfl (cellF hg1 rfl)) rfl ?_
  refine Sl.fork (Cm.lss rfl rfl) rfl (fun h7 => ?_) (fun h7 => ?_)
  ·
    refine Sl.calm (Cm.move rfl) rfl ?_
    refine Sl.skip rfl rfl rfl rfl ?_
    refine Sl.skip rfl rfl rfl rfl ?_
    refine Sl.skip rfl rfl rfl rfl ?_
    refine Sl.calm (Cm.pick_t rfl rfl) rfl ?_
    refine Sl.calm (Cm.move rfl) rfl ?_
    refine Sl.skip rfl rfl rfl rfl ?_
    refine Sl.skip rfl rfl rfl rfl ?_
    refine Sl.calm (Cm.pick_t rfl rfl) rfl ?_
    refine Sl.nil ?_
    refine At.weak [(0, _), (1, _), (2, _), (16, _)] ⟨rfl, rfl, rfl, rfl, trivial⟩ ?_
    refine At.go ?_
    refine Sc.cond_t rfl ?_
    refine Sc.seq ?_
    refine Sc.region ?_
    refine Sl.calm (Cm.assign rfl) rfl ?_
    refine Sl.nil ?_
    refine At.go ?_
    refine Sc.ret ?_
    refine At.then_ret ?_
    refine At.ret1 rfl rfl ?_
    first
      | exact no _ (fun hm => by have := hm.1; omega) hf1
      | exact no _ (fun hm => by rw [hm.2.1] at h15; cases h15) hf1
      | exact no _ (fun hm => by have h3 := hm.2.2.1; have h4 := hm.2.2.2.1; have h5 := hm.2.2.2.2.1; omega) hF3
      | exact no _ (fun hm => hm.2.2.2.2.2.1.elim (fun e => h49 e) (fun e => by have := congrArg List.length e; have e0 : ([] : List UInt8).length = 0 := rfl; omega)) hF3
      | exact no _ (fun hm => by have := hm.2.2.2.2.2.2.1; omega) hF3
      | exact no _ (fun hm => by have m := hm.2.2.2.2.2.2.2.1; unfold okT at m; rw [if_neg h67] at m; exact h71 m) hF3
      | exact absurd h76 h67
      | exact absurd (Classical.not_not.1 h67) h76
      | exact no _ (fun hm => by have m := hm.2.2.2.2.2.2.2.1; unfold okT at m; rw [if_pos h76] at m; exact m.1 h80) hF3
      | exact no _ (fun hm => by have m := hm.2.2.2.2.2.2.2.1; unfold okT at m; rw [if_pos h76] at m; have := m.2.1; omega) hF3
      | exact no _ (fun hm => by have m := hm.2.2.2.2.2.2.2.1; unfold okT at m; rw [if_pos h76] at m; exact m.2.2 h64) hF3
      | refine yes _ ?_ (hF3.trans hf6)
        have k1 : p.2.kind = 2 ∨ p.2.data = [] := by
          first
            | exact .inl (Classical.not_not.1 h49)
            | exact .inr (List.length_eq_zero_iff.1 (by omega))
        have k2 : okT p.2 := by
          unfold okT
          first
            | (rw [if_neg h67]; exact Classical.not_not.1 h71)
            | (rw [if_pos h76]; exact ⟨h80, by omega, h64⟩)
        exact ⟨fun hm => hm.2.2.2.2.2.2.2.2, fun hx => ⟨by omega, by simpa using h15, by omega, by omega, by omega, k1, by omega, k2, hx⟩⟩
  ·
    refine Sl.calm (Cm.move rfl) rfl ?_
    refine Sl.want rfl rfl (Cm.field fld35_2 rfl) rfl ?_
    refine Sl.want rfl rfl (Cm.ld sca3 rfl (cellF hg1 rfl)) rfl ?_
    refine Sl.forkWant rfl rfl (Cm.gtr rfl rfl) rfl (fun h11 => ?_) (fun h11 => ?_)
    ·
      refine Sl.calm (Cm.pick_f rfl rfl) rfl ?_
      refine Sl.calm (Cm.move rfl) rfl ?_
      refine Sl.skip rfl rfl rfl rfl ?_
      refine Sl.skip rfl rfl rfl rfl ?_
      refine Sl.calm (Cm.pick_t rfl rfl) rfl ?_
      refine Sl.nil ?_
      refine At.weak [(0, _), (1, _), (2, _), (16, _)] ⟨rfl, rfl, rfl, rfl, trivial⟩ ?_
      refine At.go ?_
      refine Sc.cond_t rfl ?_
      refine Sc.seq ?_
      refine Sc.region ?_
      refine Sl.calm (Cm.assign rfl) rfl ?_
      refine Sl.nil ?_
      refine At.go ?_
      refine Sc.ret ?_
      refine At.then_ret ?_
      refine At.ret1 rfl rfl ?_
      first
        | exact no _ (fun hm => by have := hm.1; omega) hf1
        | exact no _ (fun hm => by rw [hm.2.1] at h15; cases h15) hf1
        | exact no _ (fun hm => by have h3 := hm.2.2.1; have h4 := hm.2.2.2.1; have h5 := hm.2.2.2.2.1; omega) hF3
        | exact no _ (fun hm => hm.2.2.2.2.2.1.elim (fun e => h49 e) (fun e => by have := congrArg List.length e; have e0 : ([] : List UInt8).length = 0 := rfl; omega)) hF3
        | exact no _ (fun hm => by have := hm.2.2.2.2.2.2.1; omega) hF3
        | exact no _ (fun hm => by have m := hm.2.2.2.2.2.2.2.1; unfold okT at m; rw [if_neg h67] at m; exact h71 m) hF3
        | exact absurd h76 h67
        | exact absurd (Classical.not_not.1 h67) h76
        | exact no _ (fun hm => by have m := hm.2.2.2.2.2.2.2.1; unfold okT at m; rw [if_pos h76] at m; exact m.1 h80) hF3
        | exact no _ (fun hm => by have m := hm.2.2.2.2.2.2.2.1; unfold okT at m; rw [if_pos h76] at m; have := m.2.1; omega) hF3
        | exact no _ (fun hm => by have m := hm.2.2.2.2.2.2.2.1; unfold okT at m; rw [if_pos h76] at m; exact m.2.2 h64) hF3
        | refine yes _ ?_ (hF3.trans hf6)
          have k1 : p.2.kind = 2 ∨ p.2.data = [] := by
            first
              | exact .inl (Classical.not_not.1 h49)
              | exact .inr (List.length_eq_zero_iff.1 (by omega))
          have k2 : okT p.2 := by
            unfold okT
            first
              | (rw [if_neg h67]; exact Classical.not_not.1 h71)
              | (rw [if_pos h76]; exact ⟨h80, by omega, h64⟩)
          exact ⟨fun hm => hm.2.2.2.2.2.2.2.2, fun hx => ⟨by omega, by simpa using h15, by omega, by omega, by omega, k1, by omega, k2, hx⟩⟩
    ·
      refine Sl.calm (Cm.pick_f rfl rfl) rfl ?_
      refine Sl.calm (Cm.move rfl) rfl ?_
      refine Sl.want rfl rfl (Cm.field fld35_7 rfl) rfl ?_
      refine Sl.forkWant rfl rfl (Cm.ofBool (Cm.ld sca4 rfl (cellF hg1 rfl))) rfl (fun h15 => ?_) (fun h15 => ?_)
      ·
        refine Sl.calm (Cm.pick_f rfl rfl) rfl ?_
        refine Sl.nil ?_
        refine At.weak [(0, _), (1, _), (2, _), (16, _)] ⟨rfl, rfl, rfl, rfl, trivial⟩ ?_
        refine At.go ?_
        refine Sc.cond_t rfl ?_
        refine Sc.seq ?_
        refine Sc.region ?_
        refine Sl.calm (Cm.assign rfl) rfl ?_
        refine Sl.nil ?_
        refine At.go ?_
        refine Sc.ret ?_
        refine At.then_ret ?_
        refine At.ret1 rfl rfl ?_
        first
          | exact no _ (fun hm => by have := hm.1; omega) hf1
          | exact no _ (fun hm => by rw [hm.2.1] at h15; cases h15) hf1
          | exact no _ (fun hm => by have h3 := hm.2.2.1; have h4 := hm.2.2.2.1; have h5 := hm.2.2.2.2.1; omega) hF3
          | exact no _ (fun hm => hm.2.2.2.2.2.1.elim (fun e => h49 e) (fun e => by have := congrArg List.length e; have e0 : ([] : List UInt8).length = 0 := rfl; omega)) hF3
          | exact no _ (fun hm => by have := hm.2.2.2.2.2.2.1; omega) hF3
          | exact no _ (fun hm => by have m := hm.2.2.2.2.2.2.2.1; unfold okT at m; rw [if_neg h67] at m; exact h71 m) hF3
          | exact absurd h76 h67
          | exact absurd (Classical.not_not.1 h67) h76
          | exact no _ (fun hm => by have m := hm.2.2.2.2.2.2.2.1; unfold okT at m; rw [if_pos h76] at m; exact m.1 h80) hF3
          | exact no _ (fun hm => by have m := hm.2.2.2.2.2.2.2.1; unfold okT at m; rw [if_pos h76] at m; have := m.2.1; omega) hF3
          | exact no _ (fun hm => by have m := hm.2.2.2.2.2.2.2.1; unfold okT at m; rw [if_pos h76] at m; exact m.2.2 h64) hF3
          | refine yes _ ?_ (hF3.trans hf6)
            have k1 : p.2.kind = 2 ∨ p.2.data = [] := by
              first
                | exact .inl (Classical.not_not.1 h49)
                | exact .inr (List.length_eq_zero_iff.1 (by omega))
            have k2 : okT p.2 := by
              unfold okT
              first
                | (rw [if_neg h67]; exact Classical.not_not.1 h71)
                | (rw [if_pos h76]; exact ⟨h80, by omega, h64⟩)
            exact ⟨fun hm => hm.2.2.2.2.2.2.2.2, fun hx => ⟨by omega, by simpa using h15, by omega, by omega, by omega, k1, by omega, k2, hx⟩⟩
      ·
        refine Sl.calm (Cm.pick_f rfl rfl) rfl ?_
        refine Sl.nil ?_
        refine At.weak [(0, _), (1, _), (2, _), (16, _)] ⟨rfl, rfl, rfl, rfl, trivial⟩ ?_
        refine At.go ?_
        refine Sc.cond_f rfl ?_
        refine Sc.skip ?_
        refine At.go ?_
        refine Sc.seq ?_
        refine Sc.region ?_
        refine Sl.calm (Cm.field fld35_3 rfl) rfl ?_
        refine Sl.calm (Cm.ldM (cs := encA p.2) agg31 rfl (cellsF hg1 3 rfl)) rfl ?_
        refine Sl.allocC zc31 rfl ?_
        intro w2 hg2 hs2 hf2
        obtain ⟨q, hq⟩ : ∃ q, q = w1.heap.size := ⟨_, rfl⟩
        rw [← hq] at hg2 ⊢
        refine Sl.storeAll (vs := encA p.2) agg31 rfl rfl (by simp [encA, Value.oneCell']) hg2 rfl ?_
        intro w3 hg3 hs3 hf3
        have hf13 : Foot nob w1 w3 := hf2.trans_to hf3 (fun k e => .inr (by have e : k = q := e; omega))
        have hg4 := hf13.obj hg1 id
        have hF3 := hf1.trans hf13
        have hn3 := hn.grow hF3
        refine Sl.nil ?_
        refine At.weak [(0, _), (1, _), (2, _), (3, _), (16, _)] ⟨rfl, rfl, rfl, rfl, rfl, trivial⟩ ?_
        refine At.go ?_
        refine Sc.seq ?_
        refine Sc.seq ?_
        refine Sc.region ?_
        refine Sl.calm (Cm.field fld31_0 rfl) rfl ?_
        refine Sl.calm (Cm.ld sca3 rfl (cellF hg3 rfl)) rfl ?_
        refine Sl.fork (Cm.lss rfl rfl) rfl (fun h21 => ?_) (fun h21 => ?_)
        ·
          refine Sl.calm (Cm.move rfl) rfl ?_
          refine Sl.skip rfl rfl rfl rfl ?_
          refine Sl.skip rfl rfl rfl rfl ?_
          refine Sl.skip rfl rfl rfl rfl ?_
          refine Sl.calm (Cm.pick_t rfl rfl) rfl ?_
          refine Sl.calm (Cm.move rfl) rfl ?_
          refine Sl.skip rfl rfl rfl rfl ?_
          refine Sl.skip rfl rfl rfl rfl ?_
          refine Sl.skip rfl rfl rfl rfl ?_
          refine Sl.calm (Cm.pick_t rfl rfl) rfl ?_
          refine Sl.calm (Cm.move rfl) rfl ?_
          refine Sl.skip rfl rfl rfl rfl ?_
          refine Sl.skip rfl rfl rfl rfl ?_
          refine Sl.skip rfl rfl rfl rfl ?_
          refine Sl.calm (Cm.pick_t rfl rfl) rfl ?_
          refine Sl.calm (Cm.move rfl) rfl ?_
          refine Sl.skip rfl rfl rfl rfl ?_
          refine Sl.skip rfl rfl rfl rfl ?_
          refine Sl.skip rfl rfl rfl rfl ?_
          refine Sl.calm (Cm.pick_t rfl rfl) rfl ?_
          refine Sl.calm (Cm.move rfl) rfl ?_
          refine Sl.skip rfl rfl rfl rfl ?_
          refine Sl.skip rfl rfl rfl rfl ?_
          refine Sl.skip rfl rfl rfl rfl ?_
          refine Sl.calm (Cm.pick_t rfl rfl) rfl ?_
          refine Sl.nil ?_
          refine At.weak [(0, _), (1, _), (2, _), (3, _), (16, _), (46, _)] ⟨rfl, rfl, rfl, rfl, rfl, rfl, trivial⟩ ?_
          refine At.go ?_
          refine Sc.cond_t rfl ?_
          refine Sc.seq ?_
          refine Sc.region ?_
          refine Sl.calm (Cm.assign rfl) rfl ?_
          refine Sl.nil ?_
          refine At.go ?_
          refine Sc.ret ?_
          refine At.then_ret ?_
          refine At.ret1 rfl rfl ?_
          first
            | exact no _ (fun hm => by have := hm.1; omega) hf1
            | exact no _ (fun hm => by rw [hm.2.1] at h15; cases h15) hf1
            | exact no _ (fun hm => by have h3 := hm.2.2.1; have h4 := hm.2.2.2.1; have h5 := hm.2.2.2.2.1; omega) hF3
            | exact no _ (fun hm => hm.2.2.2.2.2.1.elim (fun e => h49 e) (fun e => by have := congrArg List.length e; have e0 : ([] : List UInt8).length = 0 := rfl; omega)) hF3
            | exact no _ (fun hm => by have := hm.2.2.2.2.2.2.1; omega) hF3
            | exact no _ (fun hm => by have m := hm.2.2.2.2.2.2.2.1; unfold okT at m; rw [if_neg h67] at m; exact h71 m) hF3
            | exact absurd h76 h67
            | exact absurd (Classical.not_not.1 h67) h76
            | exact no _ (fun hm => by have m := hm.2.2.2.2.2.2.2.1; unfold okT at m; rw [if_pos h76] at m; exact m.1 h80) hF3
            | exact no _ (fun hm => by have m := hm.2.2.2.2.2.2.2.1; unfold okT at m; rw [if_pos h76] at m; have := m.2.1; omega) hF3
            | exact no _ (fun hm => by have m := hm.2.2.2.2.2.2.2.1; unfold okT at m; rw [if_pos h76] at m; exact m.2.2 h64) hF3
            | refine yes _ ?_ (hF3.trans hf6)
              have k1 : p.2.kind = 2 ∨ p.2.data = [] := by
                first
                  | exact .inl (Classical.not_not.1 h49)
                  | exact .inr (List.length_eq_zero_iff.1 (by omega))
              have k2 : okT p.2 := by
                unfold okT
                first
                  | (rw [if_neg h67]; exact Classical.not_not.1 h71)
                  | (rw [if_pos h76]; exact ⟨h80, by omega, h64⟩)
              exact ⟨fun hm => hm.2.2.2.2.2.2.2.2, fun hx => ⟨by omega, by simpa using h15, by omega, by omega, by omega, k1, by omega, k2, hx⟩⟩
        ·
          refine Sl.calm (Cm.move rfl) rfl ?_
          refine Sl.want rfl rfl (Cm.field fld31_0 rfl) rfl ?_
          refine Sl.want rfl rfl (Cm.ld sca3 rfl (cellF hg3 rfl)) rfl ?_
          refine Sl.forkWant rfl rfl (Cm.gtr rfl rfl) rfl (fun h25 => ?_) (fun h25 => ?_)
          ·
            refine Sl.calm (Cm.pick_f rfl rfl) rfl ?_
            refine Sl.calm (Cm.move rfl) rfl ?_
            refine Sl.skip rfl rfl rfl rfl ?_
            refine Sl.skip rfl rfl rfl rfl ?_
            refine Sl.skip rfl rfl rfl rfl ?_
            refine Sl.calm (Cm.pick_t rfl rfl) rfl ?_
            refine Sl.calm (Cm.move rfl) rfl ?_
            refine Sl.skip rfl rfl rfl rfl ?_
            refine Sl.skip rfl rfl rfl rfl ?_
            refine Sl.skip rfl rfl rfl rfl ?_
            refine Sl.calm (Cm.pick_t rfl rfl) rfl ?_
            refine Sl.calm (Cm.move rfl) rfl ?_
            refine Sl.skip rfl rfl rfl rfl ?_
            refine Sl.skip rfl rfl rfl rfl ?_
            refine Sl.skip rfl rfl rfl rfl ?_
            refine Sl.calm (Cm.pick_t rfl rfl) rfl ?_
            refine Sl.calm (Cm.move rfl) rfl ?_
            refine Sl.skip rfl rfl rfl rfl ?_
            refine Sl.skip rfl rfl rfl rfl ?_
            refine Sl.skip rfl rfl rfl rfl ?_
            refine Sl.calm (Cm.pick_t rfl rfl) rfl ?_
            refine Sl.nil ?_
            refine At.weak [(0, _), (1, _), (2, _), (3, _), (16, _), (46, _)] ⟨rfl, rfl, rfl, rfl, rfl, rfl, trivial⟩ ?_
            refine At.go ?_
            refine Sc.cond_t rfl ?_
            refine Sc.seq ?_
            refine Sc.region ?_
            refine Sl.calm (Cm.assign rfl) rfl ?_
            refine Sl.nil ?_
            refine At.go ?_
            refine Sc.ret ?_
            refine At.then_ret ?_
            refine At.ret1 rfl rfl ?_
            first
              | exact no _ (fun hm => by have := hm.1; omega) hf1
              | exact no _ (fun hm => by rw [hm.2.1] at h15; cases h15) hf1
              | exact no _ (fun hm => by have h3 := hm.2.2.1; have h4 := hm.2.2.2.1; have h5 := hm.2.2.2.2.1; omega) hF3
              | exact no _ (fun hm => hm.2.2.2.2.2.1.elim (fun e => h49 e) (fun e => by have := congrArg List.length e; have e0 : ([] : List UInt8).length = 0 := rfl; omega)) hF3
              | exact no _ (fun hm => by have := hm.2.2.2.2.2.2.1; omega) hF3
              | exact no _ (fun hm => by have m := hm.2.2.2.2.2.2.2.1; unfold okT at m; rw [if_neg h67] at m; exact h71 m) hF3
              | exact absurd h76 h67
              | exact absurd (Classical.not_not.1 h67) h76
              | exact no _ (fun hm => by have m := hm.2.2.2.2.2.2.2.1; unfold okT at m; rw [if_pos h76] at m; exact m.1 h80) hF3
              | exact no _ (fun hm => by have m := hm.2.2.2.2.2.2.2.1; unfold okT at m; rw [if_pos h76] at m; have := m.2.1; omega) hF3
              | exact no _ (fun hm => by have m := hm.2.2.2.2.2.2.2.1; unfold okT at m; rw [if_pos h76] at m; exact m.2.2 h64) hF3
              | refine yes _ ?_ (hF3.trans hf6)
                have k1 : p.2.kind = 2 ∨ p.2.data = [] := by
                  first
                    | exact .inl (Classical.not_not.1 h49)
                    | exact .inr (List.length_eq_zero_iff.1 (by omega))
                have k2 : okT p.2 := by
                  unfold okT
                  first
                    | (rw [if_neg h67]; exact Classical.not_not.1 h71)
                    | (rw [if_pos h76]; exact ⟨h80, by omega, h64⟩)
                exact ⟨fun hm => hm.2.2.2.2.2.2.2.2, fun hx => ⟨by omega, by simpa using h15, by omega, by omega, by omega, k1, by omega, k2, hx⟩⟩
          ·
            refine Sl.calm (Cm.pick_f rfl rfl) rfl ?_
            refine Sl.calm (Cm.move rfl) rfl ?_
            refine Sl.want rfl rfl (Cm.field fld31_1 rfl) rfl ?_
            refine Sl.want rfl rfl (Cm.ld sca3 rfl (cellF hg3 rfl)) rfl ?_
            refine Sl.forkWant rfl rfl (Cm.lss rfl rfl) rfl (fun h30 => ?_) (fun h30 => ?_)
            ·
              refine Sl.calm (Cm.pick_f rfl rfl) rfl ?_
              refine Sl.calm (Cm.move rfl) rfl ?_
              refine Sl.skip rfl rfl rfl rfl ?_
              refine Sl.skip rfl rfl rfl rfl ?_
              refine Sl.skip rfl rfl rfl rfl ?_
              refine Sl.calm (Cm.pick_t rfl rfl) rfl ?_
              refine Sl.calm (Cm.move rfl) rfl ?_
              refine Sl.skip rfl rfl rfl rfl ?_
              refine Sl.skip rfl rfl rfl rfl ?_
              refine Sl.skip rfl rfl rfl rfl ?_
              refine Sl.calm (Cm.pick_t rfl rfl) rfl ?_
              refine Sl.calm (Cm.move rfl) rfl ?_
              refine Sl.skip rfl rfl rfl rfl ?_
              refine Sl.skip rfl rfl rfl rfl ?_
              refine Sl.skip rfl rfl rfl rfl ?_
              refine Sl.calm (Cm.pick_t rfl rfl) rfl ?_
              refine Sl.nil ?_
              refine At.weak [(0, _), (1, _), (2, _), (3, _), (16, _), (46, _)] ⟨rfl, rfl, rfl, rfl, rfl, rfl, trivial⟩ ?_
              refine At.go ?_
              refine Sc.cond_t rfl ?_
              refine Sc.seq ?_
              refine Sc.region ?_
              refine Sl.calm (Cm.assign rfl) rfl ?_
              refine Sl.nil ?_
              refine At.go ?_
              refine Sc.ret ?_
              refine At.then_ret ?_
              refine At.ret1 rfl rfl ?_
              first
                | exact no _ (fun hm => by have := hm.1; omega) hf1
                | exact no _ (fun hm => by rw [hm.2.1] at h15; cases h15) hf1
                | exact no _ (fun hm => by have h3 := hm.2.2.1; have h4 := hm.2.2.2.1; have h5 := hm.2.2.2.2.1; omega) hF3
                | exact no _ (fun hm => hm.2.2.2.2.2.1.elim (fun e => h49 e) (fun e => by have := congrArg List.length e; have e0 : ([] : List UInt8).length = 0 := rfl; omega)) hF3
                | exact no _ (fun hm => by have := hm.2.2.2.2.2.2.1; omega) hF3
                | exact no _ (fun hm => by have m := hm.2.2.2.2.2.2.2.1; unfold okT at m; rw [if_neg h67] at m; exact h71 m) hF3
                | exact absurd h76 h67
                | exact absurd (Classical.not_not.1 h67) h76
                | exact no _ (fun hm => by have m := hm.2.2.2.2.2.2.2.1; unfold okT at m; rw [if_pos h76] at m; exact m.1 h80) hF3
                | exact no _ (fun hm => by have m := hm.2.2.2.2.2.2.2.1; unfold okT at m; rw [if_pos h76] at m; have := m.2.1; omega) hF3
                | exact no _ (fun hm => by have m := hm.2.2.2.2.2.2.2.1; unfold okT at m; rw [if_pos h76] at m; exact m.2.2 h64) hF3
                | refine yes _ ?_ (hF3.trans hf6)
                  have k1 : p.2.kind = 2 ∨ p.2.data = [] := by
                    first
                      | exact .inl (Classical.not_not.1 h49)
                      | exact .inr (List.length_eq_zero_iff.1 (by omega))
                  have k2 : okT p.2 := by
                    unfold okT
                    first
                      | (rw [if_neg h67]; exact Classical.not_not.1 h71)
                      | (rw [if_pos h76]; exact ⟨h80, by omega, h64⟩)
                  exact ⟨fun hm => hm.2.2.2.2.2.2.2.2, fun hx => ⟨by omega, by simpa using h15, by omega, by omega, by omega, k1, by omega, k2, hx⟩⟩
            ·
              refine Sl.calm (Cm.pick_f rfl rfl) rfl ?_
              refine Sl.calm (Cm.move rfl) rfl ?_
              refine Sl.want rfl rfl (Cm.field fld31_1 rfl) rfl ?_
              refine Sl.want rfl rfl (Cm.ld sca3 rfl (cellF hg3 rfl)) rfl ?_
              refine Sl.forkWant rfl rfl (Cm.gtr rfl rfl) rfl (fun h35 => ?_) (fun h35 => ?_)
              ·
                refine Sl.calm (Cm.pick_f rfl rfl) rfl ?_
                refine Sl.calm (Cm.move rfl) rfl ?_
                refine Sl.skip rfl rfl rfl rfl ?_
                refine Sl.skip rfl rfl rfl rfl ?_
                refine Sl.skip rfl rfl rfl rfl ?_
                refine Sl.calm (Cm.pick_t rfl rfl) rfl ?_
                refine Sl.calm (Cm.move rfl) rfl ?_
                refine Sl.skip rfl rfl rfl rfl ?_
                refine Sl.skip rfl rfl rfl rfl ?_
                refine Sl.skip rfl rfl rfl rfl ?_
                refine Sl.calm (Cm.pick_t rfl rfl) rfl ?_
                refine Sl.nil ?_
                refine At.weak [(0, _), (1, _), (2, _), (3, _), (16, _), (46, _)] ⟨rfl, rfl, rfl, rfl, rfl, rfl, trivial⟩ ?_
                refine At.go ?_
                refine Sc.cond_t rfl ?_
                refine Sc.seq ?_
                refine Sc.region ?_
                refine Sl.calm (Cm.assign rfl) rfl ?_
                refine Sl.nil ?_
                refine At.go ?_
                refine Sc.ret ?_
                refine At.then_ret ?_
                refine At.ret1 rfl rfl ?_
                first
                  | exact no _ (fun hm => by have := hm.1; omega) hf1
                  | exact no _ (fun hm => by rw [hm.2.1] at h15; cases h15) hf1
                  | exact no _ (fun hm => by have h3 := hm.2.2.1; have h4 := hm.2.2.2.1; have h5 := hm.2.2.2.2.1; omega) hF3
                  | exact no _ (fun hm => hm.2.2.2.2.2.1.elim (fun e => h49 e) (fun e => by have := congrArg List.length e; have e0 : ([] : List UInt8).length = 0 := rfl; omega)) hF3
                  | exact no _ (fun hm => by have := hm.2.2.2.2.2.2.1; omega) hF3
                  | exact no _ (fun hm => by have m := hm.2.2.2.2.2.2.2.1; unfold okT at m; rw [if_neg h67] at m; exact h71 m) hF3
                  | exact absurd h76 h67
                  | exact absurd (Classical.not_not.1 h67) h76
                  | exact no _ (fun hm => by have m := hm.2.2.2.2.2.2.2.1; unfold okT at m; rw [if_pos h76] at m; exact m.1 h80) hF3
                  | exact no _ (fun hm => by have m := hm.2.2.2.2.2.2.2.1; unfold okT at m; rw [if_pos h76] at m; have := m.2.1; omega) hF3
                  | exact no _ (fun hm => by have m := hm.2.2.2.2.2.2.2.1; unfold okT at m; rw [if_pos h76] at m; exact m.2.2 h64) hF3
                  | refine yes _ ?_ (hF3.trans hf6)
                    have k1 : p.2.kind = 2 ∨ p.2.data = [] := by
                      first
                        | exact .inl (Classical.not_not.1 h49)
                        | exact .inr (List.length_eq_zero_iff.1 (by omega))
                    have k2 : okT p.2 := by
                      unfold okT
                      first
                        | (rw [if_neg h67]; exact Classical.not_not.1 h71)
                        | (rw [if_pos h76]; exact ⟨h80, by omega, h64⟩)
                    exact ⟨fun hm => hm.2.2.2.2.2.2.2.2, fun hx => ⟨by omega, by simpa using h15, by omega, by omega, by omega, k1, by omega, k2, hx⟩⟩
              ·
                refine Sl.calm (Cm.pick_f rfl rfl) rfl ?_
                refine Sl.calm (Cm.move rfl) rfl ?_
                refine Sl.want rfl rfl (Cm.field fld31_2 rfl) rfl ?_
                refine Sl.want rfl rfl (Cm.ld sca3 rfl (cellF hg3 rfl)) rfl ?_
                refine Sl.forkWant rfl rfl (Cm.lss rfl rfl) rfl (fun h40 => ?_) (fun h40 => ?_)
                ·
                  refine Sl.calm (Cm.pick_f rfl rfl) rfl ?_
                  refine Sl.calm (Cm.move rfl) rfl ?_
                  refine Sl.skip rfl rfl rfl rfl ?_
                  refine Sl.skip rfl rfl rfl rfl ?_
                  refine Sl.skip rfl rfl rfl rfl ?_
                  refine Sl.calm (Cm.pick_t rfl rfl) rfl ?_
                  refine Sl.nil ?_
                  refine At.weak [(0, _), (1, _), (2, _), (3, _), (16, _), (46, _)] ⟨rfl, rfl, rfl, rfl, rfl, rfl, trivial⟩ ?_
                  refine At.go ?_
                  refine Sc.cond_t rfl ?_
                  refine Sc.seq ?_
                  refine Sc.region ?_
                  refine Sl.calm (Cm.assign rfl) rfl ?_
                  refine Sl.nil ?_
                  refine At.go ?_
                  refine Sc.ret ?_
                  refine At.then_ret ?_
                  refine At.ret1 rfl rfl ?_
                  first
                    | exact no _ (fun hm => by have := hm.1; omega) hf1
                    | exact no _ (fun hm => by rw [hm.2.1] at h15; cases h15) hf1
                    | exact no _ (fun hm => by have h3 := hm.2.2.1; have h4 := hm.2.2.2.1; have h5 := hm.2.2.2.2.1; omega) hF3
                    | exact no _ (fun hm => hm.2.2.2.2.2.1.elim (fun e => h49 e) (fun e => by have := congrArg List.length e; have e0 : ([] : List UInt8).length = 0 := rfl; omega)) hF3
                    | exact no _ (fun hm => by have := hm.2.2.2.2.2.2.1; omega) hF3
                    | exact no _ (fun hm => by have m := hm.2.2.2.2.2.2.2.1; unfold okT at m; rw [if_neg h67] at m; exact h71 m) hF3
                    | exact absurd h76 h67
                    | exact absurd (Classical.not_not.1 h67) h76
                    | exact no _ (fun hm => by have m := hm.2.2.2.2.2.2.2.1; unfold okT at m; rw [if_pos h76] at m; exact m.1 h80) hF3
                    | exact no _ (fun hm => by have m := hm.2.2.2.2.2.2.2.1; unfold okT at m; rw [if_pos h76] at m; have := m.2.1; omega) hF3
                    | exact no _ (fun hm => by have m := hm.2.2.2.2.2.2.2.1; unfold okT at m; rw [if_pos h76] at m; exact m.2.2 h64) hF3
                    | refine yes _ ?_ (hF3.trans hf6)
                      have k1 : p.2.kind = 2 ∨ p.2.data = [] := by
                        first
                          | exact .inl (Classical.not_not.1 h49)
                          | exact .inr (List.length_eq_zero_iff.1 (by omega))
                      have k2 : okT p.2 := by
                        unfold okT
                        first
                          | (rw [if_neg h67]; exact Classical.not_not.1 h71)
                          | (rw [if_pos h76]; exact ⟨h80, by omega, h64⟩)
                      exact ⟨fun hm => hm.2.2.2.2.2.2.2.2, fun hx => ⟨by omega, by simpa using h15, by omega, by omega, by omega, k1, by omega, k2, hx⟩⟩
                ·
                  refine Sl.calm (Cm.pick_f rfl rfl) rfl ?_
                  refine Sl.calm (Cm.move rfl) rfl ?_
                  refine Sl.want rfl rfl (Cm.field fld31_2 rfl) rfl ?_
                  refine Sl.want rfl rfl (Cm.ld sca3 rfl (cellF hg3 rfl)) rfl ?_
                  refine Sl.forkWant rfl rfl (Cm.gtr rfl rfl) rfl (fun h45 => ?_) (fun h45 => ?_)
                  ·
                    refine Sl.calm (Cm.pick_f rfl rfl) rfl ?_
                    refine Sl.nil ?_
                    refine At.weak [(0, _), (1, _), (2, _), (3, _), (16, _), (46, _)] ⟨rfl, rfl, rfl, rfl, rfl, rfl, trivial⟩ ?_
                    refine At.go ?_
                    refine Sc.cond_t rfl ?_
                    refine Sc.seq ?_
                    refine Sc.region ?_
                    refine Sl.calm (Cm.assign rfl) rfl ?_
                    refine Sl.nil ?_
                    refine At.go ?_
                    refine Sc.ret ?_
                    refine At.then_ret ?_
                    refine At.ret1 rfl rfl ?_
                    first
                      | exact no _ (fun hm => by have := hm.1; omega) hf1
                      | exact no _ (fun hm => by rw [hm.2.1] at h15; cases h15) hf1
                      | exact no _ (fun hm => by have h3 := hm.2.2.1; have h4 := hm.2.2.2.1; have h5 := hm.2.2.2.2.1; omega) hF3
                      | exact no _ (fun hm => hm.2.2.2.2.2.1.elim (fun e => h49 e) (fun e => by have := congrArg List.length e; have e0 : ([] : List UInt8).length = 0 := rfl; omega)) hF3
                      | exact no _ (fun hm => by have := hm.2.2.2.2.2.2.1; omega) hF3
                      | exact no _ (fun hm => by have m := hm.2.2.2.2.2.2.2.1; unfold okT at m; rw [if_neg h67] at m; exact h71 m) hF3
                      | exact absurd h76 h67
                      | exact absurd (Classical.not_not.1 h67) h76
                      | exact no _ (fun hm => by have m := hm.2.2.2.2.2.2.2.1; unfold okT at m; rw [if_pos h76] at m; exact m.1 h80) hF3
                      | exact no _ (fun hm => by have m := hm.2.2.2.2.2.2.2.1; unfold okT at m; rw [if_pos h76] at m; have := m.2.1; omega) hF3
                      | exact no _ (fun hm => by have m := hm.2.2.2.2.2.2.2.1; unfold okT at m; rw [if_pos h76] at m; exact m.2.2 h64) hF3
                      | refine yes _ ?_ (hF3.trans hf6)
                        have k1 : p.2.kind = 2 ∨ p.2.data = [] := by
                          first
                            | exact .inl (Classical.not_not.1 h49)
                            | exact .inr (List.length_eq_zero_iff.1 (by omega))
                        have k2 : okT p.2 := by
                          unfold okT
                          first
                            | (rw [if_neg h67]; exact Classical.not_not.1 h71)
                            | (rw [if_pos h76]; exact ⟨h80, by omega, h64⟩)
                        exact ⟨fun hm => hm.2.2.2.2.2.2.2.2, fun hx => ⟨by omega, by simpa using h15, by omega, by omega, by omega, k1, by omega, k2, hx⟩⟩
                  ·
                    refine Sl.calm (Cm.pick_f rfl rfl) rfl ?_
                    refine Sl.nil ?_
                    refine At.weak [(0, _), (1, _), (2, _), (3, _), (16, _), (46, _)] ⟨rfl, rfl, rfl, rfl, rfl, rfl, trivial⟩ ?_
                    refine At.go ?_
                    refine Sc.cond_f rfl ?_
                    refine Sc.skip ?_
                    refine At.go ?_
                    refine Sc.seq ?_
                    refine Sc.seq ?_
                    refine Sc.region ?_
                    refine Sl.calm (Cm.field fld35_2 rfl) rfl ?_
                    refine Sl.calm (Cm.ld sca3 rfl (cellF hg4 rfl)) rfl ?_
                    refine Sl.fork (Cm.neq rfl rfl) rfl (fun h49 => ?_) (fun h49 => ?_)
                    ·
                      refine Sl.calm (Cm.move rfl) rfl ?_
                      refine Sl.want rfl rfl (Cm.field fld35_4 rfl) rfl ?_
                      refine Sl.want rfl rfl (Cm.ld sca32 rfl (cellF hg4 rfl)) rfl ?_
                      refine Sl.want rfl rfl (Cm.len sl32 rfl) rfl ?_
                      rw [hn3.2.1.1]
                      refine Sl.forkWant rfl rfl (Cm.gtr rfl rfl) rfl (fun h54 => ?_) (fun h54 => ?_)
                      ·
                        refine Sl.calm (Cm.pick_t rfl rfl) rfl ?_
                        refine Sl.calm (Cm.move rfl) rfl ?_
                        refine Sl.skip rfl rfl rfl rfl ?_
                        refine Sl.skip rfl rfl rfl rfl ?_
                        refine Sl.skip rfl rfl rfl rfl ?_
                        refine Sl.skip rfl rfl rfl rfl ?_
                        refine Sl.calm (Cm.pick_t rfl rfl) rfl ?_
                        refine Sl.nil ?_
                        refine At.weak [(0, _), (1, _), (2, _), (3, _), (16, _), (46, _), (61, _)] ⟨rfl, rfl, rfl, rfl, rfl, rfl, rfl, trivial⟩ ?_
                        refine At.go ?_
                        refine Sc.cond_t rfl ?_
                        refine Sc.seq ?_
                        refine Sc.region ?_
                        refine Sl.calm (Cm.assign rfl) rfl ?_
                        refine Sl.nil ?_
                        refine At.go ?_
                        refine Sc.ret ?_
                        refine At.then_ret ?_
                        refine At.ret1 rfl rfl ?_
                        first
                          | exact no _ (fun hm => by have := hm.1; omega) hf1
                          | exact no _ (fun hm => by rw [hm.2.1] at h15; cases h15) hf1
                          | exact no _ (fun hm => by have h3 := hm.2.2.1; have h4 := hm.2.2.2.1; have h5 := hm.2.2.2.2.1; omega) hF3
                          | exact no _ (fun hm => hm.2.2.2.2.2.1.elim (fun e => h49 e) (fun e => by have := congrArg List.length e; have e0 : ([] : List UInt8).length = 0 := rfl; omega)) hF3
                          | exact no _ (fun hm => by have := hm.2.2.2.2.2.2.1; omega) hF3
                          | exact no _ (fun hm => by have m := hm.2.2.2.2.2.2.2.1; unfold okT at m; rw [if_neg h67] at m; exact h71 m) hF3
                          | exact absurd h76 h67
                          | exact absurd (Classical.not_not.1 h67) h76
                          | exact no _ (fun hm => by have m := hm.2.2.2.2.2.2.2.1; unfold okT at m; rw [if_pos h76] at m; exact m.1 h80) hF3
                          | exact no _ (fun hm => by have m := hm.2.2.2.2.2.2.2.1; unfold okT at m; rw [if_pos h76] at m; have := m.2.1; omega) hF3
                          | exact no _ (fun hm => by have m := hm.2.2.2.2.2.2.2.1; unfold okT at m; rw [if_pos h76] at m; exact m.2.2 h64) hF3
                          | refine yes _ ?_ (hF3.trans hf6)
                            have k1 : p.2.kind = 2 ∨ p.2.data = [] := by
                              first
                                | exact .inl (Classical.not_not.1 h49)
                                | exact .inr (List.length_eq_zero_iff.1 (by omega))
                            have k2 : okT p.2 := by
                              unfold okT
                              first
                                | (rw [if_neg h67]; exact Classical.not_not.1 h71)
                                | (rw [if_pos h76]; exact ⟨h80, by omega, h64⟩)
                            exact ⟨fun hm => hm.2.2.2.2.2.2.2.2, fun hx => ⟨by omega, by simpa using h15, by omega, by omega, by omega, k1, by omega, k2, hx⟩⟩
                      ·
                        refine Sl.calm (Cm.pick_t rfl rfl) rfl ?_
                        refine Sl.calm (Cm.move rfl) rfl ?_
                        refine Sl.want rfl rfl (Cm.field fld35_4 rfl) rfl ?_
                        refine Sl.want rfl rfl (Cm.ld sca32 rfl (cellF hg4 rfl)) rfl ?_
                        refine Sl.want rfl rfl (Cm.len sl32 rfl) rfl ?_
                        rw [hn3.2.1.1]
                        refine Sl.forkWant rfl rfl (Cm.gtr rfl rfl) rfl (fun h60 => ?_) (fun h60 => ?_)
                        ·
                          refine Sl.calm (Cm.pick_f rfl rfl) rfl ?_
                          refine Sl.nil ?_
                          refine At.weak [(0, _), (1, _), (2, _), (3, _), (16, _), (46, _), (61, _)] ⟨rfl, rfl, rfl, rfl, rfl, rfl, rfl, trivial⟩ ?_
                          refine At.go ?_
                          refine Sc.cond_t rfl ?_
                          refine Sc.seq ?_
                          refine Sc.region ?_
                          refine Sl.calm (Cm.assign rfl) rfl ?_
                          refine Sl.nil ?_
                          refine At.go ?_
                          refine Sc.ret ?_
                          refine At.then_ret ?_
                          refine At.ret1 rfl rfl ?_
                          first
                            | exact no _ (fun hm => by have := hm.1; omega) hf1
                            | exact no _ (fun hm => by rw [hm.2.1] at h15; cases h15) hf1
                            | exact no _ (fun hm => by have h3 := hm.2.2.1; have h4 := hm.2.2.2.1; have h5 := hm.2.2.2.2.1; omega) hF3
                            | exact no _ (fun hm => hm.2.2.2.2.2.1.elim (fun e => h49 e) (fun e => by have := congrArg List.length e; have e0 : ([] : List UInt8).length = 0 := rfl; omega)) hF3
                            | exact no _ (fun hm => by have := hm.2.2.2.2.2.2.1; omega) hF3
                            | exact no _ (fun hm => by have m := hm.2.2.2.2.2.2.2.1; unfold okT at m; rw [if_neg h67] at m; exact h71 m) hF3
                            | exact absurd h76 h67
                            | exact absurd (Classical.not_not.1 h67) h76
                            | exact no _ (fun hm => by have m := hm.2.2.2.2.2.2.2.1; unfold okT at m; rw [if_pos h76] at m; exact m.1 h80) hF3
                            | exact no _ (fun hm => by have m := hm.2.2.2.2.2.2.2.1; unfold okT at m; rw [if_pos h76] at m; have := m.2.1; omega) hF3
                            | exact no _ (fun hm => by have m := hm.2.2.2.2.2.2.2.1; unfold okT at m; rw [if_pos h76] at m; exact m.2.2 h64) hF3
                            | refine yes _ ?_ (hF3.trans hf6)
                              have k1 : p.2.kind = 2 ∨ p.2.data = [] := by
                                first
                                  | exact .inl (Classical.not_not.1 h49)
                                  | exact .inr (List.length_eq_zero_iff.1 (by omega))
                              have k2 : okT p.2 := by
                                unfold okT
                                first
                                  | (rw [if_neg h67]; exact Classical.not_not.1 h71)
                                  | (rw [if_pos h76]; exact ⟨h80, by omega, h64⟩)
                              exact ⟨fun hm => hm.2.2.2.2.2.2.2.2, fun hx => ⟨by omega, by simpa using h15, by omega, by omega, by omega, k1, by omega, k2, hx⟩⟩
                        ·
                          refine Sl.calm (Cm.pick_f rfl rfl) rfl ?_
                          refine Sl.nil ?_
                          refine At.weak [(0, _), (1, _), (2, _), (3, _), (16, _), (46, _), (61, _)] ⟨rfl, rfl, rfl, rfl, rfl, rfl, rfl, trivial⟩ ?_
                          refine At.go ?_
                          refine Sc.cond_f rfl ?_
                          refine Sc.skip ?_
                          refine At.go ?_
                          refine Sc.seq ?_
                          refine Sc.region ?_
                          refine Sl.calm (Cm.field fld35_5 rfl) rfl ?_
                          refine Sl.calm (Cm.ld sca9 rfl (cellF hg4 rfl)) rfl ?_
                          refine Sl.call fn54 rfl (nul_ok p.2.tgt w3 hsm.1) rfl ?_
                          rintro _ w5 ⟨rfl, rfl⟩
                          by_cases h64 : (0 : UInt8) ∈ p.2.tgt
                          ·
                            rw [decide_eq_true h64]
                            refine Sl.calm (Cm.assign rfl) rfl ?_
                            refine Sl.nil ?_
                            refine At.weak [(0, _), (1, _), (2, _), (3, _), (4, _), (16, _), (46, _), (61, _)] ⟨rfl, rfl, rfl, rfl, rfl, rfl, rfl, rfl, trivial⟩ ?_
                            refine At.go ?_
                            refine Sc.seq ?_
                            refine Sc.seq ?_
                            refine Sc.region ?_
                            refine Sl.calm (Cm.field fld35_2 rfl) rfl ?_
                            refine Sl.calm (Cm.ld sca3 rfl (cellF hg4 rfl)) rfl ?_
                            refine Sl.fork (Cm.neq rfl rfl) rfl (fun h67 => ?_) (fun h67 => ?_)
                            ·
                              refine Sl.calm (Cm.move rfl) rfl ?_
                              refine Sl.want rfl rfl (Cm.field fld35_5 rfl) rfl ?_
                              refine Sl.want rfl rfl (Cm.ld sca9 rfl (cellF hg4 rfl)) rfl ?_
                              refine Sl.forkWant rfl rfl (Cm.neqBs rfl rfl) rfl (fun h71 => ?_) (fun h71 => ?_)
                              ·
                                refine Sl.calm (Cm.pick_t rfl rfl) rfl ?_
                                refine Sl.calm (Cm.move rfl) rfl ?_
                                refine Sl.skip rfl rfl rfl rfl ?_
                                refine Sl.skip rfl rfl rfl rfl ?_
                                refine Sl.skip rfl rfl rfl rfl ?_
                                refine Sl.skip rfl rfl rfl rfl ?_
                                refine Sl.skip rfl rfl rfl rfl ?_
                                refine Sl.skip rfl rfl rfl rfl ?_
                                refine Sl.skip rfl rfl rfl rfl ?_
                                refine Sl.skip rfl rfl rfl rfl ?_
                                refine Sl.skip rfl rfl rfl rfl ?_
                                refine Sl.skip rfl rfl rfl rfl ?_
                                refine Sl.skip rfl rfl rfl rfl ?_
                                refine Sl.skip rfl rfl rfl rfl ?_
                                refine Sl.skip rfl rfl rfl rfl ?_
                                refine Sl.skip rfl rfl rfl rfl ?_
                                refine Sl.skip rfl rfl rfl rfl ?_
                                refine Sl.skip rfl rfl rfl rfl ?_
                                refine Sl.skip rfl rfl rfl rfl ?_
                                refine Sl.calm (Cm.pick_t rfl rfl) rfl ?_
                                refine Sl.nil ?_
                                refine At.weak [(0, _), (1, _), (2, _), (3, _), (4, _), (16, _), (46, _), (61, _), (91, _)] ⟨rfl, rfl, rfl, rfl, rfl, rfl, rfl, rfl, rfl, trivial⟩ ?_
                                refine At.go ?_
                                refine Sc.cond_t rfl ?_
                                refine Sc.seq ?_
                                refine Sc.region ?_
                                refine Sl.calm (Cm.assign rfl) rfl ?_
                                refine Sl.nil ?_
                                refine At.go ?_
                                refine Sc.ret ?_
                                refine At.then_ret ?_
                                refine At.ret1 rfl rfl ?_
                                first
                                  | exact no _ (fun hm => by have := hm.1; omega) hf1
                                  | exact no _ (fun hm => by rw [hm.2.1] at h15; cases h15) hf1
                                  | exact no _ (fun hm => by have h3 := hm.2.2.1; have h4 := hm.2.2.2.1; have h5 := hm.2.2.2.2.1; omega) hF3
                                  | exact no _ (fun hm => hm.2.2.2.2.2.1.elim (fun e => h49 e) (fun e => by have := congrArg List.length e; have e0 : ([] : List UInt8).length = 0 := rfl; omega)) hF3
                                  | exact no _ (fun hm => by have := hm.2.2.2.2.2.2.1; omega) hF3
                                  | exact no _ (fun hm => by have m := hm.2.2.2.2.2.2.2.1; unfold okT at m; rw [if_neg h67] at m; exact h71 m) hF3
                                  | exact absurd h76 h67
                                  | exact absurd (Classical.not_not.1 h67) h76
                                  | exact no _ (fun hm => by have m := hm.2.2.2.2.2.2.2.1; unfold okT at m; rw [if_pos h76] at m; exact m.1 h80) hF3
                                  | exact no _ (fun hm => by have m := hm.2.2.2.2.2.2.2.1; unfold okT at m; rw [if_pos h76] at m; have := m.2.1; omega) hF3
                                  | exact no _ (fun hm => by have m := hm.2.2.2.2.2.2.2.1; unfold okT at m; rw [if_pos h76] at m; exact m.2.2 h64) hF3
                                  | refine yes _ ?_ (hF3.trans hf6)
                                    have k1 : p.2.kind = 2 ∨ p.2.data = [] := by
                                      first
                                        | exact .inl (Classical.not_not.1 h49)
                                        | exact .inr (List.length_eq_zero_iff.1 (by omega))
                                    have k2 : okT p.2 := by
                                      unfold okT
                                      first
                                        | (rw [if_neg h67]; exact Classical.not_not.1 h71)
                                        | (rw [if_pos h76]; exact ⟨h80, by omega, h64⟩)
                                    exact ⟨fun hm => hm.2.2.2.2.2.2.2.2, fun hx => ⟨by omega, by simpa using h15, by omega, by omega, by omega, k1, by omega, k2, hx⟩⟩
                              ·
                                refine Sl.calm (Cm.pick_t rfl rfl) rfl ?_
                                refine Sl.calm (Cm.move rfl) rfl ?_
                                refine Sl.want rfl rfl (Cm.field fld35_2 rfl) rfl ?_
                                refine Sl.want rfl rfl (Cm.ld sca3 rfl (cellF hg4 rfl)) rfl ?_
                                refine Sl.forkWant rfl rfl (Cm.eql rfl rfl) rfl (fun h76 => ?_) (fun h76 => ?_)
                                ·
                                  refine Sl.want rfl rfl (Cm.move rfl) rfl ?_
                                  refine Sl.want rfl rfl (Cm.field fld35_5 rfl) rfl ?_
                                  refine Sl.want rfl rfl (Cm.ld sca9 rfl (cellF hg4 rfl)) rfl ?_
                                  refine Sl.forkWant rfl rfl (Cm.eqlBs rfl rfl) rfl (fun h80 => ?_) (fun h80 => ?_)
                                  ·
                                    refine Sl.want rfl rfl (Cm.move rfl) rfl ?_
                                    refine Sl.skip rfl rfl rfl rfl ?_
                                    refine Sl.skip rfl rfl rfl rfl ?_
                                    refine Sl.skip rfl rfl rfl rfl ?_
                                    refine Sl.skip rfl rfl rfl rfl ?_
                                    refine Sl.want rfl rfl (Cm.pick_t rfl rfl) rfl ?_
                                    refine Sl.want rfl rfl (Cm.move rfl) rfl ?_
                                    refine Sl.skip rfl rfl rfl rfl ?_
                                    refine Sl.want rfl rfl (Cm.pick_t rfl rfl) rfl ?_
                                    refine Sl.want rfl rfl (Cm.pick_t rfl rfl) rfl ?_
                                    refine Sl.calm (Cm.pick_f rfl rfl) rfl ?_
                                    refine Sl.nil ?_
                                    refine At.weak [(0, _), (1, _), (2, _), (3, _), (4, _), (16, _), (46, _), (61, _), (91, _)] ⟨rfl, rfl, rfl, rfl, rfl, rfl, rfl, rfl, rfl, trivial⟩ ?_
                                    refine At.go ?_
                                    refine Sc.cond_t rfl ?_
                                    refine Sc.seq ?_
                                    refine Sc.region ?_
                                    refine Sl.calm (Cm.assign rfl) rfl ?_
                                    refine Sl.nil ?_
                                    refine At.go ?_
                                    refine Sc.ret ?_
                                    refine At.then_ret ?_
                                    refine At.ret1 rfl rfl ?_
                                    first
                                      | exact no _ (fun hm => by have := hm.1; omega) hf1
                                      | exact no _ (fun hm => by rw [hm.2.1] at h15; cases h15) hf1
                                      | exact no _ (fun hm => by have h3 := hm.2.2.1; have h4 := hm.2.2.2.1; have h5 := hm.2.2.2.2.1; omega) hF3
                                      | exact no _ (fun hm => hm.2.2.2.2.2.1.elim (fun e => h49 e) (fun e => by have := congrArg List.length e; have e0 : ([] : List UInt8).length = 0 := rfl; omega)) hF3
                                      | exact no _ (fun hm => by have := hm.2.2.2.2.2.2.1; omega) hF3
                                      | exact no _ (fun hm => by have m := hm.2.2.2.2.2.2.2.1; unfold okT at m; rw [if_neg h67] at m; exact h71 m) hF3
                                      | exact absurd h76 h67
                                      | exact absurd (Classical.not_not.1 h67) h76
                                      | exact no _ (fun hm => by have m := hm.2.2.2.2.2.2.2.1; unfold okT at m; rw [if_pos h76] at m; exact m.1 h80) hF3
                                      | exact no _ (fun hm => by have m := hm.2.2.2.2.2.2.2.1; unfold okT at m; rw [if_pos h76] at m; have := m.2.1; omega) hF3
                                      | exact no _ (fun hm => by have m := hm.2.2.2.2.2.2.2.1; unfold okT at m; rw [if_pos h76] at m; exact m.2.2 h64) hF3
                                      | refine yes _ ?_ (hF3.trans hf6)
                                        have k1 : p.2.kind = 2 ∨ p.2.data = [] := by
                                          first
                                            | exact .inl (Classical.not_not.1 h49)
                                            | exact .inr (List.length_eq_zero_iff.1 (by omega))
                                        have k2 : okT p.2 := by
                                          unfold okT
                                          first
                                            | (rw [if_neg h67]; exact Classical.not_not.1 h71)
                                            | (rw [if_pos h76]; exact ⟨h80, by omega, h64⟩)
                                        exact ⟨fun hm => hm.2.2.2.2.2.2.2.2, fun hx => ⟨by omega, by simpa using h15, by omega, by omega, by omega, k1, by omega, k2, hx⟩⟩
                                  ·
                                    refine Sl.want rfl rfl (Cm.move rfl) rfl ?_
                                    refine Sl.want rfl rfl (Cm.field fld35_5 rfl) rfl ?_
                                    refine Sl.want rfl rfl (Cm.ld sca9 rfl (cellF hg4 rfl)) rfl ?_
                                    refine Sl.want rfl rfl (Cm.lenBs ty9 rfl) rfl ?_
                                    refine Sl.forkWant rfl rfl (Cm.gtr rfl rfl) rfl (fun h85 => ?_) (fun h85 => ?_)
                                    ·
                                      refine Sl.want rfl rfl (Cm.pick_f rfl rfl) rfl ?_
                                      refine Sl.want rfl rfl (Cm.move rfl) rfl ?_
                                      refine Sl.skip rfl rfl rfl rfl ?_
                                      refine Sl.want rfl rfl (Cm.pick_t rfl rfl) rfl ?_
                                      refine Sl.want rfl rfl (Cm.pick_t rfl rfl) rfl ?_
                                      refine Sl.calm (Cm.pick_f rfl rfl) rfl ?_
                                      refine Sl.nil ?_
                                      refine At.weak [(0, _), (1, _), (2, _), (3, _), (4, _), (16, _), (46, _), (61, _), (91, _)] ⟨rfl, rfl, rfl, rfl, rfl, rfl, rfl, rfl, rfl, trivial⟩ ?_
                                      refine At.go ?_
                                      refine Sc.cond_t rfl ?_
                                      refine Sc.seq ?_
                                      refine Sc.region ?_
                                      refine Sl.calm (Cm.assign rfl) rfl ?_
                                      refine Sl.nil ?_
                                      refine At.go ?_
                                      refine Sc.ret ?_
                                      refine At.then_ret ?_
                                      refine At.ret1 rfl rfl ?_
                                      first
                                        | exact no _ (fun hm => by have := hm.1; omega) hf1
                                        | exact no _ (fun hm => by rw [hm.2.1] at h15; cases h15) hf1
                                        | exact no _ (fun hm => by have h3 := hm.2.2.1; have h4 := hm.2.2.2.1; have h5 := hm.2.2.2.2.1; omega) hF3
                                        | exact no _ (fun hm => hm.2.2.2.2.2.1.elim (fun e => h49 e) (fun e => by have := congrArg List.length e; have e0 : ([] : List UInt8).length = 0 := rfl; omega)) hF3
                                        | exact no _ (fun hm => by have := hm.2.2.2.2.2.2.1; omega) hF3
                                        | exact no _ (fun hm => by have m := hm.2.2.2.2.2.2.2.1; unfold okT at m; rw [if_neg h67] at m; exact h71 m) hF3
                                        | exact absurd h76 h67
                                        | exact absurd (Classical.not_not.1 h67) h76
                                        | exact no _ (fun hm => by have m := hm.2.2.2.2.2.2.2.1; unfold okT at m; rw [if_pos h76] at m; exact m.1 h80) hF3
                                        | exact no _ (fun hm => by have m := hm.2.2.2.2.2.2.2.1; unfold okT at m; rw [if_pos h76] at m; have := m.2.1; omega) hF3
                                        | exact no _ (fun hm => by have m := hm.2.2.2.2.2.2.2.1; unfold okT at m; rw [if_pos h76] at m; exact m.2.2 h64) hF3
                                        | refine yes _ ?_ (hF3.trans hf6)
                                          have k1 : p.2.kind = 2 ∨ p.2.data = [] := by
                                            first
                                              | exact .inl (Classical.not_not.1 h49)
                                              | exact .inr (List.length_eq_zero_iff.1 (by omega))
                                          have k2 : okT p.2 := by
                                            unfold okT
                                            first
                                              | (rw [if_neg h67]; exact Classical.not_not.1 h71)
                                              | (rw [if_pos h76]; exact ⟨h80, by omega, h64⟩)
                                          exact ⟨fun hm => hm.2.2.2.2.2.2.2.2, fun hx => ⟨by omega, by simpa using h15, by omega, by omega, by omega, k1, by omega, k2, hx⟩⟩
                                    ·
                                      refine Sl.want rfl rfl (Cm.pick_f rfl rfl) rfl ?_
                                      refine Sl.want rfl rfl (Cm.move rfl) rfl ?_
                                      refine Sl.want rfl rfl (Cm.move rfl) rfl ?_
                                      refine Sl.want rfl rfl (Cm.pick_f rfl rfl) rfl ?_
                                      refine Sl.want rfl rfl (Cm.pick_t rfl rfl) rfl ?_
                                      refine Sl.calm (Cm.pick_f rfl rfl) rfl ?_
                                      refine Sl.nil ?_
                                      refine At.weak [(0, _), (1, _), (2, _), (3, _), (4, _), (16, _), (46, _), (61, _), (91, _)] ⟨rfl, rfl, rfl, rfl, rfl, rfl, rfl, rfl, rfl, trivial⟩ ?_
                                      refine At.go ?_
                                      refine Sc.cond_t rfl ?_
                                      refine Sc.seq ?_
                                      refine Sc.region ?_
                                      refine Sl.calm (Cm.assign rfl) rfl ?_
                                      refine Sl.nil ?_
                                      refine At.go ?_
                                      refine Sc.ret ?_
                                      refine At.then_ret ?_
                                      refine At.ret1 rfl rfl ?_
                                      first
                                        | exact no _ (fun hm => by have := hm.1; omega) hf1
                                        | exact no _ (fun hm => by rw [hm.2.1] at h15; cases h15) hf1
                                        | exact no _ (fun hm => by have h3 := hm.2.2.1; have h4 := hm.2.2.2.1; have h5 := hm.2.2.2.2.1; omega) hF3
                                        | exact no _ (fun hm => hm.2.2.2.2.2.1.elim (fun e => h49 e) (fun e => by have := congrArg List.length e; have e0 : ([] : List UInt8).length = 0 := rfl; omega)) hF3
                                        | exact no _ (fun hm => by have := hm.2.2.2.2.2.2.1; omega) hF3
                                        | exact no _ (fun hm => by have m := hm.2.2.2.2.2.2.2.1; unfold okT at m; rw [if_neg h67] at m; exact h71 m) hF3
                                        | exact absurd h76 h67
                                        | exact absurd (Classical.not_not.1 h67) h76
                                        | exact no _ (fun hm => by have m := hm.2.2.2.2.2.2.2.1; unfold okT at m; rw [if_pos h76] at m; exact m.1 h80) hF3
                                        | exact no _ (fun hm => by have m := hm.2.2.2.2.2.2.2.1; unfold okT at m; rw [if_pos h76] at m; have := m.2.1; omega) hF3
                                        | exact no _ (fun hm => by have m := hm.2.2.2.2.2.2.2.1; unfold okT at m; rw [if_pos h76] at m; exact m.2.2 h64) hF3
                                        | refine yes _ ?_ (hF3.trans hf6)
                                          have k1 : p.2.kind = 2 ∨ p.2.data = [] := by
                                            first
                                              | exact .inl (Classical.not_not.1 h49)
                                              | exact .inr (List.length_eq_zero_iff.1 (by omega))
                                          have k2 : okT p.2 := by
                                            unfold okT
                                            first
                                              | (rw [if_neg h67]; exact Classical.not_not.1 h71)
                                              | (rw [if_pos h76]; exact ⟨h80, by omega, h64⟩)
                                          exact ⟨fun hm => hm.2.2.2.2.2.2.2.2, fun hx => ⟨by omega, by simpa using h15, by omega, by omega, by omega, k1, by omega, k2, hx⟩⟩
                                ·
                                  refine Sl.want rfl rfl (Cm.move rfl) rfl ?_
                                  refine Sl.skip rfl rfl rfl rfl ?_
                                  refine Sl.skip rfl rfl rfl rfl ?_
                                  refine Sl.skip rfl rfl rfl rfl ?_
                                  refine Sl.skip rfl rfl rfl rfl ?_
                                  refine Sl.skip rfl rfl rfl rfl ?_
                                  refine Sl.skip rfl rfl rfl rfl ?_
                                  refine Sl.skip rfl rfl rfl rfl ?_
                                  refine Sl.skip rfl rfl rfl rfl ?_
                                  refine Sl.skip rfl rfl rfl rfl ?_
                                  refine Sl.skip rfl rfl rfl rfl ?_
                                  refine Sl.skip rfl rfl rfl rfl ?_
                                  refine Sl.skip rfl rfl rfl rfl ?_
                                  refine Sl.want rfl rfl (Cm.pick_f rfl rfl) rfl ?_
                                  refine Sl.calm (Cm.pick_f rfl rfl) rfl ?_
                                  refine Sl.nil ?_
                                  refine At.weak [(0, _), (1, _), (2, _), (3, _), (4, _), (16, _), (46, _), (61, _), (91, _)] ⟨rfl, rfl, rfl, rfl, rfl, rfl, rfl, rfl, rfl, trivial⟩ ?_
                                  refine At.go ?_
                                  refine Sc.cond_f rfl ?_
                                  refine Sc.skip ?_
                                  refine At.go ?_
                                  refine Sc.seq ?_
                                  refine Sc.region ?_
                                  refine Sl.calm (Cm.field fld35_6 rfl) rfl ?_
                                  refine Sl.calm (Cm.ld sca33 rfl (cellF hg4 rfl)) rfl ?_
                                  refine Sl.call fn55 rfl ((by show Calls _ _ [Value.slice p.1.xs.a p.1.xs.n p.1.xs.c].toArray _ _; rw [hn3.2.2.1]; exact rmayX_ok _ _ _ w5 (hn3.2.2.xav hsm.2.2))) rfl ?_
                                  rintro _ w6 ⟨rfl, hf6⟩
                                  refine Sl.calm (Cm.assign rfl) rfl ?_
                                  refine Sl.nil ?_
                                  refine At.weak [(0, _), (1, _), (2, _), (3, _), (4, _), (16, _), (46, _), (61, _), (91, _)] ⟨rfl, rfl, rfl, rfl, rfl, rfl, rfl, rfl, rfl, trivial⟩ ?_
                                  refine At.go ?_
                                  refine Sc.ret ?_
                                  refine At.ret1 rfl rfl ?_
                                  first
                                    | exact no _ (fun hm => by have := hm.1; omega) hf1
                                    | exact no _ (fun hm => by rw [hm.2.1] at h15; cases h15) hf1
                                    | exact no _ (fun hm => by have h3 := hm.2.2.1; have h4 := hm.2.2.2.1; have h5 := hm.2.2.2.2.1; omega) hF3
                                    | exact no _ (fun hm => hm.2.2.2.2.2.1.elim (fun e => h49 e) (fun e => by have := congrArg List.length e; have e0 : ([] : List UInt8).length = 0 := rfl; omega)) hF3
                                    | exact no _ (fun hm => by have := hm.2.2.2.2.2.2.1; omega) hF3
                                    | exact no _ (fun hm => by have m := hm.2.2.2.2.2.2.2.1; unfold okT at m; rw [if_neg h67] at m; exact h71 m) hF3
                                    | exact absurd h76 h67
                                    | exact absurd (Classical.not_not.1 h67) h76
                                    | exact no _ (fun hm => by have m := hm.2.2.2.2.2.2.2.1; unfold okT at m; rw [if_pos h76] at m; exact m.1 h80) hF3
                                    | exact no _ (fun hm => by have m := hm.2.2.2.2.2.2.2.1; unfold okT at m; rw [if_pos h76] at m; have := m.2.1; omega) hF3
                                    | exact no _ (fun hm => by have m := hm.2.2.2.2.2.2.2.1; unfold okT at m; rw [if_pos h76] at m; exact m.2.2 h64) hF3
                                    | refine yes _ ?_ (hF3.trans hf6)
                                      have k1 : p.2.kind = 2 ∨ p.2.data = [] := by
                                        first
                                          | exact .inl (Classical.not_not.1 h49)
                                          | exact .inr (List.length_eq_zero_iff.1 (by omega))
                                      have k2 : okT p.2 := by
                                        unfold okT
                                        first
                                          | (rw [if_neg h67]; exact Classical.not_not.1 h71)
                                          | (rw [if_pos h76]; exact ⟨h80, by omega, h64⟩)
                                      exact ⟨fun hm => hm.2.2.2.2.2.2.2.2, fun hx => ⟨by omega, by simpa using h15, by omega, by omega, by omega, k1, by omega, k2, hx⟩⟩
                            ·
                              refine Sl.calm (Cm.move rfl) rfl ?_
                              refine Sl.skip rfl rfl rfl rfl ?_
                              refine Sl.skip rfl rfl rfl rfl ?_
                              refine Sl.skip rfl rfl rfl rfl ?_
                              refine Sl.calm (Cm.pick_f rfl rfl) rfl ?_
                              refine Sl.calm (Cm.move rfl) rfl ?_
                              refine Sl.want rfl rfl (Cm.field fld35_2 rfl) rfl ?_
                              refine Sl.want rfl rfl (Cm.ld sca3 rfl (cellF hg4 rfl)) rfl ?_
                              refine Sl.forkWant rfl rfl (Cm.eql rfl rfl) rfl (fun h76 => ?_) (fun h76 => ?_)
                              ·
                                refine Sl.want rfl rfl (Cm.move rfl) rfl ?_
                                refine Sl.want rfl rfl (Cm.field fld35_5 rfl) rfl ?_
                                refine Sl.want rfl rfl (Cm.ld sca9 rfl (cellF hg4 rfl)) rfl ?_
                                refine Sl.forkWant rfl rfl (Cm.eqlBs rfl rfl) rfl (fun h80 => ?_) (fun h80 => ?_)
                                ·
                                  refine Sl.want rfl rfl (Cm.move rfl) rfl ?_
                                  refine Sl.skip rfl rfl rfl rfl ?_
                                  refine Sl.skip rfl rfl rfl rfl ?_
                                  refine Sl.skip rfl rfl rfl rfl ?_
                                  refine Sl.skip rfl rfl rfl rfl ?_
                                  refine Sl.want rfl rfl (Cm.pick_t rfl rfl) rfl ?_
                                  refine Sl.want rfl rfl (Cm.move rfl) rfl ?_
                                  refine Sl.skip rfl rfl rfl rfl ?_
                                  refine Sl.want rfl rfl (Cm.pick_t rfl rfl) rfl ?_
                                  refine Sl.want rfl rfl (Cm.pick_t rfl rfl) rfl ?_
                                  refine Sl.calm (Cm.pick_f rfl rfl) rfl ?_
                                  refine Sl.nil ?_
                                  refine At.weak [(0, _), (1, _), (2, _), (3, _), (4, _), (16, _), (46, _), (61, _), (91, _)] ⟨rfl, rfl, rfl, rfl, rfl, rfl, rfl, rfl, rfl, trivial⟩ ?_
                                  refine At.go ?_
                                  refine Sc.cond_t rfl ?_
                                  refine Sc.seq ?_
                                  refine Sc.region ?_
                                  refine Sl.calm (Cm.assign rfl) rfl ?_
                                  refine Sl.nil ?_
                                  refine At.go ?_
                                  refine Sc.ret ?_
                                  refine At.then_ret ?_
                                  refine At.ret1 rfl rfl ?_
                                  first
                                    | exact no _ (fun hm => by have := hm.1; omega) hf1
                                    | exact no _ (fun hm => by rw [hm.2.1] at h15; cases h15) hf1
                                    | exact no _ (fun hm => by have h3 := hm.2.2.1; have h4 := hm.2.2.2.1; have h5 := hm.2.2.2.2.1; omega) hF3
                                    | exact no _ (fun hm => hm.2.2.2.2.2.1.elim (fun e => h49 e) (fun e => by have := congrArg List.length e; have e0 : ([] : List UInt8).length = 0 := rfl; omega)) hF3
                                    | exact no _ (fun hm => by have := hm.2.2.2.2.2.2.1; omega) hF3
                                    | exact no _ (fun hm => by have m := hm.2.2.2.2.2.2.2.1; unfold okT at m; rw [if_neg h67] at m; exact h71 m) hF3
                                    | exact absurd h76 h67
                                    | exact absurd (Classical.not_not.1 h67) h76
                                    | exact no _ (fun hm => by have m := hm.2.2.2.2.2.2.2.1; unfold okT at m; rw [if_pos h76] at m; exact m.1 h80) hF3
                                    | exact no _ (fun hm => by have m := hm.2.2.2.2.2.2.2.1; unfold okT at m; rw [if_pos h76] at m; have := m.2.1; omega) hF3
                                    | exact no _ (fun hm => by have m := hm.2.2.2.2.2.2.2.1; unfold okT at m; rw [if_pos h76] at m; exact m.2.2 h64) hF3
                                    | refine yes _ ?_ (hF3.trans hf6)
                                      have k1 : p.2.kind = 2 ∨ p.2.data = [] := by
                                        first
                                          | exact .inl (Classical.not_not.1 h49)
                                          | exact .inr (List.length_eq_zero_iff.1 (by omega))
                                      have k2 : okT p.2 := by
                                        unfold okT
                                        first
                                          | (rw [if_neg h67]; exact Classical.not_not.1 h71)
                                          | (rw [if_pos h76]; exact ⟨h80, by omega, h64⟩)
                                      exact ⟨fun hm => hm.2.2.2.2.2.2.2.2, fun hx => ⟨by omega, by simpa using h15, by omega, by omega, by omega, k1, by omega, k2, hx⟩⟩
                                ·
                                  refine Sl.want rfl rfl (Cm.move rfl) rfl ?_
                                  refine Sl.want rfl rfl (Cm.field fld35_5 rfl) rfl ?_
                                  refine Sl.want rfl rfl (Cm.ld sca9 rfl (cellF hg4 rfl)) rfl ?_
                                  refine Sl.want rfl rfl (Cm.lenBs ty9 rfl) rfl ?_
                                  refine Sl.forkWant rfl rfl (Cm.gtr rfl rfl) rfl (fun h85 => ?_) (fun h85 => ?_)
                                  ·
                                    refine Sl.want rfl rfl (Cm.pick_f rfl rfl) rfl ?_
                                    refine Sl.want rfl rfl (Cm.move rfl) rfl ?_
                                    refine Sl.skip rfl rfl rfl rfl ?_
                                    refine Sl.want rfl rfl (Cm.pick_t rfl rfl) rfl ?_
                                    refine Sl.want rfl rfl (Cm.pick_t rfl rfl) rfl ?_
                                    refine Sl.calm (Cm.pick_f rfl rfl) rfl ?_
                                    refine Sl.nil ?_
                                    refine At.weak [(0, _), (1, _), (2, _), (3, _), (4, _), (16, _), (46, _), (61, _), (91, _)] ⟨rfl, rfl, rfl, rfl, rfl, rfl, rfl, rfl, rfl, trivial⟩ ?_
                                    refine At.go ?_
                                    refine Sc.cond_t rfl ?_
                                    refine Sc.seq ?_
                                    refine Sc.region ?_
                                    refine Sl.calm (Cm.assign rfl) rfl ?_
                                    refine Sl.nil ?_
                                    refine At.go ?_
                                    refine Sc.ret ?_
                                    refine At.then_ret ?_
                                    refine At.ret1 rfl rfl ?_
                                    first
                                      | exact no _ (fun hm => by have := hm.1; omega) hf1
                                      | exact no _ (fun hm => by rw [hm.2.1] at h15; cases h15) hf1
                                      | exact no _ (fun hm => by have h3 := hm.2.2.1; have h4 := hm.2.2.2.1; have h5 := hm.2.2.2.2.1; omega) hF3
                                      | exact no _ (fun hm => hm.2.2.2.2.2.1.elim (fun e => h49 e) (fun e => by have := congrArg List.length e; have e0 : ([] : List UInt8).length = 0 := rfl; omega)) hF3
                                      | exact no _ (fun hm => by have := hm.2.2.2.2.2.2.1; omega) hF3
                                      | exact no _ (fun hm => by have m := hm.2.2.2.2.2.2.2.1; unfold okT at m; rw [if_neg h67] at m; exact h71 m) hF3
                                      | exact absurd h76 h67
                                      | exact absurd (Classical.not_not.1 h67) h76
                                      | exact no _ (fun hm => by have m := hm.2.2.2.2.2.2.2.1; unfold okT at m; rw [if_pos h76] at m; exact m.1 h80) hF3
                                      | exact no _ (fun hm => by have m := hm.2.2.2.2.2.2.2.1; unfold okT at m; rw [if_pos h76] at m; have := m.2.1; omega) hF3
                                      | exact no _ (fun hm => by have m := hm.2.2.2.2.2.2.2.1; unfold okT at m; rw [if_pos h76] at m; exact m.2.2 h64) hF3
                                      | refine yes _ ?_ (hF3.trans hf6)
                                        have k1 : p.2.kind = 2 ∨ p.2.data = [] := by
                                          first
                                            | exact .inl (Classical.not_not.1 h49)
                                            | exact .inr (List.length_eq_zero_iff.1 (by omega))
                                        have k2 : okT p.2 := by
                                          unfold okT
                                          first
                                            | (rw [if_neg h67]; exact Classical.not_not.1 h71)
                                            | (rw [if_pos h76]; exact ⟨h80, by omega, h64⟩)
                                        exact ⟨fun hm => hm.2.2.2.2.2.2.2.2, fun hx => ⟨by omega, by simpa using h15, by omega, by omega, by omega, k1, by omega, k2, hx⟩⟩
                                  ·
                                    refine Sl.want rfl rfl (Cm.pick_f rfl rfl) rfl ?_
                                    refine Sl.want rfl rfl (Cm.move rfl) rfl ?_
                                    refine Sl.want rfl rfl (Cm.move rfl) rfl ?_
                                    refine Sl.want rfl rfl (Cm.pick_f rfl rfl) rfl ?_
                                    refine Sl.want rfl rfl (Cm.pick_t rfl rfl) rfl ?_
                                    refine Sl.calm (Cm.pick_f rfl rfl) rfl ?_
                                    refine Sl.nil ?_
                                    refine At.weak [(0, _), (1, _), (2, _), (3, _), (4, _), (16, _), (46, _), (61, _), (91, _)] ⟨rfl, rfl, rfl, rfl, rfl, rfl, rfl, rfl, rfl, trivial⟩ ?_
                                    refine At.go ?_
                                    refine Sc.cond_t rfl ?_
                                    refine Sc.seq ?_
                                    refine Sc.region ?_
                                    refine Sl.calm (Cm.assign rfl) rfl ?_
                                    refine Sl.nil ?_
                                    refine At.go ?_
                                    refine Sc.ret ?_
                                    refine At.then_ret ?_
                                    refine At.ret1 rfl rfl ?_
                                    first
                                      | exact no _ (fun hm => by have := hm.1; omega) hf1
                                      | exact no _ (fun hm => by rw [hm.2.1] at h15; cases h15) hf1
                                      | exact no _ (fun hm => by have h3 := hm.2.2.1; have h4 := hm.2.2.2.1; have h5 := hm.2.2.2.2.1; omega) hF3
                                      | exact no _ (fun hm => hm.2.2.2.2.2.1.elim (fun e => h49 e) (fun e => by have := congrArg List.length e; have e0 : ([] : List UInt8).length = 0 := rfl; omega)) hF3
                                      | exact no _ (fun hm => by have := hm.2.2.2.2.2.2.1; omega) hF3
                                      | exact no _ (fun hm => by have m := hm.2.2.2.2.2.2.2.1; unfold okT at m; rw [if_neg h67] at m; exact h71 m) hF3
                                      | exact absurd h76 h67
                                      | exact absurd (Classical.not_not.1 h67) h76
                                      | exact no _ (fun hm => by have m := hm.2.2.2.2.2.2.2.1; unfold okT at m; rw [if_pos h76] at m; exact m.1 h80) hF3
                                      | exact no _ (fun hm => by have m := hm.2.2.2.2.2.2.2.1; unfold okT at m; rw [if_pos h76] at m; have := m.2.1; omega) hF3
                                      | exact no _ (fun hm => by have m := hm.2.2.2.2.2.2.2.1; unfold okT at m; rw [if_pos h76] at m; exact m.2.2 h64) hF3
                                      | refine yes _ ?_ (hF3.trans hf6)
                                        have k1 : p.2.kind = 2 ∨ p.2.data = [] := by
                                          first
                                            | exact .inl (Classical.not_not.1 h49)
                                            | exact .inr (List.length_eq_zero_iff.1 (by omega))
                                        have k2 : okT p.2 := by
                                          unfold okT
                                          first
                                            | (rw [if_neg h67]; exact Classical.not_not.1 h71)
                                            | (rw [if_pos h76]; exact ⟨h80, by omega, h64⟩)
                                        exact ⟨fun hm => hm.2.2.2.2.2.2.2.2, fun hx => ⟨by omega, by simpa using h15, by omega, by omega, by omega, k1, by omega, k2, hx⟩⟩
                              ·
                                refine Sl.want rfl rfl (Cm.move rfl) rfl ?_
                                refine Sl.skip rfl rfl rfl rfl ?_
                                refine Sl.skip rfl rfl rfl rfl ?_
                                refine Sl.skip rfl rfl rfl rfl ?_
                                refine Sl.skip rfl rfl rfl rfl ?_
                                refine Sl.skip rfl rfl rfl rfl ?_
                                refine Sl.skip rfl rfl rfl rfl ?_
                                refine Sl.skip rfl rfl rfl rfl ?_
                                refine Sl.skip rfl rfl rfl rfl ?_
                                refine Sl.skip rfl rfl rfl rfl ?_
                                refine Sl.skip rfl rfl rfl rfl ?_
                                refine Sl.skip rfl rfl rfl rfl ?_
                                refine Sl.skip rfl rfl rfl rfl ?_
                                refine Sl.want rfl rfl (Cm.pick_f rfl rfl) rfl ?_
                                refine Sl.calm (Cm.pick_f rfl rfl) rfl ?_
                                refine Sl.nil ?_
                                refine At.weak [(0, _), (1, _), (2, _), (3, _), (4, _), (16, _), (46, _), (61, _), (91, _)] ⟨rfl, rfl, rfl, rfl, rfl, rfl, rfl, rfl, rfl, trivial⟩ ?_
                                refine At.go ?_
                                refine Sc.cond_f rfl ?_
                                refine Sc.skip ?_
                                refine At.go ?_
                                refine Sc.seq ?_
                                refine Sc.region ?_
                                refine Sl.calm (Cm.field fld35_6 rfl) rfl ?_
                                refine Sl.calm (Cm.ld sca33 rfl (cellF hg4 rfl)) rfl ?_
                                refine Sl.call fn55 rfl ((by show Calls _ _ [Value.slice p.1.xs.a p.1.xs.n p.1.xs.c].toArray _ _; rw [hn3.2.2.1]; exact rmayX_ok _ _ _ w5 (hn3.2.2.xav hsm.2.2))) rfl ?_
                                rintro _ w6 ⟨rfl, hf6⟩
                                refine Sl.calm (Cm.assign rfl) rfl ?_
                                refine Sl.nil ?_
                                refine At.weak [(0, _), (1, _), (2, _), (3, _), (4, _), (16, _), (46, _), (61, _), (91, _)] ⟨rfl, rfl, rfl, rfl, rfl, rfl, rfl, rfl, rfl, trivial⟩ ?_
                                refine At.go ?_
                                refine Sc.ret ?_
                                refine At.ret1 rfl rfl ?_
                                first
                                  | exact no _ (fun hm => by have := hm.1; omega) hf1
                                  | exact no _ (fun hm => by rw [hm.2.1] at h15; cases h15) hf1
                                  | exact no _ (fun hm => by have h3 := hm.2.2.1; have h4 := hm.2.2.2.1; have h5 := hm.2.2.2.2.1; omega) hF3
                                  | exact no _ (fun hm => hm.2.2.2.2.2.1.elim (fun e => h49 e) (fun e => by have := congrArg List.length e; have e0 : ([] : List UInt8).length = 0 := rfl; omega)) hF3
                                  | exact no _ (fun hm => by have := hm.2.2.2.2.2.2.1; omega) hF3
                                  | exact no _ (fun hm => by have m := hm.2.2.2.2.2.2.2.1; unfold okT at m; rw [if_neg h67] at m; exact h71 m) hF3
                                  | exact absurd h76 h67
                                  | exact absurd (Classical.not_not.1 h67) h76
                                  | exact no _ (fun hm => by have m := hm.2.2.2.2.2.2.2.1; unfold okT at m; rw [if_pos h76] at m; exact m.1 h80) hF3
                                  | exact no _ (fun hm => by have m := hm.2.2.2.2.2.2.2.1; unfold okT at m; rw [if_pos h76] at m; have := m.2.1; omega) hF3
                                  | exact no _ (fun hm => by have m := hm.2.2.2.2.2.2.2.1; unfold okT at m; rw [if_pos h76] at m; exact m.2.2 h64) hF3
                                  | refine yes _ ?_ (hF3.trans hf6)
                                    have k1 : p.2.kind = 2 ∨ p.2.data = [] := by
                                      first
                                        | exact .inl (Classical.not_not.1 h49)
                                        | exact .inr (List.length_eq_zero_iff.1 (by omega))
                                    have k2 : okT p.2 := by
                                      unfold okT
                                      first
                                        | (rw [if_neg h67]; exact Classical.not_not.1 h71)
                                        | (rw [if_pos h76]; exact ⟨h80, by omega, h64⟩)
                                    exact ⟨fun hm => hm.2.2.2.2.2.2.2.2, fun hx => ⟨by omega, by simpa using h15, by omega, by omega, by omega, k1, by omega, k2, hx⟩⟩
                          ·
                            rw [decide_eq_false h64]
                            refine Sl.calm (Cm.assign rfl) rfl ?_
                            refine Sl.nil ?_
                            refine At.weak [(0, _), (1, _), (2, _), (3, _), (4, _), (16, _), (46, _), (61, _)] ⟨rfl, rfl, rfl, rfl, rfl, rfl, rfl, rfl, trivial⟩ ?_
                            refine At.go ?_
                            refine Sc.seq ?_
                            refine Sc.seq ?_
                            refine Sc.region ?_
                            refine Sl.calm (Cm.field fld35_2 rfl) rfl ?_
                            refine Sl.calm (Cm.ld sca3 rfl (cellF hg4 rfl)) rfl ?_
                            refine Sl.fork (Cm.neq rfl rfl) rfl (fun h67 => ?_) (fun h67 => ?_)
                            ·
                              refine Sl.calm (Cm.move rfl) rfl ?_
                              refine Sl.want rfl rfl (Cm.field fld35_5 rfl) rfl ?_
                              refine Sl.want rfl rfl (Cm.ld sca9 rfl (cellF hg4 rfl)) rfl ?_
                              refine Sl.forkWant rfl rfl (Cm.neqBs rfl rfl) rfl (fun h71 => ?_) (fun h71 => ?_)
                              ·
                                refine Sl.calm (Cm.pick_t rfl rfl) rfl ?_
                                refine Sl.calm (Cm.move rfl) rfl ?_
                                refine Sl.skip rfl rfl rfl rfl ?_
                                refine Sl.skip rfl rfl rfl rfl ?_
                                refine Sl.skip rfl rfl rfl rfl ?_
                                refine Sl.skip rfl rfl rfl rfl ?_
                                refine Sl.skip rfl rfl rfl rfl ?_
                                refine Sl.skip rfl rfl rfl rfl ?_
                                refine Sl.skip rfl rfl rfl rfl ?_
                                refine Sl.skip rfl rfl rfl rfl ?_
                                refine Sl.skip rfl rfl rfl rfl ?_
                                refine Sl.skip rfl rfl rfl rfl ?_
                                refine Sl.skip rfl rfl rfl rfl ?_
                                refine Sl.skip rfl rfl rfl rfl ?_
                                refine Sl.skip rfl rfl rfl rfl ?_
                                refine Sl.skip rfl rfl rfl rfl ?_
                                refine Sl.skip rfl rfl rfl rfl ?_
                                refine Sl.skip rfl rfl rfl rfl ?_
                                refine Sl.skip rfl rfl rfl rfl ?_
                                refine Sl.calm (Cm.pick_t rfl rfl) rfl ?_
                                refine Sl.nil ?_
                                refine At.weak [(0, _), (1, _), (2, _), (3, _), (4, _), (16, _), (46, _), (61, _), (91, _)] ⟨rfl, rfl, rfl, rfl, rfl, rfl, rfl, rfl, rfl, trivial⟩ ?_
                                refine At.go ?_
                                refine Sc.cond_t rfl ?_
                                refine Sc.seq ?_
                                refine Sc.region ?_
                                refine Sl.calm (Cm.assign rfl) rfl ?_
                                refine Sl.nil ?_
                                refine At.go ?_
                                refine Sc.ret ?_
                                refine At.then_ret ?_
                                refine At.ret1 rfl rfl ?_
                                first
                                  | exact no _ (fun hm => by have := hm.1; omega) hf1
                                  | exact no _ (fun hm => by rw [hm.2.1] at h15; cases h15) hf1
                                  | exact no _ (fun hm => by have h3 := hm.2.2.1; have h4 := hm.2.2.2.1; have h5 := hm.2.2.2.2.1; omega) hF3
                                  | exact no _ (fun hm => hm.2.2.2.2.2.1.elim (fun e => h49 e) (fun e => by have := congrArg List.length e; have e0 : ([] : List UInt8).length = 0 := rfl; omega)) hF3
                                  | exact no _ (fun hm => by have := hm.2.2.2.2.2.2.1; omega) hF3
                                  | exact no _ (fun hm => by have m := hm.2.2.2.2.2.2.2.1; unfold okT at m; rw [if_neg h67] at m; exact h71 m) hF3
                                  | exact absurd h76 h67
                                  | exact absurd (Classical.not_not.1 h67) h76
                                  | exact no _ (fun hm => by have m := hm.2.2.2.2.2.2.2.1; unfold okT at m; rw [if_pos h76] at m; exact m.1 h80) hF3
                                  | exact no _ (fun hm => by have m := hm.2.2.2.2.2.2.2.1; unfold okT at m; rw [if_pos h76] at m; have := m.2.1; omega) hF3
                                  | exact no _ (fun hm => by have m := hm.2.2.2.2.2.2.2.1; unfold okT at m; rw [if_pos h76] at m; exact m.2.2 h64) hF3
                                  | refine yes _ ?_ (hF3.trans hf6)
                                    have k1 : p.2.kind = 2 ∨ p.2.data = [] := by
                                      first
                                        | exact .inl (Classical.not_not.1 h49)
                                        | exact .inr (List.length_eq_zero_iff.1 (by omega))
                                    have k2 : okT p.2 := by
                                      unfold okT
                                      first
                                        | (rw [if_neg h67]; exact Classical.not_not.1 h71)
                                        | (rw [if_pos h76]; exact ⟨h80, by omega, h64⟩)
                                    exact ⟨fun hm => hm.2.2.2.2.2.2.2.2, fun hx => ⟨by omega, by simpa using h15, by omega, by omega, by omega, k1, by omega, k2, hx⟩⟩
                              ·
                                refine Sl.calm (Cm.pick_t rfl rfl) rfl ?_
                                refine Sl.calm (Cm.move rfl) rfl ?_
                                refine Sl.want rfl rfl (Cm.field fld35_2 rfl) rfl ?_
                                refine Sl.want rfl rfl (Cm.ld sca3 rfl (cellF hg4 rfl)) rfl ?_
                                refine Sl.forkWant rfl rfl (Cm.eql rfl rfl) rfl (fun h76 => ?_) (fun h76 => ?_)
                                ·
                                  refine Sl.want rfl rfl (Cm.move rfl) rfl ?_
                                  refine Sl.want rfl rfl (Cm.field fld35_5 rfl) rfl ?_
                                  refine Sl.want rfl rfl (Cm.ld sca9 rfl (cellF hg4 rfl)) rfl ?_
                                  refine Sl.forkWant rfl rfl (Cm.eqlBs rfl rfl) rfl (fun h80 => ?_) (fun h80 => ?_)
                                  ·
                                    refine Sl.want rfl rfl (Cm.move rfl) rfl ?_
                                    refine Sl.skip rfl rfl rfl rfl ?_
                                    refine Sl.skip rfl rfl rfl rfl ?_
                                    refine Sl.skip rfl rfl rfl rfl ?_
                                    refine Sl.skip rfl rfl rfl rfl ?_
                                    refine Sl.want rfl rfl (Cm.pick_t rfl rfl) rfl ?_
                                    refine Sl.want rfl rfl (Cm.move rfl) rfl ?_
                                    refine Sl.skip rfl rfl rfl rfl ?_
                                    refine Sl.want rfl rfl (Cm.pick_t rfl rfl) rfl ?_
                                    refine Sl.want rfl rfl (Cm.pick_t rfl rfl) rfl ?_
                                    refine Sl.calm (Cm.pick_f rfl rfl) rfl ?_
                                    refine Sl.nil ?_
                                    refine At.weak [(0, _), (1, _), (2, _), (3, _), (4, _), (16, _), (46, _), (61, _), (91, _)] ⟨rfl, rfl, rfl, rfl, rfl, rfl, rfl, rfl, rfl, trivial⟩ ?_
                                    refine At.go ?_
                                    refine Sc.cond_t rfl ?_
                                    refine Sc.seq ?_
                                    refine Sc.region ?_
                                    refine Sl.calm (Cm.assign rfl) rfl ?_
                                    refine Sl.nil ?_
                                    refine At.go ?_
                                    refine Sc.ret ?_
                                    refine At.then_ret ?_
                                    refine At.ret1 rfl rfl ?_
                                    first
                                      | exact no _ (fun hm => by have := hm.1; omega) hf1
                                      | exact no _ (fun hm => by rw [hm.2.1] at h15; cases h15) hf1
                                      | exact no _ (fun hm => by have h3 := hm.2.2.1; have h4 := hm.2.2.2.1; have h5 := hm.2.2.2.2.1; omega) hF3
                                      | exact no _ (fun hm => hm.2.2.2.2.2.1.elim (fun e => h49 e) (fun e => by have := congrArg List.length e; have e0 : ([] : List UInt8).length = 0 := rfl; omega)) hF3
                                      | exact no _ (fun hm => by have := hm.2.2.2.2.2.2.1; omega) hF3
                                      | exact no _ (fun hm => by have m := hm.2.2.2.2.2.2.2.1; unfold okT at m; rw [if_neg h67] at m; exact h71 m) hF3
                                      | exact absurd h76 h67
                                      | exact absurd (Classical.not_not.1 h67) h76
                                      | exact no _ (fun hm => by have m := hm.2.2.2.2.2.2.2.1; unfold okT at m; rw [if_pos h76] at m; exact m.1 h80) hF3
                                      | exact no _ (fun hm => by have m := hm.2.2.2.2.2.2.2.1; unfold okT at m; rw [if_pos h76] at m; have := m.2.1; omega) hF3
                                      | exact no _ (fun hm => by have m := hm.2.2.2.2.2.2.2.1; unfold okT at m; rw [if_pos h76] at m; exact m.2.2 h64) hF3
                                      | refine yes _ ?_ (hF3.trans hf6)
                                        have k1 : p.2.kind = 2 ∨ p.2.data = [] := by
                                          first
                                            | exact .inl (Classical.not_not.1 h49)
                                            | exact .inr (List.length_eq_zero_iff.1 (by omega))
                                        have k2 : okT p.2 := by
                                          unfold okT
                                          first
                                            | (rw [if_neg h67]; exact Classical.not_not.1 h71)
                                            | (rw [if_pos h76]; exact ⟨h80, by omega, h64⟩)
                                        exact ⟨fun hm => hm.2.2.2.2.2.2.2.2, fun hx => ⟨by omega, by simpa using h15, by omega, by omega, by omega, k1, by omega, k2, hx⟩⟩
                                  ·
                                    refine Sl.want rfl rfl (Cm.move rfl) rfl ?_
                                    refine Sl.want rfl rfl (Cm.field fld35_5 rfl) rfl ?_
                                    refine Sl.want rfl rfl (Cm.ld sca9 rfl (cellF hg4 rfl)) rfl ?_
                                    refine Sl.want rfl rfl (Cm.lenBs ty9 rfl) rfl ?_
                                    refine Sl.forkWant rfl rfl (Cm.gtr rfl rfl) rfl (fun h85 => ?_) (fun h85 => ?_)
                                    ·
                                      refine Sl.want rfl rfl (Cm.pick_f rfl rfl) rfl ?_
                                      refine Sl.want rfl rfl (Cm.move rfl) rfl ?_
                                      refine Sl.skip rfl rfl rfl rfl ?_
                                      refine Sl.want rfl rfl (Cm.pick_t rfl rfl) rfl ?_
                                      refine Sl.want rfl rfl (Cm.pick_t rfl rfl) rfl ?_
                                      refine Sl.calm (Cm.pick_f rfl rfl) rfl ?_
                                      refine Sl.nil ?_
                                      refine At.weak [(0, _), (1, _), (2, _), (3, _), (4, _), (16, _), (46, _), (61, _), (91, _)] ⟨rfl, rfl, rfl, rfl, rfl, rfl, rfl, rfl, rfl, trivial⟩ ?_
                                      refine At.go ?_
                                      refine Sc.cond_t rfl ?_
                                      refine Sc.seq ?_
                                      refine Sc.region ?_
                                      refine Sl.calm (Cm.assign rfl) rfl ?_
                                      refine Sl.nil ?_
                                      refine At.go ?_
                                      refine Sc.ret ?_
                                      refine At.then_ret ?_
                                      refine At.ret1 rfl rfl ?_
                                      first
                                        | exact no _ (fun hm => by have := hm.1; omega) hf1
                                        | exact no _ (fun hm => by rw [hm.2.1] at h15; cases h15) hf1
                                        | exact no _ (fun hm => by have h3 := hm.2.2.1; have h4 := hm.2.2.2.1; have h5 := hm.2.2.2.2.1; omega) hF3
                                        | exact no _ (fun hm => hm.2.2.2.2.2.1.elim (fun e => h49 e) (fun e => by have := congrArg List.length e; have e0 : ([] : List UInt8).length = 0 := rfl; omega)) hF3
                                        | exact no _ (fun hm => by have := hm.2.2.2.2.2.2.1; omega) hF3
                                        | exact no _ (fun hm => by have m := hm.2.2.2.2.2.2.2.1; unfold okT at m; rw [if_neg h67] at m; exact h71 m) hF3
                                        | exact absurd h76 h67
                                        | exact absurd (Classical.not_not.1 h67) h76
                                        | exact no _ (fun hm => by have m := hm.2.2.2.2.2.2.2.1; unfold okT at m; rw [if_pos h76] at m; exact m.1 h80) hF3
                                        | exact no _ (fun hm => by have m := hm.2.2.2.2.2.2.2.1; unfold okT at m; rw [if_pos h76] at m; have := m.2.1; omega) hF3
                                        | exact no _ (fun hm => by have m := hm.2.2.2.2.2.2.2.1; unfold okT at m; rw [if_pos h76] at m; exact m.2.2 h64) hF3
                                        | refine yes _ ?_ (hF3.trans hf6)
                                          have k1 : p.2.kind = 2 ∨ p.2.data = [] := by
                                            first
                                              | exact .inl (Classical.not_not.1 h49)
                                              | exact .inr (List.length_eq_zero_iff.1 (by omega))
                                          have k2 : okT p.2 := by
                                            unfold okT
                                            first
                                              | (rw [if_neg h67]; exact Classical.not_not.1 h71)
                                              | (rw [if_pos h76]; exact ⟨h80, by omega, h64⟩)
                                          exact ⟨fun hm => hm.2.2.2.2.2.2.2.2, fun hx => ⟨by omega, by simpa using h15, by omega, by omega, by omega, k1, by omega, k2, hx⟩⟩
                                    ·
                                      refine Sl.want rfl rfl (Cm.pick_f rfl rfl) rfl ?_
                                      refine Sl.want rfl rfl (Cm.move rfl) rfl ?_
                                      refine Sl.want rfl rfl (Cm.move rfl) rfl ?_
                                      refine Sl.want rfl rfl (Cm.pick_f rfl rfl) rfl ?_
                                      refine Sl.want rfl rfl (Cm.pick_t rfl rfl) rfl ?_
                                      refine Sl.calm (Cm.pick_f rfl rfl) rfl ?_
                                      refine Sl.nil ?_
                                      refine At.weak [(0, _), (1, _), (2, _), (3, _), (4, _), (16, _), (46, _), (61, _), (91, _)] ⟨rfl, rfl, rfl, rfl, rfl, rfl, rfl, rfl, rfl, trivial⟩ ?_
                                      refine At.go ?_
                                      refine Sc.cond_f rfl ?_
                                      refine Sc.skip ?_
                                      refine At.go ?_
                                      refine Sc.seq ?_
                                      refine Sc.region ?_
                                      refine Sl.calm (Cm.field fld35_6 rfl) rfl ?_
                                      refine Sl.calm (Cm.ld sca33 rfl (cellF hg4 rfl)) rfl ?_
                                      refine Sl.call fn55 rfl ((by show Calls _ _ [Value.slice p.1.xs.a p.1.xs.n p.1.xs.c].toArray _ _; rw [hn3.2.2.1]; exact rmayX_ok _ _ _ w5 (hn3.2.2.xav hsm.2.2))) rfl ?_
                                      rintro _ w6 ⟨rfl, hf6⟩
                                      refine Sl.calm (Cm.assign rfl) rfl ?_
                                      refine Sl.nil ?_
                                      refine At.weak [(0, _), (1, _), (2, _), (3, _), (4, _), (16, _), (46, _), (61, _), (91, _)] ⟨rfl, rfl, rfl, rfl, rfl, rfl, rfl, rfl, rfl, trivial⟩ ?_
                                      refine At.go ?_
                                      refine Sc.ret ?_
                                      refine At.ret1 rfl rfl ?_
                                      first
                                        | exact no _ (fun hm => by have := hm.1; omega) hf1
                                        | exact no _ (fun hm => by rw [hm.2.1] at h15; cases h15) hf1
                                        | exact no _ (fun hm => by have h3 := hm.2.2.1; have h4 := hm.2.2.2.1; have h5 := hm.2.2.2.2.1; omega) hF3
                                        | exact no _ (fun hm => hm.2.2.2.2.2.1.elim (fun e => h49 e) (fun e => by have := congrArg List.length e; have e0 : ([] : List UInt8).length = 0 := rfl; omega)) hF3
                                        | exact no _ (fun hm => by have := hm.2.2.2.2.2.2.1; omega) hF3
                                        | exact no _ (fun hm => by have m := hm.2.2.2.2.2.2.2.1; unfold okT at m; rw [if_neg h67] at m; exact h71 m) hF3
                                        | exact absurd h76 h67
                                        | exact absurd (Classical.not_not.1 h67) h76
                                        | exact no _ (fun hm => by have m := hm.2.2.2.2.2.2.2.1; unfold okT at m; rw [if_pos h76] at m; exact m.1 h80) hF3
                                        | exact no _ (fun hm => by have m := hm.2.2.2.2.2.2.2.1; unfold okT at m; rw [if_pos h76] at m; have := m.2.1; omega) hF3
                                        | exact no _ (fun hm => by have m := hm.2.2.2.2.2.2.2.1; unfold okT at m; rw [if_pos h76] at m; exact m.2.2 h64) hF3
                                        | refine yes _ ?_ (hF3.trans hf6)
                                          have k1 : p.2.kind = 2 ∨ p.2.data = [] := by
                                            first
                                              | exact .inl (Classical.not_not.1 h49)
                                              | exact .inr (List.length_eq_zero_iff.1 (by omega))
                                          have k2 : okT p.2 := by
                                            unfold okT
                                            first
                                              | (rw [if_neg h67]; exact Classical.not_not.1 h71)
                                              | (rw [if_pos h76]; exact ⟨h80, by omega, h64⟩)
                                          exact ⟨fun hm => hm.2.2.2.2.2.2.2.2, fun hx => ⟨by omega, by simpa using h15, by omega, by omega, by omega, k1, by omega, k2, hx⟩⟩
                                ·
                                  refine Sl.want rfl rfl (Cm.move rfl) rfl ?_
                                  refine Sl.skip rfl rfl rfl rfl ?_
                                  refine Sl.skip rfl rfl rfl rfl ?_
                                  refine Sl.skip rfl rfl rfl rfl ?_
                                  refine Sl.skip rfl rfl rfl rfl ?_
                                  refine Sl.skip rfl rfl rfl rfl ?_
                                  refine Sl.skip rfl rfl rfl rfl ?_
                                  refine Sl.skip rfl rfl rfl rfl ?_
                                  refine Sl.skip rfl rfl rfl rfl ?_
                                  refine Sl.skip rfl rfl rfl rfl ?_
                                  refine Sl.skip rfl rfl rfl rfl ?_
                                  refine Sl.skip rfl rfl rfl rfl ?_
                                  refine Sl.skip rfl rfl rfl rfl ?_
                                  refine Sl.want rfl rfl (Cm.pick_f rfl rfl) rfl ?_
                                  refine Sl.calm (Cm.pick_f rfl rfl) rfl ?_
                                  refine Sl.nil ?_
                                  refine At.weak [(0, _), (1, _), (2, _), (3, _), (4, _), (16, _), (46, _), (61, _), (91, _)] ⟨rfl, rfl, rfl, rfl, rfl, rfl, rfl, rfl, rfl, trivial⟩ ?_
                                  refine At.go ?_
                                  refine Sc.cond_f rfl ?_
                                  refine Sc.skip ?_
                                  refine At.go ?_
                                  refine Sc.seq ?_
                                  refine Sc.region ?_
                                  refine Sl.calm (Cm.field fld35_6 rfl) rfl ?_
                                  refine Sl.calm (Cm.ld sca33 rfl (cellF hg4 rfl)) rfl ?_
                                  refine Sl.call fn55 rfl ((by show Calls _ _ [Value.slice p.1.xs.a p.1.xs.n p.1.xs.c].toArray _ _; rw [hn3.2.2.1]; exact rmayX_ok _ _ _ w5 (hn3.2.2.xav hsm.2.2))) rfl ?_
                                  rintro _ w6 ⟨rfl, hf6⟩
                                  refine Sl.calm (Cm.assign rfl) rfl ?_
                                  refine Sl.nil ?_
                                  refine At.weak [(0, _), (1, _), (2, _), (3, _), (4, _), (16, _), (46, _), (61, _), (91, _)] ⟨rfl, rfl, rfl, rfl, rfl, rfl, rfl, rfl, rfl, trivial⟩ ?_
                                  refine At.go ?_
                                  refine Sc.ret ?_
                                  refine At.ret1 rfl rfl ?_
                                  first
                                    | exact no _ (fun hm => by have := hm.1; omega) hf1
                                    | exact no _ (fun hm => by rw [hm.2.1] at h15; cases h15) hf1
                                    | exact no _ (fun hm => by have h3 := hm.2.2.1; have h4 := hm.2.2.2.1; have h5 := hm.2.2.2.2.1; omega) hF3
                                    | exact no _ (fun hm => hm.2.2.2.2.2.1.elim (fun e => h49 e) (fun e => by have := congrArg List.length e; have e0 : ([] : List UInt8).length = 0 := rfl; omega)) hF3
                                    | exact no _ (fun hm => by have := hm.2.2.2.2.2.2.1; omega) hF3
                                    | exact no _ (fun hm => by have m := hm.2.2.2.2.2.2.2.1; unfold okT at m; rw [if_neg h67] at m; exact h71 m) hF3
                                    | exact absurd h76 h67
                                    | exact absurd (Classical.not_not.1 h67) h76
                                    | exact no _ (fun hm => by have m := hm.2.2.2.2.2.2.2.1; unfold okT at m; rw [if_pos h76] at m; exact m.1 h80) hF3
                                    | exact no _ (fun hm => by have m := hm.2.2.2.2.2.2.2.1; unfold okT at m; rw [if_pos h76] at m; have := m.2.1; omega) hF3
                                    | exact no _ (fun hm => by have m := hm.2.2.2.2.2.2.2.1; unfold okT at m; rw [if_pos h76] at m; exact m.2.2 h64) hF3
                                    | refine yes _ ?_ (hF3.trans hf6)
                                      have k1 : p.2.kind = 2 ∨ p.2.data = [] := by
                                        first
                                          | exact .inl (Classical.not_not.1 h49)
                                          | exact .inr (List.length_eq_zero_iff.1 (by omega))
                                      have k2 : okT p.2 := by
                                        unfold okT
                                        first
                                          | (rw [if_neg h67]; exact Classical.not_not.1 h71)
                                          | (rw [if_pos h76]; exact ⟨h80, by omega, h64⟩)
                                      exact ⟨fun hm => hm.2.2.2.2.2.2.2.2, fun hx => ⟨by omega, by simpa using h15, by omega, by omega, by omega, k1, by omega, k2, hx⟩⟩
                            ·
                              refine Sl.calm (Cm.move rfl) rfl ?_
                              refine Sl.skip rfl rfl rfl rfl ?_
                              refine Sl.skip rfl rfl rfl rfl ?_
                              refine Sl.skip rfl rfl rfl rfl ?_
                              refine Sl.calm (Cm.pick_f rfl rfl) rfl ?_
                              refine Sl.calm (Cm.move rfl) rfl ?_
                              refine Sl.want rfl rfl (Cm.field fld35_2 rfl) rfl ?_
                              refine Sl.want rfl rfl (Cm.ld sca3 rfl (cellF hg4 rfl)) rfl ?_
                              refine Sl.forkWant rfl rfl (Cm.eql rfl rfl) rfl (fun h76 => ?_) (fun h76 => ?_)
                              ·
                                refine Sl.want rfl rfl (Cm.move rfl) rfl ?_
                                refine Sl.want rfl rfl (Cm.field fld35_5 rfl) rfl ?_
                                refine Sl.want rfl rfl (Cm.ld sca9 rfl (cellF hg4 rfl)) rfl ?_
                                refine Sl.forkWant rfl rfl (Cm.eqlBs rfl rfl) rfl (fun h80 => ?_) (fun h80 => ?_)
                                ·
                                  refine Sl.want rfl rfl (Cm.move rfl) rfl ?_
                                  refine Sl.skip rfl rfl rfl rfl ?_
                                  refine Sl.skip rfl rfl rfl rfl ?_
                                  refine Sl.skip rfl rfl rfl rfl ?_
                                  refine Sl.skip rfl rfl rfl rfl ?_
                                  refine Sl.want rfl rfl (Cm.pick_t rfl rfl) rfl ?_
                                  refine Sl.want rfl rfl (Cm.move rfl) rfl ?_
                                  refine Sl.skip rfl rfl rfl rfl ?_
                                  refine Sl.want rfl rfl (Cm.pick_t rfl rfl) rfl ?_
                                  refine Sl.want rfl rfl (Cm.pick_t rfl rfl) rfl ?_
                                  refine Sl.calm (Cm.pick_f rfl rfl) rfl ?_
                                  refine Sl.nil ?_
                                  refine At.weak [(0, _), (1, _), (2, _), (3, _), (4, _), (16, _), (46, _), (61, _), (91, _)] ⟨rfl, rfl, rfl, rfl, rfl, rfl, rfl, rfl, rfl, trivial⟩ ?_
                                  refine At.go ?_
                                  refine Sc.cond_t rfl ?_
                                  refine Sc.seq ?_
                                  refine Sc.region ?_
                                  refine Sl.calm (Cm.assign rfl) rfl ?_
                                  refine Sl.nil ?_
                                  refine At.go ?_
                                  refine Sc.ret ?_
                                  refine At.then_ret ?_
                                  refine At.ret1 rfl rfl ?_
                                  first
                                    | exact no _ (fun hm => by have := hm.1; omega) hf1
                                    | exact no _ (fun hm => by rw [hm.2.1] at h15; cases h15) hf1
                                    | exact no _ (fun hm => by have h3 := hm.2.2.1; have h4 := hm.2.2.2.1; have h5 := hm.2.2.2.2.1; omega) hF3
                                    | exact no _ (fun hm => hm.2.2.2.2.2.1.elim (fun e => h49 e) (fun e => by have := congrArg List.length e; have e0 : ([] : List UInt8).length = 0 := rfl; omega)) hF3
                                    | exact no _ (fun hm => by have := hm.2.2.2.2.2.2.1; omega) hF3
                                    | exact no _ (fun hm => by have m := hm.2.2.2.2.2.2.2.1; unfold okT at m; rw [if_neg h67] at m; exact h71 m) hF3
                                    | exact absurd h76 h67
                                    | exact absurd (Classical.not_not.1 h67) h76
                                    | exact no _ (fun hm => by have m := hm.2.2.2.2.2.2.2.1; unfold okT at m; rw [if_pos h76] at m; exact m.1 h80) hF3
                                    | exact no _ (fun hm => by have m := hm.2.2.2.2.2.2.2.1; unfold okT at m; rw [if_pos h76] at m; have := m.2.1; omega) hF3
                                    | exact no _ (fun hm => by have m := hm.2.2.2.2.2.2.2.1; unfold okT at m; rw [if_pos h76] at m; exact m.2.2 h64) hF3
                                    | refine yes _ ?_ (hF3.trans hf6)
                                      have k1 : p.2.kind = 2 ∨ p.2.data = [] := by
                                        first
                                          | exact .inl (Classical.not_not.1 h49)
                                          | exact .inr (List.length_eq_zero_iff.1 (by omega))
                                      have k2 : okT p.2 := by
                                        unfold okT
                                        first
                                          | (rw [if_neg h67]; exact Classical.not_not.1 h71)
                                          | (rw [if_pos h76]; exact ⟨h80, by omega, h64⟩)
                                      exact ⟨fun hm => hm.2.2.2.2.2.2.2.2, fun hx => ⟨by omega, by simpa using h15, by omega, by omega, by omega, k1, by omega, k2, hx⟩⟩
                                ·
                                  refine Sl.want rfl rfl (Cm.move rfl) rfl ?_
                                  refine Sl.want rfl rfl (Cm.field fld35_5 rfl) rfl ?_
                                  refine Sl.want rfl rfl (Cm.ld sca9 rfl (cellF hg4 rfl)) rfl ?_
                                  refine Sl.want rfl rfl (Cm.lenBs ty9 rfl) rfl ?_
                                  refine Sl.forkWant rfl rfl (Cm.gtr rfl rfl) rfl (fun h85 => ?_) (fun h85 => ?_)
                                  ·
                                    refine Sl.want rfl rfl (Cm.pick_f rfl rfl) rfl ?_
                                    refine Sl.want rfl rfl (Cm.move rfl) rfl ?_
                                    refine Sl.skip rfl rfl rfl rfl ?_
                                    refine Sl.want rfl rfl (Cm.pick_t rfl rfl) rfl ?_
                                    refine Sl.want rfl rfl (Cm.pick_t rfl rfl) rfl ?_
                                    refine Sl.calm (Cm.pick_f rfl rfl) rfl ?_
                                    refine Sl.nil ?_
                                    refine At.weak [(0, _), (1, _), (2, _), (3, _), (4, _), (16, _), (46, _), (61, _), (91, _)] ⟨rfl, rfl, rfl, rfl, rfl, rfl, rfl, rfl, rfl, trivial⟩ ?_
                                    refine At.go ?_
                                    refine Sc.cond_t rfl ?_
                                    refine Sc.seq ?_
                                    refine Sc.region ?_
                                    refine Sl.calm (Cm.assign rfl) rfl ?_
                                    refine Sl.nil ?_
                                    refine At.go ?_
                                    refine Sc.ret ?_
                                    refine At.then_ret ?_
                                    refine At.ret1 rfl rfl ?_
                                    first
                                      | exact no _ (fun hm => by have := hm.1; omega) hf1
                                      | exact no _ (fun hm => by rw [hm.2.1] at h15; cases h15) hf1
                                      | exact no _ (fun hm => by have h3 := hm.2.2.1; have h4 := hm.2.2.2.1; have h5 := hm.2.2.2.2.1; omega) hF3
                                      | exact no _ (fun hm => hm.2.2.2.2.2.1.elim (fun e => h49 e) (fun e => by have := congrArg List.length e; have e0 : ([] : List UInt8).length = 0 := rfl; omega)) hF3
                                      | exact no _ (fun hm => by have := hm.2.2.2.2.2.2.1; omega) hF3
                                      | exact no _ (fun hm => by have m := hm.2.2.2.2.2.2.2.1; unfold okT at m; rw [if_neg h67] at m; exact h71 m) hF3
                                      | exact absurd h76 h67
                                      | exact absurd (Classical.not_not.1 h67) h76
                                      | exact no _ (fun hm => by have m := hm.2.2.2.2.2.2.2.1; unfold okT at m; rw [if_pos h76] at m; exact m.1 h80) hF3
                                      | exact no _ (fun hm => by have m := hm.2.2.2.2.2.2.2.1; unfold okT at m; rw [if_pos h76] at m; have := m.2.1; omega) hF3
                                      | exact no _ (fun hm => by have m := hm.2.2.2.2.2.2.2.1; unfold okT at m; rw [if_pos h76] at m; exact m.2.2 h64) hF3
                                      | refine yes _ ?_ (hF3.trans hf6)
                                        have k1 : p.2.kind = 2 ∨ p.2.data = [] := by
                                          first
                                            | exact .inl (Classical.not_not.1 h49)
                                            | exact .inr (List.length_eq_zero_iff.1 (by omega))
                                        have k2 : okT p.2 := by
                                          unfold okT
                                          first
                                            | (rw [if_neg h67]; exact Classical.not_not.1 h71)
                                            | (rw [if_pos h76]; exact ⟨h80, by omega, h64⟩)
                                        exact ⟨fun hm => hm.2.2.2.2.2.2.2.2, fun hx => ⟨by omega, by simpa using h15, by omega, by omega, by omega, k1, by omega, k2, hx⟩⟩
                                  ·
                                    refine Sl.want rfl rfl (Cm.pick_f rfl rfl) rfl ?_
                                    refine Sl.want rfl rfl (Cm.move rfl) rfl ?_
                                    refine Sl.want rfl rfl (Cm.move rfl) rfl ?_
                                    refine Sl.want rfl rfl (Cm.pick_f rfl rfl) rfl ?_
                                    refine Sl.want rfl rfl (Cm.pick_t rfl rfl) rfl ?_
                                    refine Sl.calm (Cm.pick_f rfl rfl) rfl ?_
                                    refine Sl.nil ?_
                                    refine At.weak [(0, _), (1, _), (2, _), (3, _), (4, _), (16, _), (46, _), (61, _), (91, _)] ⟨rfl, rfl, rfl, rfl, rfl, rfl, rfl, rfl, rfl, trivial⟩ ?_
                                    refine At.go ?_
                                    refine Sc.cond_f rfl ?_
                                    refine Sc.skip ?_
                                    refine At.go ?_
                                    refine Sc.seq ?_
                                    refine Sc.region ?_
                                    refine Sl.calm (Cm.field fld35_6 rfl) rfl ?_
                                    refine Sl.calm (Cm.ld sca33 rfl (cellF hg4 rfl)) rfl ?_
                                    refine Sl.call fn55 rfl ((by show Calls _ _ [Value.slice p.1.xs.a p.1.xs.n p.1.xs.c].toArray _ _; rw [hn3.2.2.1]; exact rmayX_ok _ _ _ w5 (hn3.2.2.xav hsm.2.2))) rfl ?_
                                    rintro _ w6 ⟨rfl, hf6⟩
                                    refine Sl.calm (Cm.assign rfl) rfl ?_
                                    refine Sl.nil ?_
                                    refine At.weak [(0, _), (1, _), (2, _), (3, _), (4, _), (16, _), (46, _), (61, _), (91, _)] ⟨rfl, rfl, rfl, rfl, rfl, rfl, rfl, rfl, rfl, trivial⟩ ?_
                                    refine At.go ?_
                                    refine Sc.ret ?_
                                    refine At.ret1 rfl rfl ?_
                                    first
                                      | exact no _ (fun hm => by have := hm.1; omega) hf1
                                      | exact no _ (fun hm => by rw [hm.2.1] at h15; cases h15) hf1
                                      | exact no _ (fun hm => by have h3 := hm.2.2.1; have h4 := hm.2.2.2.1; have h5 := hm.2.2.2.2.1; omega) hF3
                                      | exact no _ (fun hm => hm.2.2.2.2.2.1.elim (fun e => h49 e) (fun e => by have := congrArg List.length e; have e0 : ([] : List UInt8).length = 0 := rfl; omega)) hF3
                                      | exact no _ (fun hm => by have := hm.2.2.2.2.2.2.1; omega) hF3
                                      | exact no _ (fun hm => by have m := hm.2.2.2.2.2.2.2.1; unfold okT at m; rw [if_neg h67] at m; exact h71 m) hF3
                                      | exact absurd h76 h67
                                      | exact absurd (Classical.not_not.1 h67) h76
                                      | exact no _ (fun hm => by have m := hm.2.2.2.2.2.2.2.1; unfold okT at m; rw [if_pos h76] at m; exact m.1 h80) hF3
                                      | exact no _ (fun hm => by have m := hm.2.2.2.2.2.2.2.1; unfold okT at m; rw [if_pos h76] at m; have := m.2.1; omega) hF3
                                      | exact no _ (fun hm => by have m := hm.2.2.2.2.2.2.2.1; unfold okT at m; rw [if_pos h76] at m; exact m.2.2 h64) hF3
                                      | refine yes _ ?_ (hF3.trans hf6)
                                        have k1 : p.2.kind = 2 ∨ p.2.data = [] := by
                                          first
                                            | exact .inl (Classical.not_not.1 h49)
                                            | exact .inr (List.length_eq_zero_iff.1 (by omega))
                                        have k2 : okT p.2 := by
                                          unfold okT
                                          first
                                            | (rw [if_neg h67]; exact Classical.not_not.1 h71)
                                            | (rw [if_pos h76]; exact ⟨h80, by omega, h64⟩)
                                        exact ⟨fun hm => hm.2.2.2.2.2.2.2.2, fun hx => ⟨by omega, by simpa using h15, by omega, by omega, by omega, k1, by omega, k2, hx⟩⟩
                              ·
                                refine Sl.want rfl rfl (Cm.move rfl) rfl ?_
                                refine Sl.skip rfl rfl rfl rfl ?_
                                refine Sl.skip rfl rfl rfl rfl ?_
                                refine Sl.skip rfl rfl rfl rfl ?_
                                refine Sl.skip rfl rfl rfl rfl ?_
                                refine Sl.skip rfl rfl rfl rfl ?_
                                refine Sl.skip rfl rfl rfl rfl ?_
                                refine Sl.skip rfl rfl rfl rfl ?_
                                refine Sl.skip rfl rfl rfl rfl ?_
                                refine Sl.skip rfl rfl rfl rfl ?_
                                refine Sl.skip rfl rfl rfl rfl ?_
                                refine Sl.skip rfl rfl rfl rfl ?_
                                refine Sl.skip rfl rfl rfl rfl ?_
                                refine Sl.want rfl rfl (Cm.pick_f rfl rfl) rfl ?_
                                refine Sl.calm (Cm.pick_f rfl rfl) rfl ?_
                                refine Sl.nil ?_
                                refine At.weak [(0, _), (1, _), (2, _), (3, _), (4, _), (16, _), (46, _), (61, _), (91, _)] ⟨rfl, rfl, rfl, rfl, rfl, rfl, rfl, rfl, rfl, trivial⟩ ?_
                                refine At.go ?_
                                refine Sc.cond_f rfl ?_
                                refine Sc.skip ?_
                                refine At.go ?_
                                refine Sc.seq ?_
                                refine Sc.region ?_
                                refine Sl.calm (Cm.field fld35_6 rfl) rfl ?_
                                refine Sl.calm (Cm.ld sca33 rfl (cellF hg4 rfl)) rfl ?_
                                refine Sl.call fn55 rfl ((by show Calls _ _ [Value.slice p.1.xs.a p.1.xs.n p.1.xs.c].toArray _ _; rw [hn3.2.2.1]; exact rmayX_ok _ _ _ w5 (hn3.2.2.xav hsm.2.2))) rfl ?_
                                rintro _ w6 ⟨rfl, hf6⟩
                                refine Sl.calm (Cm.assign rfl) rfl ?_
                                refine Sl.nil ?_
                                refine At.weak [(0, _), (1, _), (2, _), (3, _), (4, _), (16, _), (46, _), (61, _), (91, _)] ⟨rfl, rfl, rfl, rfl, rfl, rfl, rfl, rfl, rfl, trivial⟩ ?_
                                refine At.go ?_
                                refine Sc.ret ?_
                                refine At.ret1 rfl rfl ?_
                                first
                                  | exact no _ (fun hm => by have := hm.1; omega) hf1
                                  | exact no _ (fun hm => by rw [hm.2.1] at h15; cases h15) hf1
                                  | exact no _ (fun hm => by have h3 := hm.2.2.1; have h4 := hm.2.2.2.1; have h5 := hm.2.2.2.2.1; omega) hF3
                                  | exact no _ (fun hm => hm.2.2.2.2.2.1.elim (fun e => h49 e) (fun e => by have := congrArg List.length e; have e0 : ([] : List UInt8).length = 0 := rfl; omega)) hF3
                                  | exact no _ (fun hm => by have := hm.2.2.2.2.2.2.1; omega) hF3
                                  | exact no _ (fun hm => by have m := hm.2.2.2.2.2.2.2.1; unfold okT at m; rw [if_neg h67] at m; exact h71 m) hF3
                                  | exact absurd h76 h67
                                  | exact absurd (Classical.not_not.1 h67) h76
                                  | exact no _ (fun hm => by have m := hm.2.2.2.2.2.2.2.1; unfold okT at m; rw [if_pos h76] at m; exact m.1 h80) hF3
                                  | exact no _ (fun hm => by have m := hm.2.2.2.2.2.2.2.1; unfold okT at m; rw [if_pos h76] at m; have := m.2.1; omega) hF3
                                  | exact no _ (fun hm => by have m := hm.2.2.2.2.2.2.2.1; unfold okT at m; rw [if_pos h76] at m; exact m.2.2 h64) hF3
                                  | refine yes _ ?_ (hF3.trans hf6)
                                    have k1 : p.2.kind = 2 ∨ p.2.data = [] := by
                                      first
                                        | exact .inl (Classical.not_not.1 h49)
                                        | exact .inr (List.length_eq_zero_iff.1 (by omega))
                                    have k2 : okT p.2 := by
                                      unfold okT
                                      first
                                        | (rw [if_neg h67]; exact Classical.not_not.1 h71)
                                        | (rw [if_pos h76]; exact ⟨h80, by omega, h64⟩)
                                    exact ⟨fun hm => hm.2.2.2.2.2.2.2.2, fun hx => ⟨by omega, by simpa using h15, by omega, by omega, by omega, k1, by omega, k2, hx⟩⟩
                    ·
                      refine Sl.calm (Cm.move rfl) rfl ?_
                      refine Sl.skip rfl rfl rfl rfl ?_
                      refine Sl.skip rfl rfl rfl rfl ?_
                      refine Sl.skip rfl rfl rfl rfl ?_
                      refine Sl.skip rfl rfl rfl rfl ?_
                      refine Sl.calm (Cm.pick_f rfl rfl) rfl ?_
                      refine Sl.calm (Cm.move rfl) rfl ?_
                      refine Sl.want rfl rfl (Cm.field fld35_4 rfl) rfl ?_
                      refine Sl.want rfl rfl (Cm.ld sca32 rfl (cellF hg4 rfl)) rfl ?_
                      refine Sl.want rfl rfl (Cm.len sl32 rfl) rfl ?_
                      rw [hn3.2.1.1]
                      refine Sl.forkWant rfl rfl (Cm.gtr rfl rfl) rfl (fun h60 => ?_) (fun h60 => ?_)
                      ·
                        refine Sl.calm (Cm.pick_f rfl rfl) rfl ?_
                        refine Sl.nil ?_
                        refine At.weak [(0, _), (1, _), (2, _), (3, _), (16, _), (46, _), (61, _)] ⟨rfl, rfl, rfl, rfl, rfl, rfl, rfl, trivial⟩ ?_
                        refine At.go ?_
                        refine Sc.cond_t rfl ?_
                        refine Sc.seq ?_
                        refine Sc.region ?_
                        refine Sl.calm (Cm.assign rfl) rfl ?_
                        refine Sl.nil ?_
                        refine At.go ?_
                        refine Sc.ret ?_
                        refine At.then_ret ?_
                        refine At.ret1 rfl rfl ?_
                        first
                          | exact no _ (fun hm => by have := hm.1; omega) hf1
                          | exact no _ (fun hm => by rw [hm.2.1] at h15; cases h15) hf1
                          | exact no _ (fun hm => by have h3 := hm.2.2.1; have h4 := hm.2.2.2.1; have h5 := hm.2.2.2.2.1; omega) hF3
                          | exact no _ (fun hm => hm.2.2.2.2.2.1.elim (fun e => h49 e) (fun e => by have := congrArg List.length e; have e0 : ([] : List UInt8).length = 0 := rfl; omega)) hF3
                          | exact no _ (fun hm => by have := hm.2.2.2.2.2.2.1; omega) hF3
                          | exact no _ (fun hm => by have m := hm.2.2.2.2.2.2.2.1; unfold okT at m; rw [if_neg h67] at m; exact h71 m) hF3
                          | exact absurd h76 h67
                          | exact absurd (Classical.not_not.1 h67) h76
                          | exact no _ (fun hm => by have m := hm.2.2.2.2.2.2.2.1; unfold okT at m; rw [if_pos h76] at m; exact m.1 h80) hF3
                          | exact no _ (fun hm => by have m := hm.2.2.2.2.2.2.2.1; unfold okT at m; rw [if_pos h76] at m; have := m.2.1; omega) hF3
                          | exact no _ (fun hm => by have m := hm.2.2.2.2.2.2.2.1; unfold okT at m; rw [if_pos h76] at m; exact m.2.2 h64) hF3
                          | refine yes _ ?_ (hF3.trans hf6)
                            have k1 : p.2.kind = 2 ∨ p.2.data = [] := by
                              first
                                | exact .inl (Classical.not_not.1 h49)
                                | exact .inr (List.length_eq_zero_iff.1 (by omega))
                            have k2 : okT p.2 := by
                              unfold okT
                              first
                                | (rw [if_neg h67]; exact Classical.not_not.1 h71)
                                | (rw [if_pos h76]; exact ⟨h80, by omega, h64⟩)
                            exact ⟨fun hm => hm.2.2.2.2.2.2.2.2, fun hx => ⟨by omega, by simpa using h15, by omega, by omega, by omega, k1, by omega, k2, hx⟩⟩
                      ·
                        refine Sl.calm (Cm.pick_f rfl rfl) rfl ?_
                        refine Sl.nil ?_
                        refine At.weak [(0, _), (1, _), (2, _), (3, _), (16, _), (46, _), (61, _)] ⟨rfl, rfl, rfl, rfl, rfl, rfl, rfl, trivial⟩ ?_
                        refine At.go ?_
                        refine Sc.cond_f rfl ?_
                        refine Sc.skip ?_
                        refine At.go ?_
                        refine Sc.seq ?_
                        refine Sc.region ?_
                        refine Sl.calm (Cm.field fld35_5 rfl) rfl ?_
                        refine Sl.calm (Cm.ld sca9 rfl (cellF hg4 rfl)) rfl ?_
                        refine Sl.call fn54 rfl (nul_ok p.2.tgt w3 hsm.1) rfl ?_
                        rintro _ w5 ⟨rfl, rfl⟩
                        by_cases h64 : (0 : UInt8) ∈ p.2.tgt
                        ·
                          rw [decide_eq_true h64]
                          refine Sl.calm (Cm.assign rfl) rfl ?_
                          refine Sl.nil ?_
                          refine At.weak [(0, _), (1, _), (2, _), (3, _), (4, _), (16, _), (46, _), (61, _)] ⟨rfl, rfl, rfl, rfl, rfl, rfl, rfl, rfl, trivial⟩ ?_
                          refine At.go ?_
                          refine Sc.seq ?_
                          refine Sc.seq ?_
                          refine Sc.region ?_
                          refine Sl.calm (Cm.field fld35_2 rfl) rfl ?_
                          refine Sl.calm (Cm.ld sca3 rfl (cellF hg4 rfl)) rfl ?_
                          refine Sl.fork (Cm.neq rfl rfl) rfl (fun h67 => ?_) (fun h67 => ?_)
                          ·
                            refine Sl.calm (Cm.move rfl) rfl ?_
                            refine Sl.want rfl rfl (Cm.field fld35_5 rfl) rfl ?_
                            refine Sl.want rfl rfl (Cm.ld sca9 rfl (cellF hg4 rfl)) rfl ?_
                            refine Sl.forkWant rfl rfl (Cm.neqBs rfl rfl) rfl (fun h71 => ?_) (fun h71 => ?_)
                            ·
                              refine Sl.calm (Cm.pick_t rfl rfl) rfl ?_
                              refine Sl.calm (Cm.move rfl) rfl ?_
                              refine Sl.skip rfl rfl rfl rfl ?_
                              refine Sl.skip rfl rfl rfl rfl ?_
                              refine Sl.skip rfl rfl rfl rfl ?_
                              refine Sl.skip rfl rfl rfl rfl ?_
                              refine Sl.skip rfl rfl rfl rfl ?_
                              refine Sl.skip rfl rfl rfl rfl ?_
                              refine Sl.skip rfl rfl rfl rfl ?_
                              refine Sl.skip rfl rfl rfl rfl ?_
                              refine Sl.skip rfl rfl rfl rfl ?_
                              refine Sl.skip rfl rfl rfl rfl ?_
                              refine Sl.skip rfl rfl rfl rfl ?_
                              refine Sl.skip rfl rfl rfl rfl ?_
                              refine Sl.skip rfl rfl rfl rfl ?_
                              refine Sl.skip rfl rfl rfl rfl ?_
                              refine Sl.skip rfl rfl rfl rfl ?_
                              refine Sl.skip rfl rfl rfl rfl ?_
                              refine Sl.skip rfl rfl rfl rfl ?_
                              refine Sl.calm (Cm.pick_t rfl rfl) rfl ?_
                              refine Sl.nil ?_
                              refine At.weak [(0, _), (1, _), (2, _), (3, _), (4, _), (16, _), (46, _), (61, _), (91, _)] ⟨rfl, rfl, rfl, rfl, rfl, rfl, rfl, rfl, rfl, trivial⟩ ?_
                              refine At.go ?_
                              refine Sc.cond_t rfl ?_
                              refine Sc.seq ?_
                              refine Sc.region ?_
                              refine Sl.calm (Cm.assign rfl) rfl ?_
                              refine Sl.nil ?_
                              refine At.go ?_
                              refine Sc.ret ?_
                              refine At.then_ret ?_
                              refine At.ret1 rfl rfl ?_
                              first
                                | exact no _ (fun hm => by have := hm.1; omega) hf1
                                | exact no _ (fun hm => by rw [hm.2.1] at h15; cases h15) hf1
                                | exact no _ (fun hm => by have h3 := hm.2.2.1; have h4 := hm.2.2.2.1; have h5 := hm.2.2.2.2.1; omega) hF3
                                | exact no _ (fun hm => hm.2.2.2.2.2.1.elim (fun e => h49 e) (fun e => by have := congrArg List.length e; have e0 : ([] : List UInt8).length = 0 := rfl; omega)) hF3
                                | exact no _ (fun hm => by have := hm.2.2.2.2.2.2.1; omega) hF3
                                | exact no _ (fun hm => by have m := hm.2.2.2.2.2.2.2.1; unfold okT at m; rw [if_neg h67] at m; exact h71 m) hF3
                                | exact absurd h76 h67
                                | exact absurd (Classical.not_not.1 h67) h76
                                | exact no _ (fun hm => by have m := hm.2.2.2.2.2.2.2.1; unfold okT at m; rw [if_pos h76] at m; exact m.1 h80) hF3
                                | exact no _ (fun hm => by have m := hm.2.2.2.2.2.2.2.1; unfold okT at m; rw [if_pos h76] at m; have := m.2.1; omega) hF3
                                | exact no _ (fun hm => by have m := hm.2.2.2.2.2.2.2.1; unfold okT at m; rw [if_pos h76] at m; exact m.2.2 h64) hF3
                                | refine yes _ ?_ (hF3.trans hf6)
                                  have k1 : p.2.kind = 2 ∨ p.2.data = [] := by
                                    first
                                      | exact .inl (Classical.not_not.1 h49)
                                      | exact .inr (List.length_eq_zero_iff.1 (by omega))
                                  have k2 : okT p.2 := by
                                    unfold okT
                                    first
                                      | (rw [if_neg h67]; exact Classical.not_not.1 h71)
                                      | (rw [if_pos h76]; exact ⟨h80, by omega, h64⟩)
                                  exact ⟨fun hm => hm.2.2.2.2.2.2.2.2, fun hx => ⟨by omega, by simpa using h15, by omega, by omega, by omega, k1, by omega, k2, hx⟩⟩
                            ·
                              refine Sl.calm (Cm.pick_t rfl rfl) rfl ?_
                              refine Sl.calm (Cm.move rfl) rfl ?_
                              refine Sl.want rfl rfl (Cm.field fld35_2 rfl) rfl ?_
                              refine Sl.want rfl rfl (Cm.ld sca3 rfl (cellF hg4 rfl)) rfl ?_
                              refine Sl.forkWant rfl rfl (Cm.eql rfl rfl) rfl (fun h76 => ?_) (fun h76 => ?_)
                              ·
                                refine Sl.want rfl rfl (Cm.move rfl) rfl ?_
                                refine Sl.want rfl rfl (Cm.field fld35_5 rfl) rfl ?_
                                refine Sl.want rfl rfl (Cm.ld sca9 rfl (cellF hg4 rfl)) rfl ?_
                                refine Sl.forkWant rfl rfl (Cm.eqlBs rfl rfl) rfl (fun h80 => ?_) (fun h80 => ?_)
                                ·
                                  refine Sl.want rfl rfl (Cm.move rfl) rfl ?_
                                  refine Sl.skip rfl rfl rfl rfl ?_
                                  refine Sl.skip rfl rfl rfl rfl ?_
                                  refine Sl.skip rfl rfl rfl rfl ?_
                                  refine Sl.skip rfl rfl rfl rfl ?_
                                  refine Sl.want rfl rfl (Cm.pick_t rfl rfl) rfl ?_
                                  refine Sl.want rfl rfl (Cm.move rfl) rfl ?_
                                  refine Sl.skip rfl rfl rfl rfl ?_
                                  refine Sl.want rfl rfl (Cm.pick_t rfl rfl) rfl ?_
                                  refine Sl.want rfl rfl (Cm.pick_t rfl rfl) rfl ?_
                                  refine Sl.calm (Cm.pick_f rfl rfl) rfl ?_
                                  refine Sl.nil ?_
                                  refine At.weak [(0, _), (1, _), (2, _), (3, _), (4, _), (16, _), (46, _), (61, _), (91, _)] ⟨rfl, rfl, rfl, rfl, rfl, rfl, rfl, rfl, rfl, trivial⟩ ?_
                                  refine At.go ?_
                                  refine Sc.cond_t rfl ?_
                                  refine Sc.seq ?_
                                  refine Sc.region ?_
                                  refine Sl.calm (Cm.assign rfl) rfl ?_
                                  refine Sl.nil ?_
                                  refine At.go ?_
                                  refine Sc.ret ?_
                                  refine At.then_ret ?_
                                  refine At.ret1 rfl rfl ?_
                                  first
                                    | exact no _ (fun hm => by have := hm.1; omega) hf1
                                    | exact no _ (fun hm => by rw [hm.2.1] at h15; cases h15) hf1
                                    | exact no _ (fun hm => by have h3 := hm.2.2.1; have h4 := hm.2.2.2.1; have h5 := hm.2.2.2.2.1; omega) hF3
                                    | exact no _ (fun hm => hm.2.2.2.2.2.1.elim (fun e => h49 e) (fun e => by have := congrArg List.length e; have e0 : ([] : List UInt8).length = 0 := rfl; omega)) hF3
                                    | exact no _ (fun hm => by have := hm.2.2.2.2.2.2.1; omega) hF3
                                    | exact no _ (fun hm => by have m := hm.2.2.2.2.2.2.2.1; unfold okT at m; rw [if_neg h67] at m; exact h71 m) hF3
                                    | exact absurd h76 h67
                                    | exact absurd (Classical.not_not.1 h67) h76
                                    | exact no _ (fun hm => by have m := hm.2.2.2.2.2.2.2.1; unfold okT at m; rw [if_pos h76] at m; exact m.1 h80) hF3
                                    | exact no _ (fun hm => by have m := hm.2.2.2.2.2.2.2.1; unfold okT at m; rw [if_pos h76] at m; have := m.2.1; omega) hF3
                                    | exact no _ (fun hm => by have m := hm.2.2.2.2.2.2.2.1; unfold okT at m; rw [if_pos h76] at m; exact m.2.2 h64) hF3
                                    | refine yes _ ?_ (hF3.trans hf6)
                                      have k1 : p.2.kind = 2 ∨ p.2.data = [] := by
                                        first
                                          | exact .inl (Classical.not_not.1 h49)
                                          | exact .inr (List.length_eq_zero_iff.1 (by omega))
                                      have k2 : okT p.2 := by
                                        unfold okT
                                        first
                                          | (rw [if_neg h67]; exact Classical.not_not.1 h71)
                                          | (rw [if_pos h76]; exact ⟨h80, by omega, h64⟩)
                                      exact ⟨fun hm => hm.2.2.2.2.2.2.2.2, fun hx => ⟨by omega, by simpa using h15, by omega, by omega, by omega, k1, by omega, k2, hx⟩⟩
                                ·
                                  refine Sl.want rfl rfl (Cm.move rfl) rfl ?_
                                  refine Sl.want rfl rfl (Cm.field fld35_5 rfl) rfl ?_
                                  refine Sl.want rfl rfl (Cm.ld sca9 rfl (cellF hg4 rfl)) rfl ?_
                                  refine Sl.want rfl rfl (Cm.lenBs ty9 rfl) rfl ?_
                                  refine Sl.forkWant rfl rfl (Cm.gtr rfl rfl) rfl (fun h85 => ?_) (fun h85 => ?_)
                                  ·
                                    refine Sl.want rfl rfl (Cm.pick_f rfl rfl) rfl ?_
                                    refine Sl.want rfl rfl (Cm.move rfl) rfl ?_
                                    refine Sl.skip rfl rfl rfl rfl ?_
                                    refine Sl.want rfl rfl (Cm.pick_t rfl rfl) rfl ?_
                                    refine Sl.want rfl rfl (Cm.pick_t rfl rfl) rfl ?_
                                    refine Sl.calm (Cm.pick_f rfl rfl) rfl ?_
                                    refine Sl.nil ?_
                                    refine At.weak [(0, _), (1, _), (2, _), (3, _), (4, _), (16, _), (46, _), (61, _), (91, _)] ⟨rfl, rfl, rfl, rfl, rfl, rfl, rfl, rfl, rfl, trivial⟩ ?_
                                    refine At.go ?_
                                    refine Sc.cond_t rfl ?_
                                    refine Sc.seq ?_
                                    refine Sc.region ?_
                                    refine Sl.calm (Cm.assign rfl) rfl ?_
                                    refine Sl.nil ?_
                                    refine At.go ?_
                                    refine Sc.ret ?_
                                    refine At.then_ret ?_
                                    refine At.ret1 rfl rfl ?_
                                    first
                                      | exact no _ (fun hm => by have := hm.1; omega) hf1
                                      | exact no _ (fun hm => by rw [hm.2.1] at h15; cases h15) hf1
                                      | exact no _ (fun hm => by have h3 := hm.2.2.1; have h4 := hm.2.2.2.1; have h5 := hm.2.2.2.2.1; omega) hF3
                                      | exact no _ (fun hm => hm.2.2.2.2.2.1.elim (fun e => h49 e) (fun e => by have := congrArg List.length e; have e0 : ([] : List UInt8).length = 0 := rfl; omega)) hF3
                                      | exact no _ (fun hm => by have := hm.2.2.2.2.2.2.1; omega) hF3
                                      | exact no _ (fun hm => by have m := hm.2.2.2.2.2.2.2.1; unfold okT at m; rw [if_neg h67] at m; exact h71 m) hF3
                                      | exact absurd h76 h67
                                      | exact absurd (Classical.not_not.1 h67) h76
                                      | exact no _ (fun hm => by have m := hm.2.2.2.2.2.2.2.1; unfold okT at m; rw [if_pos h76] at m; exact m.1 h80) hF3
                                      | exact no _ (fun hm => by have m := hm.2.2.2.2.2.2.2.1; unfold okT at m; rw [if_pos h76] at m; have := m.2.1; omega) hF3
                                      | exact no _ (fun hm => by have m := hm.2.2.2.2.2.2.2.1; unfold okT at m; rw [if_pos h76] at m; exact m.2.2 h64) hF3
                                      | refine yes _ ?_ (hF3.trans hf6)
                                        have k1 : p.2.kind = 2 ∨ p.2.data = [] := by
                                          first
                                            | exact .inl (Classical.not_not.1 h49)
                                            | exact .inr (List.length_eq_zero_iff.1 (by omega))
                                        have k2 : okT p.2 := by
                                          unfold okT
                                          first
                                            | (rw [if_neg h67]; exact Classical.not_not.1 h71)
                                            | (rw [if_pos h76]; exact ⟨h80, by omega, h64⟩)
                                        exact ⟨fun hm => hm.2.2.2.2.2.2.2.2, fun hx => ⟨by omega, by simpa using h15, by omega, by omega, by omega, k1, by omega, k2, hx⟩⟩
                                  ·
                                    refine Sl.want rfl rfl (Cm.pick_f rfl rfl) rfl ?_
                                    refine Sl.want rfl rfl (Cm.move rfl) rfl ?_
                                    refine Sl.want rfl rfl (Cm.move rfl) rfl ?_
                                    refine Sl.want rfl rfl (Cm.pick_f rfl rfl) rfl ?_
                                    refine Sl.want rfl rfl (Cm.pick_t rfl rfl) rfl ?_
                                    refine Sl.calm (Cm.pick_f rfl rfl) rfl ?_
                                    refine Sl.nil ?_
                                    refine At.weak [(0, _), (1, _), (2, _), (3, _), (4, _), (16, _), (46, _), (61, _), (91, _)] ⟨rfl, rfl, rfl, rfl, rfl, rfl, rfl, rfl, rfl, trivial⟩ ?_
                                    refine At.go ?_
                                    refine Sc.cond_t rfl ?_
                                    refine Sc.seq ?_
                                    refine Sc.region ?_
                                    refine Sl.calm (Cm.assign rfl) rfl ?_
                                    refine Sl.nil ?_
                                    refine At.go ?_
                                    refine Sc.ret ?_
                                    refine At.then_ret ?_
                                    refine At.ret1 rfl rfl ?_
                                    first
                                      | exact no _ (fun hm => by have := hm.1; omega) hf1
                                      | exact no _ (fun hm => by rw [hm.2.1] at h15; cases h15) hf1
                                      | exact no _ (fun hm => by have h3 := hm.2.2.1; have h4 := hm.2.2.2.1; have h5 := hm.2.2.2.2.1; omega) hF3
                                      | exact no _ (fun hm => hm.2.2.2.2.2.1.elim (fun e => h49 e) (fun e => by have := congrArg List.length e; have e0 : ([] : List UInt8).length = 0 := rfl; omega)) hF3
                                      | exact no _ (fun hm => by have := hm.2.2.2.2.2.2.1; omega) hF3
                                      | exact no _ (fun hm => by have m := hm.2.2.2.2.2.2.2.1; unfold okT at m; rw [if_neg h67] at m; exact h71 m) hF3
                                      | exact absurd h76 h67
                                      | exact absurd (Classical.not_not.1 h67) h76
                                      | exact no _ (fun hm => by have m := hm.2.2.2.2.2.2.2.1; unfold okT at m; rw [if_pos h76] at m; exact m.1 h80) hF3
                                      | exact no _ (fun hm => by have m := hm.2.2.2.2.2.2.2.1; unfold okT at m; rw [if_pos h76] at m; have := m.2.1; omega) hF3
                                      | exact no _ (fun hm => by have m := hm.2.2.2.2.2.2.2.1; unfold okT at m; rw [if_pos h76] at m; exact m.2.2 h64) hF3
                                      | refine yes _ ?_ (hF3.trans hf6)
                                        have k1 : p.2.kind = 2 ∨ p.2.data = [] := by
                                          first
                                            | exact .inl (Classical.not_not.1 h49)
                                            | exact .inr (List.length_eq_zero_iff.1 (by omega))
                                        have k2 : okT p.2 := by
                                          unfold okT
                                          first
                                            | (rw [if_neg h67]; exact Classical.not_not.1 h71)
                                            | (rw [if_pos h76]; exact ⟨h80, by omega, h64⟩)
                                        exact ⟨fun hm => hm.2.2.2.2.2.2.2.2, fun hx => ⟨by omega, by simpa using h15, by omega, by omega, by omega, k1, by omega, k2, hx⟩⟩
                              ·
                                refine Sl.want rfl rfl (Cm.move rfl) rfl ?_
                                refine Sl.skip rfl rfl rfl rfl ?_
                                refine Sl.skip rfl rfl rfl rfl ?_
                                refine Sl.skip rfl rfl rfl rfl ?_
                                refine Sl.skip rfl rfl rfl rfl ?_
                                refine Sl.skip rfl rfl rfl rfl ?_
                                refine Sl.skip rfl rfl rfl rfl ?_
                                refine Sl.skip rfl rfl rfl rfl ?_
                                refine Sl.skip rfl rfl rfl rfl ?_
                                refine Sl.skip rfl rfl rfl rfl ?_
                                refine Sl.skip rfl rfl rfl rfl ?_
                                refine Sl.skip rfl rfl rfl rfl ?_
                                refine Sl.skip rfl rfl rfl rfl ?_
                                refine Sl.want rfl rfl (Cm.pick_f rfl rfl) rfl ?_
                                refine Sl.calm (Cm.pick_f rfl rfl) rfl ?_
                                refine Sl.nil ?_
                                refine At.weak [(0, _), (1, _), (2, _), (3, _), (4, _), (16, _), (46, _), (61, _), (91, _)] ⟨rfl, rfl, rfl, rfl, rfl, rfl, rfl, rfl, rfl, trivial⟩ ?_
                                refine At.go ?_
                                refine Sc.cond_f rfl ?_
                                refine Sc.skip ?_
                                refine At.go ?_
                                refine Sc.seq ?_
                                refine Sc.region ?_
                                refine Sl.calm (Cm.field fld35_6 rfl) rfl ?_
                                refine Sl.calm (Cm.ld sca33 rfl (cellF hg4 rfl)) rfl ?_
                                refine Sl.call fn55 rfl ((by show Calls _ _ [Value.slice p.1.xs.a p.1.xs.n p.1.xs.c].toArray _ _; rw [hn3.2.2.1]; exact rmayX_ok _ _ _ w5 (hn3.2.2.xav hsm.2.2))) rfl ?_
                                rintro _ w6 ⟨rfl, hf6⟩
                                refine Sl.calm (Cm.assign rfl) rfl ?_
                                refine Sl.nil ?_
                                refine At.weak [(0, _), (1, _), (2, _), (3, _), (4, _), (16, _), (46, _), (61, _), (91, _)] ⟨rfl, rfl, rfl, rfl, rfl, rfl, rfl, rfl, rfl, trivial⟩ ?_
                                refine At.go ?_
                                refine Sc.ret ?_
                                refine At.ret1 rfl rfl ?_
                                first
                                  | exact no _ (fun hm => by have := hm.1; omega) hf1
                                  | exact no _ (fun hm => by rw [hm.2.1] at h15; cases h15) hf1
                                  | exact no _ (fun hm => by have h3 := hm.2.2.1; have h4 := hm.2.2.2.1; have h5 := hm.2.2.2.2.1; omega) hF3
                                  | exact no _ (fun hm => hm.2.2.2.2.2.1.elim (fun e => h49 e) (fun e => by have := congrArg List.length e; have e0 : ([] : List UInt8).length = 0 := rfl; omega)) hF3
                                  | exact no _ (fun hm => by have := hm.2.2.2.2.2.2.1; omega) hF3
                                  | exact no _ (fun hm => by have m := hm.2.2.2.2.2.2.2.1; unfold okT at m; rw [if_neg h67] at m; exact h71 m) hF3
                                  | exact absurd h76 h67
                                  | exact absurd (Classical.not_not.1 h67) h76
                                  | exact no _ (fun hm => by have m := hm.2.2.2.2.2.2.2.1; unfold okT at m; rw [if_pos h76] at m; exact m.1 h80) hF3
                                  | exact no _ (fun hm => by have m := hm.2.2.2.2.2.2.2.1; unfold okT at m; rw [if_pos h76] at m; have := m.2.1; omega) hF3
                                  | exact no _ (fun hm => by have m := hm.2.2.2.2.2.2.2.1; unfold okT at m; rw [if_pos h76] at m; exact m.2.2 h64) hF3
                                  | refine yes _ ?_ (hF3.trans hf6)
                                    have k1 : p.2.kind = 2 ∨ p.2.data = [] := by
                                      first
                                        | exact .inl (Classical.not_not.1 h49)
                                        | exact .inr (List.length_eq_zero_iff.1 (by omega))
                                    have k2 : okT p.2 := by
                                      unfold okT
                                      first
                                        | (rw [if_neg h67]; exact Classical.not_not.1 h71)
                                        | (rw [if_pos h76]; exact ⟨h80, by omega, h64⟩)
                                    exact ⟨fun hm => hm.2.2.2.2.2.2.2.2, fun hx => ⟨by omega, by simpa using h15, by omega, by omega, by omega, k1, by omega, k2, hx⟩⟩
                          ·
                            refine Sl.calm (Cm.move rfl) rfl ?_
                            refine Sl.skip rfl rfl rfl rfl ?_
                            refine Sl.skip rfl rfl rfl rfl ?_
                            refine Sl.skip rfl rfl rfl rfl ?_
                            refine Sl.calm (Cm.pick_f rfl rfl) rfl ?_
                            refine Sl.calm (Cm.move rfl) rfl ?_
                            refine Sl.want rfl rfl (Cm.field fld35_2 rfl) rfl ?_
                            refine Sl.want rfl rfl (Cm.ld sca3 rfl (cellF hg4 rfl)) rfl ?_
                            refine Sl.forkWant rfl rfl (Cm.eql rfl rfl) rfl (fun h76 => ?_) (fun h76 => ?_)
                            ·
                              refine Sl.want rfl rfl (Cm.move rfl) rfl ?_
                              refine Sl.want rfl rfl (Cm.field fld35_5 rfl) rfl ?_
                              refine Sl.want rfl rfl (Cm.ld sca9 rfl (cellF hg4 rfl)) rfl ?_
                              refine Sl.forkWant rfl rfl (Cm.eqlBs rfl rfl) rfl (fun h80 => ?_) (fun h80 => ?_)
                              ·
                                refine Sl.want rfl rfl (Cm.move rfl) rfl ?_
                                refine Sl.skip rfl rfl rfl rfl ?_
                                refine Sl.skip rfl rfl rfl rfl ?_
                                refine Sl.skip rfl rfl rfl rfl ?_
                                refine Sl.skip rfl rfl rfl rfl ?_
                                refine Sl.want rfl rfl (Cm.pick_t rfl rfl) rfl ?_
                                refine Sl.want rfl rfl (Cm.move rfl) rfl ?_
                                refine Sl.skip rfl rfl rfl rfl ?_
                                refine Sl.want rfl rfl (Cm.pick_t rfl rfl) rfl ?_
                                refine Sl.want rfl rfl (Cm.pick_t rfl rfl) rfl ?_
                                refine Sl.calm (Cm.pick_f rfl rfl) rfl ?_
                                refine Sl.nil ?_
                                refine At.weak [(0, _), (1, _), (2, _), (3, _), (4, _), (16, _), (46, _), (61, _), (91, _)] ⟨rfl, rfl, rfl, rfl, rfl, rfl, rfl, rfl, rfl, trivial⟩ ?_
                                refine At.go ?_
                                refine Sc.cond_t rfl ?_
                                refine Sc.seq ?_
                                refine Sc.region ?_
                                refine Sl.calm (Cm.assign rfl) rfl ?_
                                refine Sl.nil ?_
                                refine At.go ?_
                                refine Sc.ret ?_
                                refine At.then_ret ?_
                                refine At.ret1 rfl rfl ?_
                                first
                                  | exact no _ (fun hm => by have := hm.1; omega) hf1
                                  | exact no _ (fun hm => by rw [hm.2.1] at h15; cases h15) hf1
                                  | exact no _ (fun hm => by have h3 := hm.2.2.1; have h4 := hm.2.2.2.1; have h5 := hm.2.2.2.2.1; omega) hF3
                                  | exact no _ (fun hm => hm.2.2.2.2.2.1.elim (fun e => h49 e) (fun e => by have := congrArg List.length e; have e0 : ([] : List UInt8).length = 0 := rfl; omega)) hF3
                                  | exact no _ (fun hm => by have := hm.2.2.2.2.2.2.1; omega) hF3
                                  | exact no _ (fun hm => by have m := hm.2.2.2.2.2.2.2.1; unfold okT at m; rw [if_neg h67] at m; exact h71 m) hF3
                                  | exact absurd h76 h67
                                  | exact absurd (Classical.not_not.1 h67) h76
                                  | exact no _ (fun hm => by have m := hm.2.2.2.2.2.2.2.1; unfold okT at m; rw [if_pos h76] at m; exact m.1 h80) hF3
                                  | exact no _ (fun hm => by have m := hm.2.2.2.2.2.2.2.1; unfold okT at m; rw [if_pos h76] at m; have := m.2.1; omega) hF3
                                  | exact no _ (fun hm => by have m := hm.2.2.2.2.2.2.2.1; unfold okT at m; rw [if_pos h76] at m; exact m.2.2 h64) hF3
                                  | refine yes _ ?_ (hF3.trans hf6)
                                    have k1 : p.2.kind = 2 ∨ p.2.data = [] := by
                                      first
                                        | exact .inl (Classical.not_not.1 h49)
                                        | exact .inr (List.length_eq_zero_iff.1 (by omega))
                                    have k2 : okT p.2 := by
                                      unfold okT
                                      first
                                        | (rw [if_neg h67]; exact Classical.not_not.1 h71)
                                        | (rw [if_pos h76]; exact ⟨h80, by omega, h64⟩)
                                    exact ⟨fun hm => hm.2.2.2.2.2.2.2.2, fun hx => ⟨by omega, by simpa using h15, by omega, by omega, by omega, k1, by omega, k2, hx⟩⟩
                              ·
                                refine Sl.want rfl rfl (Cm.move rfl) rfl ?_
                                refine Sl.want rfl rfl (Cm.field fld35_5 rfl) rfl ?_
                                refine Sl.want rfl rfl (Cm.ld sca9 rfl (cellF hg4 rfl)) rfl ?_
                                refine Sl.want rfl rfl (Cm.lenBs ty9 rfl) rfl ?_
                                refine Sl.forkWant rfl rfl (Cm.gtr rfl rfl) rfl (fun h85 => ?_) (fun h85 => ?_)
                                ·
                                  refine Sl.want rfl rfl (Cm.pick_f rfl rfl) rfl ?_
                                  refine Sl.want rfl rfl (Cm.move rfl) rfl ?_
                                  refine Sl.skip rfl rfl rfl rfl ?_
                                  refine Sl.want rfl rfl (Cm.pick_t rfl rfl) rfl ?_
                                  refine Sl.want rfl rfl (Cm.pick_t rfl rfl) rfl ?_
                                  refine Sl.calm (Cm.pick_f rfl rfl) rfl ?_
                                  refine Sl.nil ?_
                                  refine At.weak [(0, _), (1, _), (2, _), (3, _), (4, _), (16, _), (46, _), (61, _), (91, _)] ⟨rfl, rfl, rfl, rfl, rfl, rfl, rfl, rfl, rfl, trivial⟩ ?_
                                  refine At.go ?_
                                  refine Sc.cond_t rfl ?_
                                  refine Sc.seq ?_
                                  refine Sc.region ?_
                                  refine Sl.calm (Cm.assign rfl) rfl ?_
                                  refine Sl.nil ?_
                                  refine At.go ?_
                                  refine Sc.ret ?_
                                  refine At.then_ret ?_
                                  refine At.ret1 rfl rfl ?_
                                  first
                                    | exact no _ (fun hm => by have := hm.1; omega) hf1
                                    | exact no _ (fun hm => by rw [hm.2.1] at h15; cases h15) hf1
                                    | exact no _ (fun hm => by have h3 := hm.2.2.1; have h4 := hm.2.2.2.1; have h5 := hm.2.2.2.2.1; omega) hF3
                                    | exact no _ (fun hm => hm.2.2.2.2.2.1.elim (fun e => h49 e) (fun e => by have := congrArg List.length e; have e0 : ([] : List UInt8).length = 0 := rfl; omega)) hF3
                                    | exact no _ (fun hm => by have := hm.2.2.2.2.2.2.1; omega) hF3
                                    | exact no _ (fun hm => by have m := hm.2.2.2.2.2.2.2.1; unfold okT at m; rw [if_neg h67] at m; exact h71 m) hF3
                                    | exact absurd h76 h67
                                    | exact absurd (Classical.not_not.1 h67) h76
                                    | exact no _ (fun hm => by have m := hm.2.2.2.2.2.2.2.1; unfold okT at m; rw [if_pos h76] at m; exact m.1 h80) hF3
                                    | exact no _ (fun hm => by have m := hm.2.2.2.2.2.2.2.1; unfold okT at m; rw [if_pos h76] at m; have := m.2.1; omega) hF3
                                    | exact no _ (fun hm => by have m := hm.2.2.2.2.2.2.2.1; unfold okT at m; rw [if_pos h76] at m; exact m.2.2 h64) hF3
                                    | refine yes _ ?_ (hF3.trans hf6)
                                      have k1 : p.2.kind = 2 ∨ p.2.data = [] := by
                                        first
                                          | exact .inl (Classical.not_not.1 h49)
                                          | exact .inr (List.length_eq_zero_iff.1 (by omega))
                                      have k2 : okT p.2 := by
                                        unfold okT
                                        first
                                          | (rw [if_neg h67]; exact Classical.not_not.1 h71)
                                          | (rw [if_pos h76]; exact ⟨h80, by omega, h64⟩)
                                      exact ⟨fun hm => hm.2.2.2.2.2.2.2.2, fun hx => ⟨by omega, by simpa using h15, by omega, by omega, by omega, k1, by omega, k2, hx⟩⟩
                                ·
                                  refine Sl.want rfl rfl (Cm.pick_f rfl rfl) rfl ?_
                                  refine Sl.want rfl rfl (Cm.move rfl) rfl ?_
                                  refine Sl.want rfl rfl (Cm.move rfl) rfl ?_
                                  refine Sl.want rfl rfl (Cm.pick_f rfl rfl) rfl ?_
                                  refine Sl.want rfl rfl (Cm.pick_t rfl rfl) rfl ?_
                                  refine Sl.calm (Cm.pick_f rfl rfl) rfl ?_
                                  refine Sl.nil ?_
                                  refine At.weak [(0, _), (1, _), (2, _), (3, _), (4, _), (16, _), (46, _), (61, _), (91, _)] ⟨rfl, rfl, rfl, rfl, rfl, rfl, rfl, rfl, rfl, trivial⟩ ?_
                                  refine At.go ?_
                                  refine Sc.cond_t rfl ?_
                                  refine Sc.seq ?_
                                  refine Sc.region ?_
                                  refine Sl.calm (Cm.assign rfl) rfl ?_
                                  refine Sl.nil ?_
                                  refine At.go ?_
                                  refine Sc.ret ?_
                                  refine At.then_ret ?_
                                  refine At.ret1 rfl rfl ?_
                                  first
                                    | exact no _ (fun hm => by have := hm.1; omega) hf1
                                    | exact no _ (fun hm => by rw [hm.2.1] at h15; cases h15) hf1
                                    | exact no _ (fun hm => by have h3 := hm.2.2.1; have h4 := hm.2.2.2.1; have h5 := hm.2.2.2.2.1; omega) hF3
                                    | exact no _ (fun hm => hm.2.2.2.2.2.1.elim (fun e => h49 e) (fun e => by have := congrArg List.length e; have e0 : ([] : List UInt8).length = 0 := rfl; omega)) hF3
                                    | exact no _ (fun hm => by have := hm.2.2.2.2.2.2.1; omega) hF3
                                    | exact no _ (fun hm => by have m := hm.2.2.2.2.2.2.2.1; unfold okT at m; rw [if_neg h67] at m; exact h71 m) hF3
                                    | exact absurd h76 h67
                                    | exact absurd (Classical.not_not.1 h67) h76
                                    | exact no _ (fun hm => by have m := hm.2.2.2.2.2.2.2.1; unfold okT at m; rw [if_pos h76] at m; exact m.1 h80) hF3
                                    | exact no _ (fun hm => by have m := hm.2.2.2.2.2.2.2.1; unfold okT at m; rw [if_pos h76] at m; have := m.2.1; omega) hF3
                                    | exact no _ (fun hm => by have m := hm.2.2.2.2.2.2.2.1; unfold okT at m; rw [if_pos h76] at m; exact m.2.2 h64) hF3
                                    | refine yes _ ?_ (hF3.trans hf6)
                                      have k1 : p.2.kind = 2 ∨ p.2.data = [] := by
                                        first
                                          | exact .inl (Classical.not_not.1 h49)
                                          | exact .inr (List.length_eq_zero_iff.1 (by omega))
                                      have k2 : okT p.2 := by
                                        unfold okT
                                        first
                                          | (rw [if_neg h67]; exact Classical.not_not.1 h71)
                                          | (rw [if_pos h76]; exact ⟨h80, by omega, h64⟩)
                                      exact ⟨fun hm => hm.2.2.2.2.2.2.2.2, fun hx => ⟨by omega, by simpa using h15, by omega, by omega, by omega, k1, by omega, k2, hx⟩⟩
                            ·
                              refine Sl.want rfl rfl (Cm.move rfl) rfl ?_
                              refine Sl.skip rfl rfl rfl rfl ?_
                              refine Sl.skip rfl rfl rfl rfl ?_
                              refine Sl.skip rfl rfl rfl rfl ?_
                              refine Sl.skip rfl rfl rfl rfl ?_
                              refine Sl.skip rfl rfl rfl rfl ?_
                              refine Sl.skip rfl rfl rfl rfl ?_
                              refine Sl.skip rfl rfl rfl rfl ?_
                              refine Sl.skip rfl rfl rfl rfl ?_
                              refine Sl.skip rfl rfl rfl rfl ?_
                              refine Sl.skip rfl rfl rfl rfl ?_
                              refine Sl.skip rfl rfl rfl rfl ?_
                              refine Sl.skip rfl rfl rfl rfl ?_
                              refine Sl.want rfl rfl (Cm.pick_f rfl rfl) rfl ?_
                              refine Sl.calm (Cm.pick_f rfl rfl) rfl ?_
                              refine Sl.nil ?_
                              refine At.weak [(0, _), (1, _), (2, _), (3, _), (4, _), (16, _), (46, _), (61, _), (91, _)] ⟨rfl, rfl, rfl, rfl, rfl, rfl, rfl, rfl, rfl, trivial⟩ ?_
                              refine At.go ?_
                              refine Sc.cond_f rfl ?_
                              refine Sc.skip ?_
                              refine At.go ?_
                              refine Sc.seq ?_
                              refine Sc.region ?_
                              refine Sl.calm (Cm.field fld35_6 rfl) rfl ?_
                              refine Sl.calm (Cm.ld sca33 rfl (cellF hg4 rfl)) rfl ?_
                              refine Sl.call fn55 rfl ((by show Calls _ _ [Value.slice p.1.xs.a p.1.xs.n p.1.xs.c].toArray _ _; rw [hn3.2.2.1]; exact rmayX_ok _ _ _ w5 (hn3.2.2.xav hsm.2.2))) rfl ?_
                              rintro _ w6 ⟨rfl, hf6⟩
                              refine Sl.calm (Cm.assign rfl) rfl ?_
                              refine Sl.nil ?_
                              refine At.weak [(0, _), (1, _), (2, _), (3, _), (4, _), (16, _), (46, _), (61, _), (91, _)] ⟨rfl, rfl, rfl, rfl, rfl, rfl, rfl, rfl, rfl, trivial⟩ ?_
                              refine At.go ?_
                              refine Sc.ret ?_
                              refine At.ret1 rfl rfl ?_
                              first
                                | exact no _ (fun hm => by have := hm.1; omega) hf1
                                | exact no _ (fun hm => by rw [hm.2.1] at h15; cases h15) hf1
                                | exact no _ (fun hm => by have h3 := hm.2.2.1; have h4 := hm.2.2.2.1; have h5 := hm.2.2.2.2.1; omega) hF3
                                | exact no _ (fun hm => hm.2.2.2.2.2.1.elim (fun e => h49 e) (fun e => by have := congrArg List.length e; have e0 : ([] : List UInt8).length = 0 := rfl; omega)) hF3
                                | exact no _ (fun hm => by have := hm.2.2.2.2.2.2.1; omega) hF3
                                | exact no _ (fun hm => by have m := hm.2.2.2.2.2.2.2.1; unfold okT at m; rw [if_neg h67] at m; exact h71 m) hF3
                                | exact absurd h76 h67
                                | exact absurd (Classical.not_not.1 h67) h76
                                | exact no _ (fun hm => by have m := hm.2.2.2.2.2.2.2.1; unfold okT at m; rw [if_pos h76] at m; exact m.1 h80) hF3
                                | exact no _ (fun hm => by have m := hm.2.2.2.2.2.2.2.1; unfold okT at m; rw [if_pos h76] at m; have := m.2.1; omega) hF3
                                | exact no _ (fun hm => by have m := hm.2.2.2.2.2.2.2.1; unfold okT at m; rw [if_pos h76] at m; exact m.2.2 h64) hF3
                                | refine yes _ ?_ (hF3.trans hf6)
                                  have k1 : p.2.kind = 2 ∨ p.2.data = [] := by
                                    first
                                      | exact .inl (Classical.not_not.1 h49)
                                      | exact .inr (List.length_eq_zero_iff.1 (by omega))
                                  have k2 : okT p.2 := by
                                    unfold okT
                                    first
                                      | (rw [if_neg h67]; exact Classical.not_not.1 h71)
                                      | (rw [if_pos h76]; exact ⟨h80, by omega, h64⟩)
                                  exact ⟨fun hm => hm.2.2.2.2.2.2.2.2, fun hx => ⟨by omega, by simpa using h15, by omega, by omega, by omega, k1, by omega, k2, hx⟩⟩
                        ·
                          rw [decide_eq_false h64]
                          refine Sl.calm (Cm.assign rfl) rfl ?_
                          refine Sl.nil ?_
                          refine At.weak [(0, _), (1, _), (2, _), (3, _), (4, _), (16, _), (46, _), (61, _)] ⟨rfl, rfl, rfl, rfl, rfl, rfl, rfl, rfl, trivial⟩ ?_
                          refine At.go ?_
                          refine Sc.seq ?_
                          refine Sc.seq ?_
                          refine Sc.region ?_
                          refine Sl.calm (Cm.field fld35_2 rfl) rfl ?_
                          refine Sl.calm (Cm.ld sca3 rfl (cellF hg4 rfl)) rfl ?_
                          refine Sl.fork (Cm.neq rfl rfl) rfl (fun h67 => ?_) (fun h67 => ?_)
                          ·
                            refine Sl.calm (Cm.move rfl) rfl ?_
                            refine Sl.want rfl rfl (Cm.field fld35_5 rfl) rfl ?_
                            refine Sl.want rfl rfl (Cm.ld sca9 rfl (cellF hg4 rfl)) rfl ?_
                            refine Sl.forkWant rfl rfl (Cm.neqBs rfl rfl) rfl (fun h71 => ?_) (fun h71 => ?_)
                            ·
                              refine Sl.calm (Cm.pick_t rfl rfl) rfl ?_
                              refine Sl.calm (Cm.move rfl) rfl ?_
                              refine Sl.skip rfl rfl rfl rfl ?_
                              refine Sl.skip rfl rfl rfl rfl ?_
                              refine Sl.skip rfl rfl rfl rfl ?_
                              refine Sl.skip rfl rfl rfl rfl ?_
                              refine Sl.skip rfl rfl rfl rfl ?_
                              refine Sl.skip rfl rfl rfl rfl ?_
                              refine Sl.skip rfl rfl rfl rfl ?_
                              refine Sl.skip rfl rfl rfl rfl ?_
                              refine Sl.skip rfl rfl rfl rfl ?_
                              refine Sl.skip rfl rfl rfl rfl ?_
                              refine Sl.skip rfl rfl rfl rfl ?_
                              refine Sl.skip rfl rfl rfl rfl ?_
                              refine Sl.skip rfl rfl rfl rfl ?_
                              refine Sl.skip rfl rfl rfl rfl ?_
                              refine Sl.skip rfl rfl rfl rfl ?_
                              refine Sl.skip rfl rfl rfl rfl ?_
                              refine Sl.skip rfl rfl rfl rfl ?_
                              refine Sl.calm (Cm.pick_t rfl rfl) rfl ?_
                              refine Sl.nil ?_
                              refine At.weak [(0, _), (1, _), (2, _), (3, _), (4, _), (16, _), (46, _), (61, _), (91, _)] ⟨rfl, rfl, rfl, rfl, rfl, rfl, rfl, rfl, rfl, trivial⟩ ?_
                              refine At.go ?_
                              refine Sc.cond_t rfl ?_
                              refine Sc.seq ?_
                              refine Sc.region ?_
                              refine Sl.calm (Cm.assign rfl) rfl ?_
                              refine Sl.nil ?_
                              refine At.go ?_
                              refine Sc.ret ?_
                              refine At.then_ret ?_
                              refine At.ret1 rfl rfl ?_
                              first
                                | exact no _ (fun hm => by have := hm.1; omega) hf1
                                | exact no _ (fun hm => by rw [hm.2.1] at h15; cases h15) hf1
                                | exact no _ (fun hm => by have h3 := hm.2.2.1; have h4 := hm.2.2.2.1; have h5 := hm.2.2.2.2.1; omega) hF3
                                | exact no _ (fun hm => hm.2.2.2.2.2.1.elim (fun e => h49 e) (fun e => by have := congrArg List.length e; have e0 : ([] : List UInt8).length = 0 := rfl; omega)) hF3
                                | exact no _ (fun hm => by have := hm.2.2.2.2.2.2.1; omega) hF3
                                | exact no _ (fun hm => by have m := hm.2.2.2.2.2.2.2.1; unfold okT at m; rw [if_neg h67] at m; exact h71 m) hF3
                                | exact absurd h76 h67
                                | exact absurd (Classical.not_not.1 h67) h76
                                | exact no _ (fun hm => by have m := hm.2.2.2.2.2.2.2.1; unfold okT at m; rw [if_pos h76] at m; exact m.1 h80) hF3
                                | exact no _ (fun hm => by have m := hm.2.2.2.2.2.2.2.1; unfold okT at m; rw [if_pos h76] at m; have := m.2.1; omega) hF3
                                | exact no _ (fun hm => by have m := hm.2.2.2.2.2.2.2.1; unfold okT at m; rw [if_pos h76] at m; exact m.2.2 h64) hF3
                                | refine yes _ ?_ (hF3.trans hf6)
                                  have k1 : p.2.kind = 2 ∨ p.2.data = [] := by
                                    first
                                      | exact .inl (Classical.not_not.1 h49)
                                      | exact .inr (List.length_eq_zero_iff.1 (by omega))
                                  have k2 : okT p.2 := by
                                    unfold okT
                                    first
                                      | (rw [if_neg h67]; exact Classical.not_not.1 h71)
                                      | (rw [if_pos h76]; exact ⟨h80, by omega, h64⟩)
                                  exact ⟨fun hm => hm.2.2.2.2.2.2.2.2, fun hx => ⟨by omega, by simpa using h15, by omega, by omega, by omega, k1, by omega, k2, hx⟩⟩
                            ·
                              refine Sl.calm (Cm.pick_t rfl rfl) rfl ?_
                              refine Sl.calm (Cm.move rfl) rfl ?_
                              refine Sl.want rfl rfl (Cm.field fld35_2 rfl) rfl ?_
                              refine Sl.want rfl rfl (Cm.ld sca3 rfl (cellF hg4 rfl)) rfl ?_
                              refine Sl.forkWant rfl rfl (Cm.eql rfl rfl) rfl (fun h76 => ?_) (fun h76 => ?_)
                              ·
                                refine Sl.want rfl rfl (Cm.move rfl) rfl ?_
                                refine Sl.want rfl rfl (Cm.field fld35_5 rfl) rfl ?_
                                refine Sl.want rfl rfl (Cm.ld sca9 rfl (cellF hg4 rfl)) rfl ?_
                                refine Sl.forkWant rfl rfl (Cm.eqlBs rfl rfl) rfl (fun h80 => ?_) (fun h80 => ?_)
                                ·
                                  refine Sl.want rfl rfl (Cm.move rfl) rfl ?_
                                  refine Sl.skip rfl rfl rfl rfl ?_
                                  refine Sl.skip rfl rfl rfl rfl ?_
                                  refine Sl.skip rfl rfl rfl rfl ?_
                                  refine Sl.skip rfl rfl rfl rfl ?_
                                  refine Sl.want rfl rfl (Cm.pick_t rfl rfl) rfl ?_
                                  refine Sl.want rfl rfl (Cm.move rfl) rfl ?_
                                  refine Sl.skip rfl rfl rfl rfl ?_
                                  refine Sl.want rfl rfl (Cm.pick_t rfl rfl) rfl ?_
                                  refine Sl.want rfl rfl (Cm.pick_t rfl rfl) rfl ?_
                                  refine Sl.calm (Cm.pick_f rfl rfl) rfl ?_
                                  refine Sl.nil ?_
                                  refine At.weak [(0, _), (1, _), (2, _), (3, _), (4, _), (16, _), (46, _), (61, _), (91, _)] ⟨rfl, rfl, rfl, rfl, rfl, rfl, rfl, rfl, rfl, trivial⟩ ?_
                                  refine At.go ?_
                                  refine Sc.cond_t rfl ?_
                                  refine Sc.seq ?_
                                  refine Sc.region ?_
                                  refine Sl.calm (Cm.assign rfl) rfl ?_
                                  refine Sl.nil ?_
                                  refine At.go ?_
                                  refine Sc.ret ?_
                                  refine At.then_ret ?_
                                  refine At.ret1 rfl rfl ?_
                                  first
                                    | exact no _ (fun hm => by have := hm.1; omega) hf1
                                    | exact no _ (fun hm => by rw [hm.2.1] at h15; cases h15) hf1
                                    | exact no _ (fun hm => by have h3 := hm.2.2.1; have h4 := hm.2.2.2.1; have h5 := hm.2.2.2.2.1; omega) hF3
                                    | exact no _ (fun hm => hm.2.2.2.2.2.1.elim (fun e => h49 e) (fun e => by have := congrArg List.length e; have e0 : ([] : List UInt8).length = 0 := rfl; omega)) hF3
                                    | exact no _ (fun hm => by have := hm.2.2.2.2.2.2.1; omega) hF3
                                    | exact no _ (fun hm => by have m := hm.2.2.2.2.2.2.2.1; unfold okT at m; rw [if_neg h67] at m; exact h71 m) hF3
                                    | exact absurd h76 h67
                                    | exact absurd (Classical.not_not.1 h67) h76
                                    | exact no _ (fun hm => by have m := hm.2.2.2.2.2.2.2.1; unfold okT at m; rw [if_pos h76] at m; exact m.1 h80) hF3
                                    | exact no _ (fun hm => by have m := hm.2.2.2.2.2.2.2.1; unfold okT at m; rw [if_pos h76] at m; have := m.2.1; omega) hF3
                                    | exact no _ (fun hm => by have m := hm.2.2.2.2.2.2.2.1; unfold okT at m; rw [if_pos h76] at m; exact m.2.2 h64) hF3
                                    | refine yes _ ?_ (hF3.trans hf6)
                                      have k1 : p.2.kind = 2 ∨ p.2.data = [] := by
                                        first
                                          | exact .inl (Classical.not_not.1 h49)
                                          | exact .inr (List.length_eq_zero_iff.1 (by omega))
                                      have k2 : okT p.2 := by
                                        unfold okT
                                        first
                                          | (rw [if_neg h67]; exact Classical.not_not.1 h71)
                                          | (rw [if_pos h76]; exact ⟨h80, by omega, h64⟩)
                                      exact ⟨fun hm => hm.2.2.2.2.2.2.2.2, fun hx => ⟨by omega, by simpa using h15, by omega, by omega, by omega, k1, by omega, k2, hx⟩⟩
                                ·
                                  refine Sl.want rfl rfl (Cm.move rfl) rfl ?_
                                  refine Sl.want rfl rfl (Cm.field fld35_5 rfl) rfl ?_
                                  refine Sl.want rfl rfl (Cm.ld sca9 rfl (cellF hg4 rfl)) rfl ?_
                                  refine Sl.want rfl rfl (Cm.lenBs ty9 rfl) rfl ?_
                                  refine Sl.forkWant rfl rfl (Cm.gtr rfl rfl) rfl (fun h85 => ?_) (fun h85 => ?_)
                                  ·
                                    refine Sl.want rfl rfl (Cm.pick_f rfl rfl) rfl ?_
                                    refine Sl.want rfl rfl (Cm.move rfl) rfl ?_
                                    refine Sl.skip rfl rfl rfl rfl ?_
                                    refine Sl.want rfl rfl (Cm.pick_t rfl rfl) rfl ?_
                                    refine Sl.want rfl rfl (Cm.pick_t rfl rfl) rfl ?_
                                    refine Sl.calm (Cm.pick_f rfl rfl) rfl ?_
                                    refine Sl.nil ?_
                                    refine At.weak [(0, _), (1, _), (2, _), (3, _), (4, _), (16, _), (46, _), (61, _), (91, _)] ⟨rfl, rfl, rfl, rfl, rfl, rfl, rfl, rfl, rfl, trivial⟩ ?_
                                    refine At.go ?_
                                    refine Sc.cond_t rfl ?_
                                    refine Sc.seq ?_
                                    refine Sc.region ?_
                                    refine Sl.calm (Cm.assign rfl) rfl ?_
                                    refine Sl.nil ?_
                                    refine At.go ?_
                                    refine Sc.ret ?_
                                    refine At.then_ret ?_
                                    refine At.ret1 rfl rfl ?_
                                    first
                                      | exact no _ (fun hm => by have := hm.1; omega) hf1
                                      | exact no _ (fun hm => by rw [hm.2.1] at h15; cases h15) hf1
                                      | exact no _ (fun hm => by have h3 := hm.2.2.1; have h4 := hm.2.2.2.1; have h5 := hm.2.2.2.2.1; omega) hF3
                                      | exact no _ (fun hm => hm.2.2.2.2.2.1.elim (fun e => h49 e) (fun e => by have := congrArg List.length e; have e0 : ([] : List UInt8).length = 0 := rfl; omega)) hF3
                                      | exact no _ (fun hm => by have := hm.2.2.2.2.2.2.1; omega) hF3
                                      | exact no _ (fun hm => by have m := hm.2.2.2.2.2.2.2.1; unfold okT at m; rw [if_neg h67] at m; exact h71 m) hF3
                                      | exact absurd h76 h67
                                      | exact absurd (Classical.not_not.1 h67) h76
                                      | exact no _ (fun hm => by have m := hm.2.2.2.2.2.2.2.1; unfold okT at m; rw [if_pos h76] at m; exact m.1 h80) hF3
                                      | exact no _ (fun hm => by have m := hm.2.2.2.2.2.2.2.1; unfold okT at m; rw [if_pos h76] at m; have := m.2.1; omega) hF3
                                      | exact no _ (fun hm => by have m := hm.2.2.2.2.2.2.2.1; unfold okT at m; rw [if_pos h76] at m; exact m.2.2 h64) hF3
                                      | refine yes _ ?_ (hF3.trans hf6)
                                        have k1 : p.2.kind = 2 ∨ p.2.data = [] := by
                                          first
                                            | exact .inl (Classical.not_not.1 h49)
                                            | exact .inr (List.length_eq_zero_iff.1 (by omega))
                                        have k2 : okT p.2 := by
                                          unfold okT
                                          first
                                            | (rw [if_neg h67]; exact Classical.not_not.1 h71)
                                            | (rw [if_pos h76]; exact ⟨h80, by omega, h64⟩)
                                        exact ⟨fun hm => hm.2.2.2.2.2.2.2.2, fun hx => ⟨by omega, by simpa using h15, by omega, by omega, by omega, k1, by omega, k2, hx⟩⟩
                                  ·
                                    refine Sl.want rfl rfl (Cm.pick_f rfl rfl) rfl ?_
                                    refine Sl.want rfl rfl (Cm.move rfl) rfl ?_
                                    refine Sl.want rfl rfl (Cm.move rfl) rfl ?_
                                    refine Sl.want rfl rfl (Cm.pick_f rfl rfl) rfl ?_
                                    refine Sl.want rfl rfl (Cm.pick_t rfl rfl) rfl ?_
                                    refine Sl.calm (Cm.pick_f rfl rfl) rfl ?_
                                    refine Sl.nil ?_
                                    refine At.weak [(0, _), (1, _), (2, _), (3, _), (4, _), (16, _), (46, _), (61, _), (91, _)] ⟨rfl, rfl, rfl, rfl, rfl, rfl, rfl, rfl, rfl, trivial⟩ ?_
                                    refine At.go ?_
                                    refine Sc.cond_f rfl ?_
                                    refine Sc.skip ?_
                                    refine At.go ?_
                                    refine Sc.seq ?_
                                    refine Sc.region ?_
                                    refine Sl.calm (Cm.field fld35_6 rfl) rfl ?_
                                    refine Sl.calm (Cm.ld sca33 rfl (cellF hg4 rfl)) rfl ?_
                                    refine Sl.call fn55 rfl ((by show Calls _ _ [Value.slice p.1.xs.a p.1.xs.n p.1.xs.c].toArray _ _; rw [hn3.2.2.1]; exact rmayX_ok _ _ _ w5 (hn3.2.2.xav hsm.2.2))) rfl ?_
                                    rintro _ w6 ⟨rfl, hf6⟩
                                    refine Sl.calm (Cm.assign rfl) rfl ?_
                                    refine Sl.nil ?_
                                    refine At.weak [(0, _), (1, _), (2, _), (3, _), (4, _), (16, _), (46, _), (61, _), (91, _)] ⟨rfl, rfl, rfl, rfl, rfl, rfl, rfl, rfl, rfl, trivial⟩ ?_
                                    refine At.go ?_
                                    refine Sc.ret ?_
                                    refine At.ret1 rfl rfl ?_
                                    first
                                      | exact no _ (fun hm => by have := hm.1; omega) hf1
                                      | exact no _ (fun hm => by rw [hm.2.1] at h15; cases h15) hf1
                                      | exact no _ (fun hm => by have h3 := hm.2.2.1; have h4 := hm.2.2.2.1; have h5 := hm.2.2.2.2.1; omega) hF3
                                      | exact no _ (fun hm => hm.2.2.2.2.2.1.elim (fun e => h49 e) (fun e => by have := congrArg List.length e; have e0 : ([] : List UInt8).length = 0 := rfl; omega)) hF3
                                      | exact no _ (fun hm => by have := hm.2.2.2.2.2.2.1; omega) hF3
                                      | exact no _ (fun hm => by have m := hm.2.2.2.2.2.2.2.1; unfold okT at m; rw [if_neg h67] at m; exact h71 m) hF3
                                      | exact absurd h76 h67
                                      | exact absurd (Classical.not_not.1 h67) h76
                                      | exact no _ (fun hm => by have m := hm.2.2.2.2.2.2.2.1; unfold okT at m; rw [if_pos h76] at m; exact m.1 h80) hF3
                                      | exact no _ (fun hm => by have m := hm.2.2.2.2.2.2.2.1; unfold okT at m; rw [if_pos h76] at m; have := m.2.1; omega) hF3
                                      | exact no _ (fun hm => by have m := hm.2.2.2.2.2.2.2.1; unfold okT at m; rw [if_pos h76] at m; exact m.2.2 h64) hF3
                                      | refine yes _ ?_ (hF3.trans hf6)
                                        have k1 : p.2.kind = 2 ∨ p.2.data = [] := by
                                          first
                                            | exact .inl (Classical.not_not.1 h49)
                                            | exact .inr (List.length_eq_zero_iff.1 (by omega))
                                        have k2 : okT p.2 := by
                                          unfold okT
                                          first
                                            | (rw [if_neg h67]; exact Classical.not_not.1 h71)
                                            | (rw [if_pos h76]; exact ⟨h80, by omega, h64⟩)
                                        exact ⟨fun hm => hm.2.2.2.2.2.2.2.2, fun hx => ⟨by omega, by simpa using h15, by omega, by omega, by omega, k1, by omega, k2, hx⟩⟩
                              ·
                                refine Sl.want rfl rfl (Cm.move rfl) rfl ?_
                                refine Sl.skip rfl rfl rfl rfl ?_
                                refine Sl.skip rfl rfl rfl rfl ?_
                                refine Sl.skip rfl rfl rfl rfl ?_
                                refine Sl.skip rfl rfl rfl rfl ?_
                                refine Sl.skip rfl rfl rfl rfl ?_
                                refine Sl.skip rfl rfl rfl rfl ?_
                                refine Sl.skip rfl rfl rfl rfl ?_
                                refine Sl.skip rfl rfl rfl rfl ?_
                                refine Sl.skip rfl rfl rfl rfl ?_
                                refine Sl.skip rfl rfl rfl rfl ?_
                                refine Sl.skip rfl rfl rfl rfl ?_
                                refine Sl.skip rfl rfl rfl rfl ?_
                                refine Sl.want rfl rfl (Cm.pick_f rfl rfl) rfl ?_
                                refine Sl.calm (Cm.pick_f rfl rfl) rfl ?_
                                refine Sl.nil ?_
                                refine At.weak [(0, _), (1, _), (2, _), (3, _), (4, _), (16, _), (46, _), (61, _), (91, _)] ⟨rfl, rfl, rfl, rfl, rfl, rfl, rfl, rfl, rfl, trivial⟩ ?_
                                refine At.go ?_
                                refine Sc.cond_f rfl ?_
                                refine Sc.skip ?_
                                refine At.go ?_
                                refine Sc.seq ?_
                                refine Sc.region ?_
                                refine Sl.calm (Cm.field fld35_6 rfl) rfl ?_
                                refine Sl.calm (Cm.ld sca33 rfl (cellF hg4 rfl)) rfl ?_
                                refine Sl.call fn55 rfl ((by show Calls _ _ [Value.slice p.1.xs.a p.1.xs.n p.1.xs.c].toArray _ _; rw [hn3.2.2.1]; exact rmayX_ok _ _ _ w5 (hn3.2.2.xav hsm.2.2))) rfl ?_
                                rintro _ w6 ⟨rfl, hf6⟩
                                refine Sl.calm (Cm.assign rfl) rfl ?_
                                refine Sl.nil ?_
                                refine At.weak [(0, _), (1, _), (2, _), (3, _), (4, _), (16, _), (46, _), (61, _), (91, _)] ⟨rfl, rfl, rfl, rfl, rfl, rfl, rfl, rfl, rfl, trivial⟩ ?_
                                refine At.go ?_
                                refine Sc.ret ?_
                                refine At.ret1 rfl rfl ?_
                                first
                                  | exact no _ (fun hm => by have := hm.1; omega) hf1
                                  | exact no _ (fun hm => by rw [hm.2.1] at h15; cases h15) hf1
                                  | exact no _ (fun hm => by have h3 := hm.2.2.1; have h4 := hm.2.2.2.1; have h5 := hm.2.2.2.2.1; omega) hF3
                                  | exact no _ (fun hm => hm.2.2.2.2.2.1.elim (fun e => h49 e) (fun e => by have := congrArg List.length e; have e0 : ([] : List UInt8).length = 0 := rfl; omega)) hF3
                                  | exact no _ (fun hm => by have := hm.2.2.2.2.2.2.1; omega) hF3
                                  | exact no _ (fun hm => by have m := hm.2.2.2.2.2.2.2.1; unfold okT at m; rw [if_neg h67] at m; exact h71 m) hF3
                                  | exact absurd h76 h67
                                  | exact absurd (Classical.not_not.1 h67) h76
                                  | exact no _ (fun hm => by have m := hm.2.2.2.2.2.2.2.1; unfold okT at m; rw [if_pos h76] at m; exact m.1 h80) hF3
                                  | exact no _ (fun hm => by have m := hm.2.2.2.2.2.2.2.1; unfold okT at m; rw [if_pos h76] at m; have := m.2.1; omega) hF3
                                  | exact no _ (fun hm => by have m := hm.2.2.2.2.2.2.2.1; unfold okT at m; rw [if_pos h76] at m; exact m.2.2 h64) hF3
                                  | refine yes _ ?_ (hF3.trans hf6)
                                    have k1 : p.2.kind = 2 ∨ p.2.data = [] := by
                                      first
                                        | exact .inl (Classical.not_not.1 h49)
                                        | exact .inr (List.length_eq_zero_iff.1 (by omega))
                                    have k2 : okT p.2 := by
                                      unfold okT
                                      first
                                        | (rw [if_neg h67]; exact Classical.not_not.1 h71)
                                        | (rw [if_pos h76]; exact ⟨h80, by omega, h64⟩)
                                    exact ⟨fun hm => hm.2.2.2.2.2.2.2.2, fun hx => ⟨by omega, by simpa using h15, by omega, by omega, by omega, k1, by omega, k2, hx⟩⟩
                          ·
                            refine Sl.calm (Cm.move rfl) rfl ?_
                            refine Sl.skip rfl rfl rfl rfl ?_
                            refine Sl.skip rfl rfl rfl rfl ?_
                            refine Sl.skip rfl rfl rfl rfl ?_
                            refine Sl.calm (Cm.pick_f rfl rfl) rfl ?_
                            refine Sl.calm (Cm.move rfl) rfl ?_
                            refine Sl.want rfl rfl (Cm.field fld35_2 rfl) rfl ?_
                            refine Sl.want rfl rfl (Cm.ld sca3 rfl (cellF hg4 rfl)) rfl ?_
                            refine Sl.forkWant rfl rfl (Cm.eql rfl rfl) rfl (fun h76 => ?_) (fun h76 => ?_)
                            ·
                              refine Sl.want rfl rfl (Cm.move rfl) rfl ?_
                              refine Sl.want rfl rfl (Cm.field fld35_5 rfl) rfl ?_
                              refine Sl.want rfl rfl (Cm.ld sca9 rfl (cellF hg4 rfl)) rfl ?_
                              refine Sl.forkWant rfl rfl (Cm.eqlBs rfl rfl) rfl (fun h80 => ?_) (fun h80 => ?_)
                              ·
                                refine Sl.want rfl rfl (Cm.move rfl) rfl ?_
                                refine Sl.skip rfl rfl rfl rfl ?_
                                refine Sl.skip rfl rfl rfl rfl ?_
                                refine Sl.skip rfl rfl rfl rfl ?_
                                refine Sl.skip rfl rfl rfl rfl ?_
                                refine Sl.want rfl rfl (Cm.pick_t rfl rfl) rfl ?_
                                refine Sl.want rfl rfl (Cm.move rfl) rfl ?_
                                refine Sl.skip rfl rfl rfl rfl ?_
                                refine Sl.want rfl rfl (Cm.pick_t rfl rfl) rfl ?_
                                refine Sl.want rfl rfl (Cm.pick_t rfl rfl) rfl ?_
                                refine Sl.calm (Cm.pick_f rfl rfl) rfl ?_
                                refine Sl.nil ?_
                                refine At.weak [(0, _), (1, _), (2, _), (3, _), (4, _), (16, _), (46, _), (61, _), (91, _)] ⟨rfl, rfl, rfl, rfl, rfl, rfl, rfl, rfl, rfl, trivial⟩ ?_
                                refine At.go ?_
                                refine Sc.cond_t rfl ?_
                                refine Sc.seq ?_
                                refine Sc.region ?_
                                refine Sl.calm (Cm.assign rfl) rfl ?_
                                refine Sl.nil ?_
                                refine At.go ?_
                                refine Sc.ret ?_
                                refine At.then_ret ?_
                                refine At.ret1 rfl rfl ?_
                                first
                                  | exact no _ (fun hm => by have := hm.1; omega) hf1
                                  | exact no _ (fun hm => by rw [hm.2.1] at h15; cases h15) hf1
                                  | exact no _ (fun hm => by have h3 := hm.2.2.1; have h4 := hm.2.2.2.1; have h5 := hm.2.2.2.2.1; omega) hF3
                                  | exact no _ (fun hm => hm.2.2.2.2.2.1.elim (fun e => h49 e) (fun e => by have := congrArg List.length e; have e0 : ([] : List UInt8).length = 0 := rfl; omega)) hF3
                                  | exact no _ (fun hm => by have := hm.2.2.2.2.2.2.1; omega) hF3
                                  | exact no _ (fun hm => by have m := hm.2.2.2.2.2.2.2.1; unfold okT at m; rw [if_neg h67] at m; exact h71 m) hF3
                                  | exact absurd h76 h67
                                  | exact absurd (Classical.not_not.1 h67) h76
                                  | exact no _ (fun hm => by have m := hm.2.2.2.2.2.2.2.1; unfold okT at m; rw [if_pos h76] at m; exact m.1 h80) hF3
                                  | exact no _ (fun hm => by have m := hm.2.2.2.2.2.2.2.1; unfold okT at m; rw [if_pos h76] at m; have := m.2.1; omega) hF3
                                  | exact no _ (fun hm => by have m := hm.2.2.2.2.2.2.2.1; unfold okT at m; rw [if_pos h76] at m; exact m.2.2 h64) hF3
                                  | refine yes _ ?_ (hF3.trans hf6)
                                    have k1 : p.2.kind = 2 ∨ p.2.data = [] := by
                                      first
                                        | exact .inl (Classical.not_not.1 h49)
                                        | exact .inr (List.length_eq_zero_iff.1 (by omega))
                                    have k2 : okT p.2 := by
                                      unfold okT
                                      first
                                        | (rw [if_neg h67]; exact Classical.not_not.1 h71)
                                        | (rw [if_pos h76]; exact ⟨h80, by omega, h64⟩)
                                    exact ⟨fun hm => hm.2.2.2.2.2.2.2.2, fun hx => ⟨by omega, by simpa using h15, by omega, by omega, by omega, k1, by omega, k2, hx⟩⟩
                              ·
                                refine Sl.want rfl rfl (Cm.move rfl) rfl ?_
                                refine Sl.want rfl rfl (Cm.field fld35_5 rfl) rfl ?_
                                refine Sl.want rfl rfl (Cm.ld sca9 rfl (cellF hg4 rfl)) rfl ?_
                                refine Sl.want rfl rfl (Cm.lenBs ty9 rfl) rfl ?_
                                refine Sl.forkWant rfl rfl (Cm.gtr rfl rfl) rfl (fun h85 => ?_) (fun h85 => ?_)
                                ·
                                  refine Sl.want rfl rfl (Cm.pick_f rfl rfl) rfl ?_
                                  refine Sl.want rfl rfl (Cm.move rfl) rfl ?_
                                  refine Sl.skip rfl rfl rfl rfl ?_
                                  refine Sl.want rfl rfl (Cm.pick_t rfl rfl) rfl ?_
                                  refine Sl.want rfl rfl (Cm.pick_t rfl rfl) rfl ?_
                                  refine Sl.calm (Cm.pick_f rfl rfl) rfl ?_
                                  refine Sl.nil ?_
                                  refine At.weak [(0, _), (1, _), (2, _), (3, _), (4, _), (16, _), (46, _), (61, _), (91, _)] ⟨rfl, rfl, rfl, rfl, rfl, rfl, rfl, rfl, rfl, trivial⟩ ?_
                                  refine At.go ?_
                                  refine Sc.cond_t rfl ?_
                                  refine Sc.seq ?_
                                  refine Sc.region ?_
                                  refine Sl.calm (Cm.assign rfl) rfl ?_
                                  refine Sl.nil ?_
                                  refine At.go ?_
                                  refine Sc.ret ?_
                                  refine At.then_ret ?_
                                  refine At.ret1 rfl rfl ?_
                                  first
                                    | exact no _ (fun hm => by have := hm.1; omega) hf1
                                    | exact no _ (fun hm => by rw [hm.2.1] at h15; cases h15) hf1
                                    | exact no _ (fun hm => by have h3 := hm.2.2.1; have h4 := hm.2.2.2.1; have h5 := hm.2.2.2.2.1; omega) hF3
                                    | exact no _ (fun hm => hm.2.2.2.2.2.1.elim (fun e => h49 e) (fun e => by have := congrArg List.length e; have e0 : ([] : List UInt8).length = 0 := rfl; omega)) hF3
                                    | exact no _ (fun hm => by have := hm.2.2.2.2.2.2.1; omega) hF3
                                    | exact no _ (fun hm => by have m := hm.2.2.2.2.2.2.2.1; unfold okT at m; rw [if_neg h67] at m; exact h71 m) hF3
                                    | exact absurd h76 h67
                                    | exact absurd (Classical.not_not.1 h67) h76
                                    | exact no _ (fun hm => by have m := hm.2.2.2.2.2.2.2.1; unfold okT at m; rw [if_pos h76] at m; exact m.1 h80) hF3
                                    | exact no _ (fun hm => by have m := hm.2.2.2.2.2.2.2.1; unfold okT at m; rw [if_pos h76] at m; have := m.2.1; omega) hF3
                                    | exact no _ (fun hm => by have m := hm.2.2.2.2.2.2.2.1; unfold okT at m; rw [if_pos h76] at m; exact m.2.2 h64) hF3
                                    | refine yes _ ?_ (hF3.trans hf6)
                                      have k1 : p.2.kind = 2 ∨ p.2.data = [] := by
                                        first
                                          | exact .inl (Classical.not_not.1 h49)
                                          | exact .inr (List.length_eq_zero_iff.1 (by omega))
                                      have k2 : okT p.2 := by
                                        unfold okT
                                        first
                                          | (rw [if_neg h67]; exact Classical.not_not.1 h71)
                                          | (rw [if_pos h76]; exact ⟨h80, by omega, h64⟩)
                                      exact ⟨fun hm => hm.2.2.2.2.2.2.2.2, fun hx => ⟨by omega, by simpa using h15, by omega, by omega, by omega, k1, by omega, k2, hx⟩⟩
                                ·
                                  refine Sl.want rfl rfl (Cm.pick_f rfl rfl) rfl ?_
                                  refine Sl.want rfl rfl (Cm.move rfl) rfl ?_
                                  refine Sl.want rfl rfl (Cm.move rfl) rfl ?_
                                  refine Sl.want rfl rfl (Cm.pick_f rfl rfl) rfl ?_
                                  refine Sl.want rfl rfl (Cm.pick_t rfl rfl) rfl ?_
                                  refine Sl.calm (Cm.pick_f rfl rfl) rfl ?_
                                  refine Sl.nil ?_
                                  refine At.weak [(0, _), (1, _), (2, _), (3, _), (4, _), (16, _), (46, _), (61, _), (91, _)] ⟨rfl, rfl, rfl, rfl, rfl, rfl, rfl, rfl, rfl, trivial⟩ ?_
                                  refine At.go ?_
                                  refine Sc.cond_f rfl ?_
                                  refine Sc.skip ?_
                                  refine At.go ?_
                                  refine Sc.seq ?_
                                  refine Sc.region ?_
                                  refine Sl.calm (Cm.field fld35_6 rfl) rfl ?_
                                  refine Sl.calm (Cm.ld sca33 rfl (cellF hg4 rfl)) rfl ?_
                                  refine Sl.call fn55 rfl ((by show Calls _ _ [Value.slice p.1.xs.a p.1.xs.n p.1.xs.c].toArray _ _; rw [hn3.2.2.1]; exact rmayX_ok _ _ _ w5 (hn3.2.2.xav hsm.2.2))) rfl ?_
                                  rintro _ w6 ⟨rfl, hf6⟩
                                  refine Sl.calm (Cm.assign rfl) rfl ?_
                                  refine Sl.nil ?_
                                  refine At.weak [(0, _), (1, _), (2, _), (3, _), (4, _), (16, _), (46, _), (61, _), (91, _)] ⟨rfl, rfl, rfl, rfl, rfl, rfl, rfl, rfl, rfl, trivial⟩ ?_
                                  refine At.go ?_
                                  refine Sc.ret ?_
                                  refine At.ret1 rfl rfl ?_
                                  first
                                    | exact no _ (fun hm => by have := hm.1; omega) hf1
                                    | exact no _ (fun hm => by rw [hm.2.1] at h15; cases h15) hf1
                                    | exact no _ (fun hm => by have h3 := hm.2.2.1; have h4 := hm.2.2.2.1; have h5 := hm.2.2.2.2.1; omega) hF3
                                    | exact no _ (fun hm => hm.2.2.2.2.2.1.elim (fun e => h49 e) (fun e => by have := congrArg List.length e; have e0 : ([] : List UInt8).length = 0 := rfl; omega)) hF3
                                    | exact no _ (fun hm => by have := hm.2.2.2.2.2.2.1; omega) hF3
                                    | exact no _ (fun hm => by have m := hm.2.2.2.2.2.2.2.1; unfold okT at m; rw [if_neg h67] at m; exact h71 m) hF3
                                    | exact absurd h76 h67
                                    | exact absurd (Classical.not_not.1 h67) h76
                                    | exact no _ (fun hm => by have m := hm.2.2.2.2.2.2.2.1; unfold okT at m; rw [if_pos h76] at m; exact m.1 h80) hF3
                                    | exact no _ (fun hm => by have m := hm.2.2.2.2.2.2.2.1; unfold okT at m; rw [if_pos h76] at m; have := m.2.1; omega) hF3
                                    | exact no _ (fun hm => by have m := hm.2.2.2.2.2.2.2.1; unfold okT at m; rw [if_pos h76] at m; exact m.2.2 h64) hF3
                                    | refine yes _ ?_ (hF3.trans hf6)
                                      have k1 : p.2.kind = 2 ∨ p.2.data = [] := by
                                        first
                                          | exact .inl (Classical.not_not.1 h49)
                                          | exact .inr (List.length_eq_zero_iff.1 (by omega))
                                      have k2 : okT p.2 := by
                                        unfold okT
                                        first
                                          | (rw [if_neg h67]; exact Classical.not_not.1 h71)
                                          | (rw [if_pos h76]; exact ⟨h80, by omega, h64⟩)
                                      exact ⟨fun hm => hm.2.2.2.2.2.2.2.2, fun hx => ⟨by omega, by simpa using h15, by omega, by omega, by omega, k1, by omega, k2, hx⟩⟩
                            ·
                              refine Sl.want rfl rfl (Cm.move rfl) rfl ?_
                              refine Sl.skip rfl rfl rfl rfl ?_
                              refine Sl.skip rfl rfl rfl rfl ?_
                              refine Sl.skip rfl rfl rfl rfl ?_
                              refine Sl.skip rfl rfl rfl rfl ?_
                              refine Sl.skip rfl rfl rfl rfl ?_
                              refine Sl.skip rfl rfl rfl rfl ?_
                              refine Sl.skip rfl rfl rfl rfl ?_
                              refine Sl.skip rfl rfl rfl rfl ?_
                              refine Sl.skip rfl rfl rfl rfl ?_
                              refine Sl.skip rfl rfl rfl rfl ?_
                              refine Sl.skip rfl rfl rfl rfl ?_
                              refine Sl.skip rfl rfl rfl rfl ?_
                              refine Sl.want rfl rfl (Cm.pick_f rfl rfl) rfl ?_
                              refine Sl.calm (Cm.pick_f rfl rfl) rfl ?_
                              refine Sl.nil ?_
                              refine At.weak [(0, _), (1, _), (2, _), (3, _), (4, _), (16, _), (46, _), (61, _), (91, _)] ⟨rfl, rfl, rfl, rfl, rfl, rfl, rfl, rfl, rfl, trivial⟩ ?_
                              refine At.go ?_
                              refine Sc.cond_f rfl ?_
                              refine Sc.skip ?_
                              refine At.go ?_
                              refine Sc.seq ?_
                              refine Sc.region ?_
                              refine Sl.calm (Cm.field fld35_6 rfl) rfl ?_
                              refine Sl.calm (Cm.ld sca33 rfl (cellF hg4 rfl)) rfl ?_
                              refine Sl.call fn55 rfl ((by show Calls _ _ [Value.slice p.1.xs.a p.1.xs.n p.1.xs.c].toArray _ _; rw [hn3.2.2.1]; exact rmayX_ok _ _ _ w5 (hn3.2.2.xav hsm.2.2))) rfl ?_
                              rintro _ w6 ⟨rfl, hf6⟩
                              refine Sl.calm (Cm.assign rfl) rfl ?_
                              refine Sl.nil ?_
                              refine At.weak [(0, _), (1, _), (2, _), (3, _), (4, _), (16, _), (46, _), (61, _), (91, _)] ⟨rfl, rfl, rfl, rfl, rfl, rfl, rfl, rfl, rfl, trivial⟩ ?_
                              refine At.go ?_
                              refine Sc.ret ?_
                              refine At.ret1 rfl rfl ?_
                              first
                                | exact no _ (fun hm => by have := hm.1; omega) hf1
                                | exact no _ (fun hm => by rw [hm.2.1] at h15; cases h15) hf1
                                | exact no _ (fun hm => by have h3 := hm.2.2.1; have h4 := hm.2.2.2.1; have h5 := hm.2.2.2.2.1; omega) hF3
                                | exact no _ (fun hm => hm.2.2.2.2.2.1.elim (fun e => h49 e) (fun e => by have := congrArg List.length e; have e0 : ([] : List UInt8).length = 0 := rfl; omega)) hF3
                                | exact no _ (fun hm => by have := hm.2.2.2.2.2.2.1; omega) hF3
                                | exact no _ (fun hm => by have m := hm.2.2.2.2.2.2.2.1; unfold okT at m; rw [if_neg h67] at m; exact h71 m) hF3
                                | exact absurd h76 h67
                                | exact absurd (Classical.not_not.1 h67) h76
                                | exact no _ (fun hm => by have m := hm.2.2.2.2.2.2.2.1; unfold okT at m; rw [if_pos h76] at m; exact m.1 h80) hF3
                                | exact no _ (fun hm => by have m := hm.2.2.2.2.2.2.2.1; unfold okT at m; rw [if_pos h76] at m; have := m.2.1; omega) hF3
                                | exact no _ (fun hm => by have m := hm.2.2.2.2.2.2.2.1; unfold okT at m; rw [if_pos h76] at m; exact m.2.2 h64) hF3
                                | refine yes _ ?_ (hF3.trans hf6)
                                  have k1 : p.2.kind = 2 ∨ p.2.data = [] := by
                                    first
                                      | exact .inl (Classical.not_not.1 h49)
                                      | exact .inr (List.length_eq_zero_iff.1 (by omega))
                                  have k2 : okT p.2 := by
                                    unfold okT
                                    first
                                      | (rw [if_neg h67]; exact Classical.not_not.1 h71)
                                      | (rw [if_pos h76]; exact ⟨h80, by omega, h64⟩)
                                  exact ⟨fun hm => hm.2.2.2.2.2.2.2.2, fun hx => ⟨by omega, by simpa using h15, by omega, by omega, by omega, k1, by omega, k2, hx⟩⟩
end Go.Proofs.Ytpamandneifemaa
/- tree: the reference's Alike and Check. No condition beyond the bounds that each states. -/
namespace Go.Proofs.Ytpamandneifemaa
open Go Go.RowKit
set_option linter.unusedVariables false

theorem opt_all {α : Type} {a b : List α} {k : Nat} (hl : a.length = b.length) (hk : a.length ≤ k) (h : ∀ j : Nat, j < k → a[j]? = b[j]?) : a = b := by
  apply List.ext_getElem?
  intro j
  by_cases hj : j < k
  · exact h j hj
  · rw [List.getElem?_eq_none (by omega), List.getElem?_eq_none (by omega)]
theorem XsV.at {D : Nat → Prop} {H : Array Obj} {h : Hd} {X : List Xa} {ys : List (List UInt8 × Hd)} (hl : ys.length = X.length) (hx : ∀ (i : Nat) (x : List UInt8 × Hd) (y : Xa), ys[i]? = some x → X[i]? = some y → x.1 = y.1 ∧ ByV D H x.2 y.2) {k : Nat} (hk : k < X.length) :
    ∃ (a : Xa) (b : Hd), X[k]? = some a ∧ ys[k]? = some (a.1, b) ∧ ByV D H b a.2 := by
  have h1 := List.getElem?_eq_getElem hk
  have h2 : ys[k]? = some ys[k] := List.getElem?_eq_getElem (by omega)
  obtain ⟨e, hb⟩ := hx k _ _ h2 h1
  refine ⟨X[k], (ys[k]).2, h1, ?_, hb⟩
  rw [h2, ← e]
variable {D : Nat → Prop}
set_option maxHeartbeats 4000000 in
theorem ralike_ok (p q : NdH × Nd) (W : World) (hp : NdV D W.heap p) (hq : NdV D W.heap q) :
    Calls Try.prog 19 [.agg (encN p).toArray, .agg (encN q).toArray].toArray W (Ret fun v w' => v = .bool (decide (Alk p.2 q.2)) ∧ Foot nob W w') := by
  have no : ∀ w', ¬ Alk p.2 q.2 → Foot nob W w' → Ret (fun v w' => v = .bool (decide (Alk p.2 q.2)) ∧ Foot nob W w') (.returned (.bool false)) w' := fun w' h f => ⟨_, rfl, by rw [decide_eq_false h], f⟩
  refine calls_of_sc 87 [(0, _), (1, _)] Try.func19 rfl rfl rfl (enter_slots ⟨rfl, rfl, trivial⟩) ?_
  refine Sc.seq ?_
  refine Sc.region ?_
  refine Sl.box rfl rfl ?_
  intro w1 hg1 hs1 hf1
  obtain ⟨g, hg⟩ : ∃ g, g = W.heap.size := ⟨_, rfl⟩
  rw [← hg] at hg1 hs1 ⊢
  replace hg1 : w1.heap[g]? = some (.cells (encN p).toArray 35 (0, 0)) := hg1
  refine Sl.box rfl rfl ?_
  intro w2 hg2 hs2 hf2
  obtain ⟨r, hr⟩ : ∃ r, r = w1.heap.size := ⟨_, rfl⟩
  rw [← hr] at hg2 hs2 ⊢
  have hgq : w2.heap[r]? = some (.cells (encN q).toArray 35 (0, 0)) := hg2
  have hgp := hf2.obj hg1 id
  have hF2 := hf1.trans hf2
  have hp2 := hp.grow hF2
  have hq2 := hq.grow hF2
  refine Sl.calm (Cm.assign rfl) rfl ?_
  refine Sl.nil ?_
  refine At.go ?_
  refine Sc.seq ?_
  refine Sc.seq ?_
  refine Sc.region ?_
  refine Sl.calm (Cm.field fld35_2 rfl) rfl ?_
  refine Sl.calm (Cm.ld sca3 rfl (by first | exact cellF hgp rfl | exact cellF hgq rfl)) rfl ?_
  refine Sl.calm (Cm.field fld35_2 rfl) rfl ?_
  refine Sl.calm (Cm.ld sca3 rfl (by first | exact cellF hgp rfl | exact cellF hgq rfl)) rfl ?_
  refine Sl.fork (Cm.neq rfl rfl) rfl (fun h10 => ?_) (fun h10 => ?_)
  ·
    refine Sl.calm (Cm.move rfl) rfl ?_
    refine Sl.skip rfl rfl rfl rfl ?_
    refine Sl.skip rfl rfl rfl rfl ?_
    refine Sl.skip rfl rfl rfl rfl ?_
    refine Sl.skip rfl rfl rfl rfl ?_
    refine Sl.skip rfl rfl rfl rfl ?_
    refine Sl.calm (Cm.pick_t rfl rfl) rfl ?_
    refine Sl.calm (Cm.move rfl) rfl ?_
    refine Sl.skip rfl rfl rfl rfl ?_
    refine Sl.skip rfl rfl rfl rfl ?_
    refine Sl.skip rfl rfl rfl rfl ?_
    refine Sl.skip rfl rfl rfl rfl ?_
    refine Sl.skip rfl rfl rfl rfl ?_
    refine Sl.skip rfl rfl rfl rfl ?_
    refine Sl.skip rfl rfl rfl rfl ?_
    refine Sl.calm (Cm.pick_t rfl rfl) rfl ?_
    refine Sl.calm (Cm.move rfl) rfl ?_
    refine Sl.skip rfl rfl rfl rfl ?_
    refine Sl.skip rfl rfl rfl rfl ?_
    refine Sl.skip rfl rfl rfl rfl ?_
    refine Sl.skip rfl rfl rfl rfl ?_
    refine Sl.skip rfl rfl rfl rfl ?_
    refine Sl.calm (Cm.pick_t rfl rfl) rfl ?_
    refine Sl.calm (Cm.move rfl) rfl ?_
    refine Sl.skip rfl rfl rfl rfl ?_
    refine Sl.skip rfl rfl rfl rfl ?_
    refine Sl.skip rfl rfl rfl rfl ?_
    refine Sl.skip rfl rfl rfl rfl ?_
    refine Sl.skip rfl rfl rfl rfl ?_
    refine Sl.calm (Cm.pick_t rfl rfl) rfl ?_
    refine Sl.calm (Cm.move rfl) rfl ?_
    refine Sl.skip rfl rfl rfl rfl ?_
    refine Sl.skip rfl rfl rfl rfl ?_
    refine Sl.skip rfl rfl rfl rfl ?_
    refine Sl.skip rfl rfl rfl rfl ?_
    refine Sl.skip rfl rfl rfl rfl ?_
    refine Sl.skip rfl rfl rfl rfl ?_
    refine Sl.skip rfl rfl rfl rfl ?_
    refine Sl.calm (Cm.pick_t rfl rfl) rfl ?_
    refine Sl.nil ?_
    refine At.weak [(0, _), (1, _), (2, _), (3, _), (4, _), (49, _)] ⟨rfl, rfl, rfl, rfl, rfl, rfl, trivial⟩ ?_
    refine At.go ?_
    refine Sc.cond_t rfl ?_
    refine Sc.seq ?_
    refine Sc.region ?_
    refine Sl.calm (Cm.assign rfl) rfl ?_
    refine Sl.nil ?_
    refine At.go ?_
    refine Sc.ret ?_
    refine At.then_ret ?_
    refine At.ret1 rfl rfl ?_
    first
      | exact no _ (fun A => h10 A.1) hF2
      | exact no _ (fun A => h16 A.2.1) hF2
      | exact no _ (fun A => h25 A.2.2.2.2.1) hF2
      | exact no _ (fun A => h32 A.2.2.1) hF2
      | exact no _ (fun A => (bne_iff_ne.1 h39) A.2.2.2.1) hF2
      | exact no _ (fun A => h48 (by rw [A.2.2.2.2.2])) hF2
      | exact no _ (fun A => h69 (by rw [A.2.2.2.2.2, hbk] at hak; cases hak; rfl)) ((hF2.trans hF3).draws 1)
      | exact no _ (fun A => h85 (by rw [A.2.2.2.2.2, hbk] at hak; cases hak; rfl)) ((hF2.trans hF3).draws 1)
      | exact ⟨_, rfl, by rw [decide_eq_true (show Alk p.2 q.2 from ⟨Classical.not_not.1 h10, Classical.not_not.1 h16, Classical.not_not.1 h32, by simpa using h39, Classical.not_not.1 h25, opt_all hxe (by omega) hsame⟩)], hF2.trans hF3⟩
  ·
    refine Sl.calm (Cm.move rfl) rfl ?_
    refine Sl.want rfl rfl (Cm.field fld35_3 rfl) rfl ?_
    refine Sl.want rfl rfl (Cm.ldM (cs := encA p.2) agg31 rfl (cellsF hgp 3 rfl)) rfl ?_
    refine Sl.want rfl rfl (Cm.field fld35_3 rfl) rfl ?_
    refine Sl.want rfl rfl (Cm.ldM (cs := encA q.2) agg31 rfl (cellsF hgq 3 rfl)) rfl ?_
    refine Sl.forkWant rfl rfl (Cm.neqA3 stA stAi stAh stAg (a := p.2.md) (b := p.2.ud) (c := p.2.gd) (a' := q.2.md) (b' := q.2.ud) (c' := q.2.gd) rfl rfl) rfl (fun h16 => ?_) (fun h16 => ?_)
    ·
      refine Sl.calm (Cm.pick_f rfl rfl) rfl ?_
      refine Sl.calm (Cm.move rfl) rfl ?_
      refine Sl.skip rfl rfl rfl rfl ?_
      refine Sl.skip rfl rfl rfl rfl ?_
      refine Sl.skip rfl rfl rfl rfl ?_
      refine Sl.skip rfl rfl rfl rfl ?_
      refine Sl.skip rfl rfl rfl rfl ?_
      refine Sl.skip rfl rfl rfl rfl ?_
      refine Sl.skip rfl rfl rfl rfl ?_
      refine Sl.calm (Cm.pick_t rfl rfl) rfl ?_
      refine Sl.calm (Cm.move rfl) rfl ?_
      refine Sl.skip rfl rfl rfl rfl ?_
      refine Sl.skip rfl rfl rfl rfl ?_
      refine Sl.skip rfl rfl rfl rfl ?_
      refine Sl.skip rfl rfl rfl rfl ?_
      refine Sl.skip rfl rfl rfl rfl ?_
      refine Sl.calm (Cm.pick_t rfl rfl) rfl ?_
      refine Sl.calm (Cm.move rfl) rfl ?_
      refine Sl.skip rfl rfl rfl rfl ?_
      refine Sl.skip rfl rfl rfl rfl ?_
      refine Sl.skip rfl rfl rfl rfl ?_
      refine Sl.skip rfl rfl rfl rfl ?_
      refine Sl.skip rfl rfl rfl rfl ?_
      refine Sl.calm (Cm.pick_t rfl rfl) rfl ?_
      refine Sl.calm (Cm.move rfl) rfl ?_
      refine Sl.skip rfl rfl rfl rfl ?_
      refine Sl.skip rfl rfl rfl rfl ?_
      refine Sl.skip rfl rfl rfl rfl ?_
      refine Sl.skip rfl rfl rfl rfl ?_
      refine Sl.skip rfl rfl rfl rfl ?_
      refine Sl.skip rfl rfl rfl rfl ?_
      refine Sl.skip rfl rfl rfl rfl ?_
      refine Sl.calm (Cm.pick_t rfl rfl) rfl ?_
      refine Sl.nil ?_
      refine At.weak [(0, _), (1, _), (2, _), (3, _), (4, _), (49, _)] ⟨rfl, rfl, rfl, rfl, rfl, rfl, trivial⟩ ?_
      refine At.go ?_
      refine Sc.cond_t rfl ?_
      refine Sc.seq ?_
      refine Sc.region ?_
      refine Sl.calm (Cm.assign rfl) rfl ?_
      refine Sl.nil ?_
      refine At.go ?_
      refine Sc.ret ?_
      refine At.then_ret ?_
      refine At.ret1 rfl rfl ?_
      first
        | exact no _ (fun A => h10 A.1) hF2
        | exact no _ (fun A => h16 A.2.1) hF2
        | exact no _ (fun A => h25 A.2.2.2.2.1) hF2
        | exact no _ (fun A => h32 A.2.2.1) hF2
        | exact no _ (fun A => (bne_iff_ne.1 h39) A.2.2.2.1) hF2
        | exact no _ (fun A => h48 (by rw [A.2.2.2.2.2])) hF2
        | exact no _ (fun A => h69 (by rw [A.2.2.2.2.2, hbk] at hak; cases hak; rfl)) ((hF2.trans hF3).draws 1)
        | exact no _ (fun A => h85 (by rw [A.2.2.2.2.2, hbk] at hak; cases hak; rfl)) ((hF2.trans hF3).draws 1)
        | exact ⟨_, rfl, by rw [decide_eq_true (show Alk p.2 q.2 from ⟨Classical.not_not.1 h10, Classical.not_not.1 h16, Classical.not_not.1 h32, by simpa using h39, Classical.not_not.1 h25, opt_all hxe (by omega) hsame⟩)], hF2.trans hF3⟩
    ·
      refine Sl.calm (Cm.pick_f rfl rfl) rfl ?_
      refine Sl.calm (Cm.move rfl) rfl ?_
      refine Sl.want rfl rfl (Cm.field fld35_4 rfl) rfl ?_
      refine Sl.want rfl rfl (Cm.ofEq (u := .slice p.1.data.a p.2.data.length p.1.data.c) (Cm.ld sca32 rfl (cellF hgp rfl)) (by rw [← hp2.2.1.1]; rfl)) rfl ?_
      refine Sl.want rfl rfl (Cm.strIn sl32 ty5 ty9 rfl hp2.2.1.2.1) rfl ?_
      refine Sl.want rfl rfl (Cm.field fld35_4 rfl) rfl ?_
      refine Sl.want rfl rfl (Cm.ofEq (u := .slice q.1.data.a q.2.data.length q.1.data.c) (Cm.ld sca32 rfl (cellF hgq rfl)) (by rw [← hq2.2.1.1]; rfl)) rfl ?_
      refine Sl.want rfl rfl (Cm.strIn sl32 ty5 ty9 rfl hq2.2.1.2.1) rfl ?_
      refine Sl.forkWant rfl rfl (Cm.neqBs rfl rfl) rfl (fun h25 => ?_) (fun h25 => ?_)
      ·
        refine Sl.calm (Cm.pick_f rfl rfl) rfl ?_
        refine Sl.calm (Cm.move rfl) rfl ?_
        refine Sl.skip rfl rfl rfl rfl ?_
        refine Sl.skip rfl rfl rfl rfl ?_
        refine Sl.skip rfl rfl rfl rfl ?_
        refine Sl.skip rfl rfl rfl rfl ?_
        refine Sl.skip rfl rfl rfl rfl ?_
        refine Sl.calm (Cm.pick_t rfl rfl) rfl ?_
        refine Sl.calm (Cm.move rfl) rfl ?_
        refine Sl.skip rfl rfl rfl rfl ?_
        refine Sl.skip rfl rfl rfl rfl ?_
        refine Sl.skip rfl rfl rfl rfl ?_
        refine Sl.skip rfl rfl rfl rfl ?_
        refine Sl.skip rfl rfl rfl rfl ?_
        refine Sl.calm (Cm.pick_t rfl rfl) rfl ?_
        refine Sl.calm (Cm.move rfl) rfl ?_
        refine Sl.skip rfl rfl rfl rfl ?_
        refine Sl.skip rfl rfl rfl rfl ?_
        refine Sl.skip rfl rfl rfl rfl ?_
        refine Sl.skip rfl rfl rfl rfl ?_
        refine Sl.skip rfl rfl rfl rfl ?_
        refine Sl.skip rfl rfl rfl rfl ?_
        refine Sl.skip rfl rfl rfl rfl ?_
        refine Sl.calm (Cm.pick_t rfl rfl) rfl ?_
        refine Sl.nil ?_
        refine At.weak [(0, _), (1, _), (2, _), (3, _), (4, _), (49, _)] ⟨rfl, rfl, rfl, rfl, rfl, rfl, trivial⟩ ?_
        refine At.go ?_
        refine Sc.cond_t rfl ?_
        refine Sc.seq ?_
        refine Sc.region ?_
        refine Sl.calm (Cm.assign rfl) rfl ?_
        refine Sl.nil ?_
        refine At.go ?_
        refine Sc.ret ?_
        refine At.then_ret ?_
        refine At.ret1 rfl rfl ?_
        first
          | exact no _ (fun A => h10 A.1) hF2
          | exact no _ (fun A => h16 A.2.1) hF2
          | exact no _ (fun A => h25 A.2.2.2.2.1) hF2
          | exact no _ (fun A => h32 A.2.2.1) hF2
          | exact no _ (fun A => (bne_iff_ne.1 h39) A.2.2.2.1) hF2
          | exact no _ (fun A => h48 (by rw [A.2.2.2.2.2])) hF2
          | exact no _ (fun A => h69 (by rw [A.2.2.2.2.2, hbk] at hak; cases hak; rfl)) ((hF2.trans hF3).draws 1)
          | exact no _ (fun A => h85 (by rw [A.2.2.2.2.2, hbk] at hak; cases hak; rfl)) ((hF2.trans hF3).draws 1)
          | exact ⟨_, rfl, by rw [decide_eq_true (show Alk p.2 q.2 from ⟨Classical.not_not.1 h10, Classical.not_not.1 h16, Classical.not_not.1 h32, by simpa using h39, Classical.not_not.1 h25, opt_all hxe (by omega) hsame⟩)], hF2.trans hF3⟩
      ·
        refine Sl.calm (Cm.pick_f rfl rfl) rfl ?_
        refine Sl.calm (Cm.move rfl) rfl ?_
        refine Sl.want rfl rfl (Cm.field fld35_5 rfl) rfl ?_
        refine Sl.want rfl rfl (Cm.ld sca9 rfl (by first | exact cellF hgp rfl | exact cellF hgq rfl)) rfl ?_
        refine Sl.want rfl rfl (Cm.field fld35_5 rfl) rfl ?_
        refine Sl.want rfl rfl (Cm.ld sca9 rfl (by first | exact cellF hgp rfl | exact cellF hgq rfl)) rfl ?_
        refine Sl.forkWant rfl rfl (Cm.neqBs rfl rfl) rfl (fun h32 => ?_) (fun h32 => ?_)
        ·
          refine Sl.calm (Cm.pick_f rfl rfl) rfl ?_
          refine Sl.calm (Cm.move rfl) rfl ?_
          refine Sl.skip rfl rfl rfl rfl ?_
          refine Sl.skip rfl rfl rfl rfl ?_
          refine Sl.skip rfl rfl rfl rfl ?_
          refine Sl.skip rfl rfl rfl rfl ?_
          refine Sl.skip rfl rfl rfl rfl ?_
          refine Sl.calm (Cm.pick_t rfl rfl) rfl ?_
          refine Sl.calm (Cm.move rfl) rfl ?_
          refine Sl.skip rfl rfl rfl rfl ?_
          refine Sl.skip rfl rfl rfl rfl ?_
          refine Sl.skip rfl rfl rfl rfl ?_
          refine Sl.skip rfl rfl rfl rfl ?_
          refine Sl.skip rfl rfl rfl rfl ?_
          refine Sl.skip rfl rfl rfl rfl ?_
          refine Sl.skip rfl rfl rfl rfl ?_
          refine Sl.calm (Cm.pick_t rfl rfl) rfl ?_
          refine Sl.nil ?_
          refine At.weak [(0, _), (1, _), (2, _), (3, _), (4, _), (49, _)] ⟨rfl, rfl, rfl, rfl, rfl, rfl, trivial⟩ ?_
          refine At.go ?_
          refine Sc.cond_t rfl ?_
          refine Sc.seq ?_
          refine Sc.region ?_
          refine Sl.calm (Cm.assign rfl) rfl ?_
          refine Sl.nil ?_
          refine At.go ?_
          refine Sc.ret ?_
          refine At.then_ret ?_
          refine At.ret1 rfl rfl ?_
          first
            | exact no _ (fun A => h10 A.1) hF2
            | exact no _ (fun A => h16 A.2.1) hF2
            | exact no _ (fun A => h25 A.2.2.2.2.1) hF2
            | exact no _ (fun A => h32 A.2.2.1) hF2
            | exact no _ (fun A => (bne_iff_ne.1 h39) A.2.2.2.1) hF2
            | exact no _ (fun A => h48 (by rw [A.2.2.2.2.2])) hF2
            | exact no _ (fun A => h69 (by rw [A.2.2.2.2.2, hbk] at hak; cases hak; rfl)) ((hF2.trans hF3).draws 1)
            | exact no _ (fun A => h85 (by rw [A.2.2.2.2.2, hbk] at hak; cases hak; rfl)) ((hF2.trans hF3).draws 1)
            | exact ⟨_, rfl, by rw [decide_eq_true (show Alk p.2 q.2 from ⟨Classical.not_not.1 h10, Classical.not_not.1 h16, Classical.not_not.1 h32, by simpa using h39, Classical.not_not.1 h25, opt_all hxe (by omega) hsame⟩)], hF2.trans hF3⟩
        ·
          refine Sl.calm (Cm.pick_f rfl rfl) rfl ?_
          refine Sl.calm (Cm.move rfl) rfl ?_
          refine Sl.want rfl rfl (Cm.field fld35_7 rfl) rfl ?_
          refine Sl.want rfl rfl (Cm.ld sca4 rfl (by first | exact cellF hgp rfl | exact cellF hgq rfl)) rfl ?_
          refine Sl.want rfl rfl (Cm.field fld35_7 rfl) rfl ?_
          refine Sl.want rfl rfl (Cm.ld sca4 rfl (by first | exact cellF hgp rfl | exact cellF hgq rfl)) rfl ?_
          refine Sl.forkWant rfl rfl (Cm.ofBool (Cm.neqBool ty4 rfl rfl)) rfl (fun h39 => ?_) (fun h39 => ?_)
          ·
            refine Sl.calm (Cm.pick_f rfl rfl) rfl ?_
            refine Sl.calm (Cm.move rfl) rfl ?_
            refine Sl.skip rfl rfl rfl rfl ?_
            refine Sl.skip rfl rfl rfl rfl ?_
            refine Sl.skip rfl rfl rfl rfl ?_
            refine Sl.skip rfl rfl rfl rfl ?_
            refine Sl.skip rfl rfl rfl rfl ?_
            refine Sl.skip rfl rfl rfl rfl ?_
            refine Sl.skip rfl rfl rfl rfl ?_
            refine Sl.calm (Cm.pick_t rfl rfl) rfl ?_
            refine Sl.nil ?_
            refine At.weak [(0, _), (1, _), (2, _), (3, _), (4, _), (49, _)] ⟨rfl, rfl, rfl, rfl, rfl, rfl, trivial⟩ ?_
            refine At.go ?_
            refine Sc.cond_t rfl ?_
            refine Sc.seq ?_
            refine Sc.region ?_
            refine Sl.calm (Cm.assign rfl) rfl ?_
            refine Sl.nil ?_
            refine At.go ?_
            refine Sc.ret ?_
            refine At.then_ret ?_
            refine At.ret1 rfl rfl ?_
            first
              | exact no _ (fun A => h10 A.1) hF2
              | exact no _ (fun A => h16 A.2.1) hF2
              | exact no _ (fun A => h25 A.2.2.2.2.1) hF2
              | exact no _ (fun A => h32 A.2.2.1) hF2
              | exact no _ (fun A => (bne_iff_ne.1 h39) A.2.2.2.1) hF2
              | exact no _ (fun A => h48 (by rw [A.2.2.2.2.2])) hF2
              | exact no _ (fun A => h69 (by rw [A.2.2.2.2.2, hbk] at hak; cases hak; rfl)) ((hF2.trans hF3).draws 1)
              | exact no _ (fun A => h85 (by rw [A.2.2.2.2.2, hbk] at hak; cases hak; rfl)) ((hF2.trans hF3).draws 1)
              | exact ⟨_, rfl, by rw [decide_eq_true (show Alk p.2 q.2 from ⟨Classical.not_not.1 h10, Classical.not_not.1 h16, Classical.not_not.1 h32, by simpa using h39, Classical.not_not.1 h25, opt_all hxe (by omega) hsame⟩)], hF2.trans hF3⟩
          ·
            refine Sl.calm (Cm.pick_f rfl rfl) rfl ?_
            refine Sl.calm (Cm.move rfl) rfl ?_
            refine Sl.want rfl rfl (Cm.field fld35_6 rfl) rfl ?_
            refine Sl.want rfl rfl (Cm.ld sca33 rfl (by first | exact cellF hgp rfl | exact cellF hgq rfl)) rfl ?_
            refine Sl.want rfl rfl (Cm.len sl33 rfl) rfl ?_
            rw [hp2.2.2.1]
            refine Sl.want rfl rfl (Cm.field fld35_6 rfl) rfl ?_
            refine Sl.want rfl rfl (Cm.ld sca33 rfl (by first | exact cellF hgp rfl | exact cellF hgq rfl)) rfl ?_
            refine Sl.want rfl rfl (Cm.len sl33 rfl) rfl ?_
            rw [hq2.2.2.1]
            refine Sl.forkWant rfl rfl (Cm.neq rfl rfl) rfl (fun h48 => ?_) (fun h48 => ?_)
            ·
              refine Sl.calm (Cm.pick_f rfl rfl) rfl ?_
              refine Sl.nil ?_
              refine At.weak [(0, _), (1, _), (2, _), (3, _), (4, _), (49, _)] ⟨rfl, rfl, rfl, rfl, rfl, rfl, trivial⟩ ?_
              refine At.go ?_
              refine Sc.cond_t rfl ?_
              refine Sc.seq ?_
              refine Sc.region ?_
              refine Sl.calm (Cm.assign rfl) rfl ?_
              refine Sl.nil ?_
              refine At.go ?_
              refine Sc.ret ?_
              refine At.then_ret ?_
              refine At.ret1 rfl rfl ?_
              first
                | exact no _ (fun A => h10 A.1) hF2
                | exact no _ (fun A => h16 A.2.1) hF2
                | exact no _ (fun A => h25 A.2.2.2.2.1) hF2
                | exact no _ (fun A => h32 A.2.2.1) hF2
                | exact no _ (fun A => (bne_iff_ne.1 h39) A.2.2.2.1) hF2
                | exact no _ (fun A => h48 (by rw [A.2.2.2.2.2])) hF2
                | exact no _ (fun A => h69 (by rw [A.2.2.2.2.2, hbk] at hak; cases hak; rfl)) ((hF2.trans hF3).draws 1)
                | exact no _ (fun A => h85 (by rw [A.2.2.2.2.2, hbk] at hak; cases hak; rfl)) ((hF2.trans hF3).draws 1)
                | exact ⟨_, rfl, by rw [decide_eq_true (show Alk p.2 q.2 from ⟨Classical.not_not.1 h10, Classical.not_not.1 h16, Classical.not_not.1 h32, by simpa using h39, Classical.not_not.1 h25, opt_all hxe (by omega) hsame⟩)], hF2.trans hF3⟩
            ·
              refine Sl.calm (Cm.pick_f rfl rfl) rfl ?_
              refine Sl.nil ?_
              refine At.weak [(0, _), (1, _), (2, _), (3, _), (4, _), (49, _)] ⟨rfl, rfl, rfl, rfl, rfl, rfl, trivial⟩ ?_
              refine At.go ?_
              refine Sc.cond_f rfl ?_
              refine Sc.skip ?_
              refine At.go ?_
              refine Sc.seq ?_
              refine Sc.seq ?_
              refine Sc.region ?_
              refine Sl.calm (Cm.assign rfl) rfl ?_
              refine Sl.nil ?_
              refine At.go ?_
              refine Sc.block ?_
              have hxe : p.2.xs.length = q.2.xs.length := by omega
              obtain ⟨hxl, ys, hyv, hyl, hyd, hyx⟩ := hp2.2.2
              obtain ⟨hwl, zs, hzv, hzl, hzd, hzx⟩ := hq2.2.2
              have hx63 := hyv.len63
              refine Sc.loop (β := Nat) (fun k => [(2, .pointer (some ⟨g, 0, none⟩)), (3, .pointer (some ⟨r, 0, none⟩)), (5, .int .i64 k)]) (fun k w => k ≤ p.2.xs.length ∧ (∀ j : Nat, j < k → p.2.xs[j]? = q.2.xs[j]?) ∧ Foot nob w2 w) (fun k => p.2.xs.length - k) 0 ⟨rfl, rfl, rfl, trivial⟩ ⟨Nat.zero_le _, fun j hj => by omega, Foot.refl _ _⟩ ?_
              rintro k w3 ⟨hk, hsame, hF3⟩
              have hgp3 := hF3.obj hgp id
              have hgq3 := hF3.obj hgq id
              refine Sc.seq ?_
              refine Sc.seq ?_
              refine Sc.region ?_
              refine Sl.calm (Cm.move rfl) rfl ?_
              refine Sl.calm (Cm.field fld35_6 rfl) rfl ?_
              refine Sl.calm (Cm.ld sca33 rfl (by first | exact cellF hgp3 rfl | exact cellF hgq3 rfl)) rfl ?_
              refine Sl.calm (Cm.len sl33 rfl) rfl ?_
              rw [hp2.2.2.1]
              refine Sl.fork (Cm.lss rfl rfl) rfl (fun h54 => ?_) (fun h54 => ?_)
              ·
                have hkx : k < p.2.xs.length := by omega
                obtain ⟨a, ah, hak, hyk, hva⟩ := XsV.at (D := D) (H := w3.heap) (h := p.1.xs) hyl (fun i x y h1 h2 => ⟨(hyx i x y h1 h2).1, (hyx i x y h1 h2).2.keep hF3 (fun _ _ => id)⟩) hkx
                obtain ⟨b, bh, hbk, hzk, hvb⟩ := XsV.at (D := D) (H := w3.heap) (h := q.1.xs) hzl (fun i x y h1 h2 => ⟨(hzx i x y h1 h2).1, (hzx i x y h1 h2).2.keep hF3 (fun _ _ => id)⟩) (by omega : k < q.2.xs.length)
                have hyv3 := hyv.keep' hF3 (fun _ _ _ => id)
                have hzv3 := hzv.keep' hF3 (fun _ _ _ => id)
                refine Sl.nil ?_
                refine At.weak [(2, _), (3, _), (5, _), (54, _)] ⟨rfl, rfl, rfl, rfl, trivial⟩ ?_
                refine At.go ?_
                refine Sc.cond_t rfl ?_
                refine Sc.skip ?_
                refine At.go ?_
                refine Sc.seq ?_
                refine Sc.block ?_
                refine Sc.seq ?_
                refine Sc.quiet 30 [0, 1, 2, 3, 4, 5, 6, 7, 8, 9, 10, 11, 12, 13, 14, 15, 16, 17, 18, 19, 20, 21, 22, 23, 24, 25, 26, 27, 28, 29] mixed (by kernel_rfl) ?_
                refine Sx.calm rfl rfl (Cm.field fld35_6 rfl) rfl ?_
                refine Sx.calm rfl rfl (Cm.ld sca33 rfl (by first | exact cellF hgp3 rfl | exact cellF hgq3 rfl)) rfl ?_
                refine Sx.calm rfl rfl (Cm.move rfl) rfl ?_
                refine Sx.calm rfl rfl (Cm.indexAddr sl33 rfl rfl (by rw [hp2.2.2.1, ← hyl]; exact hyv3.non) (by have := hp2.2.2.1; omega)) rfl ?_
                refine Sx.calm rfl rfl (Cm.field fld70_0 rfl) rfl ?_
                refine Sx.calm rfl rfl (Cm.ld sca9 rfl (hyv3.rowZ k rfl hyk 0 _ rfl)) rfl ?_
                refine Sx.calm rfl rfl (Cm.field fld35_6 rfl) rfl ?_
                refine Sx.calm rfl rfl (Cm.ld sca33 rfl (by first | exact cellF hgp3 rfl | exact cellF hgq3 rfl)) rfl ?_
                refine Sx.calm rfl rfl (Cm.move rfl) rfl ?_
                refine Sx.calm rfl rfl (Cm.indexAddr sl33 rfl rfl (by rw [hq2.2.2.1, ← hzl]; exact hzv3.non) (by have := hq2.2.2.1; omega)) rfl ?_
                refine Sx.calm rfl rfl (Cm.field fld70_0 rfl) rfl ?_
                refine Sx.calm rfl rfl (Cm.ld sca9 rfl (hzv3.rowZ k rfl hzk 0 _ rfl)) rfl ?_
                refine Sx.fork rfl rfl (Cm.neqBs rfl rfl) rfl (fun h69 => ?_) (fun h69 => ?_)
                ·
                  refine Sx.calm rfl rfl (Cm.move rfl) rfl ?_
                  refine Sx.skip rfl rfl rfl rfl rfl rfl ?_
                  refine Sx.skip rfl rfl rfl rfl rfl rfl ?_
                  refine Sx.skip rfl rfl rfl rfl rfl rfl ?_
                  refine Sx.skip rfl rfl rfl rfl rfl rfl ?_
                  refine Sx.skip rfl rfl rfl rfl rfl rfl ?_
                  refine Sx.skip rfl rfl rfl rfl rfl rfl ?_
                  refine Sx.skip rfl rfl rfl rfl rfl rfl ?_
                  refine Sx.skip rfl rfl rfl rfl rfl rfl ?_
                  refine Sx.skip rfl rfl rfl rfl rfl rfl ?_
                  refine Sx.skip rfl rfl rfl rfl rfl rfl ?_
                  refine Sx.skip rfl rfl rfl rfl rfl rfl ?_
                  refine Sx.skip rfl rfl rfl rfl rfl rfl ?_
                  refine Sx.skip rfl rfl rfl rfl rfl rfl ?_
                  refine Sx.skip rfl rfl rfl rfl rfl rfl ?_
                  refine Sx.skip rfl rfl rfl rfl rfl rfl ?_
                  refine Sx.calm rfl rfl (Cm.pick_t rfl rfl) rfl ?_
                  refine Sx.nil ?_
                  refine At.weak [(2, _), (3, _), (5, _), (54, _), (86, _)] ⟨rfl, rfl, rfl, rfl, rfl, trivial⟩ ?_
                  refine At.go ?_
                  refine Sc.cond_t rfl ?_
                  refine Sc.seq ?_
                  refine Sc.region ?_
                  refine Sl.calm (Cm.assign rfl) rfl ?_
                  refine Sl.nil ?_
                  refine At.go ?_
                  refine Sc.ret ?_
                  refine At.block_ret ?_
                  refine At.then_ret ?_
                  refine At.then_ret ?_
                  refine At.block_ret ?_
                  refine At.then_ret ?_
                  refine At.ret1 rfl rfl ?_
                  first
                    | exact no _ (fun A => h10 A.1) hF2
                    | exact no _ (fun A => h16 A.2.1) hF2
                    | exact no _ (fun A => h25 A.2.2.2.2.1) hF2
                    | exact no _ (fun A => h32 A.2.2.1) hF2
                    | exact no _ (fun A => (bne_iff_ne.1 h39) A.2.2.2.1) hF2
                    | exact no _ (fun A => h48 (by rw [A.2.2.2.2.2])) hF2
                    | exact no _ (fun A => h69 (by rw [A.2.2.2.2.2, hbk] at hak; cases hak; rfl)) ((hF2.trans hF3).draws 1)
                    | exact no _ (fun A => h85 (by rw [A.2.2.2.2.2, hbk] at hak; cases hak; rfl)) ((hF2.trans hF3).draws 1)
                    | exact ⟨_, rfl, by rw [decide_eq_true (show Alk p.2 q.2 from ⟨Classical.not_not.1 h10, Classical.not_not.1 h16, Classical.not_not.1 h32, by simpa using h39, Classical.not_not.1 h25, opt_all hxe (by omega) hsame⟩)], hF2.trans hF3⟩
                ·
                  refine Sx.calm rfl rfl (Cm.move rfl) rfl ?_
                  refine Sx.want rfl rfl rfl rfl (Cm.field fld35_6 rfl) rfl ?_
                  refine Sx.want rfl rfl rfl rfl (Cm.ld sca33 rfl (by first | exact cellF hgp3 rfl | exact cellF hgq3 rfl)) rfl ?_
                  refine Sx.want rfl rfl rfl rfl (Cm.move rfl) rfl ?_
                  refine Sx.want rfl rfl rfl rfl (Cm.indexAddr sl33 rfl rfl (by rw [hp2.2.2.1, ← hyl]; exact hyv3.non) (by have := hp2.2.2.1; omega)) rfl ?_
                  refine Sx.want rfl rfl rfl rfl (Cm.field fld70_1 rfl) rfl ?_
                  refine Sx.want rfl rfl rfl rfl (Cm.ofEq (u := .slice ah.a a.2.length ah.c) (Cm.ld sca32 rfl (hyv3.rowZ k rfl hyk 1 _ rfl)) (by rw [← hva.1]; rfl)) rfl ?_
                  refine Sx.want rfl rfl rfl rfl (Cm.strIn sl32 ty5 ty9 rfl hva.2.1) rfl ?_
                  refine Sx.want rfl rfl rfl rfl (Cm.field fld35_6 rfl) rfl ?_
                  refine Sx.want rfl rfl rfl rfl (Cm.ld sca33 rfl (by first | exact cellF hgp3 rfl | exact cellF hgq3 rfl)) rfl ?_
                  refine Sx.want rfl rfl rfl rfl (Cm.move rfl) rfl ?_
                  refine Sx.want rfl rfl rfl rfl (Cm.indexAddr sl33 rfl rfl (by rw [hq2.2.2.1, ← hzl]; exact hzv3.non) (by have := hq2.2.2.1; omega)) rfl ?_
                  refine Sx.want rfl rfl rfl rfl (Cm.field fld70_1 rfl) rfl ?_
                  refine Sx.want rfl rfl rfl rfl (Cm.ofEq (u := .slice bh.a b.2.length bh.c) (Cm.ld sca32 rfl (hzv3.rowZ k rfl hzk 1 _ rfl)) (by rw [← hvb.1]; rfl)) rfl ?_
                  refine Sx.want rfl rfl rfl rfl (Cm.strIn sl32 ty5 ty9 rfl hvb.2.1) rfl ?_
                  refine Sx.forkWant rfl rfl rfl rfl (Cm.neqBs rfl rfl) rfl (fun h85 => ?_) (fun h85 => ?_)
                  ·
                    refine Sx.calm rfl rfl (Cm.pick_f rfl rfl) rfl ?_
                    refine Sx.nil ?_
                    refine At.weak [(2, _), (3, _), (5, _), (54, _), (86, _)] ⟨rfl, rfl, rfl, rfl, rfl, trivial⟩ ?_
                    refine At.go ?_
                    refine Sc.cond_t rfl ?_
                    refine Sc.seq ?_
                    refine Sc.region ?_
                    refine Sl.calm (Cm.assign rfl) rfl ?_
                    refine Sl.nil ?_
                    refine At.go ?_
                    refine Sc.ret ?_
                    refine At.block_ret ?_
                    refine At.then_ret ?_
                    refine At.then_ret ?_
                    refine At.block_ret ?_
                    refine At.then_ret ?_
                    refine At.ret1 rfl rfl ?_
                    first
                      | exact no _ (fun A => h10 A.1) hF2
                      | exact no _ (fun A => h16 A.2.1) hF2
                      | exact no _ (fun A => h25 A.2.2.2.2.1) hF2
                      | exact no _ (fun A => h32 A.2.2.1) hF2
                      | exact no _ (fun A => (bne_iff_ne.1 h39) A.2.2.2.1) hF2
                      | exact no _ (fun A => h48 (by rw [A.2.2.2.2.2])) hF2
                      | exact no _ (fun A => h69 (by rw [A.2.2.2.2.2, hbk] at hak; cases hak; rfl)) ((hF2.trans hF3).draws 1)
                      | exact no _ (fun A => h85 (by rw [A.2.2.2.2.2, hbk] at hak; cases hak; rfl)) ((hF2.trans hF3).draws 1)
                      | exact ⟨_, rfl, by rw [decide_eq_true (show Alk p.2 q.2 from ⟨Classical.not_not.1 h10, Classical.not_not.1 h16, Classical.not_not.1 h32, by simpa using h39, Classical.not_not.1 h25, opt_all hxe (by omega) hsame⟩)], hF2.trans hF3⟩
                  ·
                    refine Sx.calm rfl rfl (Cm.pick_f rfl rfl) rfl ?_
                    refine Sx.nil ?_
                    refine At.weak [(2, _), (3, _), (5, _), (54, _), (86, _)] ⟨rfl, rfl, rfl, rfl, rfl, trivial⟩ ?_
                    refine At.go ?_
                    refine Sc.cond_f rfl ?_
                    refine Sc.skip ?_
                    refine At.block_normal ?_
                    refine At.go ?_
                    refine Sc.region ?_
                    refine Sl.calm (Cm.move rfl) rfl ?_
                    refine Sl.calm (Cm.add64 rfl rfl (by omega)) rfl ?_
                    refine Sl.calm (Cm.assign rfl) rfl ?_
                    refine Sl.nil ?_
                    refine At.again (k + 1) ⟨rfl, rfl, rfl, trivial⟩ ⟨by omega, fun j hj => ?_, hF3.draws 1⟩ (by show p.2.xs.length - (k + 1) < p.2.xs.length - k; omega)
                    by_cases e : j = k
                    · subst e; rw [hak, hbk]; exact congrArg _ (Prod.ext (Classical.not_not.1 h69) (Classical.not_not.1 h85))
                    · exact hsame j (by omega)
              ·
                refine Sl.nil ?_
                refine At.weak [(2, _), (3, _), (5, _), (54, _)] ⟨rfl, rfl, rfl, rfl, trivial⟩ ?_
                refine At.go ?_
                refine Sc.cond_f rfl ?_
                refine Sc.exit ?_
                refine At.then_exit ?_
                refine At.then_exit ?_
                refine At.block_hit ?_
                refine At.go ?_
                refine Sc.seq ?_
                refine Sc.region ?_
                refine Sl.calm (Cm.assign rfl) rfl ?_
                refine Sl.nil ?_
                refine At.go ?_
                refine Sc.ret ?_
                refine At.ret1 rfl rfl ?_
                first
                  | exact no _ (fun A => h10 A.1) hF2
                  | exact no _ (fun A => h16 A.2.1) hF2
                  | exact no _ (fun A => h25 A.2.2.2.2.1) hF2
                  | exact no _ (fun A => h32 A.2.2.1) hF2
                  | exact no _ (fun A => (bne_iff_ne.1 h39) A.2.2.2.1) hF2
                  | exact no _ (fun A => h48 (by rw [A.2.2.2.2.2])) hF2
                  | exact no _ (fun A => h69 (by rw [A.2.2.2.2.2, hbk] at hak; cases hak; rfl)) ((hF2.trans hF3).draws 1)
                  | exact no _ (fun A => h85 (by rw [A.2.2.2.2.2, hbk] at hak; cases hak; rfl)) ((hF2.trans hF3).draws 1)
                  | exact ⟨_, rfl, by rw [decide_eq_true (show Alk p.2 q.2 from ⟨Classical.not_not.1 h10, Classical.not_not.1 h16, Classical.not_not.1 h32, by simpa using h39, Classical.not_not.1 h25, opt_all hxe (by omega) hsame⟩)], hF2.trans hF3⟩
end Go.Proofs.Ytpamandneifemaa
/- tree: the reference's Check. No condition beyond the bounds that each states. -/
namespace Go.Proofs.Ytpamandneifemaa
open Go Go.RowKit
set_option linter.unusedVariables false

theorem lnk_at {ps : List (NdH × Nd)} {i k : Nat} {p q : NdH × Nd} (h : (nds ps).Pairwise lnkR) (hk : k < i) (hq : ps[k]? = some q) (hp : ps[i]? = some p) : lnkR q.2 p.2 := by
  have e1 := List.getElem?_eq_some_iff.1 (nds_get hq)
  have e2 := List.getElem?_eq_some_iff.1 (nds_get hp)
  have := List.pairwise_iff_getElem.1 h k i e1.1 e2.1 hk
  rw [e1.2, e2.2] at this; exact this
variable {D : Nat → Prop}
set_option maxHeartbeats 4000000 in
theorem rcheck_ok (lo : Option Addr) (lc : Nat) (ps : List (NdH × Nd)) (W : World) (hv : NodesV D W.heap lo lc ps) (hsm : ∀ p ∈ ps, smN p.2) :
    Calls Try.prog 20 [.slice lo ps.length lc].toArray W (Ret fun v w' => v = .int .i64 (chk (nds ps)) ∧ Foot nob W w') := by
  have h63 := hv.1.len63
  refine calls_of_sc 68 [(0, _)] Try.func20 rfl rfl rfl (enter_slots ⟨rfl, trivial⟩) ?_
  refine Sc.seq ?_
  refine Sc.region ?_
  refine Sl.calm (Cm.assign rfl) rfl ?_
  refine Sl.nil ?_
  refine At.go ?_
  refine Sc.seq ?_
  refine Sc.region ?_
  refine Sl.calm (Cm.move rfl) rfl ?_
  refine Sl.call fn40 rfl (rplaced_ok lo lc ps W hv hsm) rfl ?_
  rintro _ w2 ⟨rfl, hf2⟩
  refine Sl.calm (Cm.assign rfl) rfl ?_
  refine Sl.nil ?_
  refine At.weak [(0, _), (2, _), (3, _)] ⟨rfl, rfl, rfl, trivial⟩ ?_
  refine At.go ?_
  refine Sc.seq ?_
  refine Sc.seq ?_
  refine Sc.region ?_
  refine Sl.calm (Cm.move rfl) rfl ?_
  refine Sl.fork (Cm.neq rfl rfl) rfl (fun h11 => ?_) (fun h11 => ?_)
  ·
    refine Sl.nil ?_
    refine At.weak [(0, _), (2, _), (3, _), (11, _)] ⟨rfl, rfl, rfl, rfl, trivial⟩ ?_
    refine At.go ?_
    refine Sc.cond_t rfl ?_
    refine Sc.seq ?_
    refine Sc.region ?_
    refine Sl.calm (Cm.move rfl) rfl ?_
    refine Sl.calm (Cm.assign rfl) rfl ?_
    refine Sl.nil ?_
    refine At.weak [(0, _), (2, _), (3, _), (11, _)] ⟨rfl, rfl, rfl, rfl, trivial⟩ ?_
    refine At.go ?_
    refine Sc.ret ?_
    refine At.then_ret ?_
    refine At.ret1 rfl rfl ?_
    exact ⟨_, rfl, by rw [chk_plc, if_pos h11], hf2⟩
  ·
    have hz : plc (nds ps) = 0 := Classical.not_not.1 h11
    refine Sl.nil ?_
    refine At.weak [(0, _), (2, _), (3, _), (11, _)] ⟨rfl, rfl, rfl, rfl, trivial⟩ ?_
    refine At.go ?_
    refine Sc.cond_f rfl ?_
    refine Sc.skip ?_
    refine At.go ?_
    refine Sc.seq ?_
    refine Sc.seq ?_
    refine Sc.region ?_
    refine Sl.calm (Cm.assign rfl) rfl ?_
    refine Sl.nil ?_
    refine At.go ?_
    refine Sc.block ?_
    refine Sc.loop (β := Nat) (fun i => [(0, .slice lo ps.length lc), (4, .int .i64 i)]) (fun i w => i ≤ ps.length ∧ (∀ n ∈ (nds ps).take i, mayN n) ∧ Foot nob W w) (fun i => ps.length - i) 0 ⟨rfl, rfl, trivial⟩ ⟨Nat.zero_le _, by simp, hf2⟩ ?_
    rintro i w3 ⟨hi, hmy, hF3⟩
    refine Sc.seq ?_
    refine Sc.seq ?_
    refine Sc.region ?_
    refine Sl.calm (Cm.move rfl) rfl ?_
    refine Sl.calm (Cm.move rfl) rfl ?_
    refine Sl.calm (Cm.len sl25 rfl) rfl ?_
    refine Sl.fork (Cm.lss rfl rfl) rfl (fun h16 => ?_) (fun h16 => ?_)
    ·
      have hil : i < ps.length := by omega
      obtain ⟨p, hp⟩ : ∃ p, ps[i]? = some p := ⟨_, List.getElem?_eq_getElem hil⟩
      have hpm := List.mem_of_getElem? hp
      have hv3 := hv.grow hF3
      refine Sl.nil ?_
      refine At.weak [(0, _), (4, _), (16, _)] ⟨rfl, rfl, rfl, trivial⟩ ?_
      refine At.go ?_
      refine Sc.cond_t rfl ?_
      refine Sc.skip ?_
      refine At.go ?_
      refine Sc.seq ?_
      refine Sc.block ?_
      refine Sc.seq ?_
      refine Sc.region ?_
      refine Sl.calm (Cm.move rfl) rfl ?_
      refine Sl.calm (Cm.move rfl) rfl ?_
      refine Sl.calm (Cm.indexAddr sl25 rfl rfl hv3.1.non (by omega)) rfl ?_
      refine Sl.calm (Cm.ldM (cs := encN p) agg35 rfl (fun j v hj => hv3.1.rowZ i rfl hp j v hj)) rfl ?_
      refine Sl.call fn41 rfl (rmay_ok p w3 (hv3.2 p hpm) (hsm p hpm)) rfl ?_
      rintro _ w4 ⟨rfl, hf4⟩
      by_cases h23 : mayN p.2
      ·
        rw [decide_eq_true h23]
        refine Sl.calm (Cm.assign rfl) rfl ?_
        refine Sl.nil ?_
        refine At.weak [(0, _), (4, _), (5, _), (16, _)] ⟨rfl, rfl, rfl, rfl, trivial⟩ ?_
        refine At.go ?_
        refine Sc.seq ?_
        refine Sc.region ?_
        refine Sl.calm (Cm.move rfl) rfl ?_
        refine Sl.calm (Cm.not rfl) rfl ?_
        refine Sl.nil ?_
        refine At.weak [(0, _), (4, _), (5, _), (16, _), (25, _)] ⟨rfl, rfl, rfl, rfl, rfl, trivial⟩ ?_
        refine At.go ?_
        refine Sc.cond_f rfl ?_
        refine Sc.skip ?_
        refine At.block_normal ?_
        refine At.go ?_
        refine Sc.region ?_
        refine Sl.calm (Cm.move rfl) rfl ?_
        refine Sl.calm (Cm.add64 rfl rfl (by omega)) rfl ?_
        refine Sl.calm (Cm.assign rfl) rfl ?_
        refine Sl.nil ?_
        exact At.again (i + 1) ⟨rfl, rfl, trivial⟩ ⟨by omega, allT hp hmy h23, hF3.trans hf4⟩ (by show ps.length - (i + 1) < ps.length - i; omega)
      ·
        rw [decide_eq_false h23]
        refine Sl.calm (Cm.assign rfl) rfl ?_
        refine Sl.nil ?_
        refine At.weak [(0, _), (4, _), (5, _), (16, _)] ⟨rfl, rfl, rfl, rfl, trivial⟩ ?_
        refine At.go ?_
        refine Sc.seq ?_
        refine Sc.region ?_
        refine Sl.calm (Cm.move rfl) rfl ?_
        refine Sl.calm (Cm.not rfl) rfl ?_
        refine Sl.nil ?_
        refine At.weak [(0, _), (4, _), (5, _), (16, _), (25, _)] ⟨rfl, rfl, rfl, rfl, rfl, trivial⟩ ?_
        refine At.go ?_
        refine Sc.cond_t rfl ?_
        refine Sc.seq ?_
        refine Sc.region ?_
        refine Sl.calm (Cm.assign rfl) rfl ?_
        refine Sl.nil ?_
        refine At.go ?_
        refine Sc.ret ?_
        refine At.block_ret ?_
        refine At.then_ret ?_
        refine At.then_ret ?_
        refine At.block_ret ?_
        refine At.then_ret ?_
        refine At.ret1 rfl rfl ?_
        exact ⟨_, rfl, by rw [chk_plc, if_neg (fun h => h hz), if_pos ⟨p.2, List.mem_of_getElem? (nds_get hp), h23⟩], hF3.trans hf4⟩
    ·
      have hie : i = ps.length := by omega
      subst hie
      rw [List.take_of_length_le (by simp)] at hmy
      have hmy2 : ¬ ∃ n ∈ nds ps, ¬ mayN n := fun ⟨n, hn, h⟩ => h (hmy n hn)
      refine Sl.nil ?_
      refine At.weak [(0, _), (4, _), (16, _)] ⟨rfl, rfl, rfl, trivial⟩ ?_
      refine At.go ?_
      refine Sc.cond_f rfl ?_
      refine Sc.exit ?_
      refine At.then_exit ?_
      refine At.then_exit ?_
      refine At.block_hit ?_
      refine At.go ?_
      refine Sc.seq ?_
      refine Sc.seq ?_
      refine Sc.region ?_
      refine Sl.calm (Cm.assign rfl) rfl ?_
      refine Sl.nil ?_
      refine At.go ?_
      refine Sc.block ?_
      refine Sc.loop (β := Nat) (fun i => [(0, .slice lo ps.length lc), (6, .int .i64 i)]) (fun i w => i ≤ ps.length ∧ ((nds ps).take i).Pairwise lnkR ∧ Foot nob W w) (fun i => ps.length - i) 0 ⟨rfl, rfl, trivial⟩ ⟨Nat.zero_le _, by simp, hF3⟩ ?_
      rintro i w3 ⟨hi, hlk, hF3⟩
      refine Sc.seq ?_
      refine Sc.seq ?_
      refine Sc.region ?_
      refine Sl.calm (Cm.move rfl) rfl ?_
      refine Sl.calm (Cm.move rfl) rfl ?_
      refine Sl.calm (Cm.len sl25 rfl) rfl ?_
      refine Sl.fork (Cm.lss rfl rfl) rfl (fun h29 => ?_) (fun h29 => ?_)
      ·
        have hil : i < ps.length := by omega
        obtain ⟨p, hp⟩ : ∃ p, ps[i]? = some p := ⟨_, List.getElem?_eq_getElem hil⟩
        have hpm := List.mem_of_getElem? hp
        refine Sl.nil ?_
        refine At.weak [(0, _), (6, _), (29, _)] ⟨rfl, rfl, rfl, trivial⟩ ?_
        refine At.go ?_
        refine Sc.cond_t rfl ?_
        refine Sc.skip ?_
        refine At.go ?_
        refine Sc.seq ?_
        refine Sc.block ?_
        refine Sc.seq ?_
        refine Sc.region ?_
        refine Sl.calm (Cm.assign rfl) rfl ?_
        refine Sl.nil ?_
        refine At.go ?_
        refine Sc.block ?_
        refine Sc.loop (β := Nat) (fun k => [(0, .slice lo ps.length lc), (6, .int .i64 i), (7, .int .i64 k)]) (fun k w => k ≤ i ∧ (∀ n ∈ (nds ps).take k, lnkR n p.2) ∧ Foot nob W w) (fun k => i - k) 0 ⟨rfl, rfl, rfl, trivial⟩ ⟨Nat.zero_le _, by simp, hF3⟩ ?_
        rintro k w4 ⟨hk, hbl, hF4⟩
        refine Sc.seq ?_
        refine Sc.seq ?_
        refine Sc.region ?_
        refine Sl.calm (Cm.move rfl) rfl ?_
        refine Sl.calm (Cm.move rfl) rfl ?_
        refine Sl.fork (Cm.lss rfl rfl) rfl (fun h34 => ?_) (fun h34 => ?_)
        ·
          have hkl : k < i := by omega
          obtain ⟨q, hq⟩ : ∃ q, ps[k]? = some q := ⟨_, List.getElem?_eq_getElem (by omega)⟩
          have hqm := List.mem_of_getElem? hq
          have hv4 := hv.grow hF4
          refine Sl.nil ?_
          refine At.weak [(0, _), (6, _), (7, _), (34, _)] ⟨rfl, rfl, rfl, rfl, trivial⟩ ?_
          refine At.go ?_
          refine Sc.cond_t rfl ?_
          refine Sc.skip ?_
          refine At.go ?_
          refine Sc.seq ?_
          refine Sc.block ?_
          refine Sc.seq ?_
          refine Sc.draw 31 (fun H => VwM 10 encN H lo lc ps) [27] [0, 1, 2, 3, 4, 5, 6, 7, 8, 9, 10, 11, 12, 13, 14, 15, 16, 17, 18, 19, 20, 21, 22, 23, 24, 25, 26, 27, 28, 29, 30] mixed (by kernel_rfl) (hv4.1) ?_
          refine Sx.calm rfl rfl (Cm.move rfl) rfl ?_
          refine Sx.calm rfl rfl (Cm.move rfl) rfl ?_
          refine Sx.calm rfl rfl (Cm.indexAddr sl25 rfl rfl hv4.1.non (by omega)) rfl ?_
          refine Sx.calm rfl rfl (Cm.field fld35_1 rfl) rfl ?_
          refine Sx.calm rfl rfl (Cm.load sca3 rfl (fun H hH => hH.rowZ i rfl hp 1 _ rfl)) rfl ?_
          refine Sx.calm rfl rfl (Cm.move rfl) rfl ?_
          refine Sx.calm rfl rfl (Cm.move rfl) rfl ?_
          refine Sx.calm rfl rfl (Cm.indexAddr sl25 rfl rfl hv4.1.non (by omega)) rfl ?_
          refine Sx.calm rfl rfl (Cm.field fld35_1 rfl) rfl ?_
          refine Sx.calm rfl rfl (Cm.load sca3 rfl (fun H hH => hH.rowZ k rfl hq 1 _ rfl)) rfl ?_
          refine Sx.fork rfl rfl (Cm.eql rfl rfl) rfl (fun h47 => ?_) (fun h47 => ?_)
          ·
            refine Sx.calm rfl rfl (Cm.move rfl) rfl ?_
            refine Sx.want rfl rfl rfl rfl (Cm.move rfl) rfl ?_
            refine Sx.want rfl rfl rfl rfl (Cm.move rfl) rfl ?_
            refine Sx.want rfl rfl rfl rfl (Cm.indexAddr sl25 rfl rfl hv4.1.non (by omega)) rfl ?_
            refine Sx.want rfl rfl rfl rfl (Cm.field fld35_2 rfl) rfl ?_
            refine Sx.want rfl rfl rfl rfl (Cm.load sca3 rfl (fun H hH => hH.rowZ i rfl hp 2 _ rfl)) rfl ?_
            refine Sx.forkWant rfl rfl rfl rfl (Cm.eql rfl rfl) rfl (fun h54 => ?_) (fun h54 => ?_)
            ·
              refine Sx.want rfl rfl rfl rfl (Cm.move rfl) rfl ?_
              refine Sx.skip rfl rfl rfl rfl rfl rfl ?_
              refine Sx.skip rfl rfl rfl rfl rfl rfl ?_
              refine Sx.skip rfl rfl rfl rfl rfl rfl ?_
              refine Sx.skip rfl rfl rfl rfl rfl rfl ?_
              refine Sx.skip rfl rfl rfl rfl rfl rfl ?_
              refine Sx.skip rfl rfl rfl rfl rfl rfl ?_
              refine Sx.skip rfl rfl rfl rfl rfl rfl ?_
              refine Sx.skip rfl rfl rfl rfl rfl rfl ?_
              refine Sx.eff rfl rfl (Sl.skip rfl rfl rfl rfl ?_)
              refine Sx.on (by exact hv4.1) ?_
              refine Sx.skip rfl rfl rfl rfl rfl rfl ?_
              refine Sx.want rfl rfl rfl rfl (Cm.pick_t rfl rfl) rfl ?_
              refine Sx.calm rfl rfl (Cm.pick_t rfl rfl) rfl ?_
              refine Sx.nil ?_
              refine At.weak [(0, _), (6, _), (7, _), (34, _), (67, _)] ⟨rfl, rfl, rfl, rfl, rfl, trivial⟩ ?_
              refine At.go ?_
              refine Sc.cond_t rfl ?_
              refine Sc.seq ?_
              refine Sc.region ?_
              refine Sl.calm (Cm.assign rfl) rfl ?_
              refine Sl.nil ?_
              refine At.go ?_
              refine Sc.ret ?_
              refine At.block_ret ?_
              refine At.then_ret ?_
              refine At.then_ret ?_
              refine At.block_ret ?_
              refine At.block_ret ?_
              refine At.then_ret ?_
              refine At.then_ret ?_
              refine At.block_ret ?_
              refine At.then_ret ?_
              refine At.ret1 rfl rfl ?_
              exact ⟨_, rfl, by rw [chk_plc, if_neg (fun h => h hz), if_neg hmy2, if_neg (fun h => (lnk_at h hkl hq hp h47).1 h54)], hF4.draws _⟩
            ·
              refine Sx.want rfl rfl rfl rfl (Cm.move rfl) rfl ?_
              refine Sx.want rfl rfl rfl rfl (Cm.move rfl) rfl ?_
              refine Sx.want rfl rfl rfl rfl (Cm.move rfl) rfl ?_
              refine Sx.want rfl rfl rfl rfl (Cm.indexAddr sl25 rfl rfl hv4.1.non (by omega)) rfl ?_
              refine Sx.want rfl rfl rfl rfl (Cm.loadM (cs := encN p) agg35 rfl (fun H hH j v hj => hH.rowZ i rfl hp j v hj)) rfl ?_
              refine Sx.want rfl rfl rfl rfl (Cm.move rfl) rfl ?_
              refine Sx.want rfl rfl rfl rfl (Cm.move rfl) rfl ?_
              refine Sx.want rfl rfl rfl rfl (Cm.indexAddr sl25 rfl rfl hv4.1.non (by omega)) rfl ?_
              refine Sx.want rfl rfl rfl rfl (Cm.loadM (cs := encN q) agg35 rfl (fun H hH j v hj => hH.rowZ k rfl hq j v hj)) rfl ?_
              refine Sx.eff rfl rfl (Sl.callWant rfl rfl fn19 rfl (ralike_ok p q _ (hv4.2 p hpm) (hv4.2 q hqm)) rfl ?_)
              rintro _ w5 ⟨rfl, hf5⟩
              have hF5 := (hF4.draws 1).trans hf5
              refine Sx.on (by exact (hv.grow hF5).1) ?_
              by_cases h64 : Alk p.2 q.2
              ·
                rw [decide_eq_true h64]
                refine Sx.want rfl rfl rfl rfl (Cm.not rfl) rfl ?_
                refine Sx.want rfl rfl rfl rfl (Cm.pick_f rfl rfl) rfl ?_
                refine Sx.calm rfl rfl (Cm.pick_t rfl rfl) rfl ?_
                refine Sx.nil ?_
                refine At.weak [(0, _), (6, _), (7, _), (34, _), (67, _)] ⟨rfl, rfl, rfl, rfl, rfl, trivial⟩ ?_
                refine At.go ?_
                refine Sc.cond_f rfl ?_
                refine Sc.skip ?_
                refine At.block_normal ?_
                refine At.go ?_
                refine Sc.region ?_
                refine Sl.calm (Cm.move rfl) rfl ?_
                refine Sl.calm (Cm.add64 rfl rfl (by omega)) rfl ?_
                refine Sl.calm (Cm.assign rfl) rfl ?_
                refine Sl.nil ?_
                first
                  | exact At.again (k + 1) ⟨rfl, rfl, rfl, trivial⟩ ⟨by omega, allT (R := fun n => lnkR n p.2) hq hbl (fun e => absurd e h47), hF4.draws _⟩ (by show i - (k + 1) < i - k; omega)
                  | exact At.again (k + 1) ⟨rfl, rfl, rfl, trivial⟩ ⟨by omega, allT (R := fun n => lnkR n p.2) hq hbl (fun _ => ⟨h54, h64⟩), hF5⟩ (by show i - (k + 1) < i - k; omega)
              ·
                rw [decide_eq_false h64]
                refine Sx.want rfl rfl rfl rfl (Cm.not rfl) rfl ?_
                refine Sx.want rfl rfl rfl rfl (Cm.pick_f rfl rfl) rfl ?_
                refine Sx.calm rfl rfl (Cm.pick_t rfl rfl) rfl ?_
                refine Sx.nil ?_
                refine At.weak [(0, _), (6, _), (7, _), (34, _), (67, _)] ⟨rfl, rfl, rfl, rfl, rfl, trivial⟩ ?_
                refine At.go ?_
                refine Sc.cond_t rfl ?_
                refine Sc.seq ?_
                refine Sc.region ?_
                refine Sl.calm (Cm.assign rfl) rfl ?_
                refine Sl.nil ?_
                refine At.go ?_
                refine Sc.ret ?_
                refine At.block_ret ?_
                refine At.then_ret ?_
                refine At.then_ret ?_
                refine At.block_ret ?_
                refine At.block_ret ?_
                refine At.then_ret ?_
                refine At.then_ret ?_
                refine At.block_ret ?_
                refine At.then_ret ?_
                refine At.ret1 rfl rfl ?_
                exact ⟨_, rfl, by rw [chk_plc, if_neg (fun h => h hz), if_neg hmy2, if_neg (fun h => h64 (lnk_at h hkl hq hp h47).2)], hF5⟩
          ·
            refine Sx.calm rfl rfl (Cm.move rfl) rfl ?_
            refine Sx.skip rfl rfl rfl rfl rfl rfl ?_
            refine Sx.skip rfl rfl rfl rfl rfl rfl ?_
            refine Sx.skip rfl rfl rfl rfl rfl rfl ?_
            refine Sx.skip rfl rfl rfl rfl rfl rfl ?_
            refine Sx.skip rfl rfl rfl rfl rfl rfl ?_
            refine Sx.skip rfl rfl rfl rfl rfl rfl ?_
            refine Sx.skip rfl rfl rfl rfl rfl rfl ?_
            refine Sx.skip rfl rfl rfl rfl rfl rfl ?_
            refine Sx.skip rfl rfl rfl rfl rfl rfl ?_
            refine Sx.skip rfl rfl rfl rfl rfl rfl ?_
            refine Sx.skip rfl rfl rfl rfl rfl rfl ?_
            refine Sx.skip rfl rfl rfl rfl rfl rfl ?_
            refine Sx.skip rfl rfl rfl rfl rfl rfl ?_
            refine Sx.skip rfl rfl rfl rfl rfl rfl ?_
            refine Sx.skip rfl rfl rfl rfl rfl rfl ?_
            refine Sx.eff rfl rfl (Sl.skip rfl rfl rfl rfl ?_)
            refine Sx.on (by exact hv4.1) ?_
            refine Sx.skip rfl rfl rfl rfl rfl rfl ?_
            refine Sx.skip rfl rfl rfl rfl rfl rfl ?_
            refine Sx.calm rfl rfl (Cm.pick_f rfl rfl) rfl ?_
            refine Sx.nil ?_
            refine At.weak [(0, _), (6, _), (7, _), (34, _), (67, _)] ⟨rfl, rfl, rfl, rfl, rfl, trivial⟩ ?_
            refine At.go ?_
            refine Sc.cond_f rfl ?_
            refine Sc.skip ?_
            refine At.block_normal ?_
            refine At.go ?_
            refine Sc.region ?_
            refine Sl.calm (Cm.move rfl) rfl ?_
            refine Sl.calm (Cm.add64 rfl rfl (by omega)) rfl ?_
            refine Sl.calm (Cm.assign rfl) rfl ?_
            refine Sl.nil ?_
            first
              | exact At.again (k + 1) ⟨rfl, rfl, rfl, trivial⟩ ⟨by omega, allT (R := fun n => lnkR n p.2) hq hbl (fun e => absurd e h47), hF4.draws _⟩ (by show i - (k + 1) < i - k; omega)
              | exact At.again (k + 1) ⟨rfl, rfl, rfl, trivial⟩ ⟨by omega, allT (R := fun n => lnkR n p.2) hq hbl (fun _ => ⟨h54, h64⟩), hF5⟩ (by show i - (k + 1) < i - k; omega)
        ·
          rw [show k = i by omega] at hbl
          refine Sl.nil ?_
          refine At.weak [(0, _), (6, _), (7, _), (34, _)] ⟨rfl, rfl, rfl, rfl, trivial⟩ ?_
          refine At.go ?_
          refine Sc.cond_f rfl ?_
          refine Sc.exit ?_
          refine At.then_exit ?_
          refine At.then_exit ?_
          refine At.block_hit ?_
          refine At.block_normal ?_
          refine At.go ?_
          refine Sc.region ?_
          refine Sl.calm (Cm.move rfl) rfl ?_
          refine Sl.calm (Cm.add64 rfl rfl (by omega)) rfl ?_
          refine Sl.calm (Cm.assign rfl) rfl ?_
          refine Sl.nil ?_
          refine At.again (i + 1) ⟨rfl, rfl, trivial⟩ ⟨by omega, ?_, hF4⟩ (by show ps.length - (i + 1) < ps.length - i; omega)
          rw [tkN hp]
          exact List.pairwise_append.2 ⟨hlk, by simp, fun b hb a ha => by rw [List.mem_singleton] at ha; subst ha; exact hbl b hb⟩
      ·
        have hie : i = ps.length := by omega
        subst hie
        rw [List.take_of_length_le (by simp)] at hlk
        refine Sl.nil ?_
        refine At.weak [(0, _), (6, _), (29, _)] ⟨rfl, rfl, rfl, trivial⟩ ?_
        refine At.go ?_
        refine Sc.cond_f rfl ?_
        refine Sc.exit ?_
        refine At.then_exit ?_
        refine At.then_exit ?_
        refine At.block_hit ?_
        refine At.go ?_
        refine Sc.seq ?_
        refine Sc.region ?_
        refine Sl.calm (Cm.assign rfl) rfl ?_
        refine Sl.nil ?_
        refine At.go ?_
        refine Sc.ret ?_
        refine At.ret1 rfl rfl ?_
        exact ⟨_, rfl, by rw [chk_plc, if_neg (fun h => h hz), if_neg hmy2, if_pos hlk], hF3⟩
end Go.Proofs.Ytpamandneifemaa
