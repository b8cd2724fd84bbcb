/- tree: equality of attributes; the reference's May. No condition beyond the bounds that each states. -/
import Derived.Test.YtpnfjfbfgaiolaaKG
import Derived.Test.YtpnfjfbfgaiolaaXbk
import Derived.Laws.StructEq
namespace Go.Proofs.Ytpnfjfbfgaiolaa
open Go Go.RowKit
set_option linter.unusedVariables false

/-! a struct of three numbers -/
def st3B (P : Program) (t e : TypeId) : Bool := match P.underlying t with
  | some (.struct fs) => (match fs.toList with
    | [f0, f1, f2] => decide (f0.type = e ∧ f0.offset = 0 ∧ f0.name ≠ "_") && decide (f1.type = e ∧ f1.offset = 1 ∧ f1.name ≠ "_") && decide (f2.type = e ∧ f2.offset = 2 ∧ f2.name ≠ "_")
    | _ => false)
  | _ => false
theorem run_eq3 {P : Program} {t e : TypeId} (h : st3B P t e = true) (he : P.underlying e = some (.int .i64)) (hs : P.stoodInHeld t = false) (w : World) (a b c a' b' c' : Int) :
    (Op.equalIn 10000 t (.agg [.int .i64 a, .int .i64 b, .int .i64 c].toArray) (.agg [.int .i64 a', .int .i64 b', .int .i64 c'].toArray)).run P w = .ok (decide (a = a' ∧ b = b' ∧ c = c')) w := by
  unfold st3B at h
  split at h
  · rename_i fs hu
    split at h
    · rename_i f0 f1 f2 hl
      simp only [Bool.and_eq_true, decide_eq_true_eq] at h
      obtain ⟨⟨⟨t0, o0, n0⟩, ⟨t1, o1, n1⟩⟩, ⟨t2, o2, n2⟩⟩ := h
      have hf : P.fieldsOf t = fs := by unfold Program.fieldsOf; rw [hu]
      rw [run_equalIn_struct w 9999 t _ _ (by rw [hf]; exact hu) hs, hf, hl]
      have hp : ∀ (cs : Array Value) (o : Nat) (v : Value), cs[o]? = some v → (part e cs o).run P w = .ok v w := fun cs o v hv => by
        simp [part, isAgg, run_underlying he, hv]
      have hq : ∀ (x y : Int), (Op.equalIn 9999 e (.int .i64 x) (.int .i64 y)).run P w = .ok (x == y) w := fun x y => run_equalIn_int w 9998 e .i64 .i64 x y he
      simp only [Op.eqFields, n0, n1, n2, ne_eq, not_false_eq_true, if_true, t0, o0, t1, o1, t2, o2, Sem.run_bind]
      rw [hp _ 0 (.int .i64 a) rfl, Result.andThen_ok, hp _ 0 (.int .i64 a') rfl, Result.andThen_ok, hq, Result.andThen_ok]
      by_cases h1 : a = a'
      · subst h1
        simp only [beq_self_eq_true, Bool.not_true, Bool.false_eq_true, if_false, Sem.run_bind, true_and]
        rw [hp _ 1 (.int .i64 b) rfl, Result.andThen_ok, hp _ 1 (.int .i64 b') rfl, Result.andThen_ok, hq, Result.andThen_ok]
        by_cases h2 : b = b'
        · subst h2
          simp only [beq_self_eq_true, Bool.not_true, Bool.false_eq_true, if_false, Sem.run_bind, true_and]
          rw [hp _ 2 (.int .i64 c) rfl, Result.andThen_ok, hp _ 2 (.int .i64 c') rfl, Result.andThen_ok, hq, Result.andThen_ok]
          by_cases h3 : c = c'
          · subst h3; simp
          · simp [h3]
        · simp [h2]
      · simp [h1]
    · cases h
  · cases h
section
variable {P : Program} {N : Nt} {l : SF} {ty t' : TypeId} {pos : String} {aft : Array Edge} {dd : Option Nat} {g : Option (Nat × Bool)} {CH : Array Obj → Prop} {x y : Operand} {t e : TypeId}
theorem Cm.neqA3 (h : st3B P t e = true) (he : P.underlying e = some (.int .i64)) (hs : P.stoodInHeld t = false) (hg : P.eqGuardType P.depth t = false) {a b c a' b' c' : Int} (hx : evL l x = some (.agg [.int .i64 a, .int .i64 b, .int .i64 c].toArray)) (hy : evL l y = some (.agg [.int .i64 a', .int .i64 b', .int .i64 c'].toArray)) :
    Cm P N CH l ⟨dd, .binOp .neq t x y t', ty, pos, aft, g⟩ (.bool (decide (¬ (a = a' ∧ b = b' ∧ c = c')))) := fun k w ha _ => by
  simp only [execOp, ha.ev hx, ha.ev hy, Sem.run_bind, run_eqGuard_agg w .neq t x y _ _ hg, Result.andThen_ok, run_neq_struct, run_eq3 h he hs]
  simp
theorem Cm.eqlA3 (h : st3B P t e = true) (he : P.underlying e = some (.int .i64)) (hs : P.stoodInHeld t = false) (hg : P.eqGuardType P.depth t = false) {a b c a' b' c' : Int} (hx : evL l x = some (.agg [.int .i64 a, .int .i64 b, .int .i64 c].toArray)) (hy : evL l y = some (.agg [.int .i64 a', .int .i64 b', .int .i64 c'].toArray)) :
    Cm P N CH l ⟨dd, .binOp .eql t x y t', ty, pos, aft, g⟩ (.bool (decide (a = a' ∧ b = b' ∧ c = c'))) := fun k w ha _ => by
  simp only [execOp, ha.ev hx, ha.ev hy, Sem.run_bind, run_eqGuard_agg w .eql t x y _ _ hg, Result.andThen_ok, run_eql_struct, run_eq3 h he hs]
  simp
end
theorem stA : st3B Try.prog 30 3 = true := by kernel_rfl
theorem stAi : Try.prog.underlying 3 = some (.int .i64) := by kernel_rfl
theorem stAh : Try.prog.stoodInHeld 30 = false := by kernel_rfl
theorem stAg : Try.prog.eqGuardType Try.prog.depth 30 = false := by kernel_rfl
theorem cellsF {H : Array Obj} {q : Nat} {cs ds : List Value} {T : TypeId} {fr : Nat × Nat} (h : H[q]? = some (.cells cs.toArray T fr)) (o : Nat) (hd : (cs.drop o).take ds.length = ds) : ∀ (j : Nat) (v : Value), ds[j]? = some v → cellH H (((⟨q, 0, none⟩ : Addr).add o).add j) = some v := by
  intro j v hj
  rw [add2]
  refine cellF h ?_
  rw [← hd, List.getElem?_take] at hj
  split at hj
  · rw [List.getElem?_drop] at hj; exact hj
  · cases hj
def encA (n : Nd) : List Value := [.int .i64 n.md, .int .i64 n.ud, .int .i64 n.gd]

/-! May -/
variable {D : Nat → Prop}
set_option maxHeartbeats 4000000 in
theorem rmay_ok (p : NdH × Nd) (W : World) (hn : NdV D W.heap p) (hsm : smN p.2) :
    Calls Try.prog 34 [.agg (encN p).toArray].toArray W (Ret fun v w' => v = .bool (decide (mayN p.2)) ∧ Foot nob W w') := by
  have no : ∀ w', ¬ mayN p.2 → Foot nob W w' → Ret (fun v w' => v = .bool (decide (mayN p.2)) ∧ Foot nob W w') (.returned (.bool false)) w' := fun w' h f => ⟨_, rfl, by rw [decide_eq_false h], f⟩
  have yes : ∀ w', (mayN p.2 ↔ mayX p.2.xs) → Foot nob W w' → Ret (fun v w' => v = .bool (decide (mayN p.2)) ∧ Foot nob W w') (.returned (.bool (decide (mayX p.2.xs)))) w' := fun w' h f => ⟨_, rfl, congrArg _ (decide_eq_decide.2 h.symm), f⟩
  refine calls_of_sc 95 [(0, _)] Try.func34 rfl rfl rfl (enter_slots ⟨rfl, trivial⟩) ?_
  refine Sc.seq ?_
  refine Sc.region ?_
  refine Sl.box rfl rfl ?_
  intro w1 hg1 hs1 hf1
  obtain ⟨g, hg⟩ : ∃ g, g = W.heap.size := ⟨_, rfl⟩
  rw [← hg] at hg1 hs1 ⊢
  replace hg1 : w1.heap[g]? = some (.cells (encN p).toArray 34 (0, 0)) := hg1
  refine Sl.calm (Cm.assign rfl) rfl ?_
  refine Sl.nil ?_
  refine At.go ?_
  refine Sc.seq ?_
  refine Sc.seq ?_
  refine Sc.region ?_
  refine Sl.calm (Cm.field fld34_2 rfl) rfl ?_
  refine Sl.calm (Cm.ld sca3 rfl (cellF hg1 rfl)) rfl ?_
  refine Sl.fork (Cm.lss rfl rfl) rfl (fun h7 => ?_) (fun h7 => ?_)
  ·
    refine Sl.calm (Cm.move rfl) rfl ?_
    refine Sl.skip rfl rfl rfl rfl ?_
    refine Sl.skip rfl rfl rfl rfl ?_
    refine Sl.skip rfl rfl rfl rfl ?_
    refine Sl.calm (Cm.pick_t rfl rfl) rfl ?_
    refine Sl.calm (Cm.move rfl) rfl ?_
    refine Sl.skip rfl rfl rfl rfl ?_
    refine Sl.skip rfl rfl rfl rfl ?_
    refine Sl.calm (Cm.pick_t rfl rfl) rfl ?_
    refine Sl.nil ?_
    refine At.weak [(0, _), (1, _), (2, _), (16, _)] ⟨rfl, rfl, rfl, rfl, trivial⟩ ?_
    refine At.go ?_
    refine Sc.cond_t rfl ?_
    refine Sc.seq ?_
    refine Sc.region ?_
    refine Sl.calm (Cm.assign rfl) rfl ?_
    refine Sl.nil ?_
    refine At.go ?_
    refine Sc.ret ?_
    refine At.then_ret ?_
    refine At.ret1 rfl rfl ?_
    first
      | exact no _ (fun hm => by have := hm.1; omega) hf1
      | exact no _ (fun hm => by rw [hm.2.1] at h15; cases h15) hf1
      | exact no _ (fun hm => by have h3 := hm.2.2.1; have h4 := hm.2.2.2.1; have h5 := hm.2.2.2.2.1; omega) hF3
      | exact no _ (fun hm => hm.2.2.2.2.2.1.elim (fun e => h49 e) (fun e => by have := congrArg List.length e; have e0 : ([] : List UInt8).length = 0 := rfl; omega)) hF3
      | exact no _ (fun hm => by have := hm.2.2.2.2.2.2.1; omega) hF3
      | exact no _ (fun hm => by have m := hm.2.2.2.2.2.2.2.1; unfold okT at m; rw [if_neg h67] at m; exact h71 m) hF3
      | exact absurd h76 h67
      | exact absurd (Classical.not_not.1 h67) h76
      | exact no _ (fun hm => by have m := hm.2.2.2.2.2.2.2.1; unfold okT at m; rw [if_pos h76] at m; exact m.1 h80) hF3
      | exact no _ (fun hm => by have m := hm.2.2.2.2.2.2.2.1; unfold okT at m; rw [if_pos h76] at m; have := m.2.1; omega) hF3
      | exact no _ (fun hm => by have m := hm.2.2.2.2.2.2.2.1; unfold okT at m; rw [if_pos h76] at m; exact m.2.2 h64) hF3
      | refine yes _ ?_ (hF3.trans hf6)
        have k1 : p.2.kind = 2 ∨ p.2.data = [] := by
          first
            | exact .inl (Classical.not_not.1 h49)
            | exact .inr (List.length_eq_zero_iff.1 (by omega))
        have k2 : okT p.2 := by
          unfold okT
          first
            | (rw [if_neg h67]; exact Classical.not_not.1 h71)
            | (rw [if_pos h76]; exact ⟨h80, by omega, h64⟩)
        exact ⟨fun hm => hm.2.2.2.2.2.2.2.2, fun hx => ⟨by omega, by simpa using h15, by omega, by omega, by omega, k1, by omega, k2, hx⟩⟩
  ·
    refine Sl.calm (Cm.move rfl) rfl ?_
    refine Sl.want rfl rfl (Cm.field fld34_2 rfl) rfl ?_
    refine Sl.want rfl rfl (Cm.ld sca3 rfl (cellF hg1 rfl)) rfl ?_
    refine Sl.forkWant rfl rfl (Cm.gtr rfl rfl) rfl (fun h11 => ?_) (fun h11 => ?_)
    ·
      refine Sl.calm (Cm.pick_f rfl rfl) rfl ?_
      refine Sl.calm (Cm.move rfl) rfl ?_
      refine Sl.skip rfl rfl rfl rfl ?_
      refine Sl.skip rfl rfl rfl rfl ?_
      refine Sl.calm (Cm.pick_t rfl rfl) rfl ?_
      refine Sl.nil ?_
      refine At.weak [(0, _), (1, _), (2, _), (16, _)] ⟨rfl, rfl, rfl, rfl, trivial⟩ ?_
      refine At.go ?_
      refine Sc.cond_t rfl ?_
      refine Sc.seq ?_
      refine Sc.region ?_
      refine Sl.calm (Cm.assign rfl) rfl ?_
      refine Sl.nil ?_
      refine At.go ?_
      refine Sc.ret ?_
      refine At.then_ret ?_
      refine At.ret1 rfl rfl ?_
      first
        | exact no _ (fun hm => by have := hm.1; omega) hf1
        | exact no _ (fun hm => by rw [hm.2.1] at h15; cases h15) hf1
        | exact no _ (fun hm => by have h3 := hm.2.2.1; have h4 := hm.2.2.2.1; have h5 := hm.2.2.2.2.1; omega) hF3
        | exact no _ (fun hm => hm.2.2.2.2.2.1.elim (fun e => h49 e) (fun e => by have := congrArg List.length e; have e0 : ([] : List UInt8).length = 0 := rfl; omega)) hF3
        | exact no _ (fun hm => by have := hm.2.2.2.2.2.2.1; omega) hF3
        | exact no _ (fun hm => by have m := hm.2.2.2.2.2.2.2.1; unfold okT at m; rw [if_neg h67] at m; exact h71 m) hF3
        | exact absurd h76 h67
        | exact absurd (Classical.not_not.1 h67) h76
        | exact no _ (fun hm => by have m := hm.2.2.2.2.2.2.2.1; unfold okT at m; rw [if_pos h76] at m; exact m.1 h80) hF3
        | exact no _ (fun hm => by have m := hm.2.2.2.2.2.2.2.1; unfold okT at m; rw [if_pos h76] at m; have := m.2.1; omega) hF3
        | exact no _ (fun hm => by have m := hm.2.2.2.2.2.2.2.1; unfold okT at m; rw [if_pos h76] at m; exact m.2.2 h64) hF3
        | refine yes _ ?_ (hF3.trans hf6)
          have k1 : p.2.kind = 2 ∨ p.2.data = [] := by
            first
              | exact .inl (Classical.not_not.1 h49)
              | exact .inr (List.length_eq_zero_iff.1 (by omega))
          have k2 : okT p.2 := by
            unfold okT
            first
              | (rw [if_neg h67]; exact Classical.not_not.1 h71)
              | (rw [if_pos h76]; exact ⟨h80, by omega, h64⟩)
          exact ⟨fun hm => hm.2.2.2.2.2.2.2.2, fun hx => ⟨by omega, by simpa using h15, by omega, by omega, by omega, k1, by omega, k2, hx⟩⟩
    ·
      refine Sl.calm (Cm.pick_f rfl rfl) rfl ?_
      refine Sl.calm (Cm.move rfl) rfl ?_
      refine Sl.want rfl rfl (Cm.field fld34_7 rfl) rfl ?_
      refine Sl.forkWant rfl rfl (Cm.ofBool (Cm.ld sca4 rfl (cellF hg1 rfl))) rfl (fun h15 => ?_) (fun h15 => ?_)
      ·
        refine Sl.calm (Cm.pick_f rfl rfl) rfl ?_
        refine Sl.nil ?_
        refine At.weak [(0, _), (1, _), (2, _), (16, _)] ⟨rfl, rfl, rfl, rfl, trivial⟩ ?_
        refine At.go ?_
        refine Sc.cond_t rfl ?_
        refine Sc.seq ?_
        refine Sc.region ?_
        refine Sl.calm (Cm.assign rfl) rfl ?_
        refine Sl.nil ?_
        refine At.go ?_
        refine Sc.ret ?_
        refine At.then_ret ?_
        refine At.ret1 rfl rfl ?_
        first
          | exact no _ (fun hm => by have := hm.1; omega) hf1
          | exact no _ (fun hm => by rw [hm.2.1] at h15; cases h15) hf1
          | exact no _ (fun hm => by have h3 := hm.2.2.1; have h4 := hm.2.2.2.1; have h5 := hm.2.2.2.2.1; omega) hF3
          | exact no _ (fun hm => hm.2.2.2.2.2.1.elim (fun e => h49 e) (fun e => by have := congrArg List.length e; have e0 : ([] : List UInt8).length = 0 := rfl; omega)) hF3
          | exact no _ (fun hm => by have := hm.2.2.2.2.2.2.1; omega) hF3
          | exact no _ (fun hm => by have m := hm.2.2.2.2.2.2.2.1; unfold okT at m; rw [if_neg h67] at m; exact h71 m) hF3
          | exact absurd h76 h67
          | exact absurd (Classical.not_not.1 h67) h76
          | exact no _ (fun hm => by have m := hm.2.2.2.2.2.2.2.1; unfold okT at m; rw [if_pos h76] at m; exact m.1 h80) hF3
          | exact no _ (fun hm => by have m := hm.2.2.2.2.2.2.2.1; unfold okT at m; rw [if_pos h76] at m; have := m.2.1; omega) hF3
          | exact no _ (fun hm => by have m := hm.2.2.2.2.2.2.2.1; unfold okT at m; rw [if_pos h76] at m; exact m.2.2 h64) hF3
          | refine yes _ ?_ (hF3.trans hf6)
            have k1 : p.2.kind = 2 ∨ p.2.data = [] := by
              first
                | exact .inl (Classical.not_not.1 h49)
                | exact .inr (List.length_eq_zero_iff.1 (by omega))
            have k2 : okT p.2 := by
              unfold okT
              first
                | (rw [if_neg h67]; exact Classical.not_not.1 h71)
                | (rw [if_pos h76]; exact ⟨h80, by omega, h64⟩)
            exact ⟨fun hm => hm.2.2.2.2.2.2.2.2, fun hx => ⟨by omega, by simpa using h15, by omega, by omega, by omega, k1, by omega, k2, hx⟩⟩
      ·
        refine Sl.calm (Cm.pick_f rfl rfl) rfl ?_
        refine Sl.nil ?_
        refine At.weak [(0, _), (1, _), (2, _), (16, _)] ⟨rfl, rfl, rfl, rfl, trivial⟩ ?_
        refine At.go ?_
        refine Sc.cond_f rfl ?_
        refine Sc.skip ?_
        refine At.go ?_
        refine Sc.seq ?_
        refine Sc.region ?_
        refine Sl.calm (Cm.field fld34_3 rfl) rfl ?_
        refine Sl.calm (Cm.ldM (cs := encA p.2) agg30 rfl (cellsF hg1 3 rfl)) rfl ?_
        refine Sl.allocC zc30 rfl ?_
        intro w2 hg2 hs2 hf2
        obtain ⟨q, hq⟩ : ∃ q, q = w1.heap.size := ⟨_, rfl⟩
        rw [← hq] at hg2 ⊢
        refine Sl.storeAll (vs := encA p.2) agg30 rfl rfl (by simp [encA, Value.oneCell']) hg2 rfl ?_
        intro w3 hg3 hs3 hf3
        have hf13 : Foot nob w1 w3 := hf2.trans_to hf3 (fun k e => .inr (by have e : k = q := e; omega))
        have hg4 := hf13.obj hg1 id
        have hF3 := hf1.trans hf13
        have hn3 := hn.grow hF3
        refine Sl.nil ?_
        refine At.weak [(0, _), (1, _), (2, _), (3, _), (16, _)] ⟨rfl, rfl, rfl, rfl, rfl, trivial⟩ ?_
        refine At.go ?_
        refine Sc.seq ?_
        refine Sc.seq ?_
        refine Sc.region ?_
        refine Sl.calm (Cm.field fld30_0 rfl) rfl ?_
        refine Sl.calm (Cm.ld sca3 rfl (cellF hg3 rfl)) rfl ?_
        refine Sl.fork (Cm.lss rfl rfl) rfl (fun h21 => ?_) (fun h21 => ?_)
        ·
          refine Sl.calm (Cm.move rfl) rfl ?_
          refine Sl.skip rfl rfl rfl rfl ?_
          refine Sl.skip rfl rfl rfl rfl ?_
          refine Sl.skip rfl rfl rfl rfl ?_
          refine Sl.calm (Cm.pick_t rfl rfl) rfl ?_
          refine Sl.calm (Cm.move rfl) rfl ?_
          refine Sl.skip rfl rfl rfl rfl ?_
          refine Sl.skip rfl rfl rfl rfl ?_
          refine Sl.skip rfl rfl rfl rfl ?_
          refine Sl.calm (Cm.pick_t rfl rfl) rfl ?_
          refine Sl.calm (Cm.move rfl) rfl ?_
          refine Sl.skip rfl rfl rfl rfl ?_
          refine Sl.skip rfl rfl rfl rfl ?_
          refine Sl.skip rfl rfl rfl rfl ?_
          refine Sl.calm (Cm.pick_t rfl rfl) rfl ?_
          refine Sl.calm (Cm.move rfl) rfl ?_
          refine Sl.skip rfl rfl rfl rfl ?_
          refine Sl.skip rfl rfl rfl rfl ?_
          refine Sl.skip rfl rfl rfl rfl ?_
          refine Sl.calm (Cm.pick_t rfl rfl) rfl ?_
          refine Sl.calm (Cm.move rfl) rfl ?_
          refine Sl.skip rfl rfl rfl rfl ?_
          refine Sl.skip rfl rfl rfl rfl ?_
          refine Sl.skip rfl rfl rfl rfl ?_
          refine Sl.calm (Cm.pick_t rfl rfl) rfl ?_
          refine Sl.nil ?_
          refine At.weak [(0, _), (1, _), (2, _), (3, _), (16, _), (46, _)] ⟨rfl, rfl, rfl, rfl, rfl, rfl, trivial⟩ ?_
          refine At.go ?_
          refine Sc.cond_t rfl ?_
          refine Sc.seq ?_
          refine Sc.region ?_
          refine Sl.calm (Cm.assign rfl) rfl ?_
          refine Sl.nil ?_
          refine At.go ?_
          refine Sc.ret ?_
          refine At.then_ret ?_
          refine At.ret1 rfl rfl ?_
          first
            | exact no _ (fun hm => by have := hm.1; omega) hf1
            | exact no _ (fun hm => by rw [hm.2.1] at h15; cases h15) hf1
            | exact no _ (fun hm => by have h3 := hm.2.2.1; have h4 := hm.2.2.2.1; have h5 := hm.2.2.2.2.1; omega) hF3
            | exact no _ (fun hm => hm.2.2.2.2.2.1.elim (fun e => h49 e) (fun e => by have := congrArg List.length e; have e0 : ([] : List UInt8).length = 0 := rfl; omega)) hF3
            | exact no _ (fun hm => by have := hm.2.2.2.2.2.2.1; omega) hF3
            | exact no _ (fun hm => by have m := hm.2.2.2.2.2.2.2.1; unfold okT at m; rw [if_neg h67] at m; exact h71 m) hF3
            | exact absurd h76 h67
            | exact absurd (Classical.not_not.1 h67) h76
            | exact no _ (fun hm => by have m := hm.2.2.2.2.2.2.2.1; unfold okT at m; rw [if_pos h76] at m; exact m.1 h80) hF3
            | exact no _ (fun hm => by have m := hm.2.2.2.2.2.2.2.1; unfold okT at m; rw [if_pos h76] at m; have := m.2.1; omega) hF3
            | exact no _ (fun hm => by have m := hm.2.2.2.2.2.2.2.1; unfold okT at m; rw [if_pos h76] at m; exact m.2.2 h64) hF3
            | refine yes _ ?_ (hF3.trans hf6)
              have k1 : p.2.kind = 2 ∨ p.2.data = [] := by
                first
                  | exact .inl (Classical.not_not.1 h49)
                  | exact .inr (List.length_eq_zero_iff.1 (by omega))
              have k2 : okT p.2 := by
                unfold okT
                first
                  | (rw [if_neg h67]; exact Classical.not_not.1 h71)
                  | (rw [if_pos h76]; exact ⟨h80, by omega, h64⟩)
              exact ⟨fun hm => hm.2.2.2.2.2.2.2.2, fun hx => ⟨by omega, by simpa using h15, by omega, by omega, by omega, k1, by omega, k2, hx⟩⟩
        ·
          refine Sl.calm (Cm.move rfl) rfl ?_
          refine Sl.want rfl rfl (Cm.field fld30_0 rfl) rfl ?_
          refine Sl.want rfl rfl (Cm.ld sca3 rfl (cellF hg3 rfl)) rfl ?_
          refine Sl.forkWant rfl rfl (Cm.gtr rfl rfl) rfl (fun h25 => ?_) (fun h25 => ?_)
          ·
            refine Sl.calm (Cm.pick_f rfl rfl) rfl ?_
            refine Sl.calm (Cm.move rfl) rfl ?_
            refine Sl.skip rfl rfl rfl rfl ?_
            refine Sl.skip rfl rfl rfl rfl ?_
            refine Sl.skip rfl rfl rfl rfl ?_
            refine Sl.calm (Cm.pick_t rfl rfl) rfl ?_
            refine Sl.calm (Cm.move rfl) rfl ?_
            refine Sl.skip rfl rfl rfl rfl ?_
            refine Sl.skip rfl rfl rfl rfl ?_
            refine Sl.skip rfl rfl rfl rfl ?_
            refine Sl.calm (Cm.pick_t rfl rfl) rfl ?_
            refine Sl.calm (Cm.move rfl) rfl ?_
            refine Sl.skip rfl rfl rfl rfl ?_
            refine Sl.skip rfl rfl rfl rfl ?_
            refine Sl.skip rfl rfl rfl rfl ?_
            refine Sl.calm (Cm.pick_t rfl rfl) rfl ?_
            refine Sl.calm (Cm.move rfl) rfl ?_
            refine Sl.skip rfl rfl rfl rfl ?_
            refine Sl.skip rfl rfl rfl rfl ?_
            refine Sl.skip rfl rfl rfl rfl ?_
            refine Sl.calm (Cm.pick_t rfl rfl) rfl ?_
            refine Sl.nil ?_
            refine At.weak [(0, _), (1, _), (2, _), (3, _), (16, _), (46, _)] ⟨rfl, rfl, rfl, rfl, rfl, rfl, trivial⟩ ?_
            refine At.go ?_
            refine Sc.cond_t rfl ?_
            refine Sc.seq ?_
            refine Sc.region ?_
            refine Sl.calm (Cm.assign rfl) rfl ?_
            refine Sl.nil ?_
            refine At.go ?_
            refine Sc.ret ?_
            refine At.then_ret ?_
            refine At.ret1 rfl rfl ?_
            first
              | exact no _ (fun hm => by have := hm.1; omega) hf1
              | exact no _ (fun hm => by rw [hm.2.1] at h15; cases h15) hf1
              | exact no _ (fun hm => by have h3 := hm.2.2.1; have h4 := hm.2.2.2.1; have h5 := hm.2.2.2.2.1; omega) hF3
              | exact no _ (fun hm => hm.2.2.2.2.2.1.elim (fun e => h49 e) (fun e => by have := congrArg List.length e; have e0 : ([] : List UInt8).length = 0 := rfl; omega)) hF3
              | exact no _ (fun hm => by have := hm.2.2.2.2.2.2.1; omega) hF3
              | exact no _ (fun hm => by have m := hm.2.2.2.2.2.2.2.1; unfold okT at m; rw [if_neg h67] at m; exact h71 m) hF3
              | exact absurd h76 h67
              | exact absurd (Classical.not_not.1 h67) h76
              | exact no _ (fun hm => by have m := hm.2.2.2.2.2.2.2.1; unfold okT at m; rw [if_pos h76] at m; exact m.1 h80) hF3
              | exact no _ (fun hm => by have m := hm.2.2.2.2.2.2.2.1; unfold okT at m; rw [if_pos h76] at m; have := m.2.1; omega) hF3
              | exact no _ (fun hm => by have m := hm.2.2.2.2.2.2.2.1; unfold okT at m; rw [if_pos h76] at m; exact m.2.2 h64) hF3
              | refine yes _ ?_ (hF3.trans hf6)
                have k1 : p.2.kind = 2 ∨ p.2.data = [] := by
                  first
                    | exact .inl (Classical.not_not.1 h49)
                    | exact .inr (List.length_eq_zero_iff.1 (by omega))
                have k2 : okT p.2 := by
                  unfold okT
                  first
                    | (rw [if_neg h67]; exact Classical.not_not.1 h71)
                    | (rw [if_pos h76]; exact ⟨h80, by omega, h64⟩)
                exact ⟨fun hm => hm.2.2.2.2.2.2.2.2, fun hx => ⟨by omega, by simpa using h15, by omega, by omega, by omega, k1, by omega, k2, hx⟩⟩
          ·
            refine Sl.calm (Cm.pick_f rfl rfl) rfl ?_
            refine Sl.calm (Cm.move rfl) rfl ?_
            refine Sl.want rfl rfl (Cm.field fld30_1 rfl) rfl ?_
            refine Sl.want rfl rfl (Cm.ld sca3 rfl (cellF hg3 rfl)) rfl ?_
            refine Sl.forkWant rfl rfl (Cm.lss rfl rfl) rfl (fun h30 => ?_) (fun h30 => ?_)
            ·
              refine Sl.calm (Cm.pick_f rfl rfl) rfl ?_
              refine Sl.calm (Cm.move rfl) rfl ?_
              refine Sl.skip rfl rfl rfl rfl ?_
              refine Sl.skip rfl rfl rfl rfl ?_
              refine Sl.skip rfl rfl rfl rfl ?_
              refine Sl.calm (Cm.pick_t rfl rfl) rfl ?_
              refine Sl.calm (Cm.move rfl) rfl ?_
              refine Sl.skip rfl rfl rfl rfl ?_
              refine Sl.skip rfl rfl rfl rfl ?_
              refine Sl.skip rfl rfl rfl rfl ?_
              refine Sl.calm (Cm.pick_t rfl rfl) rfl ?_
              refine Sl.calm (Cm.move rfl) rfl ?_
              refine Sl.skip rfl rfl rfl rfl ?_
              refine Sl.skip rfl rfl rfl rfl ?_
              refine Sl.skip rfl rfl rfl rfl ?_
              refine Sl.calm (Cm.pick_t rfl rfl) rfl ?_
              refine Sl.nil ?_
              refine At.weak [(0, _), (1, _), (2, _), (3, _), (16, _), (46, _)] ⟨rfl, rfl, rfl, rfl, rfl, rfl, trivial⟩ ?_
              refine At.go ?_
              refine Sc.cond_t rfl ?_
              refine Sc.seq ?_
              refine Sc.region ?_
              refine Sl.calm (Cm.assign rfl) rfl ?_
              refine Sl.nil ?_
              refine At.go ?_
              refine Sc.ret ?_
              refine At.then_ret ?_
              refine At.ret1 rfl rfl ?_
              first
                | exact no _ (fun hm => by have := hm.1; omega) hf1
                | exact no _ (fun hm => by rw [hm.2.1] at h15; cases h15) hf1
                | exact no _ (fun hm => by have h3 := hm.2.2.1; have h4 := hm.2.2.2.1; have h5 := hm.2.2.2.2.1; omega) hF3
                | exact no _ (fun hm => hm.2.2.2.2.2.1.elim (fun e => h49 e) (fun e => by have := congrArg List.length e; have e0 : ([] : List UInt8).length = 0 := rfl; omega)) hF3
                | exact no _ (fun hm => by have := hm.2.2.2.2.2.2.1; omega) hF3
                | exact no _ (fun hm => by have m := hm.2.2.2.2.2.2.2.1; unfold okT at m; rw [if_neg h67] at m; exact h71 m) hF3
                | exact absurd h76 h67
                | exact absurd (Classical.not_not.1 h67) h76
                | exact no _ (fun hm => by have m := hm.2.2.2.2.2.2.2.1; unfold okT at m; rw [if_pos h76] at m; exact m.1 h80) hF3
                | exact no _ (fun hm => by have m := hm.2.2.2.2.2.2.2.1; unfold okT at m; rw [if_pos h76] at m; have := m.2.1; omega) hF3
                | exact no _ (fun hm => by have m := hm.2.2.2.2.2.2.2.1; unfold okT at m; rw [if_pos h76] at m; exact m.2.2 h64) hF3
                | refine yes _ ?_ (hF3.trans hf6)
                  have k1 : p.2.kind = 2 ∨ p.2.data = [] := by
                    first
                      | exact .inl (Classical.not_not.1 h49)
                      | exact .inr (List.length_eq_zero_iff.1 (by omega))
                  have k2 : okT p.2 := by
                    unfold okT
                    first
                      | (rw [if_neg h67]; exact Classical.not_not.1 h71)
                      | (rw [if_pos h76]; exact ⟨h80, by omega, h64⟩)
                  exact ⟨fun hm => hm.2.2.2.2.2.2.2.2, fun hx => ⟨by omega, by simpa using h15, by omega, by omega, by omega, k1, by omega, k2, hx⟩⟩
            ·
              refine Sl.calm (Cm.pick_f rfl rfl) rfl ?_
              refine Sl.calm (Cm.move rfl) rfl ?_
              refine Sl.want rfl rfl (Cm.field fld30_1 rfl) rfl ?_
              refine Sl.want rfl rfl (Cm.ld sca3 rfl (cellF hg3 rfl)) rfl ?_
              refine Sl.forkWant rfl rfl (Cm.gtr rfl rfl) rfl (fun h35 => ?_) (fun h35 => ?_)
              ·
                refine Sl.calm (Cm.pick_f rfl rfl) rfl ?_
                refine Sl.calm (Cm.move rfl) rfl ?_
                refine Sl.skip rfl rfl rfl rfl ?_
                refine Sl.skip rfl rfl rfl rfl ?_
                refine Sl.skip rfl rfl rfl rfl ?_
                refine Sl.calm (Cm.pick_t rfl rfl) rfl ?_
                refine Sl.calm (Cm.move rfl) rfl ?_
                refine Sl.skip rfl rfl rfl rfl ?_
                refine Sl.skip rfl rfl rfl rfl ?_
                refine Sl.skip rfl rfl rfl rfl ?_
                refine Sl.calm (Cm.pick_t rfl rfl) rfl ?_
                refine Sl.nil ?_
                refine At.weak [(0, _), (1, _), (2, _), (3, _), (16, _), (46, _)] ⟨rfl, rfl, rfl, rfl, rfl, rfl, trivial⟩ ?_
                refine At.go ?_
                refine Sc.cond_t rfl ?_
                refine Sc.seq ?_
                refine Sc.region ?_
                refine Sl.calm (Cm.assign rfl) rfl ?_
                refine Sl.nil ?_
                refine At.go ?_
                refine Sc.ret ?_
                refine At.then_ret ?_
                refine At.ret1 rfl rfl ?_
                first
                  | exact no _ (fun hm => by have := hm.1; omega) hf1
                  | exact no _ (fun hm => by rw [hm.2.1] at h15; cases h15) hf1
                  | exact no _ (fun hm => by have h3 := hm.2.2.1; have h4 := hm.2.2.2.1; have h5 := hm.2.2.2.2.1; omega) hF3
                  | exact no _ (fun hm => hm.2.2.2.2.2.1.elim (fun e => h49 e) (fun e => by have := congrArg List.length e; have e0 : ([] : List UInt8).length = 0 := rfl; omega)) hF3
                  | exact no _ (fun hm => by have := hm.2.2.2.2.2.2.1; omega) hF3
                  | exact no _ (fun hm => by have m := hm.2.2.2.2.2.2.2.1; unfold okT at m; rw [if_neg h67] at m; exact h71 m) hF3
                  | exact absurd h76 h67
                  | exact absurd (Classical.not_not.1 h67) h76
                  | exact no _ (fun hm => by have m := hm.2.2.2.2.2.2.2.1; unfold okT at m; rw [if_pos h76] at m; exact m.1 h80) hF3
                  | exact no _ (fun hm => by have m := hm.2.2.2.2.2.2.2.1; unfold okT at m; rw [if_pos h76] at m; have := m.2.1; omega) hF3
                  | exact no _ (fun hm => by have m := hm.2.2.2.2.2.2.2.1; unfold okT at m; rw [if_pos h76] at m; exact m.2.2 h64) hF3
                  | refine yes _ ?_ (hF3.trans hf6)
                    have k1 : p.2.kind = 2 ∨ p.2.data = [] := by
                      first
                        | exact .inl (Classical.not_not.1 h49)
                        | exact .inr (List.length_eq_zero_iff.1 (by omega))
                    have k2 : okT p.2 := by
                      unfold okT
                      first
                        | (rw [if_neg h67]; exact Classical.not_not.1 h71)
                        | (rw [if_pos h76]; exact ⟨h80, by omega, h64⟩)
                    exact ⟨fun hm => hm.2.2.2.2.2.2.2.2, fun hx => ⟨by omega, by simpa using h15, by omega, by omega, by omega, k1, by omega, k2, hx⟩⟩
              ·
                refine Sl.calm (Cm.pick_f rfl rfl) rfl ?_
                refine Sl.calm (Cm.move rfl) rfl ?_
                refine Sl.want rfl rfl (Cm.field fld30_2 rfl) rfl ?_
                refine Sl.want rfl rfl (Cm.ld sca3 rfl (cellF hg3 rfl)) rfl ?_
                refine Sl.forkWant rfl rfl (Cm.lss rfl rfl) rfl (fun h40 => ?_) (fun h40 => ?_)
                ·
                  refine Sl.calm (Cm.pick_f rfl rfl) rfl ?_
                  refine Sl.calm (Cm.move rfl) rfl ?_
                  refine Sl.skip rfl rfl rfl rfl ?_
                  refine Sl.skip rfl rfl rfl rfl ?_
                  refine Sl.skip rfl rfl rfl rfl ?_
                  refine Sl.calm (Cm.pick_t rfl rfl) rfl ?_
                  refine Sl.nil ?_
                  refine At.weak [(0, _), (1, _), (2, _), (3, _), (16, _), (46, _)] ⟨rfl, rfl, rfl, rfl, rfl, rfl, trivial⟩ ?_
                  refine At.go ?_
                  refine Sc.cond_t rfl ?_
                  refine Sc.seq ?_
                  refine Sc.region ?_
                  refine Sl.calm (Cm.assign rfl) rfl ?_
                  refine Sl.nil ?_
                  refine At.go ?_
                  refine Sc.ret ?_
                  refine At.then_ret ?_
                  refine At.ret1 rfl rfl ?_
                  first
                    | exact no _ (fun hm => by have := hm.1; omega) hf1
                    | exact no _ (fun hm => by rw [hm.2.1] at h15; cases h15) hf1
                    | exact no _ (fun hm => by have h3 := hm.2.2.1; have h4 := hm.2.2.2.1; have h5 := hm.2.2.2.2.1; omega) hF3
                    | exact no _ (fun hm => hm.2.2.2.2.2.1.elim (fun e => h49 e) (fun e => by have := congrArg List.length e; have e0 : ([] : List UInt8).length = 0 := rfl; omega)) hF3
                    | exact no _ (fun hm => by have := hm.2.2.2.2.2.2.1; omega) hF3
                    | exact no _ (fun hm => by have m := hm.2.2.2.2.2.2.2.1; unfold okT at m; rw [if_neg h67] at m; exact h71 m) hF3
                    | exact absurd h76 h67
                    | exact absurd (Classical.not_not.1 h67) h76
                    | exact no _ (fun hm => by have m := hm.2.2.2.2.2.2.2.1; unfold okT at m; rw [if_pos h76] at m; exact m.1 h80) hF3
                    | exact no _ (fun hm => by have m := hm.2.2.2.2.2.2.2.1; unfold okT at m; rw [if_pos h76] at m; have := m.2.1; omega) hF3
                    | exact no _ (fun hm => by have m := hm.2.2.2.2.2.2.2.1; unfold okT at m; rw [if_pos h76] at m; exact m.2.2 h64) hF3
                    | refine yes _ ?_ (hF3.trans hf6)
                      have k1 : p.2.kind = 2 ∨ p.2.data = [] := by
                        first
                          | exact .inl (Classical.not_not.1 h49)
                          | exact .inr (List.length_eq_zero_iff.1 (by omega))
                      have k2 : okT p.2 := by
                        unfold okT
                        first
                          | (rw [if_neg h67]; exact Classical.not_not.1 h71)
                          | (rw [if_pos h76]; exact ⟨h80, by omega, h64⟩)
                      exact ⟨fun hm => hm.2.2.2.2.2.2.2.2, fun hx => ⟨by omega, by simpa using h15, by omega, by omega, by omega, k1, by omega, k2, hx⟩⟩
                ·
                  refine Sl.calm (Cm.pick_f rfl rfl) rfl ?_
                  refine Sl.calm (Cm.move rfl) rfl ?_
                  refine Sl.want rfl rfl (Cm.field fld30_2 rfl) rfl ?_
                  refine Sl.want rfl rfl (Cm.ld sca3 rfl (cellF hg3 rfl)) rfl ?_
                  refine Sl.forkWant rfl rfl (Cm.gtr rfl rfl) rfl (fun h45 => ?_) (fun h45 => ?_)
                  ·
                    refine Sl.calm (Cm.pick_f rfl rfl) rfl ?_
                    refine Sl.nil ?_
                    refine At.weak [(0, _), (1, _), (2, _), (3, _), (16, _), (46, _)] ⟨rfl, rfl, rfl, rfl, rfl, rfl, trivial⟩ ?_
                    refine At.go ?_
                    refine Sc.cond_t rfl ?_
                    refine Sc.seq ?_
                    refine Sc.region ?_
                    refine Sl.calm (Cm.assign rfl) rfl ?_
                    refine Sl.nil ?_
                    refine At.go ?_
                    refine Sc.ret ?_
                    refine At.then_ret ?_
                    refine At.ret1 rfl rfl ?_
                    first
                      | exact no _ (fun hm => by have := hm.1; omega) hf1
                      | exact no _ (fun hm => by rw [hm.2.1] at h15; cases h15) hf1
                      | exact no _ (fun hm => by have h3 := hm.2.2.1; have h4 := hm.2.2.2.1; have h5 := hm.2.2.2.2.1; omega) hF3
                      | exact no _ (fun hm => hm.2.2.2.2.2.1.elim (fun e => h49 e) (fun e => by have := congrArg List.length e; have e0 : ([] : List UInt8).length = 0 := rfl; omega)) hF3
                      | exact no _ (fun hm => by have := hm.2.2.2.2.2.2.1; omega) hF3
                      | exact no _ (fun hm => by have m := hm.2.2.2.2.2.2.2.1; unfold okT at m; rw [if_neg h67] at m; exact h71 m) hF3
                      | exact absurd h76 h67
                      | exact absurd (Classical.not_not.1 h67) h76
                      | exact no _ (fun hm => by have m := hm.2.2.2.2.2.2.2.1; unfold okT at m; rw [if_pos h76] at m; exact m.1 h80) hF3
                      | exact no _ (fun hm => by have m := hm.2.2.2.2.2.2.2.1; unfold okT at m; rw [if_pos h76] at m; have := m.2.1; omega) hF3
                      | exact no _ (fun hm => by have m := hm.2.2.2.2.2.2.2.1; unfold okT at m; rw [if_pos h76] at m; exact m.2.2 h64) hF3
                      | refine yes _ ?_ (hF3.trans hf6)
                        have k1 : p.2.kind = 2 ∨ p.2.data = [] := by
                          first
                            | exact .inl (Classical.not_not.1 h49)
                            | exact .inr (List.length_eq_zero_iff.1 (by omega))
                        have k2 : okT p.2 := by
                          unfold okT
                          first
                            | (rw [if_neg h67]; exact Classical.not_not.1 h71)
                            | (rw [if_pos h76]; exact ⟨h80, by omega, h64⟩)
                        exact ⟨fun hm => hm.2.2.2.2.2.2.2.2, fun hx => ⟨by omega, by simpa using h15, by omega, by omega, by omega, k1, by omega, k2, hx⟩⟩
                  ·
                    refine Sl.calm (Cm.pick_f rfl rfl) rfl ?_
                    refine Sl.nil ?_
                    refine At.weak [(0, _), (1, _), (2, _), (3, _), (16, _), (46, _)] ⟨rfl, rfl, rfl, rfl, rfl, rfl, trivial⟩ ?_
                    refine At.go ?_
                    refine Sc.cond_f rfl ?_
                    refine Sc.skip ?_
                    refine At.go ?_
                    refine Sc.seq ?_
                    refine Sc.seq ?_
                    refine Sc.region ?_
                    refine Sl.calm (Cm.field fld34_2 rfl) rfl ?_
                    refine Sl.calm (Cm.ld sca3 rfl (cellF hg4 rfl)) rfl ?_
                    refine Sl.fork (Cm.neq rfl rfl) rfl (fun h49 => ?_) (fun h49 => ?_)
                    ·
                      refine Sl.calm (Cm.move rfl) rfl ?_
                      refine Sl.want rfl rfl (Cm.field fld34_4 rfl) rfl ?_
                      refine Sl.want rfl rfl (Cm.ld sca31 rfl (cellF hg4 rfl)) rfl ?_
                      refine Sl.want rfl rfl (Cm.len sl31 rfl) rfl ?_
                      rw [hn3.2.1.1]
                      refine Sl.forkWant rfl rfl (Cm.gtr rfl rfl) rfl (fun h54 => ?_) (fun h54 => ?_)
                      ·
                        refine Sl.calm (Cm.pick_t rfl rfl) rfl ?_
                        refine Sl.calm (Cm.move rfl) rfl ?_
                        refine Sl.skip rfl rfl rfl rfl ?_
                        refine Sl.skip rfl rfl rfl rfl ?_
                        refine Sl.skip rfl rfl rfl rfl ?_
                        refine Sl.skip rfl rfl rfl rfl ?_
                        refine Sl.calm (Cm.pick_t rfl rfl) rfl ?_
                        refine Sl.nil ?_
                        refine At.weak [(0, _), (1, _), (2, _), (3, _), (16, _), (46, _), (61, _)] ⟨rfl, rfl, rfl, rfl, rfl, rfl, rfl, trivial⟩ ?_
                        refine At.go ?_
                        refine Sc.cond_t rfl ?_
                        refine Sc.seq ?_
                        refine Sc.region ?_
                        refine Sl.calm (Cm.assign rfl) rfl ?_
                        refine Sl.nil ?_
                        refine At.go ?_
                        refine Sc.ret ?_
                        refine At.then_ret ?_
                        refine At.ret1 rfl rfl ?_
                        first
                          | exact no _ (fun hm => by have := hm.1; omega) hf1
                          | exact no _ (fun hm => by rw [hm.2.1] at h15; cases h15) hf1
                          | exact no _ (fun hm => by have h3 := hm.2.2.1; have h4 := hm.2.2.2.1; have h5 := hm.2.2.2.2.1; omega) hF3
                          | exact no _ (fun hm => hm.2.2.2.2.2.1.elim (fun e => h49 e) (fun e => by have := congrArg List.length e; have e0 : ([] : List UInt8).length = 0 := rfl; omega)) hF3
                          | exact no _ (fun hm => by have := hm.2.2.2.2.2.2.1; omega) hF3
                          | exact no _ (fun hm => by have m := hm.2.2.2.2.2.2.2.1; unfold okT at m; rw [if_neg h67] at m; exact h71 m) hF3
                          | exact absurd h76 h67
                          | exact absurd (Classical.not_not.1 h67) h76
                          | exact no _ (fun hm => by have m := hm.2.2.2.2.2.2.2.1; unfold okT at m; rw [if_pos h76] at m; exact m.1 h80) hF3
                          | exact no _ (fun hm => by have m := hm.2.2.2.2.2.2.2.1; unfold okT at m; rw [if_pos h76] at m; have := m.2.1; omega) hF3
                          | exact no _ (fun hm => by have m := hm.2.2.2.2.2.2.2.1; unfold okT at m; rw [if_pos h76] at m; exact m.2.2 h64) hF3
                          | refine yes _ ?_ (hF3.trans hf6)
                            have k1 : p.2.kind = 2 ∨ p.2.data = [] := by
                              first
                                | exact .inl (Classical.not_not.1 h49)
                                | exact .inr (List.length_eq_zero_iff.1 (by omega))
                            have k2 : okT p.2 := by
                              unfold okT
                              first
                                | (rw [if_neg h67]; exact Classical.not_not.1 h71)
                                | (rw [if_pos h76]; exact ⟨h80, by omega, h64⟩)
                            exact ⟨fun hm => hm.2.2.2.2.2.2.2.2, fun hx => ⟨by omega, by simpa using h15, by omega, by omega, by omega, k1, by omega, k2, hx⟩⟩
                      ·
                        refine Sl.calm (Cm.pick_t rfl rfl) rfl ?_
                        refine Sl.calm (Cm.move rfl) rfl ?_
                        refine Sl.want rfl rfl (Cm.field fld34_4 rfl) rfl ?_
                        refine Sl.want rfl rfl (Cm.ld sca31 rfl (cellF hg4 rfl)) rfl ?_
                        refine Sl.want rfl rfl (Cm.len sl31 rfl) rfl ?_
                        rw [hn3.2.1.1]
                        refine Sl.forkWant rfl rfl (Cm.gtr rfl rfl) rfl (fun h60 => ?_) (fun h60 => ?_)
                        ·
                          refine Sl.calm (Cm.pick_f rfl rfl) rfl ?_
                          refine Sl.nil ?_
                          refine At.weak [(0, _), (1, _), (2, _), (3, _), (16, _), (46, _), (61, _)] ⟨rfl, rfl, rfl, rfl, rfl, rfl, rfl, trivial⟩ ?_
                          refine At.go ?_
                          refine Sc.cond_t rfl ?_
                          refine Sc.seq ?_
                          refine Sc.region ?_
                          refine Sl.calm (Cm.assign rfl) rfl ?_
                          refine Sl.nil ?_
                          refine At.go ?_
                          refine Sc.ret ?_
                          refine At.then_ret ?_
                          refine At.ret1 rfl rfl ?_
                          first
                            | exact no _ (fun hm => by have := hm.1; omega) hf1
                            | exact no _ (fun hm => by rw [hm.2.1] at h15; cases h15) hf1
                            | exact no _ (fun hm => by have h3 := hm.2.2.1; have h4 := hm.2.2.2.1; have h5 := hm.2.2.2.2.1; omega) hF3
                            | exact no _ (fun hm => hm.2.2.2.2.2.1.elim (fun e => h49 e) (fun e => by have := congrArg List.length e; have e0 : ([] : List UInt8).length = 0 := rfl; omega)) hF3
                            | exact no _ (fun hm => by have := hm.2.2.2.2.2.2.1; omega) hF3
                            | exact no _ (fun hm => by have m := hm.2.2.2.2.2.2.2.1; unfold okT at m; rw [if_neg h67] at m; exact h71 m) hF3
                            | exact absurd h76 h67
                            | exact absurd (Classical.not_not.1 h67) h76
                            | exact no _ (fun hm => by have m := hm.2.2.2.2.2.2.2.1; unfold okT at m; rw [if_pos h76] at m; exact m.1 h80) hF3
                            | exact no _ (fun hm => by have m := hm.2.2.2.2.2.2.2.1; unfold okT at m; rw [if_pos h76] at m; have := m.2.1; omega) hF3
                            | exact no _ (fun hm => by have m := hm.2.2.2.2.2.2.2.1; unfold okT at m; rw [if_pos h76] at m; exact m.2.2 h64) hF3
                            | refine yes _ ?_ (hF3.trans hf6)
                              have k1 : p.2.kind = 2 ∨ p.2.data = [] := by
                                first
                                  | exact .inl (Classical.not_not.1 h49)
                                  | exact .inr (List.length_eq_zero_iff.1 (by omega))
                              have k2 : okT p.2 := by
                                unfold okT
                                first
                                  | (rw [if_neg h67]; exact Classical.not_not.1 h71)
                                  | (rw [if_pos h76]; exact ⟨h80, by omega, h64⟩)
                              exact ⟨fun hm => hm.2.2.2.2.2.2.2.2, fun hx => ⟨by omega, by simpa using h15, by omega, by omega, by omega, k1, by omega, k2, hx⟩⟩
                        ·
                          refine Sl.calm (Cm.pick_f rfl rfl) rfl ?_
                          refine Sl.nil ?_
                          refine At.weak [(0, _), (1, _), (2, _), (3, _), (16, _), (46, _), (61, _)] ⟨rfl, rfl, rfl, rfl, rfl, rfl, rfl, trivial⟩ ?_
                          refine At.go ?_
                          refine Sc.cond_f rfl ?_
                          refine Sc.skip ?_
                          refine At.go ?_
                          refine Sc.seq ?_
                          refine Sc.region ?_
                          refine Sl.calm (Cm.field fld34_5 rfl) rfl ?_
                          refine Sl.calm (Cm.ld sca9 rfl (cellF hg4 rfl)) rfl ?_
                          refine Sl.call fn61 rfl (nul_ok p.2.tgt w3 hsm.1) rfl ?_
                          rintro _ w5 ⟨rfl, rfl⟩
                          by_cases h64 : (0 : UInt8) ∈ p.2.tgt
                          ·
                            rw [decide_eq_true h64]
                            refine Sl.calm (Cm.assign rfl) rfl ?_
                            refine Sl.nil ?_
                            refine At.weak [(0, _), (1, _), (2, _), (3, _), (4, _), (16, _), (46, _), (61, _)] ⟨rfl, rfl, rfl, rfl, rfl, rfl, rfl, rfl, trivial⟩ ?_
                            refine At.go ?_
                            refine Sc.seq ?_
                            refine Sc.seq ?_
                            refine Sc.region ?_
                            refine Sl.calm (Cm.field fld34_2 rfl) rfl ?_
                            refine Sl.calm (Cm.ld sca3 rfl (cellF hg4 rfl)) rfl ?_
                            refine Sl.fork (Cm.neq rfl rfl) rfl (fun h67 => ?_) (fun h67 => ?_)
                            ·
                              refine Sl.calm (Cm.move rfl) rfl ?_
                              refine Sl.want rfl rfl (Cm.field fld34_5 rfl) rfl ?_
                              refine Sl.want rfl rfl (Cm.ld sca9 rfl (cellF hg4 rfl)) rfl ?_
                              refine Sl.forkWant rfl rfl (Cm.neqBs rfl rfl) rfl (fun h71 => ?_) (fun h71 => ?_)
                              ·
                                refine Sl.calm (Cm.pick_t rfl rfl) rfl ?_
                                refine Sl.calm (Cm.move rfl) rfl ?_
                                refine Sl.skip rfl rfl rfl rfl ?_
                                refine Sl.skip rfl rfl rfl rfl ?_
                                refine Sl.skip rfl rfl rfl rfl ?_
                                refine Sl.skip rfl rfl rfl rfl ?_
                                refine Sl.skip rfl rfl rfl rfl ?_
                                refine Sl.skip rfl rfl rfl rfl ?_
                                refine Sl.skip rfl rfl rfl rfl ?_
                                refine Sl.skip rfl rfl rfl rfl ?_
                                refine Sl.skip rfl rfl rfl rfl ?_
                                refine Sl.skip rfl rfl rfl rfl ?_
                                refine Sl.skip rfl rfl rfl rfl ?_
                                refine Sl.skip rfl rfl rfl rfl ?_
                                refine Sl.skip rfl rfl rfl rfl ?_
                                refine Sl.skip rfl rfl rfl rfl ?_
                                refine Sl.skip rfl rfl rfl rfl ?_
                                refine Sl.skip rfl rfl rfl rfl ?_
                                refine Sl.skip rfl rfl rfl rfl ?_
                                refine Sl.calm (Cm.pick_t rfl rfl) rfl ?_
                                refine Sl.nil ?_
                                refine At.weak [(0, _), (1, _), (2, _), (3, _), (4, _), (16, _), (46, _), (61, _), (91, _)] ⟨rfl, rfl, rfl, rfl, rfl, rfl, rfl, rfl, rfl, trivial⟩ ?_
                                refine At.go ?_
                                refine Sc.cond_t rfl ?_
                                refine Sc.seq ?_
                                refine Sc.region ?_
                                refine Sl.calm (Cm.assign rfl) rfl ?_
                                refine Sl.nil ?_
                                refine At.go ?_
                                refine Sc.ret ?_
                                refine At.then_ret ?_
                                refine At.ret1 rfl rfl ?_
                                first
                                  | exact no _ (fun hm => by have := hm.1; omega) hf1
                                  | exact no _ (fun hm => by rw [hm.2.1] at h15; cases h15) hf1
                                  | exact no _ (fun hm => by have h3 := hm.2.2.1; have h4 := hm.2.2.2.1; have h5 := hm.2.2.2.2.1; omega) hF3
                                  | exact no _ (fun hm => hm.2.2.2.2.2.1.elim (fun e => h49 e) (fun e => by have := congrArg List.length e; have e0 : ([] : List UInt8).length = 0 := rfl; omega)) hF3
                                  | exact no _ (fun hm => by have := hm.2.2.2.2.2.2.1; omega) hF3
                                  | exact no _ (fun hm => by have m := hm.2.2.2.2.2.2.2.1; unfold okT at m; rw [if_neg h67] at m; exact h71 m) hF3
                                  | exact absurd h76 h67
                                  | exact absurd (Classical.not_not.1 h67) h76
                                  | exact no _ (fun hm => by have m := hm.2.2.2.2.2.2.2.1; unfold okT at m; rw [if_pos h76] at m; exact m.1 h80) hF3
                                  | exact no _ (fun hm => by have m := hm.2.2.2.2.2.2.2.1; unfold okT at m; rw [if_pos h76] at m; have := m.2.1; omega) hF3
                                  | exact no _ (fun hm => by have m := hm.2.2.2.2.2.2.2.1; unfold okT at m; rw [if_pos h76] at m; exact m.2.2 h64) hF3
                                  | refine yes _ ?_ (hF3.trans hf6)
                                    have k1 : p.2.kind = 2 ∨ p.2.data = [] := by
                                      first
                                        | exact .inl (Classical.not_not.1 h49)
                                        | exact .inr (List.length_eq_zero_iff.1 (by omega))
                                    have k2 : okT p.2 := by
                                      unfold okT
                                      first
                                        | (rw [if_neg h67]; exact Classical.not_not.1 h71)
                                        | (rw [if_pos h76]; exact ⟨h80, by omega, h64⟩)
                                    exact ⟨fun hm => hm.2.2.2.2.2.2.2.2, fun hx => ⟨by omega, by simpa using h15, by omega, by omega, by omega, k1, by omega, k2, hx⟩⟩
                              ·
                                refine Sl.calm (Cm.pick_t rfl rfl) rfl ?_
                                refine Sl.calm (Cm.move rfl) rfl ?_
                                refine Sl.want rfl rfl (Cm.field fld34_2 rfl) rfl ?_
                                refine Sl.want rfl rfl (Cm.ld sca3 rfl (cellF hg4 rfl)) rfl ?_
                                refine Sl.forkWant rfl rfl (Cm.eql rfl rfl) rfl (fun h76 => ?_) (fun h76 => ?_)
                                ·
                                  refine Sl.want rfl rfl (Cm.move rfl) rfl ?_
                                  refine Sl.want rfl rfl (Cm.field fld34_5 rfl) rfl ?_
                                  refine Sl.want rfl rfl (Cm.ld sca9 rfl (cellF hg4 rfl)) rfl ?_
                                  refine Sl.forkWant rfl rfl (Cm.eqlBs rfl rfl) rfl (fun h80 => ?_) (fun h80 => ?_)
                                  ·
                                    refine Sl.want rfl rfl (Cm.move rfl) rfl ?_
                                    refine Sl.skip rfl rfl rfl rfl ?_
                                    refine Sl.skip rfl rfl rfl rfl ?_
                                    refine Sl.skip rfl rfl rfl rfl ?_
                                    refine Sl.skip rfl rfl rfl rfl ?_
                                    refine Sl.want rfl rfl (Cm.pick_t rfl rfl) rfl ?_
                                    refine Sl.want rfl rfl (Cm.move rfl) rfl ?_
                                    refine Sl.skip rfl rfl rfl rfl ?_
                                    refine Sl.want rfl rfl (Cm.pick_t rfl rfl) rfl ?_
                                    refine Sl.want rfl rfl (Cm.pick_t rfl rfl) rfl ?_
                                    refine Sl.calm (Cm.pick_f rfl rfl) rfl ?_
                                    refine Sl.nil ?_
                                    refine At.weak [(0, _), (1, _), (2, _), (3, _), (4, _), (16, _), (46, _), (61, _), (91, _)] ⟨rfl, rfl, rfl, rfl, rfl, rfl, rfl, rfl, rfl, trivial⟩ ?_
                                    refine At.go ?_
                                    refine Sc.cond_t rfl ?_
                                    refine Sc.seq ?_
                                    refine Sc.region ?_
                                    refine Sl.calm (Cm.assign rfl) rfl ?_
                                    refine Sl.nil ?_
                                    refine At.go ?_
                                    refine Sc.ret ?_
                                    refine At.then_ret ?_
                                    refine At.ret1 rfl rfl ?_
                                    first
                                      | exact no _ (fun hm => by have := hm.1; omega) hf1
                                      | exact no _ (fun hm => by rw [hm.2.1] at h15; cases h15) hf1
                                      | exact no _ (fun hm => by have h3 := hm.2.2.1; have h4 := hm.2.2.2.1; have h5 := hm.2.2.2.2.1; omega) hF3
                                      | exact no _ (fun hm => hm.2.2.2.2.2.1.elim (fun e => h49 e) (fun e => by have := congrArg List.length e; have e0 : ([] : List UInt8).length = 0 := rfl; omega)) hF3
                                      | exact no _ (fun hm => by have := hm.2.2.2.2.2.2.1; omega) hF3
                                      | exact no _ (fun hm => by have m := hm.2.2.2.2.2.2.2.1; unfold okT at m; rw [if_neg h67] at m; exact h71 m) hF3
                                      | exact absurd h76 h67
                                      | exact absurd (Classical.not_not.1 h67) h76
                                      | exact no _ (fun hm => by have m := hm.2.2.2.2.2.2.2.1; unfold okT at m; rw [if_pos h76] at m; exact m.1 h80) hF3
                                      | exact no _ (fun hm => by have m := hm.2.2.2.2.2.2.2.1; unfold okT at m; rw [if_pos h76] at m; have := m.2.1; omega) hF3
                                      | exact no _ (fun hm => by have m := hm.2.2.2.2.2.2.2.1; unfold okT at m; rw [if_pos h76] at m; exact m.2.2 h64) hF3
                                      | refine yes _ ?_ (hF3.trans hf6)
                                        have k1 : p.2.kind = 2 ∨ p.2.data = [] := by
                                          first
                                            | exact .inl (Classical.not_not.1 h49)
                                            | exact .inr (List.length_eq_zero_iff.1 (by omega))
                                        have k2 : okT p.2 := by
                                          unfold okT
                                          first
                                            | (rw [if_neg h67]; exact Classical.not_not.1 h71)
                                            | (rw [if_pos h76]; exact ⟨h80, by omega, h64⟩)
                                        exact ⟨fun hm => hm.2.2.2.2.2.2.2.2, fun hx => ⟨by omega, by simpa using h15, by omega, by omega, by omega, k1, by omega, k2, hx⟩⟩
                                  ·
                                    refine Sl.want rfl rfl (Cm.move rfl) rfl ?_
                                    refine Sl.want rfl rfl (Cm.field fld34_5 rfl) rfl ?_
                                    refine Sl.want rfl rfl (Cm.ld sca9 rfl (cellF hg4 rfl)) rfl ?_
                                    refine Sl.want rfl rfl (Cm.lenBs ty9 rfl) rfl ?_
                                    refine Sl.forkWant rfl rfl (Cm.gtr rfl rfl) rfl (fun h85 => ?_) (fun h85 => ?_)
                                    ·
                                      refine Sl.want rfl rfl (Cm.pick_f rfl rfl) rfl ?_
                                      refine Sl.want rfl rfl (Cm.move rfl) rfl ?_
                                      refine Sl.skip rfl rfl rfl rfl ?_
                                      refine Sl.want rfl rfl (Cm.pick_t rfl rfl) rfl ?_
                                      refine Sl.want rfl rfl (Cm.pick_t rfl rfl) rfl ?_
                                      refine Sl.calm (Cm.pick_f rfl rfl) rfl ?_
                                      refine Sl.nil ?_
                                      refine At.weak [(0, _), (1, _), (2, _), (3, _), (4, _), (16, _), (46, _), (61, _), (91, _)] ⟨rfl, rfl, rfl, rfl, rfl, rfl, rfl, rfl, rfl, trivial⟩ ?_
                                      refine At.go ?_
                                      refine Sc.cond_t rfl ?_
                                      refine Sc.seq ?_
                                      refine Sc.region ?_
                                      refine Sl.calm (Cm.assign rfl) rfl ?_
                                      refine Sl.nil ?_
                                      refine At.go ?_
                                      refine Sc.ret ?_
                                      refine At.then_ret ?_
                                      refine At.ret1 rfl rfl ?_
                                      first
                                        | exact no _ (fun hm => by have := hm.1; omega) hf1
                                        | exact no _ (fun hm => by rw [hm.2.1] at h15; cases h15) hf1
                                        | exact no _ (fun hm => by have h3 := hm.2.2.1; have h4 := hm.2.2.2.1; have h5 := hm.2.2.2.2.1; omega) hF3
                                        | exact no _ (fun hm => hm.2.2.2.2.2.1.elim (fun e => h49 e) (fun e => by have := congrArg List.length e; have e0 : ([] : List UInt8).length = 0 := rfl; omega)) hF3
                                        | exact no _ (fun hm => by have := hm.2.2.2.2.2.2.1; omega) hF3
                                        | exact no _ (fun hm => by have m := hm.2.2.2.2.2.2.2.1; unfold okT at m; rw [if_neg h67] at m; exact h71 m) hF3
                                        | exact absurd h76 h67
                                        | exact absurd (Classical.not_not.1 h67) h76
                                        | exact no _ (fun hm => by have m := hm.2.2.2.2.2.2.2.1; unfold okT at m; rw [if_pos h76] at m; exact m.1 h80) hF3
                                        | exact no _ (fun hm => by have m := hm.2.2.2.2.2.2.2.1; unfold okT at m; rw [if_pos h76] at m; have := m.2.1; omega) hF3
                                        | exact no _ (fun hm => by have m := hm.2.2.2.2.2.2.2.1; unfold okT at m; rw [if_pos h76] at m; exact m.2.2 h64) hF3
                                        | refine yes _ ?_ (hF3.trans hf6)
                                          have k1 : p.2.kind = 2 ∨ p.2.data = [] := by
                                            first
                                              | exact .inl (Classical.not_not.1 h49)
                                              | exact .inr (List.length_eq_zero_iff.1 (by omega))
                                          have k2 : okT p.2 := by
                                            unfold okT
                                            first
                                              | (rw [if_neg h67]; exact Classical.not_not.1 h71)
                                              | (rw [if_pos h76]; exact ⟨h80, by omega, h64⟩)
                                          exact ⟨fun hm => hm.2.2.2.2.2.2.2.2, fun hx => ⟨by omega, by simpa using h15, by omega, by omega, by omega, k1, by omega, k2, hx⟩⟩
                                    ·
                                      refine Sl.want rfl rfl (Cm.pick_f rfl rfl) rfl ?_
                                      refine Sl.want rfl rfl (Cm.move rfl) rfl ?_
                                      refine Sl.want rfl rfl (Cm.move rfl) rfl ?_
                                      refine Sl.want rfl rfl (Cm.pick_f rfl rfl) rfl ?_
                                      refine Sl.want rfl rfl (Cm.pick_t rfl rfl) rfl ?_
                                      refine Sl.calm (Cm.pick_f rfl rfl) rfl ?_
                                      refine Sl.nil ?_
                                      refine At.weak [(0, _), (1, _), (2, _), (3, _), (4, _), (16, _), (46, _), (61, _), (91, _)] ⟨rfl, rfl, rfl, rfl, rfl, rfl, rfl, rfl, rfl, trivial⟩ ?_
                                      refine At.go ?_
                                      refine Sc.cond_t rfl ?_
                                      refine Sc.seq ?_
                                      refine Sc.region ?_
                                      refine Sl.calm (Cm.assign rfl) rfl ?_
                                      refine Sl.nil ?_
                                      refine At.go ?_
                                      refine Sc.ret ?_
                                      refine At.then_ret ?_
                                      refine At.ret1 rfl rfl ?_
                                      first
                                        | exact no _ (fun hm => by have := hm.1; omega) hf1
                                        | exact no _ (fun hm => by rw [hm.2.1] at h15; cases h15) hf1
                                        | exact no _ (fun hm => by have h3 := hm.2.2.1; have h4 := hm.2.2.2.1; have h5 := hm.2.2.2.2.1; omega) hF3
                                        | exact no _ (fun hm => hm.2.2.2.2.2.1.elim (fun e => h49 e) (fun e => by have := congrArg List.length e; have e0 : ([] : List UInt8).length = 0 := rfl; omega)) hF3
                                        | exact no _ (fun hm => by have := hm.2.2.2.2.2.2.1; omega) hF3
                                        | exact no _ (fun hm => by have m := hm.2.2.2.2.2.2.2.1; unfold okT at m; rw [if_neg h67] at m; exact h71 m) hF3
                                        | exact absurd h76 h67
                                        | exact absurd (Classical.not_not.1 h67) h76
                                        | exact no _ (fun hm => by have m := hm.2.2.2.2.2.2.2.1; unfold okT at m; rw [if_pos h76] at m; exact m.1 h80) hF3
                                        | exact no _ (fun hm => by have m := hm.2.2.2.2.2.2.2.1; unfold okT at m; rw [if_pos h76] at m; have := m.2.1; omega) hF3
                                        | exact no _ (fun hm => by have m := hm.2.2.2.2.2.2.2.1; unfold okT at m; rw [if_pos h76] at m; exact m.2.2 h64) hF3
                                        | refine yes _ ?_ (hF3.trans hf6)
                                          have k1 : p.2.kind = 2 ∨ p.2.data = [] := by
                                            first
                                              | exact .inl (Classical.not_not.1 h49)
                                              | exact .inr (List.length_eq_zero_iff.1 (by omega))
                                          have k2 : okT p.2 := by
                                            unfold okT
                                            first
                                              | (rw [if_neg h67]; exact Classical.not_not.1 h71)
                                              | (rw [if_pos h76]; exact ⟨h80, by omega, h64⟩)
                                          exact ⟨fun hm => hm.2.2.2.2.2.2.2.2, fun hx => ⟨by omega, by simpa using h15, by omega, by omega, by omega, k1, by omega, k2, hx⟩⟩
                                ·
                                  refine Sl.want rfl rfl (Cm.move rfl) rfl ?_
                                  refine Sl.skip rfl rfl rfl rfl ?_
                                  refine Sl.skip rfl rfl rfl rfl ?_
                                  refine Sl.skip rfl rfl rfl rfl ?_
                                  refine Sl.skip rfl rfl rfl rfl ?_
                                  refine Sl.skip rfl rfl rfl rfl ?_
                                  refine Sl.skip rfl rfl rfl rfl ?_
                                  refine Sl.skip rfl rfl rfl rfl ?_
                                  refine Sl.skip rfl rfl rfl rfl ?_
                                  refine Sl.skip rfl rfl rfl rfl ?_
                                  refine Sl.skip rfl rfl rfl rfl ?_
                                  refine Sl.skip rfl rfl rfl rfl ?_
                                  refine Sl.skip rfl rfl rfl rfl ?_
                                  refine Sl.want rfl rfl (Cm.pick_f rfl rfl) rfl ?_
                                  refine Sl.calm (Cm.pick_f rfl rfl) rfl ?_
                                  refine Sl.nil ?_
                                  refine At.weak [(0, _), (1, _), (2, _), (3, _), (4, _), (16, _), (46, _), (61, _), (91, _)] ⟨rfl, rfl, rfl, rfl, rfl, rfl, rfl, rfl, rfl, trivial⟩ ?_
                                  refine At.go ?_
                                  refine Sc.cond_f rfl ?_
                                  refine Sc.skip ?_
                                  refine At.go ?_
                                  refine Sc.seq ?_
                                  refine Sc.region ?_
                                  refine Sl.calm (Cm.field fld34_6 rfl) rfl ?_
                                  refine Sl.calm (Cm.ld sca32 rfl (cellF hg4 rfl)) rfl ?_
                                  refine Sl.call fn62 rfl ((by show Calls _ _ [Value.slice p.1.xs.a p.1.xs.n p.1.xs.c].toArray _ _; rw [hn3.2.2.1]; exact rmayX_ok _ _ _ w5 (hn3.2.2.xav hsm.2.2))) rfl ?_
                                  rintro _ w6 ⟨rfl, hf6⟩
                                  refine Sl.calm (Cm.assign rfl) rfl ?_
                                  refine Sl.nil ?_
                                  refine At.weak [(0, _), (1, _), (2, _), (3, _), (4, _), (16, _), (46, _), (61, _), (91, _)] ⟨rfl, rfl, rfl, rfl, rfl, rfl, rfl, rfl, rfl, trivial⟩ ?_
                                  refine At.go ?_
                                  refine Sc.ret ?_
                                  refine At.ret1 rfl rfl ?_
                                  first
                                    | exact no _ (fun hm => by have := hm.1; omega) hf1
                                    | exact no _ (fun hm => by rw [hm.2.1] at h15; cases h15) hf1
                                    | exact no _ (fun hm => by have h3 := hm.2.2.1; have h4 := hm.2.2.2.1; have h5 := hm.2.2.2.2.1; omega) hF3
                                    | exact no _ (fun hm => hm.2.2.2.2.2.1.elim (fun e => h49 e) (fun e => by have := congrArg List.length e; have e0 : ([] : List UInt8).length = 0 := rfl; omega)) hF3
                                    | exact no _ (fun hm => by have := hm.2.2.2.2.2.2.1; omega) hF3
                                    | exact no _ (fun hm => by have m := hm.2.2.2.2.2.2.2.1; unfold okT at m; rw [if_neg h67] at m; exact h71 m) hF3
                                    | exact absurd h76 h67
                                    | exact absurd (Classical.not_not.1 h67) h76
                                    | exact no _ (fun hm => by have m := hm.2.2.2.2.2.2.2.1; unfold okT at m; rw [if_pos h76] at m; exact m.1 h80) hF3
                                    | exact no _ (fun hm => by have m := hm.2.2.2.2.2.2.2.1; unfold okT at m; rw [if_pos h76] at m; have := m.2.1; omega) hF3
                                    | exact no _ (fun hm => by have m := hm.2.2.2.2.2.2.2.1; unfold okT at m; rw [if_pos h76] at m; exact m.2.2 h64) hF3
                                    | refine yes _ ?_ (hF3.trans hf6)
                                      have k1 : p.2.kind = 2 ∨ p.2.data = [] := by
                                        first
                                          | exact .inl (Classical.not_not.1 h49)
                                          | exact .inr (List.length_eq_zero_iff.1 (by omega))
                                      have k2 : okT p.2 := by
                                        unfold okT
                                        first
                                          | (rw [if_neg h67]; exact Classical.not_not.1 h71)
                                          | (rw [if_pos h76]; exact ⟨h80, by omega, h64⟩)
                                      exact ⟨fun hm => hm.2.2.2.2.2.2.2.2, fun hx => ⟨by omega, by simpa using h15, by omega, by omega, by omega, k1, by omega, k2, hx⟩⟩
                            ·
                              refine Sl.calm (Cm.move rfl) rfl ?_
                              refine Sl.skip rfl rfl rfl rfl ?_
                              refine Sl.skip rfl rfl rfl rfl ?_
                              refine Sl.skip rfl rfl rfl rfl ?_
                              refine Sl.calm (Cm.pick_f rfl rfl) rfl ?_
                              refine Sl.calm (Cm.move rfl) rfl ?_
                              refine Sl.want rfl rfl (Cm.field fld34_2 rfl) rfl ?_
                              refine Sl.want rfl rfl (Cm.ld sca3 rfl (cellF hg4 rfl)) rfl ?_
                              refine Sl.forkWant rfl rfl (Cm.eql rfl rfl) rfl (fun h76 => ?_) (fun h76 => ?_)
                              ·
                                refine Sl.want rfl rfl (Cm.move rfl) rfl ?_
                                refine Sl.want rfl rfl (Cm.field fld34_5 rfl) rfl ?_
                                refine Sl.want rfl rfl (Cm.ld sca9 rfl (cellF hg4 rfl)) rfl ?_
                                refine Sl.forkWant rfl rfl (Cm.eqlBs rfl rfl) rfl (fun h80 => ?_) (fun h80 => ?_)
                                ·
                                  refine Sl.want rfl rfl (Cm.move rfl) rfl ?_
                                  refine Sl.skip rfl rfl rfl rfl ?_
                                  refine Sl.skip rfl rfl rfl rfl ?_
                                  refine Sl.skip rfl rfl rfl rfl ?_
                                  refine Sl.skip rfl rfl rfl rfl ?_
                                  refine Sl.want rfl rfl (Cm.pick_t rfl rfl) rfl ?_
                                  refine Sl.want rfl rfl (Cm.move rfl) rfl ?_
                                  refine Sl.skip rfl rfl rfl rfl ?_
                                  refine Sl.want rfl rfl (Cm.pick_t rfl rfl) rfl ?_
                                  refine Sl.want rfl rfl (Cm.pick_t rfl rfl) rfl ?_
                                  refine Sl.calm (Cm.pick_f rfl rfl) rfl ?_
                                  refine Sl.nil ?_
                                  refine At.weak [(0, _), (1, _), (2, _), (3, _), (4, _), (16, _), (46, _), (61, _), (91, _)] ⟨rfl, rfl, rfl, rfl, rfl, rfl, rfl, rfl, rfl, trivial⟩ ?_
                                  refine At.go ?_
                                  refine Sc.cond_t rfl ?_
                                  refine Sc.seq ?_
                                  refine Sc.region ?_
                                  refine Sl.calm (Cm.assign rfl) rfl ?_
                                  refine Sl.nil ?_
                                  refine At.go ?_
                                  refine Sc.ret ?_
                                  refine At.then_ret ?_
                                  refine At.ret1 rfl rfl ?_
                                  first
                                    | exact no _ (fun hm => by have := hm.1; omega) hf1
                                    | exact no _ (fun hm => by rw [hm.2.1] at h15; cases h15) hf1
                                    | exact no _ (fun hm => by have h3 := hm.2.2.1; have h4 := hm.2.2.2.1; have h5 := hm.2.2.2.2.1; omega) hF3
                                    | exact no _ (fun hm => hm.2.2.2.2.2.1.elim (fun e => h49 e) (fun e => by have := congrArg List.length e; have e0 : ([] : List UInt8).length = 0 := rfl; omega)) hF3
                                    | exact no _ (fun hm => by have := hm.2.2.2.2.2.2.1; omega) hF3
                                    | exact no _ (fun hm => by have m := hm.2.2.2.2.2.2.2.1; unfold okT at m; rw [if_neg h67] at m; exact h71 m) hF3
                                    | exact absurd h76 h67
                                    | exact absurd (Classical.not_not.1 h67) h76
                                    | exact no _ (fun hm => by have m := hm.2.2.2.2.2.2.2.1; unfold okT at m; rw [if_pos h76] at m; exact m.1 h80) hF3
                                    | exact no _ (fun hm => by have m := hm.2.2.2.2.2.2.2.1; unfold okT at m; rw [if_pos h76] at m; have := m.2.1; omega) hF3
                                    | exact no _ (fun hm => by have m := hm.2.2.2.2.2.2.2.1; unfold okT at m; rw [if_pos h76] at m; exact m.2.2 h64) hF3
                                    | refine yes _ ?_ (hF3.trans hf6)
                                      have k1 : p.2.kind = 2 ∨ p.2.data = [] := by
                                        first
                                          | exact .inl (Classical.not_not.1 h49)
                                          | exact .inr (List.length_eq_zero_iff.1 (by omega))
                                      have k2 : okT p.2 := by
                                        unfold okT
                                        first
                                          | (rw [if_neg h67]; exact Classical.not_not.1 h71)
                                          | (rw [if_pos h76]; exact ⟨h80, by omega, h64⟩)
                                      exact ⟨fun hm => hm.2.2.2.2.2.2.2.2, fun hx => ⟨by omega, by simpa using h15, by omega, by omega, by omega, k1, by omega, k2, hx⟩⟩
                                ·
                                  refine Sl.want rfl rfl (Cm.move rfl) rfl ?_
                                  refine Sl.want rfl rfl (Cm.field fld34_5 rfl) rfl ?_
                                  refine Sl.want rfl rfl (Cm.ld sca9 rfl (cellF hg4 rfl)) rfl ?_
                                  refine Sl.want rfl rfl (Cm.lenBs ty9 rfl) rfl ?_
                                  refine Sl.forkWant rfl rfl (Cm.gtr rfl rfl) rfl (fun h85 => ?_) (fun h85 => ?_)
                                  ·
                                    refine Sl.want rfl rfl (Cm.pick_f rfl rfl) rfl ?_
                                    refine Sl.want rfl rfl (Cm.move rfl) rfl ?_
                                    refine Sl.skip rfl rfl rfl rfl ?_
                                    refine Sl.want rfl rfl (Cm.pick_t rfl rfl) rfl ?_
                                    refine Sl.want rfl rfl (Cm.pick_t rfl rfl) rfl ?_
                                    refine Sl.calm (Cm.pick_f rfl rfl) rfl ?_
                                    refine Sl.nil ?_
                                    refine At.weak [(0, _), (1, _), (2, _), (3, _), (4, _), (16, _), (46, _), (61, _), (91, _)] ⟨rfl, rfl, rfl, rfl, rfl, rfl, rfl, rfl, rfl, trivial⟩ ?_
                                    refine At.go ?_
                                    refine Sc.cond_t rfl ?_
                                    refine Sc.seq ?_
                                    refine Sc.region ?_
                                    refine Sl.calm (Cm.assign rfl) rfl ?_
                                    refine Sl.nil ?_
                                    refine At.go ?_
                                    refine Sc.ret ?_
                                    refine At.then_ret ?_
                                    refine At.ret1 rfl rfl ?_
                                    first
                                      | exact no _ (fun hm => by have := hm.1; omega) hf1
                                      | exact no _ (fun hm => by rw [hm.2.1] at h15; cases h15) hf1
                                      | exact no _ (fun hm => by have h3 := hm.2.2.1; have h4 := hm.2.2.2.1; have h5 := hm.2.2.2.2.1; omega) hF3
                                      | exact no _ (fun hm => hm.2.2.2.2.2.1.elim (fun e => h49 e) (fun e => by have := congrArg List.length e; have e0 : ([] : List UInt8).length = 0 := rfl; omega)) hF3
                                      | exact no _ (fun hm => by have := hm.2.2.2.2.2.2.1; omega) hF3
                                      | exact no _ (fun hm => by have m := hm.2.2.2.2.2.2.2.1; unfold okT at m; rw [if_neg h67] at m; exact h71 m) hF3
                                      | exact absurd h76 h67
                                      | exact absurd (Classical.not_not.1 h67) h76
                                      | exact no _ (fun hm => by have m := hm.2.2.2.2.2.2.2.1; unfold okT at m; rw [if_pos h76] at m; exact m.1 h80) hF3
                                      | exact no _ (fun hm => by have m := hm.2.2.2.2.2.2.2.1; unfold okT at m; rw [if_pos h76] at m; have := m.2.1; omega) hF3
                                      | exact no _ (fun hm => by have m := hm.2.2.2.2.2.2.2.1; unfold okT at m; rw [if_pos h76] at m; exact m.2.2 h64) hF3
                                      | refine yes _ ?_ (hF3.trans hf6)
                                        have k1 : p.2.kind = 2 ∨ p.2.data = [] := by
                                          first
                                            | exact .inl (Classical.not_not.1 h49)
                                            | exact .inr (List.length_eq_zero_iff.1 (by omega))
                                        have k2 : okT p.2 := by
                                          unfold okT
                                          first
                                            | (rw [if_neg h67]; exact Classical.not_not.1 h71)
                                            | (rw [if_pos h76]; exact ⟨h80, by omega, h64⟩)
                                        exact ⟨fun hm => hm.2.2.2.2.2.2.2.2, fun hx => ⟨by omega, by simpa using h15, by omega, by omega, by omega, k1, by omega, k2, hx⟩⟩
                                  ·
                                    refine Sl.want rfl rfl (Cm.pick_f rfl rfl) rfl ?_
                                    refine Sl.want rfl rfl (Cm.move rfl) rfl ?_
                                    refine Sl.want rfl rfl (Cm.move rfl) rfl ?_
                                    refine Sl.want rfl rfl (Cm.pick_f rfl rfl) rfl ?_
                                    refine Sl.want rfl rfl (Cm.pick_t rfl rfl) rfl ?_
                                    refine Sl.calm (Cm.pick_f rfl rfl) rfl ?_
                                    refine Sl.nil ?_
                                    refine At.weak [(0, _), (1, _), (2, _), (3, _), (4, _), (16, _), (46, _), (61, _), (91, _)] ⟨rfl, rfl, rfl, rfl, rfl, rfl, rfl, rfl, rfl, trivial⟩ ?_
                                    refine At.go ?_
                                    refine Sc.cond_t rfl ?_
                                    refine Sc.seq ?_
                                    refine Sc.region ?_
                                    refine Sl.calm (Cm.assign rfl) rfl ?_
                                    refine Sl.nil ?_
                                    refine At.go ?_
                                    refine Sc.ret ?_
                                    refine At.then_ret ?_
                                    refine At.ret1 rfl rfl ?_
                                    first
                                      | exact no _ (fun hm => by have := hm.1; omega) hf1
                                      | exact no _ (fun hm => by rw [hm.2.1] at h15; cases h15) hf1
                                      | exact no _ (fun hm => by have h3 := hm.2.2.1; have h4 := hm.2.2.2.1; have h5 := hm.2.2.2.2.1; omega) hF3
                                      | exact no _ (fun hm => hm.2.2.2.2.2.1.elim (fun e => h49 e) (fun e => by have := congrArg List.length e; have e0 : ([] : List UInt8).length = 0 := rfl; omega)) hF3
                                      | exact no _ (fun hm => by have := hm.2.2.2.2.2.2.1; omega) hF3
                                      | exact no _ (fun hm => by have m := hm.2.2.2.2.2.2.2.1; unfold okT at m; rw [if_neg h67] at m; exact h71 m) hF3
                                      | exact absurd h76 h67
                                      | exact absurd (Classical.not_not.1 h67) h76
                                      | exact no _ (fun hm => by have m := hm.2.2.2.2.2.2.2.1; unfold okT at m; rw [if_pos h76] at m; exact m.1 h80) hF3
                                      | exact no _ (fun hm => by have m := hm.2.2.2.2.2.2.2.1; unfold okT at m; rw [if_pos h76] at m; have := m.2.1; omega) hF3
                                      | exact no _ (fun hm => by have m := hm.2.2.2.2.2.2.2.1; unfold okT at m; rw [if_pos h76] at m; exact m.2.2 h64) hF3
                                      | refine yes _ ?_ (hF3.trans hf6)
                                        have k1 : p.2.kind = 2 ∨ p.2.data = [] := by
                                          first
                                            | exact .inl (Classical.not_not.1 h49)
                                            | exact .inr (List.length_eq_zero_iff.1 (by omega))
                                        have k2 : okT p.2 := by
                                          unfold okT
                                          first
                                            | (rw [if_neg h67]; exact Classical.not_not.1 h71)
                                            | (rw [if_pos h76]; exact ⟨h80, by omega, h64⟩)
                                        exact ⟨fun hm => hm.2.2.2.2.2.2.2.2, fun hx => ⟨by omega, by simpa using h15, by omega, by omega, by omega, k1, by omega, k2, hx⟩⟩
                              ·
                                refine Sl.want rfl rfl (Cm.move rfl) rfl ?_
                                refine Sl.skip rfl rfl rfl rfl ?_
                                refine Sl.skip rfl rfl rfl rfl ?_
                                refine Sl.skip rfl rfl rfl rfl ?_
                                refine Sl.skip rfl rfl rfl rfl ?_
                                refine Sl.skip rfl rfl rfl rfl ?_
                                refine Sl.skip rfl rfl rfl rfl ?_
                                refine Sl.skip rfl rfl rfl rfl ?_
                                refine Sl.skip rfl rfl rfl rfl ?_
                                refine Sl.skip rfl rfl rfl rfl ?_
                                refine Sl.skip rfl rfl rfl rfl ?_
                                refine Sl.skip rfl rfl rfl rfl ?_
                                refine Sl.skip rfl rfl rfl rfl ?_
                                refine Sl.want rfl rfl (Cm.pick_f rfl rfl) rfl ?_
                                refine Sl.calm (Cm.pick_f rfl rfl) rfl ?_
                                refine Sl.nil ?_
                                refine At.weak [(0, _), (1, _), (2, _), (3, _), (4, _), (16, _), (46, _), (61, _), (91, _)] ⟨rfl, rfl, rfl, rfl, rfl, rfl, rfl, rfl, rfl, trivial⟩ ?_
                                refine At.go ?_
                                refine Sc.cond_f rfl ?_
                                refine Sc.skip ?_
                                refine At.go ?_
                                refine Sc.seq ?_
                                refine Sc.region ?_
                                refine Sl.calm (Cm.field fld34_6 rfl) rfl ?_
                                refine Sl.calm (Cm.ld sca32 rfl (cellF hg4 rfl)) rfl ?_
                                refine Sl.call fn62 rfl ((by show Calls _ _ [Value.slice p.1.xs.a p.1.xs.n p.1.xs.c].toArray _ _; rw [hn3.2.2.1]; exact rmayX_ok _ _ _ w5 (hn3.2.2.xav hsm.2.2))) rfl ?_
                                rintro _ w6 ⟨rfl, hf6⟩
                                refine Sl.calm (Cm.assign rfl) rfl ?_
                                refine Sl.nil ?_
                                refine At.weak [(0, _), (1, _), (2, _), (3, _), (4, _), (16, _), (46, _), (61, _), (91, _)] ⟨rfl, rfl, rfl, rfl, rfl, rfl, rfl, rfl, rfl, trivial⟩ ?_
                                refine At.go ?_
                                refine Sc.ret ?_
                                refine At.ret1 rfl rfl ?_
                                first
                                  | exact no _ (fun hm => by have := hm.1; omega) hf1
                                  | exact no _ (fun hm => by rw [hm.2.1] at h15; cases h15) hf1
                                  | exact no _ (fun hm => by have h3 := hm.2.2.1; have h4 := hm.2.2.2.1; have h5 := hm.2.2.2.2.1; omega) hF3
                                  | exact no _ (fun hm => hm.2.2.2.2.2.1.elim (fun e => h49 e) (fun e => by have := congrArg List.length e; have e0 : ([] : List UInt8).length = 0 := rfl; omega)) hF3
                                  | exact no _ (fun hm => by have := hm.2.2.2.2.2.2.1; omega) hF3
                                  | exact no _ (fun hm => by have m := hm.2.2.2.2.2.2.2.1; unfold okT at m; rw [if_neg h67] at m; exact h71 m) hF3
                                  | exact absurd h76 h67
                                  | exact absurd (Classical.not_not.1 h67) h76
                                  | exact no _ (fun hm => by have m := hm.2.2.2.2.2.2.2.1; unfold okT at m; rw [if_pos h76] at m; exact m.1 h80) hF3
                                  | exact no _ (fun hm => by have m := hm.2.2.2.2.2.2.2.1; unfold okT at m; rw [if_pos h76] at m; have := m.2.1; omega) hF3
                                  | exact no _ (fun hm => by have m := hm.2.2.2.2.2.2.2.1; unfold okT at m; rw [if_pos h76] at m; exact m.2.2 h64) hF3
                                  | refine yes _ ?_ (hF3.trans hf6)
                                    have k1 : p.2.kind = 2 ∨ p.2.data = [] := by
                                      first
                                        | exact .inl (Classical.not_not.1 h49)
                                        | exact .inr (List.length_eq_zero_iff.1 (by omega))
                                    have k2 : okT p.2 := by
                                      unfold okT
                                      first
                                        | (rw [if_neg h67]; exact Classical.not_not.1 h71)
                                        | (rw [if_pos h76]; exact ⟨h80, by omega, h64⟩)
                                    exact ⟨fun hm => hm.2.2.2.2.2.2.2.2, fun hx => ⟨by omega, by simpa using h15, by omega, by omega, by omega, k1, by omega, k2, hx⟩⟩
                          ·
                            rw [decide_eq_false h64]
                            refine Sl.calm (Cm.assign rfl) rfl ?_
                            refine Sl.nil ?_
                            refine At.weak [(0, _), (1, _), (2, _), (3, _), (4, _), (16, _), (46, _), (61, _)] ⟨rfl, rfl, rfl, rfl, rfl, rfl, rfl, rfl, trivial⟩ ?_
                            refine At.go ?_
                            refine Sc.seq ?_
                            refine Sc.seq ?_
                            refine Sc.region ?_
                            refine Sl.calm (Cm.field fld34_2 rfl) rfl ?_
                            refine Sl.calm (Cm.ld sca3 rfl (cellF hg4 rfl)) rfl ?_
                            refine Sl.fork (Cm.neq rfl rfl) rfl (fun h67 => ?_) (fun h67 => ?_)
                            ·
                              refine Sl.calm (Cm.move rfl) rfl ?_
                              refine Sl.want rfl rfl (Cm.field fld34_5 rfl) rfl ?_
                              refine Sl.want rfl rfl (Cm.ld sca9 rfl (cellF hg4 rfl)) rfl ?_
                              refine Sl.forkWant rfl rfl (Cm.neqBs rfl rfl) rfl (fun h71 => ?_) (fun h71 => ?_)
                              ·
                                refine Sl.calm (Cm.pick_t rfl rfl) rfl ?_
                                refine Sl.calm (Cm.move rfl) rfl ?_
                                refine Sl.skip rfl rfl rfl rfl ?_
                                refine Sl.skip rfl rfl rfl rfl ?_
                                refine Sl.skip rfl rfl rfl rfl ?_
                                refine Sl.skip rfl rfl rfl rfl ?_
                                refine Sl.skip rfl rfl rfl rfl ?_
                                refine Sl.skip rfl rfl rfl rfl ?_
                                refine Sl.skip rfl rfl rfl rfl ?_
                                refine Sl.skip rfl rfl rfl rfl ?_
                                refine Sl.skip rfl rfl rfl rfl ?_
                                refine Sl.skip rfl rfl rfl rfl ?_
                                refine Sl.skip rfl rfl rfl rfl ?_
                                refine Sl.skip rfl rfl rfl rfl ?_
                                refine Sl.skip rfl rfl rfl rfl ?_
                                refine Sl.skip rfl rfl rfl rfl ?_
                                refine Sl.skip rfl rfl rfl rfl ?_
                                refine Sl.skip rfl rfl rfl rfl ?_
                                refine Sl.skip rfl rfl rfl rfl ?_
                                refine Sl.calm (Cm.pick_t rfl rfl) rfl ?_
                                refine Sl.nil ?_
                                refine At.weak [(0, _), (1, _), (2, _), (3, _), (4, _), (16, _), (46, _), (61, _), (91, _)] ⟨rfl, rfl, rfl, rfl, rfl, rfl, rfl, rfl, rfl, trivial⟩ ?_
                                refine At.go ?_
                                refine Sc.cond_t rfl ?_
                                refine Sc.seq ?_
                                refine Sc.region ?_
                                refine Sl.calm (Cm.assign rfl) rfl ?_
                                refine Sl.nil ?_
                                refine At.go ?_
                                refine Sc.ret ?_
                                refine At.then_ret ?_
                                refine At.ret1 rfl rfl ?_
                                first
                                  | exact no _ (fun hm => by have := hm.1; omega) hf1
                                  | exact no _ (fun hm => by rw [hm.2.1] at h15; cases h15) hf1
                                  | exact no _ (fun hm => by have h3 := hm.2.2.1; have h4 := hm.2.2.2.1; have h5 := hm.2.2.2.2.1; omega) hF3
                                  | exact no _ (fun hm => hm.2.2.2.2.2.1.elim (fun e => h49 e) (fun e => by have := congrArg List.length e; have e0 : ([] : List UInt8).length = 0 := rfl; omega)) hF3
                                  | exact no _ (fun hm => by have := hm.2.2.2.2.2.2.1; omega) hF3
                                  | exact no _ (fun hm => by have m := hm.2.2.2.2.2.2.2.1; unfold okT at m; rw [if_neg h67] at m; exact h71 m) hF3
                                  | exact absurd h76 h67
                                  | exact absurd (Classical.not_not.1 h67) h76
                                  | exact no _ (fun hm => by have m := hm.2.2.2.2.2.2.2.1; unfold okT at m; rw [if_pos h76] at m; exact m.1 h80) hF3
                                  | exact no _ (fun hm => by have m := hm.2.2.2.2.2.2.2.1; unfold okT at m; rw [if_pos h76] at m; have := m.2.1; omega) hF3
                                  | exact no _ (fun hm => by have m := hm.2.2.2.2.2.2.2.1; unfold okT at m; rw [if_pos h76] at m; exact m.2.2 h64) hF3
                                  | refine yes _ ?_ (hF3.trans hf6)
                                    have k1 : p.2.kind = 2 ∨ p.2.data = [] := by
                                      first
                                        | exact .inl (Classical.not_not.1 h49)
                                        | exact .inr (List.length_eq_zero_iff.1 (by omega))
                                    have k2 : okT p.2 := by
                                      unfold okT
                                      first
                                        | (rw [if_neg h67]; exact Classical.not_not.1 h71)
                                        | (rw [if_pos h76]; exact ⟨h80, by omega, h64⟩)
                                    exact ⟨fun hm => hm.2.2.2.2.2.2.2.2, fun hx => ⟨by omega, by simpa using h15, by omega, by omega, by omega, k1, by omega, k2, hx⟩⟩
                              ·
                                refine Sl.calm (Cm.pick_t rfl rfl) rfl ?_
                                refine Sl.calm (Cm.move rfl) rfl ?_
                                refine Sl.want rfl rfl (Cm.field fld34_2 rfl) rfl ?_
                                refine Sl.want rfl rfl (Cm.ld sca3 rfl (cellF hg4 rfl)) rfl ?_
                                refine Sl.forkWant rfl rfl (Cm.eql rfl rfl) rfl (fun h76 => ?_) (fun h76 => ?_)
                                ·
                                  refine Sl.want rfl rfl (Cm.move rfl) rfl ?_
                                  refine Sl.want rfl rfl (Cm.field fld34_5 rfl) rfl ?_
                                  refine Sl.want rfl rfl (Cm.ld sca9 rfl (cellF hg4 rfl)) rfl ?_
                                  refine Sl.forkWant rfl rfl (Cm.eqlBs rfl rfl) rfl (fun h80 => ?_) (fun h80 => ?_)
                                  ·
                                    refine Sl.want rfl rfl (Cm.move rfl) rfl ?_
                                    refine Sl.skip rfl rfl rfl rfl ?_
                                    refine Sl.skip rfl rfl rfl rfl ?_
                                    refine Sl.skip rfl rfl rfl rfl ?_
                                    refine Sl.skip rfl rfl rfl rfl ?_
                                    refine Sl.want rfl rfl (Cm.pick_t rfl rfl) rfl ?_
                                    refine Sl.want rfl rfl (Cm.move rfl) rfl ?_
                                    refine Sl.skip rfl rfl rfl rfl ?_
                                    refine Sl.want rfl rfl (Cm.pick_t rfl rfl) rfl ?_
                                    refine Sl.want rfl rfl (Cm.pick_t rfl rfl) rfl ?_
                                    refine Sl.calm (Cm.pick_f rfl rfl) rfl ?_
                                    refine Sl.nil ?_
                                    refine At.weak [(0, _), (1, _), (2, _), (3, _), (4, _), (16, _), (46, _), (61, _), (91, _)] ⟨rfl, rfl, rfl, rfl, rfl, rfl, rfl, rfl, rfl, trivial⟩ ?_
                                    refine At.go ?_
                                    refine Sc.cond_t rfl ?_
                                    refine Sc.seq ?_
                                    refine Sc.region ?_
                                    refine Sl.calm (Cm.assign rfl) rfl ?_
                                    refine Sl.nil ?_
                                    refine At.go ?_
                                    refine Sc.ret ?_
                                    refine At.then_ret ?_
                                    refine At.ret1 rfl rfl ?_
                                    first
                                      | exact no _ (fun hm => by have := hm.1; omega) hf1
                                      | exact no _ (fun hm => by rw [hm.2.1] at h15; cases h15) hf1
                                      | exact no _ (fun hm => by have h3 := hm.2.2.1; have h4 := hm.2.2.2.1; have h5 := hm.2.2.2.2.1; omega) hF3
                                      | exact no _ (fun hm => hm.2.2.2.2.2.1.elim (fun e => h49 e) (fun e => by have := congrArg List.length e; have e0 : ([] : List UInt8).length = 0 := rfl; omega)) hF3
                                      | exact no _ (fun hm => by have := hm.2.2.2.2.2.2.1; omega) hF3
                                      | exact no _ (fun hm => by have m := hm.2.2.2.2.2.2.2.1; unfold okT at m; rw [if_neg h67] at m; exact h71 m) hF3
                                      | exact absurd h76 h67
                                      | exact absurd (Classical.not_not.1 h67) h76
                                      | exact no _ (fun hm => by have m := hm.2.2.2.2.2.2.2.1; unfold okT at m; rw [if_pos h76] at m; exact m.1 h80) hF3
                                      | exact no _ (fun hm => by have m := hm.2.2.2.2.2.2.2.1; unfold okT at m; rw [if_pos h76] at m; have := m.2.1; omega) hF3
                                      | exact no _ (fun hm => by have m := hm.2.2.2.2.2.2.2.1; unfold okT at m; rw [if_pos h76] at m; exact m.2.2 h64) hF3
                                      | refine yes _ ?_ (hF3.trans hf6)
                                        have k1 : p.2.kind = 2 ∨ p.2.data = [] := by
                                          first
                                            | exact .inl (Classical.not_not.1 h49)
                                            | exact .inr (List.length_eq_zero_iff.1 (by omega))
                                        have k2 : okT p.2 := by
                                          unfold okT
                                          first
                                            | (rw [if_neg h67]; exact Classical.not_not.1 h71)
                                            | (rw [if_pos h76]; exact ⟨h80, by omega, h64⟩)
                                        exact ⟨fun hm => hm.2.2.2.2.2.2.2.2, fun hx => ⟨by omega, by simpa using h15, by omega, by omega, by omega, k1, by omega, k2, hx⟩⟩
                                  ·
                                    refine Sl.want rfl rfl (Cm.move rfl) rfl ?_
                                    refine Sl.want rfl rfl (Cm.field fld34_5 rfl) rfl ?_
                                    refine Sl.want rfl rfl (Cm.ld sca9 rfl (cellF hg4 rfl)) rfl ?_
                                    refine Sl.want rfl rfl (Cm.lenBs ty9 rfl) rfl ?_
                                    refine Sl.forkWant rfl rfl (Cm.gtr rfl rfl) rfl (fun h85 => ?_) (fun h85 => ?_)
                                    ·
                                      refine Sl.want rfl rfl (Cm.pick_f rfl rfl) rfl ?_
                                      refine Sl.want rfl rfl (Cm.move rfl) rfl ?_
                                      refine Sl.skip rfl rfl rfl rfl ?_
                                      refine Sl.want rfl rfl (Cm.pick_t rfl rfl) rfl ?_
                                      refine Sl.want rfl rfl (Cm.pick_t rfl rfl) rfl ?_
                                      refine Sl.calm (Cm.pick_f rfl rfl) rfl ?_
                                      refine Sl.nil ?_
                                      refine At.weak [(0, _), (1, _), (2, _), (3, _), (4, _), (16, _), (46, _), (61, _), (91, _)] ⟨rfl, rfl, rfl, rfl, rfl, rfl, rfl, rfl, rfl, trivial⟩ ?_
                                      refine At.go ?_
                                      refine Sc.cond_t rfl ?_
                                      refine Sc.seq ?_
                                      refine Sc.region ?_
                                      refine Sl.calm (Cm.assign rfl) rfl ?_
                                      refine Sl.nil ?_
                                      refine At.go ?_
                                      refine Sc.ret ?_
                                      refine At.then_ret ?_
                                      refine At.ret1 rfl rfl ?_
                                      first
                                        | exact no _ (fun hm => by have := hm.1; omega) hf1
                                        | exact no _ (fun hm => by rw [hm.2.1] at h15; cases h15) hf1
                                        | exact no _ (fun hm => by have h3 := hm.2.2.1; have h4 := hm.2.2.2.1; have h5 := hm.2.2.2.2.1; omega) hF3
                                        | exact no _ (fun hm => hm.2.2.2.2.2.1.elim (fun e => h49 e) (fun e => by have := congrArg List.length e; have e0 : ([] : List UInt8).length = 0 := rfl; omega)) hF3
                                        | exact no _ (fun hm => by have := hm.2.2.2.2.2.2.1; omega) hF3
                                        | exact no _ (fun hm => by have m := hm.2.2.2.2.2.2.2.1; unfold okT at m; rw [if_neg h67] at m; exact h71 m) hF3
                                        | exact absurd h76 h67
                                        | exact absurd (Classical.not_not.1 h67) h76
                                        | exact no _ (fun hm => by have m := hm.2.2.2.2.2.2.2.1; unfold okT at m; rw [if_pos h76] at m; exact m.1 h80) hF3
                                        | exact no _ (fun hm => by have m := hm.2.2.2.2.2.2.2.1; unfold okT at m; rw [if_pos h76] at m; have := m.2.1; omega) hF3
                                        | exact no _ (fun hm => by have m := hm.2.2.2.2.2.2.2.1; unfold okT at m; rw [if_pos h76] at m; exact m.2.2 h64) hF3
                                        | refine yes _ ?_ (hF3.trans hf6)
                                          have k1 : p.2.kind = 2 ∨ p.2.data = [] := by
                                            first
                                              | exact .inl (Classical.not_not.1 h49)
                                              | exact .inr (List.length_eq_zero_iff.1 (by omega))
                                          have k2 : okT p.2 := by
                                            unfold okT
                                            first
                                              | (rw [if_neg h67]; exact Classical.not_not.1 h71)
                                              | (rw [if_pos h76]; exact ⟨h80, by omega, h64⟩)
                                          exact ⟨fun hm => hm.2.2.2.2.2.2.2.2, fun hx => ⟨by omega, by simpa using h15, by omega, by omega, by omega, k1, by omega, k2, hx⟩⟩
                                    ·
                                      refine Sl.want rfl rfl (Cm.pick_f rfl rfl) rfl ?_
                                      refine Sl.want rfl rfl (Cm.move rfl) rfl ?_
                                      refine Sl.want rfl rfl (Cm.move rfl) rfl ?_
                                      refine Sl.want rfl rfl (Cm.pick_f rfl rfl) rfl ?_
                                      refine Sl.want rfl rfl (Cm.pick_t rfl rfl) rfl ?_
                                      refine Sl.calm (Cm.pick_f rfl rfl) rfl ?_
                                      refine Sl.nil ?_
                                      refine At.weak [(0, _), (1, _), (2, _), (3, _), (4, _), (16, _), (46, _), (61, _), (91, _)] ⟨rfl, rfl, rfl, rfl, rfl, rfl, rfl, rfl, rfl, trivial⟩ ?_
                                      refine At.go ?_
                                      refine Sc.cond_f rfl ?_
                                      refine Sc.skip ?_
                                      refine At.go ?_
                                      refine Sc.seq ?_
                                      refine Sc.region ?_
                                      refine Sl.calm (Cm.field fld34_6 rfl) rfl ?_
                                      refine Sl.calm (Cm.ld sca32 rfl (cellF hg4 rfl)) rfl ?_
                                      refine Sl.call fn62 rfl ((by show Calls _ _ [Value.slice p.1.xs.a p.1.xs.n p.1.xs.c].toArray _ _; rw [hn3.2.2.1]; exact rmayX_ok _ _ _ w5 (hn3.2.2.xav hsm.2.2))) rfl ?_
                                      rintro _ w6 ⟨rfl, hf6⟩
                                      refine Sl.calm (Cm.assign rfl) rfl ?_
                                      refine Sl.nil ?_
                                      refine At.weak [(0, _), (1, _), (2, _), (3, _), (4, _), (16, _), (46, _), (61, _), (91, _)] ⟨rfl, rfl, rfl, rfl, rfl, rfl, rfl, rfl, rfl, trivial⟩ ?_
                                      refine At.go ?_
                                      refine Sc.ret ?_
                                      refine At.ret1 rfl rfl ?_
                                      first
                                        | exact no _ (fun hm => by have := hm.1; omega) hf1
                                        | exact no _ (fun hm => by rw [hm.2.1] at h15; cases h15) hf1
                                        | exact no _ (fun hm => by have h3 := hm.2.2.1; have h4 := hm.2.2.2.1; have h5 := hm.2.2.2.2.1; omega) hF3
                                        | exact no _ (fun hm => hm.2.2.2.2.2.1.elim (fun e => h49 e) (fun e => by have := congrArg List.length e; have e0 : ([] : List UInt8).length = 0 := rfl; omega)) hF3
                                        | exact no _ (fun hm => by have := hm.2.2.2.2.2.2.1; omega) hF3
                                        | exact no _ (fun hm => by have m := hm.2.2.2.2.2.2.2.1; unfold okT at m; rw [if_neg h67] at m; exact h71 m) hF3
                                        | exact absurd h76 h67
                                        | exact absurd (Classical.not_not.1 h67) h76
                                        | exact no _ (fun hm => by have m := hm.2.2.2.2.2.2.2.1; unfold okT at m; rw [if_pos h76] at m; exact m.1 h80) hF3
                                        | exact no _ (fun hm => by have m := hm.2.2.2.2.2.2.2.1; unfold okT at m; rw [if_pos h76] at m; have := m.2.1; omega) hF3
                                        | exact no _ (fun hm => by have m := hm.2.2.2.2.2.2.2.1; unfold okT at m; rw [if_pos h76] at m; exact m.2.2 h64) hF3
                                        | refine yes _ ?_ (hF3.trans hf6)
                                          have k1 : p.2.kind = 2 ∨ p.2.data = [] := by
                                            first
                                              | exact .inl (Classical.not_not.1 h49)
                                              | exact .inr (List.length_eq_zero_iff.1 (by omega))
                                          have k2 : okT p.2 := by
                                            unfold okT
                                            first
                                              | (rw [if_neg h67]; exact Classical.not_not.1 h71)
                                              | (rw [if_pos h76]; exact ⟨h80, by omega, h64⟩)
                                          exact ⟨fun hm => hm.2.2.2.2.2.2.2.2, fun hx => ⟨by omega, by simpa using h15, by omega, by omega, by omega, k1, by omega, k2, hx⟩⟩
                                ·
                                  refine Sl.want rfl rfl (Cm.move rfl) rfl ?_
                                  refine Sl.skip rfl rfl rfl rfl ?_
                                  refine Sl.skip rfl rfl rfl rfl ?_
                                  refine Sl.skip rfl rfl rfl rfl ?_
                                  refine Sl.skip rfl rfl rfl rfl ?_
                                  refine Sl.skip rfl rfl rfl rfl ?_
                                  refine Sl.skip rfl rfl rfl rfl ?_
                                  refine Sl.skip rfl rfl rfl rfl ?_
                                  refine Sl.skip rfl rfl rfl rfl ?_
                                  refine Sl.skip rfl rfl rfl rfl ?_
                                  refine Sl.skip rfl rfl rfl rfl ?_
                                  refine Sl.skip rfl rfl rfl rfl ?_
                                  refine Sl.skip rfl rfl rfl rfl ?_
                                  refine Sl.want rfl rfl (Cm.pick_f rfl rfl) rfl ?_
                                  refine Sl.calm (Cm.pick_f rfl rfl) rfl ?_
                                  refine Sl.nil ?_
                                  refine At.weak [(0, _), (1, _), (2, _), (3, _), (4, _), (16, _), (46, _), (61, _), (91, _)] ⟨rfl, rfl, rfl, rfl, rfl, rfl, rfl, rfl, rfl, trivial⟩ ?_
                                  refine At.go ?_
                                  refine Sc.cond_f rfl ?_
                                  refine Sc.skip ?_
                                  refine At.go ?_
                                  refine Sc.seq ?_
                                  refine Sc.region ?_
                                  refine Sl.calm (Cm.field fld34_6 rfl) rfl ?_
                                  refine Sl.calm (Cm.ld sca32 rfl (cellF hg4 rfl)) rfl ?_
                                  refine Sl.call fn62 rfl ((by show Calls _ _ [Value.slice p.1.xs.a p.1.xs.n p.1.xs.c].toArray _ _; rw [hn3.2.2.1]; exact rmayX_ok _ _ _ w5 (hn3.2.2.xav hsm.2.2))) rfl ?_
                                  rintro _ w6 ⟨rfl, hf6⟩
                                  refine Sl.calm (Cm.assign rfl) rfl ?_
                                  refine Sl.nil ?_
                                  refine At.weak [(0, _), (1, _), (2, _), (3, _), (4, _), (16, _), (46, _), (61, _), (91, _)] ⟨rfl, rfl, rfl, rfl, rfl, rfl, rfl, rfl, rfl, trivial⟩ ?_
                                  refine At.go ?_
                                  refine Sc.ret ?_
                                  refine At.ret1 rfl rfl ?_
                                  first
                                    | exact no _ (fun hm => by have := hm.1; omega) hf1
                                    | exact no _ (fun hm => by rw [hm.2.1] at h15; cases h15) hf1
                                    | exact no _ (fun hm => by have h3 := hm.2.2.1; have h4 := hm.2.2.2.1; have h5 := hm.2.2.2.2.1; omega) hF3
                                    | exact no _ (fun hm => hm.2.2.2.2.2.1.elim (fun e => h49 e) (fun e => by have := congrArg List.length e; have e0 : ([] : List UInt8).length = 0 := rfl; omega)) hF3
                                    | exact no _ (fun hm => by have := hm.2.2.2.2.2.2.1; omega) hF3
                                    | exact no _ (fun hm => by have m := hm.2.2.2.2.2.2.2.1; unfold okT at m; rw [if_neg h67] at m; exact h71 m) hF3
                                    | exact absurd h76 h67
                                    | exact absurd (Classical.not_not.1 h67) h76
                                    | exact no _ (fun hm => by have m := hm.2.2.2.2.2.2.2.1; unfold okT at m; rw [if_pos h76] at m; exact m.1 h80) hF3
                                    | exact no _ (fun hm => by have m := hm.2.2.2.2.2.2.2.1; unfold okT at m; rw [if_pos h76] at m; have := m.2.1; omega) hF3
                                    | exact no _ (fun hm => by have m := hm.2.2.2.2.2.2.2.1; unfold okT at m; rw [if_pos h76] at m; exact m.2.2 h64) hF3
                                    | refine yes _ ?_ (hF3.trans hf6)
                                      have k1 : p.2.kind = 2 ∨ p.2.data = [] := by
                                        first
                                          | exact .inl (Classical.not_not.1 h49)
                                          | exact .inr (List.length_eq_zero_iff.1 (by omega))
                                      have k2 : okT p.2 := by
                                        unfold okT
                                        first
                                          | (rw [if_neg h67]; exact Classical.not_not.1 h71)
                                          | (rw [if_pos h76]; exact ⟨h80, by omega, h64⟩)
                                      exact ⟨fun hm => hm.2.2.2.2.2.2.2.2, fun hx => ⟨by omega, by simpa using h15, by omega, by omega, by omega, k1, by omega, k2, hx⟩⟩
                            ·
                              refine Sl.calm (Cm.move rfl) rfl ?_
                              refine Sl.skip rfl rfl rfl rfl ?_
                              refine Sl.skip rfl rfl rfl rfl ?_
                              refine Sl.skip rfl rfl rfl rfl ?_
                              refine Sl.calm (Cm.pick_f rfl rfl) rfl ?_
                              refine Sl.calm (Cm.move rfl) rfl ?_
                              refine Sl.want rfl rfl (Cm.field fld34_2 rfl) rfl ?_
                              refine Sl.want rfl rfl (Cm.ld sca3 rfl (cellF hg4 rfl)) rfl ?_
                              refine Sl.forkWant rfl rfl (Cm.eql rfl rfl) rfl (fun h76 => ?_) (fun h76 => ?_)
                              ·
                                refine Sl.want rfl rfl (Cm.move rfl) rfl ?_
                                refine Sl.want rfl rfl (Cm.field fld34_5 rfl) rfl ?_
                                refine Sl.want rfl rfl (Cm.ld sca9 rfl (cellF hg4 rfl)) rfl ?_
                                refine Sl.forkWant rfl rfl (Cm.eqlBs rfl rfl) rfl (fun h80 => ?_) (fun h80 => ?_)
                                ·
                                  refine Sl.want rfl rfl (Cm.move rfl) rfl ?_
                                  refine Sl.skip rfl rfl rfl rfl ?_
                                  refine Sl.skip rfl rfl rfl rfl ?_
                                  refine Sl.skip rfl rfl rfl rfl ?_
                                  refine Sl.skip rfl rfl rfl rfl ?_
                                  refine Sl.want rfl rfl (Cm.pick_t rfl rfl) rfl ?_
                                  refine Sl.want rfl rfl (Cm.move rfl) rfl ?_
                                  refine Sl.skip rfl rfl rfl rfl ?_
                                  refine Sl.want rfl rfl (Cm.pick_t rfl rfl) rfl ?_
                                  refine Sl.want rfl rfl (Cm.pick_t rfl rfl) rfl ?_
                                  refine Sl.calm (Cm.pick_f rfl rfl) rfl ?_
                                  refine Sl.nil ?_
                                  refine At.weak [(0, _), (1, _), (2, _), (3, _), (4, _), (16, _), (46, _), (61, _), (91, _)] ⟨rfl, rfl, rfl, rfl, rfl, rfl, rfl, rfl, rfl, trivial⟩ ?_
                                  refine At.go ?_
                                  refine Sc.cond_t rfl ?_
                                  refine Sc.seq ?_
                                  refine Sc.region ?_
                                  refine Sl.calm (Cm.assign rfl) rfl ?_
                                  refine Sl.nil ?_
                                  refine At.go ?_
                                  refine Sc.ret ?_
                                  refine At.then_ret ?_
                                  refine At.ret1 rfl rfl ?_
                                  first
                                    | exact no _ (fun hm => by have := hm.1; omega) hf1
                                    | exact no _ (fun hm => by rw [hm.2.1] at h15; cases h15) hf1
                                    | exact no _ (fun hm => by have h3 := hm.2.2.1; have h4 := hm.2.2.2.1; have h5 := hm.2.2.2.2.1; omega) hF3
                                    | exact no _ (fun hm => hm.2.2.2.2.2.1.elim (fun e => h49 e) (fun e => by have := congrArg List.length e; have e0 : ([] : List UInt8).length = 0 := rfl; omega)) hF3
                                    | exact no _ (fun hm => by have := hm.2.2.2.2.2.2.1; omega) hF3
                                    | exact no _ (fun hm => by have m := hm.2.2.2.2.2.2.2.1; unfold okT at m; rw [if_neg h67] at m; exact h71 m) hF3
                                    | exact absurd h76 h67
                                    | exact absurd (Classical.not_not.1 h67) h76
                                    | exact no _ (fun hm => by have m := hm.2.2.2.2.2.2.2.1; unfold okT at m; rw [if_pos h76] at m; exact m.1 h80) hF3
                                    | exact no _ (fun hm => by have m := hm.2.2.2.2.2.2.2.1; unfold okT at m; rw [if_pos h76] at m; have := m.2.1; omega) hF3
                                    | exact no _ (fun hm => by have m := hm.2.2.2.2.2.2.2.1; unfold okT at m; rw [if_pos h76] at m; exact m.2.2 h64) hF3
                                    | refine yes _ ?_ (hF3.trans hf6)
                                      have k1 : p.2.kind = 2 ∨ p.2.data = [] := by
                                        first
                                          | exact .inl (Classical.not_not.1 h49)
                                          | exact .inr (List.length_eq_zero_iff.1 (by omega))
                                      have k2 : okT p.2 := by
                                        unfold okT
                                        first
                                          | (rw [if_neg h67]; exact Classical.not_not.1 h71)
                                          | (rw [if_pos h76]; exact ⟨h80, by omega, h64⟩)
                                      exact ⟨fun hm => hm.2.2.2.2.2.2.2.2, fun hx => ⟨by omega, by simpa using h15, by omega, by omega, by omega, k1, by omega, k2, hx⟩⟩
                                ·
                                  refine Sl.want rfl rfl (Cm.move rfl) rfl ?_
                                  refine Sl.want rfl rfl (Cm.field fld34_5 rfl) rfl ?_
                                  refine Sl.want rfl rfl (Cm.ld sca9 rfl (cellF hg4 rfl)) rfl ?_
                                  refine Sl.want rfl rfl (Cm.lenBs ty9 rfl) rfl ?_
                                  refine Sl.forkWant rfl rfl (Cm.gtr rfl rfl) rfl (fun h85 => ?_) (fun h85 => ?_)
                                  ·
                                    refine Sl.want rfl rfl (Cm.pick_f rfl rfl) rfl ?_
                                    refine Sl.want rfl rfl (Cm.move rfl) rfl ?_
                                    refine Sl.skip rfl rfl rfl rfl ?_
                                    refine Sl.want rfl rfl (Cm.pick_t rfl rfl) rfl ?_
                                    refine Sl.want rfl rfl (Cm.pick_t rfl rfl) rfl ?_
                                    refine Sl.calm (Cm.pick_f rfl rfl) rfl ?_
                                    refine Sl.nil ?_
                                    refine At.weak [(0, _), (1, _), (2, _), (3, _), (4, _), (16, _), (46, _), (61, _), (91, _)] ⟨rfl, rfl, rfl, rfl, rfl, rfl, rfl, rfl, rfl, trivial⟩ ?_
                                    refine At.go ?_
                                    refine Sc.cond_t rfl ?_
                                    refine Sc.seq ?_
                                    refine Sc.region ?_
                                    refine Sl.calm (Cm.assign rfl) rfl ?_
                                    refine Sl.nil ?_
                                    refine At.go ?_
                                    refine Sc.ret ?_
                                    refine At.then_ret ?_
                                    refine At.ret1 rfl rfl ?_
                                    first
                                      | exact no _ (fun hm => by have := hm.1; omega) hf1
                                      | exact no _ (fun hm => by rw [hm.2.1] at h15; cases h15) hf1
                                      | exact no _ (fun hm => by have h3 := hm.2.2.1; have h4 := hm.2.2.2.1; have h5 := hm.2.2.2.2.1; omega) hF3
                                      | exact no _ (fun hm => hm.2.2.2.2.2.1.elim (fun e => h49 e) (fun e => by have := congrArg List.length e; have e0 : ([] : List UInt8).length = 0 := rfl; omega)) hF3
                                      | exact no _ (fun hm => by have := hm.2.2.2.2.2.2.1; omega) hF3
                                      | exact no _ (fun hm => by have m := hm.2.2.2.2.2.2.2.1; unfold okT at m; rw [if_neg h67] at m; exact h71 m) hF3
                                      | exact absurd h76 h67
                                      | exact absurd (Classical.not_not.1 h67) h76
                                      | exact no _ (fun hm => by have m := hm.2.2.2.2.2.2.2.1; unfold okT at m; rw [if_pos h76] at m; exact m.1 h80) hF3
                                      | exact no _ (fun hm => by have m := hm.2.2.2.2.2.2.2.1; unfold okT at m; rw [if_pos h76] at m; have := m.2.1; omega) hF3
                                      | exact no _ (fun hm => by have m := hm.2.2.2.2.2.2.2.1; unfold okT at m; rw [if_pos h76] at m; exact m.2.2 h64) hF3
                                      | refine yes _ ?_ (hF3.trans hf6)
                                        have k1 : p.2.kind = 2 ∨ p.2.data = [] := by
                                          first
                                            | exact .inl (Classical.not_not.1 h49)
                                            | exact .inr (List.length_eq_zero_iff.1 (by omega))
                                        have k2 : okT p.2 := by
                                          unfold okT
                                          first
                                            | (rw [if_neg h67]; exact Classical.not_not.1 h71)
                                            | (rw [if_pos h76]; exact ⟨h80, by omega, h64⟩)
                                        exact ⟨fun hm => hm.2.2.2.2.2.2.2.2, fun hx => ⟨by omega, by simpa using h15, by omega, by omega, by omega, k1, by omega, k2, hx⟩⟩
                                  ·
                                    refine Sl.want rfl rfl (Cm.pick_f rfl rfl) rfl ?_
                                    refine Sl.want rfl rfl (Cm.move rfl) rfl ?_
                                    refine Sl.want rfl rfl (Cm.move rfl) rfl ?_
                                    refine Sl.want rfl rfl (Cm.pick_f rfl rfl) rfl ?_
                                    refine Sl.want rfl rfl (Cm.pick_t rfl rfl) rfl ?_
                                    refine Sl.calm (Cm.pick_f rfl rfl) rfl ?_
                                    refine Sl.nil ?_
                                    refine At.weak [(0, _), (1, _), (2, _), (3, _), (4, _), (16, _), (46, _), (61, _), (91, _)] ⟨rfl, rfl, rfl, rfl, rfl, rfl, rfl, rfl, rfl, trivial⟩ ?_
                                    refine At.go ?_
                                    refine Sc.cond_f rfl ?_
                                    refine Sc.skip ?_
                                    refine At.go ?_
                                    refine Sc.seq ?_
                                    refine Sc.region ?_
                                    refine Sl.calm (Cm.field fld34_6 rfl) rfl ?_
                                    refine Sl.calm (Cm.ld sca32 rfl (cellF hg4 rfl)) rfl ?_
                                    refine Sl.call fn62 rfl ((by show Calls _ _ [Value.slice p.1.xs.a p.1.xs.n p.1.xs.c].toArray _ _; rw [hn3.2.2.1]; exact rmayX_ok _ _ _ w5 (hn3.2.2.xav hsm.2.2))) rfl ?_
                                    rintro _ w6 ⟨rfl, hf6⟩
                                    refine Sl.calm (Cm.assign rfl) rfl ?_
                                    refine Sl.nil ?_
                                    refine At.weak [(0, _), (1, _), (2, _), (3, _), (4, _), (16, _), (46, _), (61, _), (91, _)] ⟨rfl, rfl, rfl, rfl, rfl, rfl, rfl, rfl, rfl, trivial⟩ ?_
                                    refine At.go ?_
                                    refine Sc.ret ?_
                                    refine At.ret1 rfl rfl ?_
                                    first
                                      | exact no _ (fun hm => by have := hm.1; omega) hf1
                                      | exact no _ (fun hm => by rw [hm.2.1] at h15; cases h15) hf1
                                      | exact no _ (fun hm => by have h3 := hm.2.2.1; have h4 := hm.2.2.2.1; have h5 := hm.2.2.2.2.1; omega) hF3
                                      | exact no _ (fun hm => hm.2.2.2.2.2.1.elim (fun e => h49 e) (fun e => by have := congrArg List.length e; have e0 : ([] : List UInt8).length = 0 := rfl; omega)) hF3
                                      | exact no _ (fun hm => by have := hm.2.2.2.2.2.2.1; omega) hF3
                                      | exact no _ (fun hm => by have m := hm.2.2.2.2.2.2.2.1; unfold okT at m; rw [if_neg h67] at m; exact h71 m) hF3
                                      | exact absurd h76 h67
                                      | exact absurd (Classical.not_not.1 h67) h76
                                      | exact no _ (fun hm => by have m := hm.2.2.2.2.2.2.2.1; unfold okT at m; rw [if_pos h76] at m; exact m.1 h80) hF3
                                      | exact no _ (fun hm => by have m := hm.2.2.2.2.2.2.2.1; unfold okT at m; rw [if_pos h76] at m; have := m.2.1; omega) hF3
                                      | exact no _ (fun hm => by have m := hm.2.2.2.2.2.2.2.1; unfold okT at m; rw [if_pos h76] at m; exact m.2.2 h64) hF3
                                      | refine yes _ ?_ (hF3.trans hf6)
                                        have k1 : p.2.kind = 2 ∨ p.2.data = [] := by
                                          first
                                            | exact .inl (Classical.not_not.1 h49)
                                            | exact .inr (List.length_eq_zero_iff.1 (by omega))
                                        have k2 : okT p.2 := by
                                          unfold okT
                                          first
                                            | (rw [if_neg h67]; exact Classical.not_not.1 h71)
                                            | (rw [if_pos h76]; exact ⟨h80, by omega, h64⟩)
                                        exact ⟨fun hm => hm.2.2.2.2.2.2.2.2, fun hx => ⟨by omega, by simpa using h15, by omega, by omega, by omega, k1, by omega, k2, hx⟩⟩
                              ·
                                refine Sl.want rfl rfl (Cm.move rfl) rfl ?_
                                refine Sl.skip rfl rfl rfl rfl ?_
                                refine Sl.skip rfl rfl rfl rfl ?_
                                refine Sl.skip rfl rfl rfl rfl ?_
                                refine Sl.skip rfl rfl rfl rfl ?_
                                refine Sl.skip rfl rfl rfl rfl ?_
                                refine Sl.skip rfl rfl rfl rfl ?_
                                refine Sl.skip rfl rfl rfl rfl ?_
                                refine Sl.skip rfl rfl rfl rfl ?_
                                refine Sl.skip rfl rfl rfl rfl ?_
                                refine Sl.skip rfl rfl rfl rfl ?_
                                refine Sl.skip rfl rfl rfl rfl ?_
                                refine Sl.skip rfl rfl rfl rfl ?_
                                refine Sl.want rfl rfl (Cm.pick_f rfl rfl) rfl ?_
                                refine Sl.calm (Cm.pick_f rfl rfl) rfl ?_
                                refine Sl.nil ?_
                                refine At.weak [(0, _), (1, _), (2, _), (3, _), (4, _), (16, _), (46, _), (61, _), (91, _)] ⟨rfl, rfl, rfl, rfl, rfl, rfl, rfl, rfl, rfl, trivial⟩ ?_
                                refine At.go ?_
                                refine Sc.cond_f rfl ?_
                                refine Sc.skip ?_
                                refine At.go ?_
                                refine Sc.seq ?_
                                refine Sc.region ?_
                                refine Sl.calm (Cm.field fld34_6 rfl) rfl ?_
                                refine Sl.calm (Cm.ld sca32 rfl (cellF hg4 rfl)) rfl ?_
                                refine Sl.call fn62 rfl ((by show Calls _ _ [Value.slice p.1.xs.a p.1.xs.n p.1.xs.c].toArray _ _; rw [hn3.2.2.1]; exact rmayX_ok _ _ _ w5 (hn3.2.2.xav hsm.2.2))) rfl ?_
                                rintro _ w6 ⟨rfl, hf6⟩
                                refine Sl.calm (Cm.assign rfl) rfl ?_
                                refine Sl.nil ?_
                                refine At.weak [(0, _), (1, _), (2, _), (3, _), (4, _), (16, _), (46, _), (61, _), (91, _)] ⟨rfl, rfl, rfl, rfl, rfl, rfl, rfl, rfl, rfl, trivial⟩ ?_
                                refine At.go ?_
                                refine Sc.ret ?_
                                refine At.ret1 rfl rfl ?_
                                first
                                  | exact no _ (fun hm => by have := hm.1; omega) hf1
                                  | exact no _ (fun hm => by rw [hm.2.1] at h15; cases h15) hf1
                                  | exact no _ (fun hm => by have h3 := hm.2.2.1; have h4 := hm.2.2.2.1; have h5 := hm.2.2.2.2.1; omega) hF3
                                  | exact no _ (fun hm => hm.2.2.2.2.2.1.elim (fun e => h49 e) (fun e => by have := congrArg List.length e; have e0 : ([] : List UInt8).length = 0 := rfl; omega)) hF3
                                  | exact no _ (fun hm => by have := hm.2.2.2.2.2.2.1; omega) hF3
                                  | exact no _ (fun hm => by have m := hm.2.2.2.2.2.2.2.1; unfold okT at m; rw [if_neg h67] at m; exact h71 m) hF3
                                  | exact absurd h76 h67
                                  | exact absurd (Classical.not_not.1 h67) h76
                                  | exact no _ (fun hm => by have m := hm.2.2.2.2.2.2.2.1; unfold okT at m; rw [if_pos h76] at m; exact m.1 h80) hF3
                                  | exact no _ (fun hm => by have m := hm.2.2.2.2.2.2.2.1; unfold okT at m; rw [if_pos h76] at m; have := m.2.1; omega) hF3
                                  | exact no _ (fun hm => by have m := hm.2.2.2.2.2.2.2.1; unfold okT at m; rw [if_pos h76] at m; exact m.2.2 h64) hF3
                                  | refine yes _ ?_ (hF3.trans hf6)
                                    have k1 : p.2.kind = 2 ∨ p.2.data = [] := by
                                      first
                                        | exact .inl (Classical.not_not.1 h49)
                                        | exact .inr (List.length_eq_zero_iff.1 (by omega))
                                    have k2 : okT p.2 := by
                                      unfold okT
                                      first
                                        | (rw [if_neg h67]; exact Classical.not_not.1 h71)
                                        | (rw [if_pos h76]; exact ⟨h80, by omega, h64⟩)
                                    exact ⟨fun hm => hm.2.2.2.2.2.2.2.2, fun hx => ⟨by omega, by simpa using h15, by omega, by omega, by omega, k1, by omega, k2, hx⟩⟩
                    ·
                      refine Sl.calm (Cm.move rfl) rfl ?_
                      refine Sl.skip rfl rfl rfl rfl ?_
                      refine Sl.skip rfl rfl rfl rfl ?_
                      refine Sl.skip rfl rfl rfl rfl ?_
                      refine Sl.skip rfl rfl rfl rfl ?_
                      refine Sl.calm (Cm.pick_f rfl rfl) rfl ?_
                      refine Sl.calm (Cm.move rfl) rfl ?_
                      refine Sl.want rfl rfl (Cm.field fld34_4 rfl) rfl ?_
                      refine Sl.want rfl rfl (Cm.ld sca31 rfl (cellF hg4 rfl)) rfl ?_
                      refine Sl.want rfl rfl (Cm.len sl31 rfl) rfl ?_
                      rw [hn3.2.1.1]
                      refine Sl.forkWant rfl rfl (Cm.gtr rfl rfl) rfl (fun h60 => ?_) (fun h60 => ?_)
                      ·
                        refine Sl.calm (Cm.pick_f rfl rfl) rfl ?_
                        refine Sl.nil ?_
                        refine At.weak [(0, _), (1, _), (2, _), (3, _), (16, _), (46, _), (61, _)] ⟨rfl, rfl, rfl, rfl, rfl, rfl, rfl, trivial⟩ ?_
                        refine At.go ?_
                        refine Sc.cond_t rfl ?_
                        refine Sc.seq ?_
                        refine Sc.region ?_
                        refine Sl.calm (Cm.assign rfl) rfl ?_
                        refine Sl.nil ?_
                        refine At.go ?_
                        refine Sc.ret ?_
                        refine At.then_ret ?_
                        refine At.ret1 rfl rfl ?_
                        first
                          | exact no _ (fun hm => by have := hm.1; omega) hf1
                          | exact no _ (fun hm => by rw [hm.2.1] at h15; cases h15) hf1
                          | exact no _ (fun hm => by have h3 := hm.2.2.1; have h4 := hm.2.2.2.1; have h5 := hm.2.2.2.2.1; omega) hF3
                          | exact no _ (fun hm => hm.2.2.2.2.2.1.elim (fun e => h49 e) (fun e => by have := congrArg List.length e; have e0 : ([] : List UInt8).length = 0 := rfl; omega)) hF3
                          | exact no _ (fun hm => by have := hm.2.2.2.2.2.2.1; omega) hF3
                          | exact no _ (fun hm => by have m := hm.2.2.2.2.2.2.2.1; unfold okT at m; rw [if_neg h67] at m; exact h71 m) hF3
                          | exact absurd h76 h67
                          | exact absurd (Classical.not_not.1 h67) h76
                          | exact no _ (fun hm => by have m := hm.2.2.2.2.2.2.2.1; unfold okT at m; rw [if_pos h76] at m; exact m.1 h80) hF3
                          | exact no _ (fun hm => by have m := hm.2.2.2.2.2.2.2.1; unfold okT at m; rw [if_pos h76] at m; have := m.2.1; omega) hF3
                          | exact no _ (fun hm => by have m := hm.2.2.2.2.2.2.2.1; unfold okT at m; rw [if_pos h76] at m; exact m.2.2 h64) hF3
                          | refine yes _ ?_ (hF3.trans hf6)
                            have k1 : p.2.kind = 2 ∨ p.2.data = [] := by
                              first
                                | exact .inl (Classical.not_not.1 h49)
                                | exact .inr (List.length_eq_zero_iff.1 (by omega))
                            have k2 : okT p.2 := by
                              unfold okT
                              first
                                | (rw [if_neg h67]; exact Classical.not_not.1 h71)
                                | (rw [if_pos h76]; exact ⟨h80, by omega, h64⟩)
                            exact ⟨fun hm => hm.2.2.2.2.2.2.2.2, fun hx => ⟨by omega, by simpa using h15, by omega, by omega, by omega, k1, by omega, k2, hx⟩⟩
                      ·
                        refine Sl.calm (Cm.pick_f rfl rfl) rfl ?_
                        refine Sl.nil ?_
                        refine At.weak [(0, _), (1, _), (2, _), (3, _), (16, _), (46, _), (61, _)] ⟨rfl, rfl, rfl, rfl, rfl, rfl, rfl, trivial⟩ ?_
                        refine At.go ?_
                        refine Sc.cond_f rfl ?_
                        refine Sc.skip ?_
                        refine At.go ?_
                        refine Sc.seq ?_
                        refine Sc.region ?_
                        refine Sl.calm (Cm.field fld34_5 rfl) rfl ?_
                        refine Sl.calm (Cm.ld sca9 rfl (cellF hg4 rfl)) rfl ?_
                        refine Sl.call fn61 rfl (nul_ok p.2.tgt w3 hsm.1) rfl ?_
                        rintro _ w5 ⟨rfl, rfl⟩
                        by_cases h64 : (0 : UInt8) ∈ p.2.tgt
                        ·
                          rw [decide_eq_true h64]
                          refine Sl.calm (Cm.assign rfl) rfl ?_
                          refine Sl.nil ?_
                          refine At.weak [(0, _), (1, _), (2, _), (3, _), (4, _), (16, _), (46, _), (61, _)] ⟨rfl, rfl, rfl, rfl, rfl, rfl, rfl, rfl, trivial⟩ ?_
                          refine At.go ?_
                          refine Sc.seq ?_
                          refine Sc.seq ?_
                          refine Sc.region ?_
                          refine Sl.calm (Cm.field fld34_2 rfl) rfl ?_
                          refine Sl.calm (Cm.ld sca3 rfl (cellF hg4 rfl)) rfl ?_
                          refine Sl.fork (Cm.neq rfl rfl) rfl (fun h67 => ?_) (fun h67 => ?_)
                          ·
                            refine Sl.calm (Cm.move rfl) rfl ?_
                            refine Sl.want rfl rfl (Cm.field fld34_5 rfl) rfl ?_
                            refine Sl.want rfl rfl (Cm.ld sca9 rfl (cellF hg4 rfl)) rfl ?_
                            refine Sl.forkWant rfl rfl (Cm.neqBs rfl rfl) rfl (fun h71 => ?_) (fun h71 => ?_)
                            ·
                              refine Sl.calm (Cm.pick_t rfl rfl) rfl ?_
                              refine Sl.calm (Cm.move rfl) rfl ?_
                              refine Sl.skip rfl rfl rfl rfl ?_
                              refine Sl.skip rfl rfl rfl rfl ?_
                              refine Sl.skip rfl rfl rfl rfl ?_
                              refine Sl.skip rfl rfl rfl rfl ?_
                              refine Sl.skip rfl rfl rfl rfl ?_
                              refine Sl.skip rfl rfl rfl rfl ?_
                              refine Sl.skip rfl rfl rfl rfl ?_
                              refine Sl.skip rfl rfl rfl rfl ?_
                              refine Sl.skip rfl rfl rfl rfl ?_
                              refine Sl.skip rfl rfl rfl rfl ?_
                              refine Sl.skip rfl rfl rfl rfl ?_
                              refine Sl.skip rfl rfl rfl rfl ?_
                              refine Sl.skip rfl rfl rfl rfl ?_
                              refine Sl.skip rfl rfl rfl rfl ?_
                              refine Sl.skip rfl rfl rfl rfl ?_
                              refine Sl.skip rfl rfl rfl rfl ?_
                              refine Sl.skip rfl rfl rfl rfl ?_
                              refine Sl.calm (Cm.pick_t rfl rfl) rfl ?_
                              refine Sl.nil ?_
                              refine At.weak [(0, _), (1, _), (2, _), (3, _), (4, _), (16, _), (46, _), (61, _), (91, _)] ⟨rfl, rfl, rfl, rfl, rfl, rfl, rfl, rfl, rfl, trivial⟩ ?_
                              refine At.go ?_
                              refine Sc.cond_t rfl ?_
                              refine Sc.seq ?_
                              refine Sc.region ?_
                              refine Sl.calm (Cm.assign rfl) rfl ?_
                              refine Sl.nil ?_
                              refine At.go ?_
                              refine Sc.ret ?_
                              refine At.then_ret ?_
                              refine At.ret1 rfl rfl ?_
                              first
                                | exact no _ (fun hm => by have := hm.1; omega) hf1
                                | exact no _ (fun hm => by rw [hm.2.1] at h15; cases h15) hf1
                                | exact no _ (fun hm => by have h3 := hm.2.2.1; have h4 := hm.2.2.2.1; have h5 := hm.2.2.2.2.1; omega) hF3
                                | exact no _ (fun hm => hm.2.2.2.2.2.1.elim (fun e => h49 e) (fun e => by have := congrArg List.length e; have e0 : ([] : List UInt8).length = 0 := rfl; omega)) hF3
                                | exact no _ (fun hm => by have := hm.2.2.2.2.2.2.1; omega) hF3
                                | exact no _ (fun hm => by have m := hm.2.2.2.2.2.2.2.1; unfold okT at m; rw [if_neg h67] at m; exact h71 m) hF3
                                | exact absurd h76 h67
                                | exact absurd (Classical.not_not.1 h67) h76
                                | exact no _ (fun hm => by have m := hm.2.2.2.2.2.2.2.1; unfold okT at m; rw [if_pos h76] at m; exact m.1 h80) hF3
                                | exact no _ (fun hm => by have m := hm.2.2.2.2.2.2.2.1; unfold okT at m; rw [if_pos h76] at m; have := m.2.1; omega) hF3
                                | exact no _ (fun hm => by have m := hm.2.2.2.2.2.2.2.1; unfold okT at m; rw [if_pos h76] at m; exact m.2.2 h64) hF3
                                | refine yes _ ?_ (hF3.trans hf6)
                                  have k1 : p.2.kind = 2 ∨ p.2.data = [] := by
                                    first
                                      | exact .inl (Classical.not_not.1 h49)
                                      | exact .inr (List.length_eq_zero_iff.1 (by omega))
                                  have k2 : okT p.2 := by
                                    unfold okT
                                    first
                                      | (rw [if_neg h67]; exact Classical.not_not.1 h71)
                                      | (rw [if_pos h76]; exact ⟨h80, by omega, h64⟩)
                                  exact ⟨fun hm => hm.2.2.2.2.2.2.2.2, fun hx => ⟨by omega, by simpa using h15, by omega, by omega, by omega, k1, by omega, k2, hx⟩⟩
                            ·
                              refine Sl.calm (Cm.pick_t rfl rfl) rfl ?_
                              refine Sl.calm (Cm.move rfl) rfl ?_
                              refine Sl.want rfl rfl (Cm.field fld34_2 rfl) rfl ?_
                              refine Sl.want rfl rfl (Cm.ld sca3 rfl (cellF hg4 rfl)) rfl ?_
                              refine Sl.forkWant rfl rfl (Cm.eql rfl rfl) rfl (fun h76 => ?_) (fun h76 => ?_)
                              ·
                                refine Sl.want rfl rfl (Cm.move rfl) rfl ?_
                                refine Sl.want rfl rfl (Cm.field fld34_5 rfl) rfl ?_
                                refine Sl.want rfl rfl (Cm.ld sca9 rfl (cellF hg4 rfl)) rfl ?_
                                refine Sl.forkWant rfl rfl (Cm.eqlBs rfl rfl) rfl (fun h80 => ?_) (fun h80 => ?_)
                                ·
                                  refine Sl.want rfl rfl (Cm.move rfl) rfl ?_
                                  refine Sl.skip rfl rfl rfl rfl ?_
                                  refine Sl.skip rfl rfl rfl rfl ?_
                                  refine Sl.skip rfl rfl rfl rfl ?_
                                  refine Sl.skip rfl rfl rfl rfl ?_
                                  refine Sl.want rfl rfl (Cm.pick_t rfl rfl) rfl ?_
                                  refine Sl.want rfl rfl (Cm.move rfl) rfl ?_
                                  refine Sl.skip rfl rfl rfl rfl ?_
                                  refine Sl.want rfl rfl (Cm.pick_t rfl rfl) rfl ?_
                                  refine Sl.want rfl rfl (Cm.pick_t rfl rfl) rfl ?_
                                  refine Sl.calm (Cm.pick_f rfl rfl) rfl ?_
                                  refine Sl.nil ?_
                                  refine At.weak [(0, _), (1, _), (2, _), (3, _), (4, _), (16, _), (46, _), (61, _), (91, _)] ⟨rfl, rfl, rfl, rfl, rfl, rfl, rfl, rfl, rfl, trivial⟩ ?_
                                  refine At.go ?_
                                  refine Sc.cond_t rfl ?_
                                  refine Sc.seq ?_
                                  refine Sc.region ?_
                                  refine Sl.calm (Cm.assign rfl) rfl ?_
                                  refine Sl.nil ?_
                                  refine At.go ?_
                                  refine Sc.ret ?_
                                  refine At.then_ret ?_
                                  refine At.ret1 rfl rfl ?_
                                  first
                                    | exact no _ (fun hm => by have := hm.1; omega) hf1
                                    | exact no _ (fun hm => by rw [hm.2.1] at h15; cases h15) hf1
                                    | exact no _ (fun hm => by have h3 := hm.2.2.1; have h4 := hm.2.2.2.1; have h5 := hm.2.2.2.2.1; omega) hF3
                                    | exact no _ (fun hm => hm.2.2.2.2.2.1.elim (fun e => h49 e) (fun e => by have := congrArg List.length e; have e0 : ([] : List UInt8).length = 0 := rfl; omega)) hF3
                                    | exact no _ (fun hm => by have := hm.2.2.2.2.2.2.1; omega) hF3
                                    | exact no _ (fun hm => by have m := hm.2.2.2.2.2.2.2.1; unfold okT at m; rw [if_neg h67] at m; exact h71 m) hF3
                                    | exact absurd h76 h67
                                    | exact absurd (Classical.not_not.1 h67) h76
                                    | exact no _ (fun hm => by have m := hm.2.2.2.2.2.2.2.1; unfold okT at m; rw [if_pos h76] at m; exact m.1 h80) hF3
                                    | exact no _ (fun hm => by have m := hm.2.2.2.2.2.2.2.1; unfold okT at m; rw [if_pos h76] at m; have := m.2.1; omega) hF3
                                    | exact no _ (fun hm => by have m := hm.2.2.2.2.2.2.2.1; unfold okT at m; rw [if_pos h76] at m; exact m.2.2 h64) hF3
                                    | refine yes _ ?_ (hF3.trans hf6)
                                      have k1 : p.2.kind = 2 ∨ p.2.data = [] := by
                                        first
                                          | exact .inl (Classical.not_not.1 h49)
                                          | exact .inr (List.length_eq_zero_iff.1 (by omega))
                                      have k2 : okT p.2 := by
                                        unfold okT
                                        first
                                          | (rw [if_neg h67]; exact Classical.not_not.1 h71)
                                          | (rw [if_pos h76]; exact ⟨h80, by omega, h64⟩)
                                      exact ⟨fun hm => hm.2.2.2.2.2.2.2.2, fun hx => ⟨by omega, by simpa using h15, by omega, by omega, by omega, k1, by omega, k2, hx⟩⟩
                                ·
                                  refine Sl.want rfl rfl (Cm.move rfl) rfl ?_
                                  refine Sl.want rfl rfl (Cm.field fld34_5 rfl) rfl ?_
                                  refine Sl.want rfl rfl (Cm.ld sca9 rfl (cellF hg4 rfl)) rfl ?_
                                  refine Sl.want rfl rfl (Cm.lenBs ty9 rfl) rfl ?_
                                  refine Sl.forkWant rfl rfl (Cm.gtr rfl rfl) rfl (fun h85 => ?_) (fun h85 => ?_)
                                  ·
                                    refine Sl.want rfl rfl (Cm.pick_f rfl rfl) rfl ?_
                                    refine Sl.want rfl rfl (Cm.move rfl) rfl ?_
                                    refine Sl.skip rfl rfl rfl rfl ?_
                                    refine Sl.want rfl rfl (Cm.pick_t rfl rfl) rfl ?_
                                    refine Sl.want rfl rfl (Cm.pick_t rfl rfl) rfl ?_
                                    refine Sl.calm (Cm.pick_f rfl rfl) rfl ?_
                                    refine Sl.nil ?_
                                    refine At.weak [(0, _), (1, _), (2, _), (3, _), (4, _), (16, _), (46, _), (61, _), (91, _)] ⟨rfl, rfl, rfl, rfl, rfl, rfl, rfl, rfl, rfl, trivial⟩ ?_
                                    refine At.go ?_
                                    refine Sc.cond_t rfl ?_
                                    refine Sc.seq ?_
                                    refine Sc.region ?_
                                    refine Sl.calm (Cm.assign rfl) rfl ?_
                                    refine Sl.nil ?_
                                    refine At.go ?_
                                    refine Sc.ret ?_
                                    refine At.then_ret ?_
                                    refine At.ret1 rfl rfl ?_
                                    first
                                      | exact no _ (fun hm => by have := hm.1; omega) hf1
                                      | exact no _ (fun hm => by rw [hm.2.1] at h15; cases h15) hf1
                                      | exact no _ (fun hm => by have h3 := hm.2.2.1; have h4 := hm.2.2.2.1; have h5 := hm.2.2.2.2.1; omega) hF3
                                      | exact no _ (fun hm => hm.2.2.2.2.2.1.elim (fun e => h49 e) (fun e => by have := congrArg List.length e; have e0 : ([] : List UInt8).length = 0 := rfl; omega)) hF3
                                      | exact no _ (fun hm => by have := hm.2.2.2.2.2.2.1; omega) hF3
                                      | exact no _ (fun hm => by have m := hm.2.2.2.2.2.2.2.1; unfold okT at m; rw [if_neg h67] at m; exact h71 m) hF3
                                      | exact absurd h76 h67
                                      | exact absurd (Classical.not_not.1 h67) h76
                                      | exact no _ (fun hm => by have m := hm.2.2.2.2.2.2.2.1; unfold okT at m; rw [if_pos h76] at m; exact m.1 h80) hF3
                                      | exact no _ (fun hm => by have m := hm.2.2.2.2.2.2.2.1; unfold okT at m; rw [if_pos h76] at m; have := m.2.1; omega) hF3
                                      | exact no _ (fun hm => by have m := hm.2.2.2.2.2.2.2.1; unfold okT at m; rw [if_pos h76] at m; exact m.2.2 h64) hF3
                                      | refine yes _ ?_ (hF3.trans hf6)
                                        have k1 : p.2.kind = 2 ∨ p.2.data = [] := by
                                          first
                                            | exact .inl (Classical.not_not.1 h49)
                                            | exact .inr (List.length_eq_zero_iff.1 (by omega))
                                        have k2 : okT p.2 := by
                                          unfold okT
                                          first
                                            | (rw [if_neg h67]; exact Classical.not_not.1 h71)
                                            | (rw [if_pos h76]; exact ⟨h80, by omega, h64⟩)
                                        exact ⟨fun hm => hm.2.2.2.2.2.2.2.2, fun hx => ⟨by omega, by simpa using h15, by omega, by omega, by omega, k1, by omega, k2, hx⟩⟩
                                  ·
                                    refine Sl.want rfl rfl (Cm.pick_f rfl rfl) rfl ?_
                                    refine Sl.want rfl rfl (Cm.move rfl) rfl ?_
                                    refine Sl.want rfl rfl (Cm.move rfl) rfl ?_
                                    refine Sl.want rfl rfl (Cm.pick_f rfl rfl) rfl ?_
                                    refine Sl.want rfl rfl (Cm.pick_t rfl rfl) rfl ?_
                                    refine Sl.calm (Cm.pick_f rfl rfl) rfl ?_
                                    refine Sl.nil ?_
                                    refine At.weak [(0, _), (1, _), (2, _), (3, _), (4, _), (16, _), (46, _), (61, _), (91, _)] ⟨rfl, rfl, rfl, rfl, rfl, rfl, rfl, rfl, rfl, trivial⟩ ?_
                                    refine At.go ?_
                                    refine Sc.cond_t rfl ?_
                                    refine Sc.seq ?_
                                    refine Sc.region ?_
                                    refine Sl.calm (Cm.assign rfl) rfl ?_
                                    refine Sl.nil ?_
                                    refine At.go ?_
                                    refine Sc.ret ?_
                                    refine At.then_ret ?_
                                    refine At.ret1 rfl rfl ?_
                                    first
                                      | exact no _ (fun hm => by have := hm.1; omega) hf1
                                      | exact no _ (fun hm => by rw [hm.2.1] at h15; cases h15) hf1
                                      | exact no _ (fun hm => by have h3 := hm.2.2.1; have h4 := hm.2.2.2.1; have h5 := hm.2.2.2.2.1; omega) hF3
                                      | exact no _ (fun hm => hm.2.2.2.2.2.1.elim (fun e => h49 e) (fun e => by have := congrArg List.length e; have e0 : ([] : List UInt8).length = 0 := rfl; omega)) hF3
                                      | exact no _ (fun hm => by have := hm.2.2.2.2.2.2.1; omega) hF3
                                      | exact no _ (fun hm => by have m := hm.2.2.2.2.2.2.2.1; unfold okT at m; rw [if_neg h67] at m; exact h71 m) hF3
                                      | exact absurd h76 h67
                                      | exact absurd (Classical.not_not.1 h67) h76
                                      | exact no _ (fun hm => by have m := hm.2.2.2.2.2.2.2.1; unfold okT at m; rw [if_pos h76] at m; exact m.1 h80) hF3
                                      | exact no _ (fun hm => by have m := hm.2.2.2.2.2.2.2.1; unfold okT at m; rw [if_pos h76] at m; have := m.2.1; omega) hF3
                                      | exact no _ (fun hm => by have m := hm.2.2.2.2.2.2.2.1; unfold okT at m; rw [if_pos h76] at m; exact m.2.2 h64) hF3
                                      | refine yes _ ?_ (hF3.trans hf6)
                                        have k1 : p.2.kind = 2 ∨ p.2.data = [] := by
                                          first
                                            | exact .inl (Classical.not_not.1 h49)
                                            | exact .inr (List.length_eq_zero_iff.1 (by omega))
                                        have k2 : okT p.2 := by
                                          unfold okT
                                          first
                                            | (rw [if_neg h67]; exact Classical.not_not.1 h71)
                                            | (rw [if_pos h76]; exact ⟨h80, by omega, h64⟩)
                                        exact ⟨fun hm => hm.2.2.2.2.2.2.2.2, fun hx => ⟨by omega, by simpa using h15, by omega, by omega, by omega, k1, by omega, k2, hx⟩⟩
                              ·
                                refine Sl.want rfl rfl (Cm.move rfl) rfl ?_
                                refine Sl.skip rfl rfl rfl rfl ?_
                                refine Sl.skip rfl rfl rfl rfl ?_
                                refine Sl.skip rfl rfl rfl rfl ?_
                                refine Sl.skip rfl rfl rfl rfl ?_
                                refine Sl.skip rfl rfl rfl rfl ?_
                                refine Sl.skip rfl rfl rfl rfl ?_
                                refine Sl.skip rfl rfl rfl rfl ?_
                                refine Sl.skip rfl rfl rfl rfl ?_
                                refine Sl.skip rfl rfl rfl rfl ?_
                                refine Sl.skip rfl rfl rfl rfl ?_
                                refine Sl.skip rfl rfl rfl rfl ?_
                                refine Sl.skip rfl rfl rfl rfl ?_
                                refine Sl.want rfl rfl (Cm.pick_f rfl rfl) rfl ?_
                                refine Sl.calm (Cm.pick_f rfl rfl) rfl ?_
                                refine Sl.nil ?_
                                refine At.weak [(0, _), (1, _), (2, _), (3, _), (4, _), (16, _), (46, _), (61, _), (91, _)] ⟨rfl, rfl, rfl, rfl, rfl, rfl, rfl, rfl, rfl, trivial⟩ ?_
                                refine At.go ?_
                                refine Sc.cond_f rfl ?_
                                refine Sc.skip ?_
                                refine At.go ?_
                                refine Sc.seq ?_
                                refine Sc.region ?_
                                refine Sl.calm (Cm.field fld34_6 rfl) rfl ?_
                                refine Sl.calm (Cm.ld sca32 rfl (cellF hg4 rfl)) rfl ?_
                                refine Sl.call fn62 rfl ((by show Calls _ _ [Value.slice p.1.xs.a p.1.xs.n p.1.xs.c].toArray _ _; rw [hn3.2.2.1]; exact rmayX_ok _ _ _ w5 (hn3.2.2.xav hsm.2.2))) rfl ?_
                                rintro _ w6 ⟨rfl, hf6⟩
                                refine Sl.calm (Cm.assign rfl) rfl ?_
                                refine Sl.nil ?_
                                refine At.weak [(0, _), (1, _), (2, _), (3, _), (4, _), (16, _), (46, _), (61, _), (91, _)] ⟨rfl, rfl, rfl, rfl, rfl, rfl, rfl, rfl, rfl, trivial⟩ ?_
                                refine At.go ?_
                                refine Sc.ret ?_
                                refine At.ret1 rfl rfl ?_
                                first
                                  | exact no _ (fun hm => by have := hm.1; omega) hf1
                                  | exact no _ (fun hm => by rw [hm.2.1] at h15; cases h15) hf1
                                  | exact no _ (fun hm => by have h3 := hm.2.2.1; have h4 := hm.2.2.2.1; have h5 := hm.2.2.2.2.1; omega) hF3
                                  | exact no _ (fun hm => hm.2.2.2.2.2.1.elim (fun e => h49 e) (fun e => by have := congrArg List.length e; have e0 : ([] : List UInt8).length = 0 := rfl; omega)) hF3
                                  | exact no _ (fun hm => by have := hm.2.2.2.2.2.2.1; omega) hF3
                                  | exact no _ (fun hm => by have m := hm.2.2.2.2.2.2.2.1; unfold okT at m; rw [if_neg h67] at m; exact h71 m) hF3
                                  | exact absurd h76 h67
                                  | exact absurd (Classical.not_not.1 h67) h76
                                  | exact no _ (fun hm => by have m := hm.2.2.2.2.2.2.2.1; unfold okT at m; rw [if_pos h76] at m; exact m.1 h80) hF3
                                  | exact no _ (fun hm => by have m := hm.2.2.2.2.2.2.2.1; unfold okT at m; rw [if_pos h76] at m; have := m.2.1; omega) hF3
                                  | exact no _ (fun hm => by have m := hm.2.2.2.2.2.2.2.1; unfold okT at m; rw [if_pos h76] at m; exact m.2.2 h64) hF3
                                  | refine yes _ ?_ (hF3.trans hf6)
                                    have k1 : p.2.kind = 2 ∨ p.2.data = [] := by
                                      first
                                        | exact .inl (Classical.not_not.1 h49)
                                        | exact .inr (List.length_eq_zero_iff.1 (by omega))
                                    have k2 : okT p.2 := by
                                      unfold okT
                                      first
                                        | (rw [if_neg h67]; exact Classical.not_not.1 h71)
                                        | (rw [if_pos h76]; exact ⟨h80, by omega, h64⟩)
                                    exact ⟨fun hm => hm.2.2.2.2.2.2.2.2, fun hx => ⟨by omega, by simpa using h15, by omega, by omega, by omega, k1, by omega, k2, hx⟩⟩
                          ·
                            refine Sl.calm (Cm.move rfl) rfl ?_
                            refine Sl.skip rfl rfl rfl rfl ?_
                            refine Sl.skip rfl rfl rfl rfl ?_
                            refine Sl.skip rfl rfl rfl rfl ?_
                            refine Sl.calm (Cm.pick_f rfl rfl) rfl ?_
                            refine Sl.calm (Cm.move rfl) rfl ?_
                            refine Sl.want rfl rfl (Cm.field fld34_2 rfl) rfl ?_
                            refine Sl.want rfl rfl (Cm.ld sca3 rfl (cellF hg4 rfl)) rfl ?_
                            refine Sl.forkWant rfl rfl (Cm.eql rfl rfl) rfl (fun h76 => ?_) (fun h76 => ?_)
                            ·
                              refine Sl.want rfl rfl (Cm.move rfl) rfl ?_
                              refine Sl.want rfl rfl (Cm.field fld34_5 rfl) rfl ?_
                              refine Sl.want rfl rfl (Cm.ld sca9 rfl (cellF hg4 rfl)) rfl ?_
                              refine Sl.forkWant rfl rfl (Cm.eqlBs rfl rfl) rfl (fun h80 => ?_) (fun h80 => ?_)
                              ·
                                refine Sl.want rfl rfl (Cm.move rfl) rfl ?_
                                refine Sl.skip rfl rfl rfl rfl ?_
                                refine Sl.skip rfl rfl rfl rfl ?_
                                refine Sl.skip rfl rfl rfl rfl ?_
                                refine Sl.skip rfl rfl rfl rfl ?_
                                refine Sl.want rfl rfl (Cm.pick_t rfl rfl) rfl ?_
                                refine Sl.want rfl rfl (Cm.move rfl) rfl ?_
                                refine Sl.skip rfl rfl rfl rfl ?_
                                refine Sl.want rfl rfl (Cm.pick_t rfl rfl) rfl ?_
                                refine Sl.want rfl rfl (Cm.pick_t rfl rfl) rfl ?_
                                refine Sl.calm (Cm.pick_f rfl rfl) rfl ?_
                                refine Sl.nil ?_
                                refine At.weak [(0, _), (1, _), (2, _), (3, _), (4, _), (16, _), (46, _), (61, _), (91, _)] ⟨rfl, rfl, rfl, rfl, rfl, rfl, rfl, rfl, rfl, trivial⟩ ?_
                                refine At.go ?_
                                refine Sc.cond_t rfl ?_
                                refine Sc.seq ?_
                                refine Sc.region ?_
                                refine Sl.calm (Cm.assign rfl) rfl ?_
                                refine Sl.nil ?_
                                refine At.go ?_
                                refine Sc.ret ?_
                                refine At.then_ret ?_
                                refine At.ret1 rfl rfl ?_
                                first
                                  | exact no _ (fun hm => by have := hm.1; omega) hf1
                                  | exact no _ (fun hm => by rw [hm.2.1] at h15; cases h15) hf1
                                  | exact no _ (fun hm => by have h3 := hm.2.2.1; have h4 := hm.2.2.2.1; have h5 := hm.2.2.2.2.1; omega) hF3
                                  | exact no _ (fun hm => hm.2.2.2.2.2.1.elim (fun e => h49 e) (fun e => by have := congrArg List.length e; have e0 : ([] : List UInt8).length = 0 := rfl; omega)) hF3
                                  | exact no _ (fun hm => by have := hm.2.2.2.2.2.2.1; omega) hF3
                                  | exact no _ (fun hm => by have m := hm.2.2.2.2.2.2.2.1; unfold okT at m; rw [if_neg h67] at m; exact h71 m) hF3
                                  | exact absurd h76 h67
                                  | exact absurd (Classical.not_not.1 h67) h76
                                  | exact no _ (fun hm => by have m := hm.2.2.2.2.2.2.2.1; unfold okT at m; rw [if_pos h76] at m; exact m.1 h80) hF3
                                  | exact no _ (fun hm => by have m := hm.2.2.2.2.2.2.2.1; unfold okT at m; rw [if_pos h76] at m; have := m.2.1; omega) hF3
                                  | exact no _ (fun hm => by have m := hm.2.2.2.2.2.2.2.1; unfold okT at m; rw [if_pos h76] at m; exact m.2.2 h64) hF3
                                  | refine yes _ ?_ (hF3.trans hf6)
                                    have k1 : p.2.kind = 2 ∨ p.2.data = [] := by
                                      first
                                        | exact .inl (Classical.not_not.1 h49)
                                        | exact .inr (List.length_eq_zero_iff.1 (by omega))
                                    have k2 : okT p.2 := by
                                      unfold okT
                                      first
                                        | (rw [if_neg h67]; exact Classical.not_not.1 h71)
                                        | (rw [if_pos h76]; exact ⟨h80, by omega, h64⟩)
                                    exact ⟨fun hm => hm.2.2.2.2.2.2.2.2, fun hx => ⟨by omega, by simpa using h15, by omega, by omega, by omega, k1, by omega, k2, hx⟩⟩
                              ·
                                refine Sl.want rfl rfl (Cm.move rfl) rfl ?_
                                refine Sl.want rfl rfl (Cm.field fld34_5 rfl) rfl ?_
                                refine Sl.want rfl rfl (Cm.ld sca9 rfl (cellF hg4 rfl)) rfl ?_
                                refine Sl.want rfl rfl (Cm.lenBs ty9 rfl) rfl ?_
                                refine Sl.forkWant rfl rfl (Cm.gtr rfl rfl) rfl (fun h85 => ?_) (fun h85 => ?_)
                                ·
                                  refine Sl.want rfl rfl (Cm.pick_f rfl rfl) rfl ?_
                                  refine Sl.want rfl rfl (Cm.move rfl) rfl ?_
                                  refine Sl.skip rfl rfl rfl rfl ?_
                                  refine Sl.want rfl rfl (Cm.pick_t rfl rfl) rfl ?_
                                  refine Sl.want rfl rfl (Cm.pick_t rfl rfl) rfl ?_
                                  refine Sl.calm (Cm.pick_f rfl rfl) rfl ?_
                                  refine Sl.nil ?_
                                  refine At.weak [(0, _), (1, _), (2, _), (3, _), (4, _), (16, _), (46, _), (61, _), (91, _)] ⟨rfl, rfl, rfl, rfl, rfl, rfl, rfl, rfl, rfl, trivial⟩ ?_
                                  refine At.go ?_
                                  refine Sc.cond_t rfl ?_
                                  refine Sc.seq ?_
                                  refine Sc.region ?_
                                  refine Sl.calm (Cm.assign rfl) rfl ?_
                                  refine Sl.nil ?_
                                  refine At.go ?_
                                  refine Sc.ret ?_
                                  refine At.then_ret ?_
                                  refine At.ret1 rfl rfl ?_
                                  first
                                    | exact no _ (fun hm => by have := hm.1; omega) hf1
                                    | exact no _ (fun hm => by rw [hm.2.1] at h15; cases h15) hf1
                                    | exact no _ (fun hm => by have h3 := hm.2.2.1; have h4 := hm.2.2.2.1; have h5 := hm.2.2.2.2.1; omega) hF3
                                    | exact no _ (fun hm => hm.2.2.2.2.2.1.elim (fun e => h49 e) (fun e => by have := congrArg List.length e; have e0 : ([] : List UInt8).length = 0 := rfl; omega)) hF3
                                    | exact no _ (fun hm => by have := hm.2.2.2.2.2.2.1; omega) hF3
                                    | exact no _ (fun hm => by have m := hm.2.2.2.2.2.2.2.1; unfold okT at m; rw [if_neg h67] at m; exact h71 m) hF3
                                    | exact absurd h76 h67
                                    | exact absurd (Classical.not_not.1 h67) h76
                                    | exact no _ (fun hm => by have m := hm.2.2.2.2.2.2.2.1; unfold okT at m; rw [if_pos h76] at m; exact m.1 h80) hF3
                                    | exact no _ (fun hm => by have m := hm.2.2.2.2.2.2.2.1; unfold okT at m; rw [if_pos h76] at m; have := m.2.1; omega) hF3
                                    | exact no _ (fun hm => by have m := hm.2.2.2.2.2.2.2.1; unfold okT at m; rw [if_pos h76] at m; exact m.2.2 h64) hF3
                                    | refine yes _ ?_ (hF3.trans hf6)
                                      have k1 : p.2.kind = 2 ∨ p.2.data = [] := by
                                        first
                                          | exact .inl (Classical.not_not.1 h49)
                                          | exact .inr (List.length_eq_zero_iff.1 (by omega))
                                      have k2 : okT p.2 := by
                                        unfold okT
                                        first
                                          | (rw [if_neg h67]; exact Classical.not_not.1 h71)
                                          | (rw [if_pos h76]; exact ⟨h80, by omega, h64⟩)
                                      exact ⟨fun hm => hm.2.2.2.2.2.2.2.2, fun hx => ⟨by omega, by simpa using h15, by omega, by omega, by omega, k1, by omega, k2, hx⟩⟩
                                ·
                                  refine Sl.want rfl rfl (Cm.pick_f rfl rfl) rfl ?_
                                  refine Sl.want rfl rfl (Cm.move rfl) rfl ?_
                                  refine Sl.want rfl rfl (Cm.move rfl) rfl ?_
                                  refine Sl.want rfl rfl (Cm.pick_f rfl rfl) rfl ?_
                                  refine Sl.want rfl rfl (Cm.pick_t rfl rfl) rfl ?_
                                  refine Sl.calm (Cm.pick_f rfl rfl) rfl ?_
                                  refine Sl.nil ?_
                                  refine At.weak [(0, _), (1, _), (2, _), (3, _), (4, _), (16, _), (46, _), (61, _), (91, _)] ⟨rfl, rfl, rfl, rfl, rfl, rfl, rfl, rfl, rfl, trivial⟩ ?_
                                  refine At.go ?_
                                  refine Sc.cond_t rfl ?_
                                  refine Sc.seq ?_
                                  refine Sc.region ?_
                                  refine Sl.calm (Cm.assign rfl) rfl ?_
                                  refine Sl.nil ?_
                                  refine At.go ?_
                                  refine Sc.ret ?_
                                  refine At.then_ret ?_
                                  refine At.ret1 rfl rfl ?_
                                  first
                                    | exact no _ (fun hm => by have := hm.1; omega) hf1
                                    | exact no _ (fun hm => by rw [hm.2.1] at h15; cases h15) hf1
                                    | exact no _ (fun hm => by have h3 := hm.2.2.1; have h4 := hm.2.2.2.1; have h5 := hm.2.2.2.2.1; omega) hF3
                                    | exact no _ (fun hm => hm.2.2.2.2.2.1.elim (fun e => h49 e) (fun e => by have := congrArg List.length e; have e0 : ([] : List UInt8).length = 0 := rfl; omega)) hF3
                                    | exact no _ (fun hm => by have := hm.2.2.2.2.2.2.1; omega) hF3
                                    | exact no _ (fun hm => by have m := hm.2.2.2.2.2.2.2.1; unfold okT at m; rw [if_neg h67] at m; exact h71 m) hF3
                                    | exact absurd h76 h67
                                    | exact absurd (Classical.not_not.1 h67) h76
                                    | exact no _ (fun hm => by have m := hm.2.2.2.2.2.2.2.1; unfold okT at m; rw [if_pos h76] at m; exact m.1 h80) hF3
                                    | exact no _ (fun hm => by have m := hm.2.2.2.2.2.2.2.1; unfold okT at m; rw [if_pos h76] at m; have := m.2.1; omega) hF3
                                    | exact no _ (fun hm => by have m := hm.2.2.2.2.2.2.2.1; unfold okT at m; rw [if_pos h76] at m; exact m.2.2 h64) hF3
                                    | refine yes _ ?_ (hF3.trans hf6)
                                      have k1 : p.2.kind = 2 ∨ p.2.data = [] := by
                                        first
                                          | exact .inl (Classical.not_not.1 h49)
                                          | exact .inr (List.length_eq_zero_iff.1 (by omega))
                                      have k2 : okT p.2 := by
                                        unfold okT
                                        first
                                          | (rw [if_neg h67]; exact Classical.not_not.1 h71)
                                          | (rw [if_pos h76]; exact ⟨h80, by omega, h64⟩)
                                      exact ⟨fun hm => hm.2.2.2.2.2.2.2.2, fun hx => ⟨by omega, by simpa using h15, by omega, by omega, by omega, k1, by omega, k2, hx⟩⟩
                            ·
                              refine Sl.want rfl rfl (Cm.move rfl) rfl ?_
                              refine Sl.skip rfl rfl rfl rfl ?_
                              refine Sl.skip rfl rfl rfl rfl ?_
                              refine Sl.skip rfl rfl rfl rfl ?_
                              refine Sl.skip rfl rfl rfl rfl ?_
                              refine Sl.skip rfl rfl rfl rfl ?_
                              refine Sl.skip rfl rfl rfl rfl ?_
                              refine Sl.skip rfl rfl rfl rfl ?_
                              refine Sl.skip rfl rfl rfl rfl ?_
                              refine Sl.skip rfl rfl rfl rfl ?_
                              refine Sl.skip rfl rfl rfl rfl ?_
                              refine Sl.skip rfl rfl rfl rfl ?_
                              refine Sl.skip rfl rfl rfl rfl ?_
                              refine Sl.want rfl rfl (Cm.pick_f rfl rfl) rfl ?_
                              refine Sl.calm (Cm.pick_f rfl rfl) rfl ?_
                              refine Sl.nil ?_
                              refine At.weak [(0, _), (1, _), (2, _), (3, _), (4, _), (16, _), (46, _), (61, _), (91, _)] ⟨rfl, rfl, rfl, rfl, rfl, rfl, rfl, rfl, rfl, trivial⟩ ?_
                              refine At.go ?_
                              refine Sc.cond_f rfl ?_
                              refine Sc.skip ?_
                              refine At.go ?_
                              refine Sc.seq ?_
                              refine Sc.region ?_
                              refine Sl.calm (Cm.field fld34_6 rfl) rfl ?_
                              refine Sl.calm (Cm.ld sca32 rfl (cellF hg4 rfl)) rfl ?_
                              refine Sl.call fn62 rfl ((by show Calls _ _ [Value.slice p.1.xs.a p.1.xs.n p.1.xs.c].toArray _ _; rw [hn3.2.2.1]; exact rmayX_ok _ _ _ w5 (hn3.2.2.xav hsm.2.2))) rfl ?_
                              rintro _ w6 ⟨rfl, hf6⟩
                              refine Sl.calm (Cm.assign rfl) rfl ?_
                              refine Sl.nil ?_
                              refine At.weak [(0, _), (1, _), (2, _), (3, _), (4, _), (16, _), (46, _), (61, _), (91, _)] ⟨rfl, rfl, rfl, rfl, rfl, rfl, rfl, rfl, rfl, trivial⟩ ?_
                              refine At.go ?_
                              refine Sc.ret ?_
                              refine At.ret1 rfl rfl ?_
                              first
                                | exact no _ (fun hm => by have := hm.1; omega) hf1
                                | exact no _ (fun hm => by rw [hm.2.1] at h15; cases h15) hf1
                                | exact no _ (fun hm => by have h3 := hm.2.2.1; have h4 := hm.2.2.2.1; have h5 := hm.2.2.2.2.1; omega) hF3
                                | exact no _ (fun hm => hm.2.2.2.2.2.1.elim (fun e => h49 e) (fun e => by have := congrArg List.length e; have e0 : ([] : List UInt8).length = 0 := rfl; omega)) hF3
                                | exact no _ (fun hm => by have := hm.2.2.2.2.2.2.1; omega) hF3
                                | exact no _ (fun hm => by have m := hm.2.2.2.2.2.2.2.1; unfold okT at m; rw [if_neg h67] at m; exact h71 m) hF3
                                | exact absurd h76 h67
                                | exact absurd (Classical.not_not.1 h67) h76
                                | exact no _ (fun hm => by have m := hm.2.2.2.2.2.2.2.1; unfold okT at m; rw [if_pos h76] at m; exact m.1 h80) hF3
                                | exact no _ (fun hm => by have m := hm.2.2.2.2.2.2.2.1; unfold okT at m; rw [if_pos h76] at m; have := m.2.1; omega) hF3
                                | exact no _ (fun hm => by have m := hm.2.2.2.2.2.2.2.1; unfold okT at m; rw [if_pos h76] at m; exact m.2.2 h64) hF3
                                | refine yes _ ?_ (hF3.trans hf6)
                                  have k1 : p.2.kind = 2 ∨ p.2.data = [] := by
                                    first
                                      | exact .inl (Classical.not_not.1 h49)
                                      | exact .inr (List.length_eq_zero_iff.1 (by omega))
                                  have k2 : okT p.2 := by
                                    unfold okT
                                    first
                                      | (rw [if_neg h67]; exact Classical.not_not.1 h71)
                                      | (rw [if_pos h76]; exact ⟨h80, by omega, h64⟩)
                                  exact ⟨fun hm => hm.2.2.2.2.2.2.2.2, fun hx => ⟨by omega, by simpa using h15, by omega, by omega, by omega, k1, by omega, k2, hx⟩⟩
                        ·
                          rw [decide_eq_false h64]
                          refine Sl.calm (Cm.assign rfl) rfl ?_
                          refine Sl.nil ?_
                          refine At.weak [(0, _), (1, _), (2, _), (3, _), (4, _), (16, _), (46, _), (61, _)] ⟨rfl, rfl, rfl, rfl, rfl, rfl, rfl, rfl, trivial⟩ ?_
                          refine At.go ?_
                          refine Sc.seq ?_
                          refine Sc.seq ?_
                          refine Sc.region ?_
                          refine Sl.calm (Cm.field fld34_2 rfl) rfl ?_
                          refine Sl.calm (Cm.ld sca3 rfl (cellF hg4 rfl)) rfl ?_
                          refine Sl.fork (Cm.neq rfl rfl) rfl (fun h67 => ?_) (fun h67 => ?_)
                          ·
                            refine Sl.calm (Cm.move rfl) rfl ?_
                            refine Sl.want rfl rfl (Cm.field fld34_5 rfl) rfl ?_
                            refine Sl.want rfl rfl (Cm.ld sca9 rfl (cellF hg4 rfl)) rfl ?_
                            refine Sl.forkWant rfl rfl (Cm.neqBs rfl rfl) rfl (fun h71 => ?_) (fun h71 => ?_)
                            ·
                              refine Sl.calm (Cm.pick_t rfl rfl) rfl ?_
                              refine Sl.calm (Cm.move rfl) rfl ?_
                              refine Sl.skip rfl rfl rfl rfl ?_
                              refine Sl.skip rfl rfl rfl rfl ?_
                              refine Sl.skip rfl rfl rfl rfl ?_
                              refine Sl.skip rfl rfl rfl rfl ?_
                              refine Sl.skip rfl rfl rfl rfl ?_
                              refine Sl.skip rfl rfl rfl rfl ?_
                              refine Sl.skip rfl rfl rfl rfl ?_
                              refine Sl.skip rfl rfl rfl rfl ?_
                              refine Sl.skip rfl rfl rfl rfl ?_
                              refine Sl.skip rfl rfl rfl rfl ?_
                              refine Sl.skip rfl rfl rfl rfl ?_
                              refine Sl.skip rfl rfl rfl rfl ?_
                              refine Sl.skip rfl rfl rfl rfl ?_
                              refine Sl.skip rfl rfl rfl rfl ?_
                              refine Sl.skip rfl rfl rfl rfl ?_
                              refine Sl.skip rfl rfl rfl rfl ?_
                              refine Sl.skip rfl rfl rfl rfl ?_
                              refine Sl.calm (Cm.pick_t rfl rfl) rfl ?_
                              refine Sl.nil ?_
                              refine At.weak [(0, _), (1, _), (2, _), (3, _), (4, _), (16, _), (46, _), (61, _), (91, _)] ⟨rfl, rfl, rfl, rfl, rfl, rfl, rfl, rfl, rfl, trivial⟩ ?_
                              refine At.go ?_
                              refine Sc.cond_t rfl ?_
                              refine Sc.seq ?_
                              refine Sc.region ?_
                              refine Sl.calm (Cm.assign rfl) rfl ?_
                              refine Sl.nil ?_
                              refine At.go ?_
                              refine Sc.ret ?_
                              refine At.then_ret ?_
                              refine At.ret1 rfl rfl ?_
                              first
                                | exact no _ (fun hm => by have := hm.1; omega) hf1
                                | exact no _ (fun hm => by rw [hm.2.1] at h15; cases h15) hf1
                                | exact no _ (fun hm => by have h3 := hm.2.2.1; have h4 := hm.2.2.2.1; have h5 := hm.2.2.2.2.1; omega) hF3
                                | exact no _ (fun hm => hm.2.2.2.2.2.1.elim (fun e => h49 e) (fun e => by have := congrArg List.length e; have e0 : ([] : List UInt8).length = 0 := rfl; omega)) hF3
                                | exact no _ (fun hm => by have := hm.2.2.2.2.2.2.1; omega) hF3
                                | exact no _ (fun hm => by have m := hm.2.2.2.2.2.2.2.1; unfold okT at m; rw [if_neg h67] at m; exact h71 m) hF3
                                | exact absurd h76 h67
                                | exact absurd (Classical.not_not.1 h67) h76
                                | exact no _ (fun hm => by have m := hm.2.2.2.2.2.2.2.1; unfold okT at m; rw [if_pos h76] at m; exact m.1 h80) hF3
                                | exact no _ (fun hm => by have m := hm.2.2.2.2.2.2.2.1; unfold okT at m; rw [if_pos h76] at m; have := m.2.1; omega) hF3
                                | exact no _ (fun hm => by have m := hm.2.2.2.2.2.2.2.1; unfold okT at m; rw [if_pos h76] at m; exact m.2.2 h64) hF3
                                | refine yes _ ?_ (hF3.trans hf6)
                                  have k1 : p.2.kind = 2 ∨ p.2.data = [] := by
                                    first
                                      | exact .inl (Classical.not_not.1 h49)
                                      | exact .inr (List.length_eq_zero_iff.1 (by omega))
                                  have k2 : okT p.2 := by
                                    unfold okT
                                    first
                                      | (rw [if_neg h67]; exact Classical.not_not.1 h71)
                                      | (rw [if_pos h76]; exact ⟨h80, by omega, h64⟩)
                                  exact ⟨fun hm => hm.2.2.2.2.2.2.2.2, fun hx => ⟨by omega, by simpa using h15, by omega, by omega, by omega, k1, by omega, k2, hx⟩⟩
                            ·
                              refine Sl.calm (Cm.pick_t rfl rfl) rfl ?_
                              refine Sl.calm (Cm.move rfl) rfl ?_
                              refine Sl.want rfl rfl (Cm.field fld34_2 rfl) rfl ?_
                              refine Sl.want rfl rfl (Cm.ld sca3 rfl (cellF hg4 rfl)) rfl ?_
                              refine Sl.forkWant rfl rfl (Cm.eql rfl rfl) rfl (fun h76 => ?_) (fun h76 => ?_)
                              ·
                                refine Sl.want rfl rfl (Cm.move rfl) rfl ?_
                                refine Sl.want rfl rfl (Cm.field fld34_5 rfl) rfl ?_
                                refine Sl.want rfl rfl (Cm.ld sca9 rfl (cellF hg4 rfl)) rfl ?_
                                refine Sl.forkWant rfl rfl (Cm.eqlBs rfl rfl) rfl (fun h80 => ?_) (fun h80 => ?_)
                                ·
                                  refine Sl.want rfl rfl (Cm.move rfl) rfl ?_
                                  refine Sl.skip rfl rfl rfl rfl ?_
                                  refine Sl.skip rfl rfl rfl rfl ?_
                                  refine Sl.skip rfl rfl rfl rfl ?_
                                  refine Sl.skip rfl rfl rfl rfl ?_
                                  refine Sl.want rfl rfl (Cm.pick_t rfl rfl) rfl ?_
                                  refine Sl.want rfl rfl (Cm.move rfl) rfl ?_
                                  refine Sl.skip rfl rfl rfl rfl ?_
                                  refine Sl.want rfl rfl (Cm.pick_t rfl rfl) rfl ?_
                                  refine Sl.want rfl rfl (Cm.pick_t rfl rfl) rfl ?_
                                  refine Sl.calm (Cm.pick_f rfl rfl) rfl ?_
                                  refine Sl.nil ?_
                                  refine At.weak [(0, _), (1, _), (2, _), (3, _), (4, _), (16, _), (46, _), (61, _), (91, _)] ⟨rfl, rfl, rfl, rfl, rfl, rfl, rfl, rfl, rfl, trivial⟩ ?_
                                  refine At.go ?_
                                  refine Sc.cond_t rfl ?_
                                  refine Sc.seq ?_
                                  refine Sc.region ?_
                                  refine Sl.calm (Cm.assign rfl) rfl ?_
                                  refine Sl.nil ?_
                                  refine At.go ?_
                                  refine Sc.ret ?_
                                  refine At.then_ret ?_
                                  refine At.ret1 rfl rfl ?_
                                  first
                                    | exact no _ (fun hm => by have := hm.1; omega) hf1
                                    | exact no _ (fun hm => by rw [hm.2.1] at h15; cases h15) hf1
                                    | exact no _ (fun hm => by have h3 := hm.2.2.1; have h4 := hm.2.2.2.1; have h5 := hm.2.2.2.2.1; omega) hF3
                                    | exact no _ (fun hm => hm.2.2.2.2.2.1.elim (fun e => h49 e) (fun e => by have := congrArg List.length e; have e0 : ([] : List UInt8).length = 0 := rfl; omega)) hF3
                                    | exact no _ (fun hm => by have := hm.2.2.2.2.2.2.1; omega) hF3
                                    | exact no _ (fun hm => by have m := hm.2.2.2.2.2.2.2.1; unfold okT at m; rw [if_neg h67] at m; exact h71 m) hF3
                                    | exact absurd h76 h67
                                    | exact absurd (Classical.not_not.1 h67) h76
                                    | exact no _ (fun hm => by have m := hm.2.2.2.2.2.2.2.1; unfold okT at m; rw [if_pos h76] at m; exact m.1 h80) hF3
                                    | exact no _ (fun hm => by have m := hm.2.2.2.2.2.2.2.1; unfold okT at m; rw [if_pos h76] at m; have := m.2.1; omega) hF3
                                    | exact no _ (fun hm => by have m := hm.2.2.2.2.2.2.2.1; unfold okT at m; rw [if_pos h76] at m; exact m.2.2 h64) hF3
                                    | refine yes _ ?_ (hF3.trans hf6)
                                      have k1 : p.2.kind = 2 ∨ p.2.data = [] := by
                                        first
                                          | exact .inl (Classical.not_not.1 h49)
                                          | exact .inr (List.length_eq_zero_iff.1 (by omega))
                                      have k2 : okT p.2 := by
                                        unfold okT
                                        first
                                          | (rw [if_neg h67]; exact Classical.not_not.1 h71)
                                          | (rw [if_pos h76]; exact ⟨h80, by omega, h64⟩)
                                      exact ⟨fun hm => hm.2.2.2.2.2.2.2.2, fun hx => ⟨by omega, by simpa using h15, by omega, by omega, by omega, k1, by omega, k2, hx⟩⟩
                                ·
                                  refine Sl.want rfl rfl (Cm.move rfl) rfl ?_
                                  refine Sl.want rfl rfl (Cm.field fld34_5 rfl) rfl ?_
                                  refine Sl.want rfl rfl (Cm.ld sca9 rfl (cellF hg4 rfl)) rfl ?_
                                  refine Sl.want rfl rfl (Cm.lenBs ty9 rfl) rfl ?_
                                  refine Sl.forkWant rfl rfl (Cm.gtr rfl rfl) rfl (fun h85 => ?_) (fun h85 => ?_)
                                  ·
                                    refine Sl.want rfl rfl (Cm.pick_f rfl rfl) rfl ?_
                                    refine Sl.want rfl rfl (Cm.move rfl) rfl ?_
                                    refine Sl.skip rfl rfl rfl rfl ?_
                                    refine Sl.want rfl rfl (Cm.pick_t rfl rfl) rfl ?_
                                    refine Sl.want rfl rfl (Cm.pick_t rfl rfl) rfl ?_
                                    refine Sl.calm (Cm.pick_f rfl rfl) rfl ?_
                                    refine Sl.nil ?_
                                    refine At.weak [(0, _), (1, _), (2, _), (3, _), (4, _), (16, _), (46, _), (61, _), (91, _)] ⟨rfl, rfl, rfl, rfl, rfl, rfl, rfl, rfl, rfl, trivial⟩ ?_
                                    refine At.go ?_
                                    refine Sc.cond_t rfl ?_
                                    refine Sc.seq ?_
                                    refine Sc.region ?_
                                    refine Sl.calm (Cm.assign rfl) rfl ?_
                                    refine Sl.nil ?_
                                    refine At.go ?_
                                    refine Sc.ret ?_
                                    refine At.then_ret ?_
                                    refine At.ret1 rfl rfl ?_
                                    first
                                      | exact no _ (fun hm => by have := hm.1; omega) hf1
                                      | exact no _ (fun hm => by rw [hm.2.1] at h15; cases h15) hf1
                                      | exact no _ (fun hm => by have h3 := hm.2.2.1; have h4 := hm.2.2.2.1; have h5 := hm.2.2.2.2.1; omega) hF3
                                      | exact no _ (fun hm => hm.2.2.2.2.2.1.elim (fun e => h49 e) (fun e => by have := congrArg List.length e; have e0 : ([] : List UInt8).length = 0 := rfl; omega)) hF3
                                      | exact no _ (fun hm => by have := hm.2.2.2.2.2.2.1; omega) hF3
                                      | exact no _ (fun hm => by have m := hm.2.2.2.2.2.2.2.1; unfold okT at m; rw [if_neg h67] at m; exact h71 m) hF3
                                      | exact absurd h76 h67
                                      | exact absurd (Classical.not_not.1 h67) h76
                                      | exact no _ (fun hm => by have m := hm.2.2.2.2.2.2.2.1; unfold okT at m; rw [if_pos h76] at m; exact m.1 h80) hF3
                                      | exact no _ (fun hm => by have m := hm.2.2.2.2.2.2.2.1; unfold okT at m; rw [if_pos h76] at m; have := m.2.1; omega) hF3
                                      | exact no _ (fun hm => by have m := hm.2.2.2.2.2.2.2.1; unfold okT at m; rw [if_pos h76] at m; exact m.2.2 h64) hF3
                                      | refine yes _ ?_ (hF3.trans hf6)
                                        have k1 : p.2.kind = 2 ∨ p.2.data = [] := by
                                          first
                                            | exact .inl (Classical.not_not.1 h49)
                                            | exact .inr (List.length_eq_zero_iff.1 (by omega))
                                        have k2 : okT p.2 := by
                                          unfold okT
                                          first
                                            | (rw [if_neg h67]; exact Classical.not_not.1 h71)
                                            | (rw [if_pos h76]; exact ⟨h80, by omega, h64⟩)
                                        exact ⟨fun hm => hm.2.2.2.2.2.2.2.2, fun hx => ⟨by omega, by simpa using h15, by omega, by omega, by omega, k1, by omega, k2, hx⟩⟩
                                  ·
                                    refine Sl.want rfl rfl (Cm.pick_f rfl rfl) rfl ?_
                                    refine Sl.want rfl rfl (Cm.move rfl) rfl ?_
                                    refine Sl.want rfl rfl (Cm.move rfl) rfl ?_
                                    refine Sl.want rfl rfl (Cm.pick_f rfl rfl) rfl ?_
                                    refine Sl.want rfl rfl (Cm.pick_t rfl rfl) rfl ?_
                                    refine Sl.calm (Cm.pick_f rfl rfl) rfl ?_
                                    refine Sl.nil ?_
                                    refine At.weak [(0, _), (1, _), (2, _), (3, _), (4, _), (16, _), (46, _), (61, _), (91, _)] ⟨rfl, rfl, rfl, rfl, rfl, rfl, rfl, rfl, rfl, trivial⟩ ?_
                                    refine At.go ?_
                                    refine Sc.cond_f rfl ?_
                                    refine Sc.skip ?_
                                    refine At.go ?_
                                    refine Sc.seq ?_
                                    refine Sc.region ?_
                                    refine Sl.calm (Cm.field fld34_6 rfl) rfl ?_
                                    refine Sl.calm (Cm.ld sca32 rfl (cellF hg4 rfl)) rfl ?_
                                    refine Sl.call fn62 rfl ((by show Calls _ _ [Value.slice p.1.xs.a p.1.xs.n p.1.xs.c].toArray _ _; rw [hn3.2.2.1]; exact rmayX_ok _ _ _ w5 (hn3.2.2.xav hsm.2.2))) rfl ?_
                                    rintro _ w6 ⟨rfl, hf6⟩
                                    refine Sl.calm (Cm.assign rfl) rfl ?_
                                    refine Sl.nil ?_
                                    refine At.weak [(0, _), (1, _), (2, _), (3, _), (4, _), (16, _), (46, _), (61, _), (91, _)] ⟨rfl, rfl, rfl, rfl, rfl, rfl, rfl, rfl, rfl, trivial⟩ ?_
                                    refine At.go ?_
                                    refine Sc.ret ?_
                                    refine At.ret1 rfl rfl ?_
                                    first
                                      | exact no _ (fun hm => by have := hm.1; omega) hf1
                                      | exact no _ (fun hm => by rw [hm.2.1] at h15; cases h15) hf1
                                      | exact no _ (fun hm => by have h3 := hm.2.2.1; have h4 := hm.2.2.2.1; have h5 := hm.2.2.2.2.1; omega) hF3
                                      | exact no _ (fun hm => hm.2.2.2.2.2.1.elim (fun e => h49 e) (fun e => by have := congrArg List.length e; have e0 : ([] : List UInt8).length = 0 := rfl; omega)) hF3
                                      | exact no _ (fun hm => by have := hm.2.2.2.2.2.2.1; omega) hF3
                                      | exact no _ (fun hm => by have m := hm.2.2.2.2.2.2.2.1; unfold okT at m; rw [if_neg h67] at m; exact h71 m) hF3
                                      | exact absurd h76 h67
                                      | exact absurd (Classical.not_not.1 h67) h76
                                      | exact no _ (fun hm => by have m := hm.2.2.2.2.2.2.2.1; unfold okT at m; rw [if_pos h76] at m; exact m.1 h80) hF3
                                      | exact no _ (fun hm => by have m := hm.2.2.2.2.2.2.2.1; unfold okT at m; rw [if_pos h76] at m; have := m.2.1; omega) hF3
                                      | exact no _ (fun hm => by have m := hm.2.2.2.2.2.2.2.1; unfold okT at m; rw [if_pos h76] at m; exact m.2.2 h64) hF3
                                      | refine yes _ ?_ (hF3.trans hf6)
                                        have k1 : p.2.kind = 2 ∨ p.2.data = [] := by
                                          first
                                            | exact .inl (Classical.not_not.1 h49)
                                            | exact .inr (List.length_eq_zero_iff.1 (by omega))
                                        have k2 : okT p.2 := by
                                          unfold okT
                                          first
                                            | (rw [if_neg h67]; exact Classical.not_not.1 h71)
                                            | (rw [if_pos h76]; exact ⟨h80, by omega, h64⟩)
                                        exact ⟨fun hm => hm.2.2.2.2.2.2.2.2, fun hx => ⟨by omega, by simpa using h15, by omega, by omega, by omega, k1, by omega, k2, hx⟩⟩
                              ·
                                refine Sl.want rfl rfl (Cm.move rfl) rfl ?_
                                refine Sl.skip rfl rfl rfl rfl ?_
                                refine Sl.skip rfl rfl rfl rfl ?_
                                refine Sl.skip rfl rfl rfl rfl ?_
                                refine Sl.skip rfl rfl rfl rfl ?_
                                refine Sl.skip rfl rfl rfl rfl ?_
                                refine Sl.skip rfl rfl rfl rfl ?_
                                refine Sl.skip rfl rfl rfl rfl ?_
                                refine Sl.skip rfl rfl rfl rfl ?_
                                refine Sl.skip rfl rfl rfl rfl ?_
                                refine Sl.skip rfl rfl rfl rfl ?_
                                refine Sl.skip rfl rfl rfl rfl ?_
                                refine Sl.skip rfl rfl rfl rfl ?_
                                refine Sl.want rfl rfl (Cm.pick_f rfl rfl) rfl ?_
                                refine Sl.calm (Cm.pick_f rfl rfl) rfl ?_
                                refine Sl.nil ?_
                                refine At.weak [(0, _), (1, _), (2, _), (3, _), (4, _), (16, _), (46, _), (61, _), (91, _)] ⟨rfl, rfl, rfl, rfl, rfl, rfl, rfl, rfl, rfl, trivial⟩ ?_
                                refine At.go ?_
                                refine Sc.cond_f rfl ?_
                                refine Sc.skip ?_
                                refine At.go ?_
                                refine Sc.seq ?_
                                refine Sc.region ?_
                                refine Sl.calm (Cm.field fld34_6 rfl) rfl ?_
                                refine Sl.calm (Cm.ld sca32 rfl (cellF hg4 rfl)) rfl ?_
                                refine Sl.call fn62 rfl ((by show Calls _ _ [Value.slice p.1.xs.a p.1.xs.n p.1.xs.c].toArray _ _; rw [hn3.2.2.1]; exact rmayX_ok _ _ _ w5 (hn3.2.2.xav hsm.2.2))) rfl ?_
                                rintro _ w6 ⟨rfl, hf6⟩
                                refine Sl.calm (Cm.assign rfl) rfl ?_
                                refine Sl.nil ?_
                                refine At.weak [(0, _), (1, _), (2, _), (3, _), (4, _), (16, _), (46, _), (61, _), (91, _)] ⟨rfl, rfl, rfl, rfl, rfl, rfl, rfl, rfl, rfl, trivial⟩ ?_
                                refine At.go ?_
                                refine Sc.ret ?_
                                refine At.ret1 rfl rfl ?_
                                first
                                  | exact no _ (fun hm => by have := hm.1; omega) hf1
                                  | exact no _ (fun hm => by rw [hm.2.1] at h15; cases h15) hf1
                                  | exact no _ (fun hm => by have h3 := hm.2.2.1; have h4 := hm.2.2.2.1; have h5 := hm.2.2.2.2.1; omega) hF3
                                  | exact no _ (fun hm => hm.2.2.2.2.2.1.elim (fun e => h49 e) (fun e => by have := congrArg List.length e; have e0 : ([] : List UInt8).length = 0 := rfl; omega)) hF3
                                  | exact no _ (fun hm => by have := hm.2.2.2.2.2.2.1; omega) hF3
                                  | exact no _ (fun hm => by have m := hm.2.2.2.2.2.2.2.1; unfold okT at m; rw [if_neg h67] at m; exact h71 m) hF3
                                  | exact absurd h76 h67
                                  | exact absurd (Classical.not_not.1 h67) h76
                                  | exact no _ (fun hm => by have m := hm.2.2.2.2.2.2.2.1; unfold okT at m; rw [if_pos h76] at m; exact m.1 h80) hF3
                                  | exact no _ (fun hm => by have m := hm.2.2.2.2.2.2.2.1; unfold okT at m; rw [if_pos h76] at m; have := m.2.1; omega) hF3
                                  | exact no _ (fun hm => by have m := hm.2.2.2.2.2.2.2.1; unfold okT at m; rw [if_pos h76] at m; exact m.2.2 h64) hF3
                                  | refine yes _ ?_ (hF3.trans hf6)
                                    have k1 : p.2.kind = 2 ∨ p.2.data = [] := by
                                      first
                                        | exact .inl (Classical.not_not.1 h49)
                                        | exact .inr (List.length_eq_zero_iff.1 (by omega))
                                    have k2 : okT p.2 := by
                                      unfold okT
                                      first
                                        | (rw [if_neg h67]; exact Classical.not_not.1 h71)
                                        | (rw [if_pos h76]; exact ⟨h80, by omega, h64⟩)
                                    exact ⟨fun hm => hm.2.2.2.2.2.2.2.2, fun hx => ⟨by omega, by simpa using h15, by omega, by omega, by omega, k1, by omega, k2, hx⟩⟩
                          ·
                            refine Sl.calm (Cm.move rfl) rfl ?_
                            refine Sl.skip rfl rfl rfl rfl ?_
                            refine Sl.skip rfl rfl rfl rfl ?_
                            refine Sl.skip rfl rfl rfl rfl ?_
                            refine Sl.calm (Cm.pick_f rfl rfl) rfl ?_
                            refine Sl.calm (Cm.move rfl) rfl ?_
                            refine Sl.want rfl rfl (Cm.field fld34_2 rfl) rfl ?_
                            refine Sl.want rfl rfl (Cm.ld sca3 rfl (cellF hg4 rfl)) rfl ?_
                            refine Sl.forkWant rfl rfl (Cm.eql rfl rfl) rfl (fun h76 => ?_) (fun h76 => ?_)
                            ·
                              refine Sl.want rfl rfl (Cm.move rfl) rfl ?_
                              refine Sl.want rfl rfl (Cm.field fld34_5 rfl) rfl ?_
                              refine Sl.want rfl rfl (Cm.ld sca9 rfl (cellF hg4 rfl)) rfl ?_
                              refine Sl.forkWant rfl rfl (Cm.eqlBs rfl rfl) rfl (fun h80 => ?_) (fun h80 => ?_)
                              ·
                                refine Sl.want rfl rfl (Cm.move rfl) rfl ?_
                                refine Sl.skip rfl rfl rfl rfl ?_
                                refine Sl.skip rfl rfl rfl rfl ?_
                                refine Sl.skip rfl rfl rfl rfl ?_
                                refine Sl.skip rfl rfl rfl rfl ?_
                                refine Sl.want rfl rfl (Cm.pick_t rfl rfl) rfl ?_
                                refine Sl.want rfl rfl (Cm.move rfl) rfl ?_
                                refine Sl.skip rfl rfl rfl rfl ?_
                                refine Sl.want rfl rfl (Cm.pick_t rfl rfl) rfl ?_
                                refine Sl.want rfl rfl (Cm.pick_t rfl rfl) rfl ?_
                                refine Sl.calm (Cm.pick_f rfl rfl) rfl ?_
                                refine Sl.nil ?_
                                refine At.weak [(0, _), (1, _), (2, _), (3, _), (4, _), (16, _), (46, _), (61, _), (91, _)] ⟨rfl, rfl, rfl, rfl, rfl, rfl, rfl, rfl, rfl, trivial⟩ ?_
                                refine At.go ?_
                                refine Sc.cond_t rfl ?_
                                refine Sc.seq ?_
                                refine Sc.region ?_
                                refine Sl.calm (Cm.assign rfl) rfl ?_
                                refine Sl.nil ?_
                                refine At.go ?_
                                refine Sc.ret ?_
                                refine At.then_ret ?_
                                refine At.ret1 rfl rfl ?_
                                first
                                  | exact no _ (fun hm => by have := hm.1; omega) hf1
                                  | exact no _ (fun hm => by rw [hm.2.1] at h15; cases h15) hf1
                                  | exact no _ (fun hm => by have h3 := hm.2.2.1; have h4 := hm.2.2.2.1; have h5 := hm.2.2.2.2.1; omega) hF3
                                  | exact no _ (fun hm => hm.2.2.2.2.2.1.elim (fun e => h49 e) (fun e => by have := congrArg List.length e; have e0 : ([] : List UInt8).length = 0 := rfl; omega)) hF3
                                  | exact no _ (fun hm => by have := hm.2.2.2.2.2.2.1; omega) hF3
                                  | exact no _ (fun hm => by have m := hm.2.2.2.2.2.2.2.1; unfold okT at m; rw [if_neg h67] at m; exact h71 m) hF3
                                  | exact absurd h76 h67
                                  | exact absurd (Classical.not_not.1 h67) h76
                                  | exact no _ (fun hm => by have m := hm.2.2.2.2.2.2.2.1; unfold okT at m; rw [if_pos h76] at m; exact m.1 h80) hF3
                                  | exact no _ (fun hm => by have m := hm.2.2.2.2.2.2.2.1; unfold okT at m; rw [if_pos h76] at m; have := m.2.1; omega) hF3
                                  | exact no _ (fun hm => by have m := hm.2.2.2.2.2.2.2.1; unfold okT at m; rw [if_pos h76] at m; exact m.2.2 h64) hF3
                                  | refine yes _ ?_ (hF3.trans hf6)
                                    have k1 : p.2.kind = 2 ∨ p.2.data = [] := by
                                      first
                                        | exact .inl (Classical.not_not.1 h49)
                                        | exact .inr (List.length_eq_zero_iff.1 (by omega))
                                    have k2 : okT p.2 := by
                                      unfold okT
                                      first
                                        | (rw [if_neg h67]; exact Classical.not_not.1 h71)
                                        | (rw [if_pos h76]; exact ⟨h80, by omega, h64⟩)
                                    exact ⟨fun hm => hm.2.2.2.2.2.2.2.2, fun hx => ⟨by omega, by simpa using h15, by omega, by omega, by omega, k1, by omega, k2, hx⟩⟩
                              ·
                                refine Sl.want rfl rfl (Cm.move rfl) rfl ?_
                                refine Sl.want rfl rfl (Cm.field fld34_5 rfl) rfl ?_
                                refine Sl.want rfl rfl (Cm.ld sca9 rfl (cellF hg4 rfl)) rfl ?_
                                refine Sl.want rfl rfl (Cm.lenBs ty9 rfl) rfl ?_
                                refine Sl.forkWant rfl rfl (Cm.gtr rfl rfl) rfl (fun h85 => ?_) (fun h85 => ?_)
                                ·
                                  refine Sl.want rfl rfl (Cm.pick_f rfl rfl) rfl ?_
                                  refine Sl.want rfl rfl (Cm.move rfl) rfl ?_
                                  refine Sl.skip rfl rfl rfl rfl ?_
                                  refine Sl.want rfl rfl (Cm.pick_t rfl rfl) rfl ?_
                                  refine Sl.want rfl rfl (Cm.pick_t rfl rfl) rfl ?_
                                  refine Sl.calm (Cm.pick_f rfl rfl) rfl ?_
                                  refine Sl.nil ?_
                                  refine At.weak [(0, _), (1, _), (2, _), (3, _), (4, _), (16, _), (46, _), (61, _), (91, _)] ⟨rfl, rfl, rfl, rfl, rfl, rfl, rfl, rfl, rfl, trivial⟩ ?_
                                  refine At.go ?_
                                  refine Sc.cond_t rfl ?_
                                  refine Sc.seq ?_
                                  refine Sc.region ?_
                                  refine Sl.calm (Cm.assign rfl) rfl ?_
                                  refine Sl.nil ?_
                                  refine At.go ?_
                                  refine Sc.ret ?_
                                  refine At.then_ret ?_
                                  refine At.ret1 rfl rfl ?_
                                  first
                                    | exact no _ (fun hm => by have := hm.1; omega) hf1
                                    | exact no _ (fun hm => by rw [hm.2.1] at h15; cases h15) hf1
                                    | exact no _ (fun hm => by have h3 := hm.2.2.1; have h4 := hm.2.2.2.1; have h5 := hm.2.2.2.2.1; omega) hF3
                                    | exact no _ (fun hm => hm.2.2.2.2.2.1.elim (fun e => h49 e) (fun e => by have := congrArg List.length e; have e0 : ([] : List UInt8).length = 0 := rfl; omega)) hF3
                                    | exact no _ (fun hm => by have := hm.2.2.2.2.2.2.1; omega) hF3
                                    | exact no _ (fun hm => by have m := hm.2.2.2.2.2.2.2.1; unfold okT at m; rw [if_neg h67] at m; exact h71 m) hF3
                                    | exact absurd h76 h67
                                    | exact absurd (Classical.not_not.1 h67) h76
                                    | exact no _ (fun hm => by have m := hm.2.2.2.2.2.2.2.1; unfold okT at m; rw [if_pos h76] at m; exact m.1 h80) hF3
                                    | exact no _ (fun hm => by have m := hm.2.2.2.2.2.2.2.1; unfold okT at m; rw [if_pos h76] at m; have := m.2.1; omega) hF3
                                    | exact no _ (fun hm => by have m := hm.2.2.2.2.2.2.2.1; unfold okT at m; rw [if_pos h76] at m; exact m.2.2 h64) hF3
                                    | refine yes _ ?_ (hF3.trans hf6)
                                      have k1 : p.2.kind = 2 ∨ p.2.data = [] := by
                                        first
                                          | exact .inl (Classical.not_not.1 h49)
                                          | exact .inr (List.length_eq_zero_iff.1 (by omega))
                                      have k2 : okT p.2 := by
                                        unfold okT
                                        first
                                          | (rw [if_neg h67]; exact Classical.not_not.1 h71)
                                          | (rw [if_pos h76]; exact ⟨h80, by omega, h64⟩)
                                      exact ⟨fun hm => hm.2.2.2.2.2.2.2.2, fun hx => ⟨by omega, by simpa using h15, by omega, by omega, by omega, k1, by omega, k2, hx⟩⟩
                                ·
                                  refine Sl.want rfl rfl (Cm.pick_f rfl rfl) rfl ?_
                                  refine Sl.want rfl rfl (Cm.move rfl) rfl ?_
                                  refine Sl.want rfl rfl (Cm.move rfl) rfl ?_
                                  refine Sl.want rfl rfl (Cm.pick_f rfl rfl) rfl ?_
                                  refine Sl.want rfl rfl (Cm.pick_t rfl rfl) rfl ?_
                                  refine Sl.calm (Cm.pick_f rfl rfl) rfl ?_
                                  refine Sl.nil ?_
                                  refine At.weak [(0, _), (1, _), (2, _), (3, _), (4, _), (16, _), (46, _), (61, _), (91, _)] ⟨rfl, rfl, rfl, rfl, rfl, rfl, rfl, rfl, rfl, trivial⟩ ?_
                                  refine At.go ?_
                                  refine Sc.cond_f rfl ?_
                                  refine Sc.skip ?_
                                  refine At.go ?_
                                  refine Sc.seq ?_
                                  refine Sc.region ?_
                                  refine Sl.calm (Cm.field fld34_6 rfl) rfl ?_
                                  refine Sl.calm (Cm.ld sca32 rfl (cellF hg4 rfl)) rfl ?_
                                  refine Sl.call fn62 rfl ((by show Calls _ _ [Value.slice p.1.xs.a p.1.xs.n p.1.xs.c].toArray _ _; rw [hn3.2.2.1]; exact rmayX_ok _ _ _ w5 (hn3.2.2.xav hsm.2.2))) rfl ?_
                                  rintro _ w6 ⟨rfl, hf6⟩
                                  refine Sl.calm (Cm.assign rfl) rfl ?_
                                  refine Sl.nil ?_
                                  refine At.weak [(0, _), (1, _), (2, _), (3, _), (4, _), (16, _), (46, _), (61, _), (91, _)] ⟨rfl, rfl, rfl, rfl, rfl, rfl, rfl, rfl, rfl, trivial⟩ ?_
                                  refine At.go ?_
                                  refine Sc.ret ?_
                                  refine At.ret1 rfl rfl ?_
                                  first
                                    | exact no _ (fun hm => by have := hm.1; omega) hf1
                                    | exact no _ (fun hm => by rw [hm.2.1] at h15; cases h15) hf1
                                    | exact no _ (fun hm => by have h3 := hm.2.2.1; have h4 := hm.2.2.2.1; have h5 := hm.2.2.2.2.1; omega) hF3
                                    | exact no _ (fun hm => hm.2.2.2.2.2.1.elim (fun e => h49 e) (fun e => by have := congrArg List.length e; have e0 : ([] : List UInt8).length = 0 := rfl; omega)) hF3
                                    | exact no _ (fun hm => by have := hm.2.2.2.2.2.2.1; omega) hF3
                                    | exact no _ (fun hm => by have m := hm.2.2.2.2.2.2.2.1; unfold okT at m; rw [if_neg h67] at m; exact h71 m) hF3
                                    | exact absurd h76 h67
                                    | exact absurd (Classical.not_not.1 h67) h76
                                    | exact no _ (fun hm => by have m := hm.2.2.2.2.2.2.2.1; unfold okT at m; rw [if_pos h76] at m; exact m.1 h80) hF3
                                    | exact no _ (fun hm => by have m := hm.2.2.2.2.2.2.2.1; unfold okT at m; rw [if_pos h76] at m; have := m.2.1; omega) hF3
                                    | exact no _ (fun hm => by have m := hm.2.2.2.2.2.2.2.1; unfold okT at m; rw [if_pos h76] at m; exact m.2.2 h64) hF3
                                    | refine yes _ ?_ (hF3.trans hf6)
                                      have k1 : p.2.kind = 2 ∨ p.2.data = [] := by
                                        first
                                          | exact .inl (Classical.not_not.1 h49)
                                          | exact .inr (List.length_eq_zero_iff.1 (by omega))
                                      have k2 : okT p.2 := by
                                        unfold okT
                                        first
                                          | (rw [if_neg h67]; exact Classical.not_not.1 h71)
                                          | (rw [if_pos h76]; exact ⟨h80, by omega, h64⟩)
                                      exact ⟨fun hm => hm.2.2.2.2.2.2.2.2, fun hx => ⟨by omega, by simpa using h15, by omega, by omega, by omega, k1, by omega, k2, hx⟩⟩
                            ·
                              refine Sl.want rfl rfl (Cm.move rfl) rfl ?_
                              refine Sl.skip rfl rfl rfl rfl ?_
                              refine Sl.skip rfl rfl rfl rfl ?_
                              refine Sl.skip rfl rfl rfl rfl ?_
                              refine Sl.skip rfl rfl rfl rfl ?_
                              refine Sl.skip rfl rfl rfl rfl ?_
                              refine Sl.skip rfl rfl rfl rfl ?_
                              refine Sl.skip rfl rfl rfl rfl ?_
                              refine Sl.skip rfl rfl rfl rfl ?_
                              refine Sl.skip rfl rfl rfl rfl ?_
                              refine Sl.skip rfl rfl rfl rfl ?_
                              refine Sl.skip rfl rfl rfl rfl ?_
                              refine Sl.skip rfl rfl rfl rfl ?_
                              refine Sl.want rfl rfl (Cm.pick_f rfl rfl) rfl ?_
                              refine Sl.calm (Cm.pick_f rfl rfl) rfl ?_
                              refine Sl.nil ?_
                              refine At.weak [(0, _), (1, _), (2, _), (3, _), (4, _), (16, _), (46, _), (61, _), (91, _)] ⟨rfl, rfl, rfl, rfl, rfl, rfl, rfl, rfl, rfl, trivial⟩ ?_
                              refine At.go ?_
                              refine Sc.cond_f rfl ?_
                              refine Sc.skip ?_
                              refine At.go ?_
                              refine Sc.seq ?_
                              refine Sc.region ?_
                              refine Sl.calm (Cm.field fld34_6 rfl) rfl ?_
                              refine Sl.calm (Cm.ld sca32 rfl (cellF hg4 rfl)) rfl ?_
                              refine Sl.call fn62 rfl ((by show Calls _ _ [Value.slice p.1.xs.a p.1.xs.n p.1.xs.c].toArray _ _; rw [hn3.2.2.1]; exact rmayX_ok _ _ _ w5 (hn3.2.2.xav hsm.2.2))) rfl ?_
                              rintro _ w6 ⟨rfl, hf6⟩
                              refine Sl.calm (Cm.assign rfl) rfl ?_
                              refine Sl.nil ?_
                              refine At.weak [(0, _), (1, _), (2, _), (3, _), (4, _), (16, _), (46, _), (61, _), (91, _)] ⟨rfl, rfl, rfl, rfl, rfl, rfl, rfl, rfl, rfl, trivial⟩ ?_
                              refine At.go ?_
                              refine Sc.ret ?_
                              refine At.ret1 rfl rfl ?_
                              first
                                | exact no _ (fun hm => by have := hm.1; omega) hf1
                                | exact no _ (fun hm => by rw [hm.2.1] at h15; cases h15) hf1
                                | exact no _ (fun hm => by have h3 := hm.2.2.1; have h4 := hm.2.2.2.1; have h5 := hm.2.2.2.2.1; omega) hF3
                                | exact no _ (fun hm => hm.2.2.2.2.2.1.elim (fun e => h49 e) (fun e => by have := congrArg List.length e; have e0 : ([] : List UInt8).length = 0 := rfl; omega)) hF3
                                | exact no _ (fun hm => by have := hm.2.2.2.2.2.2.1; omega) hF3
                                | exact no _ (fun hm => by have m := hm.2.2.2.2.2.2.2.1; unfold okT at m; rw [if_neg h67] at m; exact h71 m) hF3
                                | exact absurd h76 h67
                                | exact absurd (Classical.not_not.1 h67) h76
                                | exact no _ (fun hm => by have m := hm.2.2.2.2.2.2.2.1; unfold okT at m; rw [if_pos h76] at m; exact m.1 h80) hF3
                                | exact no _ (fun hm => by have m := hm.2.2.2.2.2.2.2.1; unfold okT at m; rw [if_pos h76] at m; have := m.2.1; omega) hF3
                                | exact no _ (fun hm => by have m := hm.2.2.2.2.2.2.2.1; unfold okT at m; rw [if_pos h76] at m; exact m.2.2 h64) hF3
                                | refine yes _ ?_ (hF3.trans hf6)
                                  have k1 : p.2.kind = 2 ∨ p.2.data = [] := by
                                    first
                                      | exact .inl (Classical.not_not.1 h49)
                                      | exact .inr (List.length_eq_zero_iff.1 (by omega))
                                  have k2 : okT p.2 := by
                                    unfold okT
                                    first
                                      | (rw [if_neg h67]; exact Classical.not_not.1 h71)
                                      | (rw [if_pos h76]; exact ⟨h80, by omega, h64⟩)
                                  exact ⟨fun hm => hm.2.2.2.2.2.2.2.2, fun hx => ⟨by omega, by simpa using h15, by omega, by omega, by omega, k1, by omega, k2, hx⟩⟩
end Go.Proofs.Ytpnfjfbfgaiolaa
