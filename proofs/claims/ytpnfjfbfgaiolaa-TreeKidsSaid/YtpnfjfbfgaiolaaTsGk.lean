/- tree: Find, Below, the comparison of Kids; Links, the program's and the reference's. No condition beyond the bounds that each states. -/
import Derived.Test.YtpnfjfbfgaiolaaKI
namespace Go.Proofs.Ytpnfjfbfgaiolaa
open Go Go.RowKit Go.Maps
set_option linter.unusedVariables false

set_option maxHeartbeats 1000000 in
theorem equalS_ok (ao bo : Option Addr) (ac bc : Nat) (a b : List (List UInt8)) (W : World) (ha : Vw strE W.heap ao ac a) (hb : Vw strE W.heap bo bc b) :
    Calls Try.prog 65 [.slice ao a.length ac, .slice bo b.length bc].toArray W (Ret fun v w' => v = .bool (decide (a = b)) ∧ Foot nob W w') := by
  have h63 := ha.len63
  refine calls_of_sc 26 [(0, _), (1, _)] Try.func65 rfl rfl rfl (enter_slots ⟨rfl, rfl, trivial⟩) ?_
  refine Sc.seq ?_
  refine Sc.region ?_
  refine Sl.calm (Cm.assign rfl) rfl ?_
  refine Sl.nil ?_
  refine At.go ?_
  refine Sc.seq ?_
  refine Sc.seq ?_
  refine Sc.region ?_
  refine Sl.calm (Cm.move rfl) rfl ?_
  refine Sl.calm (Cm.len sl28 rfl) rfl ?_
  refine Sl.calm (Cm.move rfl) rfl ?_
  refine Sl.calm (Cm.len sl28 rfl) rfl ?_
  refine Sl.fork (Cm.neq rfl rfl) rfl (fun h10 => ?_) (fun h10 => ?_)
  ·
    refine Sl.nil ?_
    refine At.weak [(0, _), (1, _), (4, _), (10, _)] ⟨rfl, rfl, rfl, rfl, trivial⟩ ?_
    refine At.go ?_
    refine Sc.cond_t rfl ?_
    refine Sc.seq ?_
    refine Sc.region ?_
    refine Sl.calm (Cm.assign rfl) rfl ?_
    refine Sl.nil ?_
    refine At.go ?_
    refine Sc.ret ?_
    refine At.then_ret ?_
    refine At.ret1 rfl rfl ?_
    exact ⟨_, rfl, by rw [decide_eq_false (fun e => by subst e; exact h10 rfl)], Foot.refl _ _⟩
  ·
    refine Sl.nil ?_
    refine At.weak [(0, _), (1, _), (4, _), (10, _)] ⟨rfl, rfl, rfl, rfl, trivial⟩ ?_
    refine At.go ?_
    refine Sc.cond_f rfl ?_
    refine Sc.skip ?_
    refine At.go ?_
    refine Sc.seq ?_
    refine Sc.seq ?_
    refine Sc.region ?_
    refine Sl.calm (Cm.move rfl) rfl ?_
    refine Sl.calm (Cm.len sl28 rfl) rfl ?_
    refine Sl.calm (Cm.move rfl) rfl ?_
    refine Sl.nil ?_
    refine At.weak [(0, _), (1, _), (4, _), (10, _), (12, _), (13, _)] ⟨rfl, rfl, rfl, rfl, rfl, rfl, trivial⟩ ?_
    refine At.go ?_
    refine Sc.block ?_
    have hlen : a.length = b.length := by omega
    refine Sc.loop (β := Nat) (fun k => [(0, .slice ao a.length ac), (1, .slice bo b.length bc), (12, .int .i64 a.length), (13, .int .i64 k)]) (fun k w => k ≤ a.length ∧ (∀ i, i < k → i < a.length → a.getD i [] = b.getD i []) ∧ Foot nob W w) (fun k => a.length - k) 0 ⟨rfl, rfl, rfl, rfl, trivial⟩ ⟨Nat.zero_le _, fun i hi => by omega, Foot.refl _ _⟩ ?_
    rintro k w2 ⟨hk, hsm, hF2⟩
    refine Sc.seq ?_
    refine Sc.region ?_
    refine Sl.fork (Cm.lss rfl rfl) rfl (fun h14 => ?_) (fun h14 => ?_)
    ·
      have hka : k < a.length := by omega
      have hkb : k < b.length := by omega
      have ha2 := ha.grow hF2
      have hb2 := hb.grow hF2
      refine Sl.nil ?_
      refine At.go ?_
      refine Sc.seq ?_
      refine Sc.cond_t rfl ?_
      refine Sc.skip ?_
      refine At.go ?_
      refine Sc.seq ?_
      refine Sc.block ?_
      refine Sc.seq ?_
      refine Sc.region ?_
      refine Sl.calm (Cm.move rfl) rfl ?_
      refine Sl.calm (Cm.assign rfl) rfl ?_
      refine Sl.nil ?_
      refine At.weak [(0, _), (1, _), (5, _), (12, _), (13, _), (14, _)] ⟨rfl, rfl, rfl, rfl, rfl, rfl, trivial⟩ ?_
      refine At.go ?_
      refine Sc.seq ?_
      refine Sc.quiet 9 [0, 1, 2, 3, 4, 5, 6, 7, 8] mixed (by kernel_rfl) ?_
      refine Sx.calm rfl rfl (Cm.move rfl) rfl ?_
      refine Sx.calm rfl rfl (Cm.move rfl) rfl ?_
      refine Sx.calm rfl rfl (Cm.indexAddr1 sl28 rfl rfl ha2.non (by omega)) rfl ?_
      refine Sx.calm rfl rfl (Cm.ld sca9 rfl (ha2.get k (a.getD k []) (by simp [List.getD, hka]))) rfl ?_
      refine Sx.calm rfl rfl (Cm.move rfl) rfl ?_
      refine Sx.calm rfl rfl (Cm.move rfl) rfl ?_
      refine Sx.calm rfl rfl (Cm.indexAddr1 sl28 rfl rfl hb2.non (by omega)) rfl ?_
      refine Sx.calm rfl rfl (Cm.ld sca9 rfl (hb2.get k (b.getD k []) (by simp [List.getD, hkb]))) rfl ?_
      refine Sx.fork rfl rfl (Cm.neqBs rfl rfl) rfl (fun h24 => ?_) (fun h24 => ?_)
      ·
        refine Sx.nil ?_
        refine At.weak [(0, _), (1, _), (5, _), (12, _), (13, _), (14, _), (24, _)] ⟨rfl, rfl, rfl, rfl, rfl, rfl, rfl, trivial⟩ ?_
        refine At.go ?_
        refine Sc.cond_t rfl ?_
        refine Sc.seq ?_
        refine Sc.region ?_
        refine Sl.calm (Cm.assign rfl) rfl ?_
        refine Sl.nil ?_
        refine At.go ?_
        refine Sc.ret ?_
        refine At.block_ret ?_
        refine At.then_ret ?_
        refine At.then_ret ?_
        refine At.block_ret ?_
        refine At.then_ret ?_
        refine At.ret1 rfl rfl ?_
        exact ⟨_, rfl, by rw [decide_eq_false (fun e => h24 (by rw [e]))], hF2.draws 1⟩
      ·
        refine Sx.nil ?_
        refine At.weak [(0, _), (1, _), (5, _), (12, _), (13, _), (14, _), (24, _)] ⟨rfl, rfl, rfl, rfl, rfl, rfl, rfl, trivial⟩ ?_
        refine At.go ?_
        refine Sc.cond_f rfl ?_
        refine Sc.skip ?_
        refine At.block_normal ?_
        refine At.go ?_
        refine Sc.region ?_
        refine Sl.calm (Cm.add64 rfl rfl (by omega)) rfl ?_
        refine Sl.calm (Cm.move rfl) rfl ?_
        refine Sl.nil ?_
        refine At.again (k + 1) ⟨rfl, rfl, rfl, rfl, trivial⟩ ⟨by omega, fun i hi hia => ?_, hF2.draws 1⟩ (by show a.length - (k + 1) < a.length - k; omega)
        by_cases hik : i = k
        · subst hik; exact Classical.not_not.1 h24
        · exact hsm i (by omega) hia
    ·
      refine Sl.nil ?_
      refine At.go ?_
      refine Sc.seq ?_
      refine Sc.cond_f rfl ?_
      refine Sc.exit ?_
      refine At.then_exit ?_
      refine At.then_exit ?_
      refine At.block_hit ?_
      refine At.go ?_
      refine Sc.seq ?_
      refine Sc.region ?_
      refine Sl.calm (Cm.assign rfl) rfl ?_
      refine Sl.nil ?_
      refine At.go ?_
      refine Sc.ret ?_
      refine At.ret1 rfl rfl ?_
      exact ⟨_, rfl, by rw [decide_eq_true (list_cmp (by omega) (k := k) (by omega) [] hsm)], hF2⟩
theorem nsame_ok (ao bo : Option Addr) (ac bc : Nat) (a b : List (List UInt8)) (W : World) (ha : Vw strE W.heap ao ac a) (hb : Vw strE W.heap bo bc b) :
    Calls Try.prog 45 [.slice ao a.length ac, .slice bo b.length bc].toArray W (Ret fun v w' => v = .bool (decide (a = b)) ∧ Foot nob W w') := by
  refine calls_of_sc 8 [(0, _), (1, _)] Try.func45 rfl rfl rfl (enter_slots ⟨rfl, rfl, trivial⟩) ?_
  refine Sc.seq ?_
  refine Sc.region ?_
  refine Sl.calm (Cm.assign rfl) rfl ?_
  refine Sl.nil ?_
  refine At.go ?_
  refine Sc.seq ?_
  refine Sc.region ?_
  refine Sl.calm (Cm.move rfl) rfl ?_
  refine Sl.calm (Cm.move rfl) rfl ?_
  refine Sl.call fn65 rfl (equalS_ok ao bo ac bc a b W ha hb) rfl ?_
  rintro _ w1 ⟨rfl, hf1⟩
  refine Sl.calm (Cm.assign rfl) rfl ?_
  refine Sl.nil ?_
  refine At.weak [(0, _), (1, _), (4, _)] ⟨rfl, rfl, rfl, trivial⟩ ?_
  refine At.go ?_
  refine Sc.ret ?_
  refine At.ret1 rfl rfl ?_
  exact ⟨_, rfl, rfl, hf1⟩
def belowP (l s : List (List UInt8)) : Prop := s.length < l.length ∧ l.take s.length = s
instance (l s : List (List UInt8)) : Decidable (belowP l s) := by unfold belowP; exact inferInstance
theorem below_ok (ao bo : Option Addr) (ac bc : Nat) (a b : List (List UInt8)) (W : World) (ha : Vw strE W.heap ao ac a) (hb : Vw strE W.heap bo bc b) :
    Calls Try.prog 38 [.slice ao a.length ac, .slice bo b.length bc].toArray W (Ret fun v w' => v = .bool (decide (belowP a b)) ∧ Foot nob W w') := by
  refine calls_of_sc 18 [(0, _), (1, _)] Try.func38 rfl rfl rfl (enter_slots ⟨rfl, rfl, trivial⟩) ?_
  refine Sc.seq ?_
  refine Sc.region ?_
  refine Sl.calm (Cm.assign rfl) rfl ?_
  refine Sl.nil ?_
  refine At.go ?_
  refine Sc.seq ?_
  refine Sc.region ?_
  refine Sl.calm (Cm.move rfl) rfl ?_
  refine Sl.calm (Cm.len sl28 rfl) rfl ?_
  refine Sl.calm (Cm.move rfl) rfl ?_
  refine Sl.calm (Cm.len sl28 rfl) rfl ?_
  refine Sl.fork (Cm.gtr rfl rfl) rfl (fun h9 => ?_) (fun h9 => ?_)
  ·
    refine Sl.calm (Cm.move rfl) rfl ?_
    refine Sl.want rfl rfl (Cm.move rfl) rfl ?_
    refine Sl.want rfl rfl (Cm.move rfl) rfl ?_
    refine Sl.want rfl rfl (Cm.len sl28 rfl) rfl ?_
    refine Sl.want rfl rfl (Cm.ofEq (u := .slice ao (a.take b.length).length ac) (Cm.sliceH sl28 rfl rfl (by have := ha.le; omega)) (by rw [cutAo_zero, List.length_take, Nat.min_eq_left (by omega)]; rfl)) rfl ?_
    refine Sl.want rfl rfl (Cm.move rfl) rfl ?_
    refine Sl.callWant rfl rfl fn45 rfl (nsame_ok ao bo ac bc (a.take b.length) b W (ha.take _) hb) rfl ?_
    rintro _ w1 ⟨rfl, hf1⟩
    refine Sl.calm (Cm.pick_t rfl rfl) rfl ?_
    refine Sl.calm (Cm.assign rfl) rfl ?_
    refine Sl.nil ?_
    refine At.weak [(0, _), (1, _), (4, _)] ⟨rfl, rfl, rfl, trivial⟩ ?_
    refine At.go ?_
    refine Sc.ret ?_
    refine At.ret1 rfl rfl ?_
    first
      | exact ⟨_, rfl, congrArg _ (decide_eq_decide.2 ⟨fun e => ⟨by omega, e⟩, fun e => e.2⟩), hf1⟩
      | exact ⟨_, rfl, by rw [decide_eq_false (show ¬ belowP a b from fun e => by have := e.1; omega)], Foot.refl _ _⟩
  ·
    refine Sl.calm (Cm.move rfl) rfl ?_
    refine Sl.skip rfl rfl rfl rfl ?_
    refine Sl.skip rfl rfl rfl rfl ?_
    refine Sl.skip rfl rfl rfl rfl ?_
    refine Sl.skip rfl rfl rfl rfl ?_
    refine Sl.skip rfl rfl rfl rfl ?_
    refine Sl.skip rfl rfl rfl rfl ?_
    refine Sl.calm (Cm.pick_f rfl rfl) rfl ?_
    refine Sl.calm (Cm.assign rfl) rfl ?_
    refine Sl.nil ?_
    refine At.weak [(0, _), (1, _), (4, _)] ⟨rfl, rfl, rfl, trivial⟩ ?_
    refine At.go ?_
    refine Sc.ret ?_
    refine At.ret1 rfl rfl ?_
    first
      | exact ⟨_, rfl, congrArg _ (decide_eq_decide.2 ⟨fun e => ⟨by omega, e⟩, fun e => e.2⟩), hf1⟩
      | exact ⟨_, rfl, by rw [decide_eq_false (show ¬ belowP a b from fun e => by have := e.1; omega)], Foot.refl _ _⟩
variable {D : Nat → Prop}
theorem find1_ok (p : NdH × Nd) (g : Nat) (h : Hd) (s : List (List UInt8)) (W : World) {T : TypeId} {fr : Nat × Nat} (hp : NdV D W.heap p) (hg : W.heap[g]? = some (.cells [hd h].toArray T fr)) (hs : NmV D W.heap h s) :
    Calls Try.prog 44 [.agg (encN p).toArray, .pointer (some ⟨g, 0, none⟩)].toArray W (Ret fun v w' => v = .bool (decide (p.2.names = s)) ∧ Foot nob W w') := by
  refine calls_of_sc 8 [(0, _), (1, _)] Try.func44 rfl rfl rfl (enter_slots ⟨rfl, rfl, trivial⟩) ?_
  refine Sc.seq ?_
  refine Sc.region ?_
  refine Sl.box rfl rfl ?_
  intro w1 hg1 hs1 hf1
  obtain ⟨q, hq⟩ : ∃ q, q = W.heap.size := ⟨_, rfl⟩
  rw [← hq] at hg1 hs1 ⊢
  replace hg1 : w1.heap[q]? = some (.cells (encN p).toArray 34 (0, 0)) := hg1
  have hgg := hf1.obj hg id
  have hp1 := hp.grow hf1
  have hs2 := hs.keep hf1 (fun _ _ => id)
  refine Sl.calm (Cm.assign rfl) rfl ?_
  refine Sl.nil ?_
  refine At.go ?_
  refine Sc.seq ?_
  refine Sc.region ?_
  refine Sl.calm (Cm.field fld34_0 rfl) rfl ?_
  refine Sl.calm (Cm.ld sca28 rfl (cellF hg1 rfl)) rfl ?_
  refine Sl.calm (Cm.ofEq (u := .slice h.a s.length h.c) (Cm.ld sca28 rfl (cellF0 hgg rfl)) (by rw [← hs2.1]; rfl)) rfl ?_
  refine Sl.call fn45 rfl ((by show Calls _ _ [Value.slice p.1.names.a p.1.names.n p.1.names.c, _].toArray _ _; rw [hp1.1.1]; exact nsame_ok p.1.names.a h.a p.1.names.c h.c p.2.names s w1 hp1.1.2.1 hs2.2.1)) rfl ?_
  rintro _ w2 ⟨rfl, hf2⟩
  refine Sl.calm (Cm.assign rfl) rfl ?_
  refine Sl.nil ?_
  refine At.weak [(0, _), (1, _), (2, _), (3, _)] ⟨rfl, rfl, rfl, rfl, trivial⟩ ?_
  refine At.go ?_
  refine Sc.ret ?_
  refine At.ret1 rfl rfl ?_
  exact ⟨_, rfl, rfl, hf1.trans hf2⟩
theorem find_ok (lo : Option Addr) (lc : Nat) (ps : List (NdH × Nd)) (h : Hd) (s : List (List UInt8)) (W : World) (hv : NodesV D W.heap lo lc ps) (hs : NmV D W.heap h s) :
    Calls Try.prog 18 [.slice lo ps.length lc, hd h].toArray W (Ret fun v w' => v = .int .i64 (findP ps s) ∧ Foot nob W w') := by
  refine calls_of_sc 8 [(0, _), (1, _)] Try.func18 rfl rfl rfl (enter_slots ⟨rfl, rfl, trivial⟩) ?_
  refine Sc.seq ?_
  refine Sc.region ?_
  refine Sl.box rfl rfl ?_
  intro w1 hg1 hs1 hf1
  obtain ⟨g, hg⟩ : ∃ g, g = W.heap.size := ⟨_, rfl⟩
  rw [← hg] at hg1 hs1 ⊢
  replace hg1 : w1.heap[g]? = some (.cells [hd h].toArray 28 (0, 0)) := hg1
  refine Sl.calm (Cm.assign rfl) rfl ?_
  refine Sl.nil ?_
  refine At.go ?_
  refine Sc.seq ?_
  refine Sc.region ?_
  refine Sl.calm (Cm.move rfl) rfl ?_
  refine Sl.calm (Cm.makeFunc (vs := [.pointer (some ⟨g, 0, none⟩)]) rfl) rfl ?_
  refine Sl.call fn43 rfl (indexFunc_ok (R := fun p : NdH × Nd => p.2.names = s) 44 [.pointer (some ⟨g, 0, none⟩)] fn44 lo lc ps w1 (hv.grow hf1) (fun w p hp hf => find1_ok p g h s w ((hv.2 p hp).grow (hf1.trans hf)) (hf.obj hg1 id) (hs.keep (hf1.trans hf) (fun _ _ => id)))) rfl ?_
  rintro _ w2 ⟨rfl, hf2⟩
  refine Sl.calm (Cm.assign rfl) rfl ?_
  refine Sl.nil ?_
  refine At.weak [(0, _), (1, _), (3, _), (4, _)] ⟨rfl, rfl, rfl, rfl, trivial⟩ ?_
  refine At.go ?_
  refine Sc.ret ?_
  refine At.ret1 rfl rfl ?_
  exact ⟨_, rfl, rfl, hf1.trans hf2⟩
/-! Links -/
def cntI (ps : List (NdH × Nd)) (z : Int) : Int := (ps.countP (fun p => decide (p.2.ino = z)) : Nat)
theorem cnt_tk {ps : List (NdH × Nd)} {i : Nat} {p : NdH × Nd} (hp : ps[i]? = some p) (z : Int) : cntI (ps.take (i + 1)) z = cntI (ps.take i) z + if p.2.ino = z then 1 else 0 := by
  unfold cntI
  rw [tkL hp, List.countP_append, List.countP_singleton]
  by_cases h : p.2.ino = z
  · simp [h]
  · simp [h]
theorem cnt_le (ps : List (NdH × Nd)) (z : Int) : 0 ≤ cntI ps z ∧ cntI ps z ≤ ps.length := by
  unfold cntI
  have := List.countP_le_length (p := fun p : NdH × Nd => decide (p.2.ino = z)) (l := ps)
  omega
def lnkC (ps : List (NdH × Nd)) (i : Int) : Int := if 0 ≤ i ∧ i < ps.length then cntI ps (ps.getD i.toNat (ndh0, nd0)).2.ino else 0
theorem lnkC_in {ps : List (NdH × Nd)} {i : Int} {q : NdH × Nd} (h : 0 ≤ i ∧ i < ps.length) (hq : ps[i.toNat]? = some q) : lnkC ps i = cntI ps q.2.ino := by
  unfold lnkC; rw [if_pos h, List.getD, hq]; rfl
theorem lnkC_out {ps : List (NdH × Nd)} {i : Int} (h : ¬ (0 ≤ i ∧ i < ps.length)) : lnkC ps i = 0 := by unfold lnkC; rw [if_neg h]
set_option maxHeartbeats 1000000 in
theorem links_ok (lo : Option Addr) (lc : Nat) (ps : List (NdH × Nd)) (i : Int) (W : World) (hv : NodesV D W.heap lo lc ps) :
    Calls Try.prog 20 [.slice lo ps.length lc, .int .i64 i].toArray W (Ret fun v w' => v = .int .i64 (lnkC ps i) ∧ Foot nob W w') := by
  have h63 := hv.1.len63
  refine calls_of_sc 34 [(0, _), (1, _)] Try.func20 rfl rfl rfl (enter_slots ⟨rfl, rfl, trivial⟩) ?_
  refine Sc.seq ?_
  refine Sc.region ?_
  refine Sl.calm (Cm.assign rfl) rfl ?_
  refine Sl.nil ?_
  refine At.go ?_
  refine Sc.seq ?_
  refine Sc.seq ?_
  refine Sc.region ?_
  refine Sl.calm (Cm.move rfl) rfl ?_
  refine Sl.fork (Cm.lss rfl rfl) rfl (fun h9 => ?_) (fun h9 => ?_)
  ·
    refine Sl.calm (Cm.move rfl) rfl ?_
    refine Sl.skip rfl rfl rfl rfl ?_
    refine Sl.skip rfl rfl rfl rfl ?_
    refine Sl.skip rfl rfl rfl rfl ?_
    refine Sl.skip rfl rfl rfl rfl ?_
    refine Sl.calm (Cm.pick_t rfl rfl) rfl ?_
    refine Sl.nil ?_
    refine At.weak [(0, _), (1, _), (4, _), (15, _)] ⟨rfl, rfl, rfl, rfl, trivial⟩ ?_
    refine At.go ?_
    refine Sc.cond_t rfl ?_
    refine Sc.seq ?_
    refine Sc.region ?_
    refine Sl.calm (Cm.assign rfl) rfl ?_
    refine Sl.nil ?_
    refine At.go ?_
    refine Sc.ret ?_
    refine At.then_ret ?_
    refine At.ret1 rfl rfl ?_
    first
      | exact ⟨_, rfl, by rw [lnkC_out (by omega)], Foot.refl _ _⟩
      | exact ⟨_, rfl, by rw [lnkC_in hin hq, List.take_length], hF2⟩
  ·
    refine Sl.calm (Cm.move rfl) rfl ?_
    refine Sl.want rfl rfl (Cm.move rfl) rfl ?_
    refine Sl.want rfl rfl (Cm.move rfl) rfl ?_
    refine Sl.want rfl rfl (Cm.len sl22 rfl) rfl ?_
    refine Sl.forkWant rfl rfl (Cm.geq rfl rfl) rfl (fun h14 => ?_) (fun h14 => ?_)
    ·
      refine Sl.calm (Cm.pick_f rfl rfl) rfl ?_
      refine Sl.nil ?_
      refine At.weak [(0, _), (1, _), (4, _), (15, _)] ⟨rfl, rfl, rfl, rfl, trivial⟩ ?_
      refine At.go ?_
      refine Sc.cond_t rfl ?_
      refine Sc.seq ?_
      refine Sc.region ?_
      refine Sl.calm (Cm.assign rfl) rfl ?_
      refine Sl.nil ?_
      refine At.go ?_
      refine Sc.ret ?_
      refine At.then_ret ?_
      refine At.ret1 rfl rfl ?_
      first
        | exact ⟨_, rfl, by rw [lnkC_out (by omega)], Foot.refl _ _⟩
        | exact ⟨_, rfl, by rw [lnkC_in hin hq, List.take_length], hF2⟩
    ·
      have hin : 0 ≤ i ∧ i < ps.length := by omega
      obtain ⟨q, hq⟩ : ∃ q, ps[i.toNat]? = some q := ⟨_, List.getElem?_eq_getElem (by omega)⟩
      refine Sl.calm (Cm.pick_f rfl rfl) rfl ?_
      refine Sl.nil ?_
      refine At.weak [(0, _), (1, _), (4, _), (15, _)] ⟨rfl, rfl, rfl, rfl, trivial⟩ ?_
      refine At.go ?_
      refine Sc.cond_f rfl ?_
      refine Sc.skip ?_
      refine At.go ?_
      refine Sc.seq ?_
      refine Sc.region ?_
      refine Sl.calm (Cm.assign rfl) rfl ?_
      refine Sl.nil ?_
      refine At.go ?_
      refine Sc.seq ?_
      refine Sc.seq ?_
      refine Sc.region ?_
      refine Sl.calm (Cm.move rfl) rfl ?_
      refine Sl.calm (Cm.len sl22 rfl) rfl ?_
      refine Sl.calm (Cm.move rfl) rfl ?_
      refine Sl.nil ?_
      refine At.go ?_
      refine Sc.block ?_
      refine Sc.loop (β := Nat) (fun k => [(0, .slice lo ps.length lc), (1, .int .i64 i), (5, .int .i64 (cntI (ps.take k) q.2.ino)), (16, .slice lo ps.length lc), (17, .int .i64 ps.length), (18, .int .i64 k)]) (fun k w => k ≤ ps.length ∧ Foot nob W w) (fun k => ps.length - k) 0 ⟨rfl, rfl, rfl, rfl, rfl, rfl, trivial⟩ ⟨Nat.zero_le _, Foot.refl _ _⟩ ?_
      rintro k w2 ⟨hk, hF2⟩
      refine Sc.seq ?_
      refine Sc.region ?_
      refine Sl.fork (Cm.lss rfl rfl) rfl (fun h19 => ?_) (fun h19 => ?_)
      ·
        have hkl : k < ps.length := by omega
        obtain ⟨p, hp⟩ : ∃ p, ps[k]? = some p := ⟨_, List.getElem?_eq_getElem hkl⟩
        have hv2 := hv.grow hF2
        have hct := cnt_tk hp q.2.ino
        have hcl := cnt_le (ps.take k) q.2.ino
        have hctl : (ps.take k).length ≤ k := by rw [List.length_take]; omega
        refine Sl.nil ?_
        refine At.go ?_
        refine Sc.seq ?_
        refine Sc.cond_t rfl ?_
        refine Sc.skip ?_
        refine At.go ?_
        refine Sc.cut (β := Unit) (fun _u => [(0, .slice lo ps.length lc), (1, .int .i64 i), (5, .int .i64 (cntI (ps.take (k + 1)) q.2.ino)), (16, .slice lo ps.length lc), (17, .int .i64 ps.length), (18, .int .i64 k)]) (fun _u w => Foot nob W w) ?_ ?_
        ·
          refine Sc.block ?_
          refine Sc.seq ?_
          refine Sc.region ?_
          refine Sl.calm (Cm.indexAddr sl22 rfl rfl hv2.1.non (by omega)) rfl ?_
          refine Sl.calm (Cm.ldM (cs := encN p) agg34 rfl (fun j v hj => hv2.1.rowZ k rfl hp j v hj)) rfl ?_
          refine Sl.allocC zc34 rfl ?_
          intro w3 hg3 hs3 hf3
          obtain ⟨r, hr⟩ : ∃ r, r = w2.heap.size := ⟨_, rfl⟩
          rw [← hr] at hg3 ⊢
          refine Sl.storeAll (vs := encN p) agg34 rfl rfl (encN_cells p).2 hg3 rfl ?_
          intro w4 hg4 hs4 hf4
          have hF4 : Foot nob W w4 := hF2.trans (hf3.trans_to hf4 (fun k e => .inr (by have e : k = r := e; omega)))
          have hv4 := hv.grow hF4
          refine Sl.nil ?_
          refine At.weak [(0, _), (1, _), (5, _), (7, _), (16, _), (17, _), (18, _), (19, _)] ⟨rfl, rfl, rfl, rfl, rfl, rfl, rfl, rfl, trivial⟩ ?_
          refine At.go ?_
          refine Sc.seq ?_
          refine Sc.quiet 8 [0, 1, 2, 3, 4, 5, 6, 7] mixed (by kernel_rfl) ?_
          refine Sx.calm rfl rfl (Cm.field fld34_1 rfl) rfl ?_
          refine Sx.calm rfl rfl (Cm.ld sca3 rfl (cellF hg4 rfl)) rfl ?_
          refine Sx.calm rfl rfl (Cm.move rfl) rfl ?_
          refine Sx.calm rfl rfl (Cm.move rfl) rfl ?_
          refine Sx.calm rfl rfl (Cm.indexAddr sl22 rfl rfl hv4.1.non (by omega)) rfl ?_
          refine Sx.calm rfl rfl (Cm.field fld34_1 rfl) rfl ?_
          refine Sx.calm rfl rfl (Cm.ld sca3 rfl (hv4.1.rowZ i.toNat (by omega) hq 1 _ rfl)) rfl ?_
          refine Sx.fork rfl rfl (Cm.eql rfl rfl) rfl (fun h29 => ?_) (fun h29 => ?_)
          ·
            refine Sx.nil ?_
            refine At.weak [(0, _), (1, _), (5, _), (7, _), (16, _), (17, _), (18, _), (19, _), (29, _)] ⟨rfl, rfl, rfl, rfl, rfl, rfl, rfl, rfl, rfl, trivial⟩ ?_
            refine At.go ?_
            refine Sc.cond_t rfl ?_
            refine Sc.region ?_
            refine Sl.calm (Cm.move rfl) rfl ?_
            refine Sl.calm (Cm.add64 rfl rfl (by omega)) rfl ?_
            refine Sl.calm (Cm.assign rfl) rfl ?_
            refine Sl.nil ?_
            refine At.block_normal ?_
            first
              | exact At.cut () ⟨rfl, rfl, congrArg (fun z : Int => some (Value.int .i64 z)) (by rw [hct, if_pos h29]), rfl, rfl, rfl, trivial⟩ (hF4.draws 1)
              | exact At.cut () ⟨rfl, rfl, congrArg (fun z : Int => some (Value.int .i64 z)) (by rw [hct, if_neg h29, Int.add_zero]), rfl, rfl, rfl, trivial⟩ (hF4.draws 1)
          ·
            refine Sx.nil ?_
            refine At.weak [(0, _), (1, _), (5, _), (7, _), (16, _), (17, _), (18, _), (19, _), (29, _)] ⟨rfl, rfl, rfl, rfl, rfl, rfl, rfl, rfl, rfl, trivial⟩ ?_
            refine At.go ?_
            refine Sc.cond_f rfl ?_
            refine Sc.skip ?_
            refine At.block_normal ?_
            first
              | exact At.cut () ⟨rfl, rfl, congrArg (fun z : Int => some (Value.int .i64 z)) (by rw [hct, if_pos h29]), rfl, rfl, rfl, trivial⟩ (hF4.draws 1)
              | exact At.cut () ⟨rfl, rfl, congrArg (fun z : Int => some (Value.int .i64 z)) (by rw [hct, if_neg h29, Int.add_zero]), rfl, rfl, rfl, trivial⟩ (hF4.draws 1)
        ·
          rintro _ w5 hF5
          refine Sc.region ?_
          refine Sl.calm (Cm.add64 rfl rfl (by omega)) rfl ?_
          refine Sl.calm (Cm.move rfl) rfl ?_
          refine Sl.nil ?_
          exact At.again (k + 1) ⟨rfl, rfl, rfl, rfl, rfl, rfl, trivial⟩ ⟨by omega, hF5⟩ (by show ps.length - (k + 1) < ps.length - k; omega)
      ·
        have hke : k = ps.length := by omega
        subst hke
        refine Sl.nil ?_
        refine At.go ?_
        refine Sc.seq ?_
        refine Sc.cond_f rfl ?_
        refine Sc.exit ?_
        refine At.then_exit ?_
        refine At.then_exit ?_
        refine At.block_hit ?_
        refine At.go ?_
        refine Sc.seq ?_
        refine Sc.region ?_
        refine Sl.calm (Cm.move rfl) rfl ?_
        refine Sl.calm (Cm.assign rfl) rfl ?_
        refine Sl.nil ?_
        refine At.weak [(0, _), (1, _), (4, _), (5, _), (16, _), (17, _), (18, _), (19, _)] ⟨rfl, rfl, rfl, rfl, rfl, rfl, rfl, rfl, trivial⟩ ?_
        refine At.go ?_
        refine Sc.ret ?_
        refine At.ret1 rfl rfl ?_
        first
          | exact ⟨_, rfl, by rw [lnkC_out (by omega)], Foot.refl _ _⟩
          | exact ⟨_, rfl, by rw [lnkC_in hin hq, List.take_length], hF2⟩
set_option maxHeartbeats 1000000 in
theorem rlinks_ok (lo : Option Addr) (lc : Nat) (ps : List (NdH × Nd)) (i : Int) (W : World) (hv : NodesV D W.heap lo lc ps) :
    Calls Try.prog 21 [.slice lo ps.length lc, .int .i64 i].toArray W (Ret fun v w' => v = .int .i64 (lnkC ps i) ∧ Foot nob W w') := by
  have h63 := hv.1.len63
  obtain ⟨Z, hZ⟩ : ∃ Z, Z = (ps.getD i.toNat (ndh0, nd0)).2.ino := ⟨_, rfl⟩
  refine calls_of_sc 37 [(0, _), (1, _)] Try.func21 rfl rfl rfl (enter_slots ⟨rfl, rfl, trivial⟩) ?_
  refine Sc.seq ?_
  refine Sc.region ?_
  refine Sl.calm (Cm.assign rfl) rfl ?_
  refine Sl.nil ?_
  refine At.go ?_
  refine Sc.seq ?_
  refine Sc.region ?_
  refine Sl.calm (Cm.assign rfl) rfl ?_
  refine Sl.nil ?_
  refine At.go ?_
  refine Sc.seq ?_
  refine Sc.seq ?_
  refine Sc.region ?_
  refine Sl.calm (Cm.assign rfl) rfl ?_
  refine Sl.nil ?_
  refine At.go ?_
  refine Sc.block ?_
  refine Sc.loop (β := Nat) (fun k => [(0, .slice lo ps.length lc), (1, .int .i64 i), (5, .int .i64 (cntI (ps.take k) Z)), (6, .int .i64 k)]) (fun k w => k ≤ ps.length ∧ (0 < k → 0 ≤ i ∧ i < ps.length) ∧ Foot nob W w) (fun k => ps.length - k) 0 ⟨rfl, rfl, rfl, rfl, trivial⟩ ⟨Nat.zero_le _, fun h => by omega, Foot.refl _ _⟩ ?_
  rintro k w2 ⟨hk, hki, hF2⟩
  refine Sc.seq ?_
  refine Sc.seq ?_
  refine Sc.region ?_
  refine Sl.calm (Cm.move rfl) rfl ?_
  refine Sl.calm (Cm.move rfl) rfl ?_
  refine Sl.calm (Cm.len sl22 rfl) rfl ?_
  refine Sl.fork (Cm.lss rfl rfl) rfl (fun h10 => ?_) (fun h10 => ?_)
  ·
    refine Sl.calm (Cm.move rfl) rfl ?_
    refine Sl.want rfl rfl (Cm.move rfl) rfl ?_
    refine Sl.forkWant rfl rfl (Cm.geq rfl rfl) rfl (fun h13 => ?_) (fun h13 => ?_)
    ·
      refine Sl.calm (Cm.pick_t rfl rfl) rfl ?_
      refine Sl.calm (Cm.move rfl) rfl ?_
      refine Sl.want rfl rfl (Cm.move rfl) rfl ?_
      refine Sl.want rfl rfl (Cm.move rfl) rfl ?_
      refine Sl.want rfl rfl (Cm.len sl22 rfl) rfl ?_
      refine Sl.forkWant rfl rfl (Cm.lss rfl rfl) rfl (fun h19 => ?_) (fun h19 => ?_)
      ·
        have hin : 0 ≤ i ∧ i < ps.length := by omega
        obtain ⟨q, hq⟩ : ∃ q, ps[i.toNat]? = some q := ⟨_, List.getElem?_eq_getElem (by omega)⟩
        have hqZ : q.2.ino = Z := by rw [hZ, List.getD, hq]; rfl
        have hkl : k < ps.length := by omega
        obtain ⟨p, hp⟩ : ∃ p, ps[k]? = some p := ⟨_, List.getElem?_eq_getElem hkl⟩
        have hv2 := hv.grow hF2
        have hct := cnt_tk hp Z
        have hcl := cnt_le (ps.take k) Z
        have hctl : (ps.take k).length ≤ k := by rw [List.length_take]; omega
        refine Sl.calm (Cm.pick_t rfl rfl) rfl ?_
        refine Sl.nil ?_
        refine At.weak [(0, _), (1, _), (5, _), (6, _), (20, _)] ⟨rfl, rfl, rfl, rfl, rfl, trivial⟩ ?_
        refine At.go ?_
        refine Sc.cond_t rfl ?_
        refine Sc.skip ?_
        refine At.go ?_
        refine Sc.cut (β := Unit) (fun _u => [(0, .slice lo ps.length lc), (1, .int .i64 i), (5, .int .i64 (cntI (ps.take (k + 1)) Z)), (6, .int .i64 k)]) (fun _u w => Foot nob W w) ?_ ?_
        ·
          refine Sc.block ?_
          refine Sc.seq ?_
          refine Sc.quiet 11 [0, 1, 2, 3, 4, 5, 6, 7, 8, 9, 10] mixed (by kernel_rfl) ?_
          refine Sx.calm rfl rfl (Cm.move rfl) rfl ?_
          refine Sx.calm rfl rfl (Cm.move rfl) rfl ?_
          refine Sx.calm rfl rfl (Cm.indexAddr sl22 rfl rfl hv2.1.non (by omega)) rfl ?_
          refine Sx.calm rfl rfl (Cm.field fld34_1 rfl) rfl ?_
          refine Sx.calm rfl rfl (Cm.ld sca3 rfl (hv2.1.rowZ k rfl hp 1 _ rfl)) rfl ?_
          refine Sx.calm rfl rfl (Cm.move rfl) rfl ?_
          refine Sx.calm rfl rfl (Cm.move rfl) rfl ?_
          refine Sx.calm rfl rfl (Cm.indexAddr sl22 rfl rfl hv2.1.non (by omega)) rfl ?_
          refine Sx.calm rfl rfl (Cm.field fld34_1 rfl) rfl ?_
          refine Sx.calm rfl rfl (Cm.ld sca3 rfl (hv2.1.rowZ i.toNat (by omega) hq 1 _ rfl)) rfl ?_
          refine Sx.fork rfl rfl (Cm.eql rfl rfl) rfl (fun h33 => ?_) (fun h33 => ?_)
          ·
            refine Sx.nil ?_
            refine At.weak [(0, _), (1, _), (5, _), (6, _), (20, _), (33, _)] ⟨rfl, rfl, rfl, rfl, rfl, rfl, trivial⟩ ?_
            refine At.go ?_
            refine Sc.cond_t rfl ?_
            refine Sc.region ?_
            refine Sl.calm (Cm.move rfl) rfl ?_
            refine Sl.calm (Cm.add64 rfl rfl (by omega)) rfl ?_
            refine Sl.calm (Cm.assign rfl) rfl ?_
            refine Sl.nil ?_
            refine At.block_normal ?_
            first
              | exact At.cut () ⟨rfl, rfl, congrArg (fun z : Int => some (Value.int .i64 z)) (by rw [hct, if_pos (by rw [← hqZ]; exact h33)]), rfl, trivial⟩ (hF2.draws 1)
              | exact At.cut () ⟨rfl, rfl, congrArg (fun z : Int => some (Value.int .i64 z)) (by rw [hct, if_neg (by rw [← hqZ]; exact h33), Int.add_zero]), rfl, trivial⟩ (hF2.draws 1)
          ·
            refine Sx.nil ?_
            refine At.weak [(0, _), (1, _), (5, _), (6, _), (20, _), (33, _)] ⟨rfl, rfl, rfl, rfl, rfl, rfl, trivial⟩ ?_
            refine At.go ?_
            refine Sc.cond_f rfl ?_
            refine Sc.skip ?_
            refine At.block_normal ?_
            first
              | exact At.cut () ⟨rfl, rfl, congrArg (fun z : Int => some (Value.int .i64 z)) (by rw [hct, if_pos (by rw [← hqZ]; exact h33)]), rfl, trivial⟩ (hF2.draws 1)
              | exact At.cut () ⟨rfl, rfl, congrArg (fun z : Int => some (Value.int .i64 z)) (by rw [hct, if_neg (by rw [← hqZ]; exact h33), Int.add_zero]), rfl, trivial⟩ (hF2.draws 1)
        ·
          rintro _ w5 hF5
          refine Sc.region ?_
          refine Sl.calm (Cm.move rfl) rfl ?_
          refine Sl.calm (Cm.add64 rfl rfl (by omega)) rfl ?_
          refine Sl.calm (Cm.assign rfl) rfl ?_
          refine Sl.nil ?_
          exact At.again (k + 1) ⟨rfl, rfl, rfl, rfl, trivial⟩ ⟨by omega, fun _ => hin, hF5⟩ (by show ps.length - (k + 1) < ps.length - k; omega)
      ·
        refine Sl.calm (Cm.pick_t rfl rfl) rfl ?_
        refine Sl.nil ?_
        refine At.weak [(0, _), (1, _), (5, _), (6, _), (20, _)] ⟨rfl, rfl, rfl, rfl, rfl, trivial⟩ ?_
        refine At.go ?_
        refine Sc.cond_f rfl ?_
        refine Sc.exit ?_
        refine At.then_exit ?_
        refine At.then_exit ?_
        refine At.block_hit ?_
        refine At.go ?_
        refine Sc.seq ?_
        refine Sc.region ?_
        refine Sl.calm (Cm.move rfl) rfl ?_
        refine Sl.calm (Cm.assign rfl) rfl ?_
        refine Sl.nil ?_
        refine At.weak [(0, _), (1, _), (4, _), (5, _), (6, _), (20, _)] ⟨rfl, rfl, rfl, rfl, rfl, rfl, trivial⟩ ?_
        refine At.go ?_
        refine Sc.ret ?_
        refine At.ret1 rfl rfl ?_
        refine ⟨_, rfl, congrArg _ ?_, hF2⟩
        by_cases hin : 0 ≤ i ∧ i < ps.length
        · have hke : k = ps.length := by omega
          subst hke
          unfold lnkC; rw [if_pos hin, List.take_length, hZ]
        · have hk0 : k = 0 := by
            rcases Nat.eq_zero_or_pos k with h | h
            · exact h
            · exact absurd (hki h) hin
          subst hk0; rw [lnkC_out hin]; rfl
    ·
      refine Sl.calm (Cm.pick_t rfl rfl) rfl ?_
      refine Sl.calm (Cm.move rfl) rfl ?_
      refine Sl.skip rfl rfl rfl rfl ?_
      refine Sl.skip rfl rfl rfl rfl ?_
      refine Sl.skip rfl rfl rfl rfl ?_
      refine Sl.skip rfl rfl rfl rfl ?_
      refine Sl.calm (Cm.pick_f rfl rfl) rfl ?_
      refine Sl.nil ?_
      refine At.weak [(0, _), (1, _), (5, _), (6, _), (20, _)] ⟨rfl, rfl, rfl, rfl, rfl, trivial⟩ ?_
      refine At.go ?_
      refine Sc.cond_f rfl ?_
      refine Sc.exit ?_
      refine At.then_exit ?_
      refine At.then_exit ?_
      refine At.block_hit ?_
      refine At.go ?_
      refine Sc.seq ?_
      refine Sc.region ?_
      refine Sl.calm (Cm.move rfl) rfl ?_
      refine Sl.calm (Cm.assign rfl) rfl ?_
      refine Sl.nil ?_
      refine At.weak [(0, _), (1, _), (4, _), (5, _), (6, _), (20, _)] ⟨rfl, rfl, rfl, rfl, rfl, rfl, trivial⟩ ?_
      refine At.go ?_
      refine Sc.ret ?_
      refine At.ret1 rfl rfl ?_
      refine ⟨_, rfl, congrArg _ ?_, hF2⟩
      by_cases hin : 0 ≤ i ∧ i < ps.length
      · have hke : k = ps.length := by omega
        subst hke
        unfold lnkC; rw [if_pos hin, List.take_length, hZ]
      · have hk0 : k = 0 := by
          rcases Nat.eq_zero_or_pos k with h | h
          · exact h
          · exact absurd (hki h) hin
        subst hk0; rw [lnkC_out hin]; rfl
  ·
    refine Sl.calm (Cm.move rfl) rfl ?_
    refine Sl.skip rfl rfl rfl rfl ?_
    refine Sl.skip rfl rfl rfl rfl ?_
    refine Sl.calm (Cm.pick_f rfl rfl) rfl ?_
    refine Sl.calm (Cm.move rfl) rfl ?_
    refine Sl.skip rfl rfl rfl rfl ?_
    refine Sl.skip rfl rfl rfl rfl ?_
    refine Sl.skip rfl rfl rfl rfl ?_
    refine Sl.skip rfl rfl rfl rfl ?_
    refine Sl.calm (Cm.pick_f rfl rfl) rfl ?_
    refine Sl.nil ?_
    refine At.weak [(0, _), (1, _), (5, _), (6, _), (20, _)] ⟨rfl, rfl, rfl, rfl, rfl, trivial⟩ ?_
    refine At.go ?_
    refine Sc.cond_f rfl ?_
    refine Sc.exit ?_
    refine At.then_exit ?_
    refine At.then_exit ?_
    refine At.block_hit ?_
    refine At.go ?_
    refine Sc.seq ?_
    refine Sc.region ?_
    refine Sl.calm (Cm.move rfl) rfl ?_
    refine Sl.calm (Cm.assign rfl) rfl ?_
    refine Sl.nil ?_
    refine At.weak [(0, _), (1, _), (4, _), (5, _), (6, _), (20, _)] ⟨rfl, rfl, rfl, rfl, rfl, rfl, trivial⟩ ?_
    refine At.go ?_
    refine Sc.ret ?_
    refine At.ret1 rfl rfl ?_
    refine ⟨_, rfl, congrArg _ ?_, hF2⟩
    by_cases hin : 0 ≤ i ∧ i < ps.length
    · have hke : k = ps.length := by omega
      subst hke
      unfold lnkC; rw [if_pos hin, List.take_length, hZ]
    · have hk0 : k = 0 := by
        rcases Nat.eq_zero_or_pos k with h | h
        · exact h
        · exact absurd (hki h) hin
      subst hk0; rw [lnkC_out hin]; rfl
end Go.Proofs.Ytpnfjfbfgaiolaa
