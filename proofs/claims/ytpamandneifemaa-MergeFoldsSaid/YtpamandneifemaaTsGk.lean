/- tree: Find, Below, the comparison of Kids; Links, the program's and the reference's. No condition beyond the bounds that each states. -/
import Derived.Test.YtpamandneifemaaKH
import Derived.Test.YtpamandneifemaaMuk
namespace Go.Proofs.Ytpamandneifemaa
open Go Go.RowKit Go.Maps
set_option linter.unusedVariables false

set_option maxHeartbeats 1000000 in
theorem equalS_ok (ao bo : Option Addr) (ac bc : Nat) (a b : List (List UInt8)) (W : World) (ha : Vw strE W.heap ao ac a) (hb : Vw strE W.heap bo bc b) :
    Calls Try.prog 67 [.slice ao a.length ac, .slice bo b.length bc].toArray W (Ret fun v w' => v = .bool (decide (a = b)) ∧ Foot nob W w') := by
  have h63 := ha.len63
  refine calls_of_sc 26 [(0, _), (1, _)] Try.func67 rfl rfl rfl (enter_slots ⟨rfl, rfl, trivial⟩) ?_
  refine Sc.seq ?_
  refine Sc.region ?_
  refine Sl.calm (Cm.assign rfl) rfl ?_
  refine Sl.nil ?_
  refine At.go ?_
  refine Sc.seq ?_
  refine Sc.seq ?_
  refine Sc.region ?_
  refine Sl.calm (Cm.move rfl) rfl ?_
  refine Sl.calm (Cm.len sl29 rfl) rfl ?_
  refine Sl.calm (Cm.move rfl) rfl ?_
  refine Sl.calm (Cm.len sl29 rfl) rfl ?_
  refine Sl.fork (Cm.neq rfl rfl) rfl (fun h10 => ?_) (fun h10 => ?_)
  ·
    refine Sl.nil ?_
    refine At.weak [(0, _), (1, _), (4, _), (10, _)] ⟨rfl, rfl, rfl, rfl, trivial⟩ ?_
    refine At.go ?_
    refine Sc.cond_t rfl ?_
    refine Sc.seq ?_
    refine Sc.region ?_
    refine Sl.calm (Cm.assign rfl) rfl ?_
    refine Sl.nil ?_
    refine At.go ?_
    refine Sc.ret ?_
    refine At.then_ret ?_
    refine At.ret1 rfl rfl ?_
    exact ⟨_, rfl, by rw [decide_eq_false (fun e => by subst e; exact h10 rfl)], Foot.refl _ _⟩
  ·
    refine Sl.nil ?_
    refine At.weak [(0, _), (1, _), (4, _), (10, _)] ⟨rfl, rfl, rfl, rfl, trivial⟩ ?_
    refine At.go ?_
    refine Sc.cond_f rfl ?_
    refine Sc.skip ?_
    refine At.go ?_
    refine Sc.seq ?_
    refine Sc.seq ?_
    refine Sc.region ?_
    refine Sl.calm (Cm.move rfl) rfl ?_
    refine Sl.calm (Cm.len sl29 rfl) rfl ?_
    refine Sl.calm (Cm.move rfl) rfl ?_
    refine Sl.nil ?_
    refine At.weak [(0, _), (1, _), (4, _), (10, _), (12, _), (13, _)] ⟨rfl, rfl, rfl, rfl, rfl, rfl, trivial⟩ ?_
    refine At.go ?_
    refine Sc.block ?_
    have hlen : a.length = b.length := by omega
    refine Sc.loop (β := Nat) (fun k => [(0, .slice ao a.length ac), (1, .slice bo b.length bc), (12, .int .i64 a.length), (13, .int .i64 k)]) (fun k w => k ≤ a.length ∧ (∀ i, i < k → i < a.length → a.getD i [] = b.getD i []) ∧ Foot nob W w) (fun k => a.length - k) 0 ⟨rfl, rfl, rfl, rfl, trivial⟩ ⟨Nat.zero_le _, fun i hi => by omega, Foot.refl _ _⟩ ?_
    rintro k w2 ⟨hk, hsm, hF2⟩
    refine Sc.seq ?_
    refine Sc.region ?_
    refine Sl.fork (Cm.lss rfl rfl) rfl (fun h14 => ?_) (fun h14 => ?_)
    ·
      have hka : k < a.length := by omega
      have hkb : k < b.length := by omega
      have ha2 := ha.grow hF2
      have hb2 := hb.grow hF2
      refine Sl.nil ?_
      refine At.go ?_
      refine Sc.seq ?_
      refine Sc.cond_t rfl ?_
      refine Sc.skip ?_
      refine At.go ?_
      refine Sc.seq ?_
      refine Sc.block ?_
      refine Sc.seq ?_
      refine Sc.region ?_
      refine Sl.calm (Cm.move rfl) rfl ?_
      refine Sl.calm (Cm.assign rfl) rfl ?_
      refine Sl.nil ?_
      refine At.weak [(0, _), (1, _), (5, _), (12, _), (13, _), (14, _)] ⟨rfl, rfl, rfl, rfl, rfl, rfl, trivial⟩ ?_
      refine At.go ?_
      refine Sc.seq ?_
      refine Sc.quiet 9 [0, 1, 2, 3, 4, 5, 6, 7, 8] mixed (by kernel_rfl) ?_
      refine Sx.calm rfl rfl (Cm.move rfl) rfl ?_
      refine Sx.calm rfl rfl (Cm.move rfl) rfl ?_
      refine Sx.calm rfl rfl (Cm.indexAddr1 sl29 rfl rfl ha2.non (by omega)) rfl ?_
      refine Sx.calm rfl rfl (Cm.ld sca9 rfl (ha2.get k (a.getD k []) (by simp [List.getD, hka]))) rfl ?_
      refine Sx.calm rfl rfl (Cm.move rfl) rfl ?_
      refine Sx.calm rfl rfl (Cm.move rfl) rfl ?_
      refine Sx.calm rfl rfl (Cm.indexAddr1 sl29 rfl rfl hb2.non (by omega)) rfl ?_
      refine Sx.calm rfl rfl (Cm.ld sca9 rfl (hb2.get k (b.getD k []) (by simp [List.getD, hkb]))) rfl ?_
      refine Sx.fork rfl rfl (Cm.neqBs rfl rfl) rfl (fun h24 => ?_) (fun h24 => ?_)
      ·
        refine Sx.nil ?_
        refine At.weak [(0, _), (1, _), (5, _), (12, _), (13, _), (14, _), (24, _)] ⟨rfl, rfl, rfl, rfl, rfl, rfl, rfl, trivial⟩ ?_
        refine At.go ?_
        refine Sc.cond_t rfl ?_
        refine Sc.seq ?_
        refine Sc.region ?_
        refine Sl.calm (Cm.assign rfl) rfl ?_
        refine Sl.nil ?_
        refine At.go ?_
        refine Sc.ret ?_
        refine At.block_ret ?_
        refine At.then_ret ?_
        refine At.then_ret ?_
        refine At.block_ret ?_
        refine At.then_ret ?_
        refine At.ret1 rfl rfl ?_
        exact ⟨_, rfl, by rw [decide_eq_false (fun e => h24 (by rw [e]))], hF2.draws 1⟩
      ·
        refine Sx.nil ?_
        refine At.weak [(0, _), (1, _), (5, _), (12, _), (13, _), (14, _), (24, _)] ⟨rfl, rfl, rfl, rfl, rfl, rfl, rfl, trivial⟩ ?_
        refine At.go ?_
        refine Sc.cond_f rfl ?_
        refine Sc.skip ?_
        refine At.block_normal ?_
        refine At.go ?_
        refine Sc.region ?_
        refine Sl.calm (Cm.add64 rfl rfl (by omega)) rfl ?_
        refine Sl.calm (Cm.move rfl) rfl ?_
        refine Sl.nil ?_
        refine At.again (k + 1) ⟨rfl, rfl, rfl, rfl, trivial⟩ ⟨by omega, fun i hi hia => ?_, hF2.draws 1⟩ (by show a.length - (k + 1) < a.length - k; omega)
        by_cases hik : i = k
        · subst hik; exact Classical.not_not.1 h24
        · exact hsm i (by omega) hia
    ·
      refine Sl.nil ?_
      refine At.go ?_
      refine Sc.seq ?_
      refine Sc.cond_f rfl ?_
      refine Sc.exit ?_
      refine At.then_exit ?_
      refine At.then_exit ?_
      refine At.block_hit ?_
      refine At.go ?_
      refine Sc.seq ?_
      refine Sc.region ?_
      refine Sl.calm (Cm.assign rfl) rfl ?_
      refine Sl.nil ?_
      refine At.go ?_
      refine Sc.ret ?_
      refine At.ret1 rfl rfl ?_
      exact ⟨_, rfl, by rw [decide_eq_true (list_cmp (by omega) (k := k) (by omega) [] hsm)], hF2⟩
theorem nsame_ok (ao bo : Option Addr) (ac bc : Nat) (a b : List (List UInt8)) (W : World) (ha : Vw strE W.heap ao ac a) (hb : Vw strE W.heap bo bc b) :
    Calls Try.prog 58 [.slice ao a.length ac, .slice bo b.length bc].toArray W (Ret fun v w' => v = .bool (decide (a = b)) ∧ Foot nob W w') := by
  refine calls_of_sc 8 [(0, _), (1, _)] Try.func58 rfl rfl rfl (enter_slots ⟨rfl, rfl, trivial⟩) ?_
  refine Sc.seq ?_
  refine Sc.region ?_
  refine Sl.calm (Cm.assign rfl) rfl ?_
  refine Sl.nil ?_
  refine At.go ?_
  refine Sc.seq ?_
  refine Sc.region ?_
  refine Sl.calm (Cm.move rfl) rfl ?_
  refine Sl.calm (Cm.move rfl) rfl ?_
  refine Sl.call fn67 rfl (equalS_ok ao bo ac bc a b W ha hb) rfl ?_
  rintro _ w1 ⟨rfl, hf1⟩
  refine Sl.calm (Cm.assign rfl) rfl ?_
  refine Sl.nil ?_
  refine At.weak [(0, _), (1, _), (4, _)] ⟨rfl, rfl, rfl, trivial⟩ ?_
  refine At.go ?_
  refine Sc.ret ?_
  refine At.ret1 rfl rfl ?_
  exact ⟨_, rfl, rfl, hf1⟩
def belowP (l s : List (List UInt8)) : Prop := s.length < l.length ∧ l.take s.length = s
instance (l s : List (List UInt8)) : Decidable (belowP l s) := by unfold belowP; exact inferInstance
variable {D : Nat → Prop}
theorem find1_ok (p : NdH × Nd) (g : Nat) (h : Hd) (s : List (List UInt8)) (W : World) {T : TypeId} {fr : Nat × Nat} (hp : NdV D W.heap p) (hg : W.heap[g]? = some (.cells [hd h].toArray T fr)) (hs : NmV D W.heap h s) :
    Calls Try.prog 57 [.agg (encN p).toArray, .pointer (some ⟨g, 0, none⟩)].toArray W (Ret fun v w' => v = .bool (decide (p.2.names = s)) ∧ Foot nob W w') := by
  refine calls_of_sc 8 [(0, _), (1, _)] Try.func57 rfl rfl rfl (enter_slots ⟨rfl, rfl, trivial⟩) ?_
  refine Sc.seq ?_
  refine Sc.region ?_
  refine Sl.box rfl rfl ?_
  intro w1 hg1 hs1 hf1
  obtain ⟨q, hq⟩ : ∃ q, q = W.heap.size := ⟨_, rfl⟩
  rw [← hq] at hg1 hs1 ⊢
  replace hg1 : w1.heap[q]? = some (.cells (encN p).toArray 35 (0, 0)) := hg1
  have hgg := hf1.obj hg id
  have hp1 := hp.grow hf1
  have hs2 := hs.keep hf1 (fun _ _ => id)
  refine Sl.calm (Cm.assign rfl) rfl ?_
  refine Sl.nil ?_
  refine At.go ?_
  refine Sc.seq ?_
  refine Sc.region ?_
  refine Sl.calm (Cm.field fld35_0 rfl) rfl ?_
  refine Sl.calm (Cm.ld sca29 rfl (cellF hg1 rfl)) rfl ?_
  refine Sl.calm (Cm.ofEq (u := .slice h.a s.length h.c) (Cm.ld sca29 rfl (cellF0 hgg rfl)) (by rw [← hs2.1]; rfl)) rfl ?_
  refine Sl.call fn58 rfl ((by show Calls _ _ [Value.slice p.1.names.a p.1.names.n p.1.names.c, _].toArray _ _; rw [hp1.1.1]; exact nsame_ok p.1.names.a h.a p.1.names.c h.c p.2.names s w1 hp1.1.2.1 hs2.2.1)) rfl ?_
  rintro _ w2 ⟨rfl, hf2⟩
  refine Sl.calm (Cm.assign rfl) rfl ?_
  refine Sl.nil ?_
  refine At.weak [(0, _), (1, _), (2, _), (3, _)] ⟨rfl, rfl, rfl, rfl, trivial⟩ ?_
  refine At.go ?_
  refine Sc.ret ?_
  refine At.ret1 rfl rfl ?_
  exact ⟨_, rfl, rfl, hf1.trans hf2⟩
theorem find_ok (lo : Option Addr) (lc : Nat) (ps : List (NdH × Nd)) (h : Hd) (s : List (List UInt8)) (W : World) (hv : NodesV D W.heap lo lc ps) (hs : NmV D W.heap h s) :
    Calls Try.prog 43 [.slice lo ps.length lc, hd h].toArray W (Ret fun v w' => v = .int .i64 (findP ps s) ∧ Foot nob W w') := by
  refine calls_of_sc 8 [(0, _), (1, _)] Try.func43 rfl rfl rfl (enter_slots ⟨rfl, rfl, trivial⟩) ?_
  refine Sc.seq ?_
  refine Sc.region ?_
  refine Sl.box rfl rfl ?_
  intro w1 hg1 hs1 hf1
  obtain ⟨g, hg⟩ : ∃ g, g = W.heap.size := ⟨_, rfl⟩
  rw [← hg] at hg1 hs1 ⊢
  replace hg1 : w1.heap[g]? = some (.cells [hd h].toArray 29 (0, 0)) := hg1
  refine Sl.calm (Cm.assign rfl) rfl ?_
  refine Sl.nil ?_
  refine At.go ?_
  refine Sc.seq ?_
  refine Sc.region ?_
  refine Sl.calm (Cm.move rfl) rfl ?_
  refine Sl.calm (Cm.makeFunc (vs := [.pointer (some ⟨g, 0, none⟩)]) rfl) rfl ?_
  refine Sl.call fn56 rfl (indexFunc_ok (R := fun p : NdH × Nd => p.2.names = s) 57 [.pointer (some ⟨g, 0, none⟩)] fn57 lo lc ps w1 (hv.grow hf1) (fun w p hp hf => find1_ok p g h s w ((hv.2 p hp).grow (hf1.trans hf)) (hf.obj hg1 id) (hs.keep (hf1.trans hf) (fun _ _ => id)))) rfl ?_
  rintro _ w2 ⟨rfl, hf2⟩
  refine Sl.calm (Cm.assign rfl) rfl ?_
  refine Sl.nil ?_
  refine At.weak [(0, _), (1, _), (3, _), (4, _)] ⟨rfl, rfl, rfl, rfl, trivial⟩ ?_
  refine At.go ?_
  refine Sc.ret ?_
  refine At.ret1 rfl rfl ?_
  exact ⟨_, rfl, rfl, hf1.trans hf2⟩
/-! Links -/
def cntI (ps : List (NdH × Nd)) (z : Int) : Int := (ps.countP (fun p => decide (p.2.ino = z)) : Nat)
theorem cnt_tk {ps : List (NdH × Nd)} {i : Nat} {p : NdH × Nd} (hp : ps[i]? = some p) (z : Int) : cntI (ps.take (i + 1)) z = cntI (ps.take i) z + if p.2.ino = z then 1 else 0 := by
  unfold cntI
  rw [tkL hp, List.countP_append, List.countP_singleton]
  by_cases h : p.2.ino = z
  · simp [h]
  · simp [h]
theorem cnt_le (ps : List (NdH × Nd)) (z : Int) : 0 ≤ cntI ps z ∧ cntI ps z ≤ ps.length := by
  unfold cntI
  have := List.countP_le_length (p := fun p : NdH × Nd => decide (p.2.ino = z)) (l := ps)
  omega
def lnkC (ps : List (NdH × Nd)) (i : Int) : Int := if 0 ≤ i ∧ i < ps.length then cntI ps (ps.getD i.toNat (ndh0, nd0)).2.ino else 0
theorem lnkC_in {ps : List (NdH × Nd)} {i : Int} {q : NdH × Nd} (h : 0 ≤ i ∧ i < ps.length) (hq : ps[i.toNat]? = some q) : lnkC ps i = cntI ps q.2.ino := by
  unfold lnkC; rw [if_pos h, List.getD, hq]; rfl
theorem lnkC_out {ps : List (NdH × Nd)} {i : Int} (h : ¬ (0 ≤ i ∧ i < ps.length)) : lnkC ps i = 0 := by unfold lnkC; rw [if_neg h]
end Go.Proofs.Ytpamandneifemaa
