/- table: PutNums, the program's and the reference's. No condition beyond the bounds that each states. -/
import Derived.Test.YtoaplldahbbaiaaCuk
namespace Go.Proofs.Ytoaplldahbbaiaa
open Go Go.RowKit
set_option linter.unusedVariables false

def putNum (wide : Int) (s : Int × List UInt8) (z : Int) : Int × List UInt8 := (numE s.1 z wide, numX s.1 s.2 z wide)
def numsL (l : List Int) (wide : Int) : Int × List UInt8 := l.foldl (putNum wide) (0, [])
theorem numX_le (E : Int) (xs : List UInt8) (x n : Int) : (numX E xs x n).length ≤ xs.length + 4 := by
  by_cases h : badN x n
  · unfold numX; rw [if_pos (.inr h)]; omega
  · exact numX_len E xs x n h
theorem numsL_len (wide : Int) : ∀ (l : List Int) (s : Int × List UInt8), (l.foldl (putNum wide) s).2.length ≤ s.2.length + 4 * l.length
  | [], s => by simp
  | z :: r, s => by
    have h1 := numsL_len wide r (putNum wide s z)
    have h2 := numX_le s.1 s.2 z wide
    simp only [List.foldl_cons, List.length_cons]
    have : (putNum wide s z).2.length ≤ s.2.length + 4 := h2
    omega
theorem numsL_succ (l : List Int) (wide : Int) (k : Nat) (h : k < l.length) : numsL (l.take (k + 1)) wide = putNum wide (numsL (l.take k) wide) (l.getD k 0) := by
  unfold numsL
  rw [List.take_succ_eq_append_getElem h, List.foldl_append]; simp [List.getD, h]
theorem numsL_le (l : List Int) (wide : Int) (k : Nat) : (numsL (l.take k) wide).2.length ≤ 4 * l.length := by
  have := numsL_len wide (l.take k) (0, [])
  simp only [List.length_nil, List.length_take] at this
  unfold numsL; omega

/-- the law of both -/
def putNums (l : List Int) (wide : Int) : List UInt8 × Int :=
  if wide = 2 ∨ wide = 4 then (doneX (numsL l wide).1 (numsL l wide).2, (numsL l wide).1) else ([], 1)

/-- bytes and an error -/

theorem fits_ok (wide : Int) (W : World) : Calls Try.prog 42 [.int .i64 wide].toArray W (Ret fun v w' => v = .bool (decide (wide = 2 ∨ wide = 4)) ∧ w' = W) := by
  refine calls_of_sc 9 [(0, _)] Try.func42 rfl rfl rfl (enter_slots ⟨rfl, trivial⟩) ?_
  refine Sc.seq ?_
  refine Sc.region ?_
  refine Sl.calm (Cm.assign rfl) rfl ?_
  refine Sl.nil ?_
  refine At.go ?_
  refine Sc.seq ?_
  refine Sc.region ?_
  refine Sl.calm (Cm.move rfl) rfl ?_
  refine Sl.fork (Cm.eql rfl rfl) rfl (fun h4 => ?_) (fun h4 => ?_)
  ·
    refine Sl.calm (Cm.move rfl) rfl ?_
    refine Sl.skip rfl rfl rfl rfl ?_
    refine Sl.skip rfl rfl rfl rfl ?_
    refine Sl.calm (Cm.pick_t rfl rfl) rfl ?_
    refine Sl.calm (Cm.assign rfl) rfl ?_
    refine Sl.nil ?_
    refine At.weak [(0, _), (2, _)] ⟨rfl, rfl, trivial⟩ ?_
    refine At.go ?_
    refine Sc.ret ?_
    refine At.ret1 rfl rfl ?_
    exact ⟨_, rfl, by congr 1; symm; first | exact decide_eq_true (by omega) | exact decide_eq_false (by omega), rfl⟩
  ·
    refine Sl.calm (Cm.move rfl) rfl ?_
    refine Sl.want rfl rfl (Cm.move rfl) rfl ?_
    refine Sl.forkWant rfl rfl (Cm.eql rfl rfl) rfl (fun h7 => ?_) (fun h7 => ?_)
    ·
      refine Sl.calm (Cm.pick_f rfl rfl) rfl ?_
      refine Sl.calm (Cm.assign rfl) rfl ?_
      refine Sl.nil ?_
      refine At.weak [(0, _), (2, _)] ⟨rfl, rfl, trivial⟩ ?_
      refine At.go ?_
      refine Sc.ret ?_
      refine At.ret1 rfl rfl ?_
      exact ⟨_, rfl, by congr 1; symm; first | exact decide_eq_true (by omega) | exact decide_eq_false (by omega), rfl⟩
    ·
      refine Sl.calm (Cm.pick_f rfl rfl) rfl ?_
      refine Sl.calm (Cm.assign rfl) rfl ?_
      refine Sl.nil ?_
      refine At.weak [(0, _), (2, _)] ⟨rfl, rfl, trivial⟩ ?_
      refine At.go ?_
      refine Sc.ret ?_
      refine At.ret1 rfl rfl ?_
      exact ⟨_, rfl, by congr 1; symm; first | exact decide_eq_true (by omega) | exact decide_eq_false (by omega), rfl⟩

theorem fin_nat {α : Type} {l : List α} {k : Nat} (h1 : k ≤ l.length) (h2 : ¬ ((k : Int) < (l.length : Int))) : l.take k = l := List.take_of_length_le (by omega)

set_option maxHeartbeats 1000000 in
theorem putNums_ok (lo : Option Addr) (lc : Nat) (l : List Int) (wide : Int) (W : World) (hv : Vw i64 W.heap lo lc l) (hb : l.length ≤ 137438953472) :
    Calls Try.prog 15 [.slice lo l.length lc, .int .i64 wide].toArray W (Ret (PutP W (putNums l wide))) := by
  have hlen := numsL_le l wide
  refine calls_of_sc 25 [(0, _), (1, _)] Try.func15 rfl rfl rfl (enter_slots ⟨rfl, rfl, trivial⟩) ?_
  refine Sc.seq ?_
  refine Sc.region ?_
  refine Sl.calm (Cm.assign rfl) rfl ?_
  refine Sl.calm (Cm.assign rfl) rfl ?_
  refine Sl.nil ?_
  refine At.go ?_
  refine Sc.seq ?_
  refine Sc.seq ?_
  refine Sc.region ?_
  refine Sl.calm (Cm.move rfl) rfl ?_
  refine Sl.call fn42 rfl (fits_ok wide W) rfl ?_
  rintro _ w0 ⟨rfl, hw0⟩
  subst w0
  refine Sl.fork (Cm.notB rfl) rfl (fun h11 => ?_) (fun h11 => ?_)
  ·
    have hw : ¬ (wide = 2 ∨ wide = 4) := by simpa using h11
    refine Sl.nil ?_
    refine At.weak [(0, _), (1, _), (4, _), (5, _), (11, _)] ⟨rfl, rfl, rfl, rfl, rfl, trivial⟩ ?_
    refine At.go ?_
    refine Sc.cond_t rfl ?_
    refine Sc.seq ?_
    refine Sc.region ?_
    refine Sl.calm (Cm.assign rfl) rfl ?_
    refine Sl.calm (Cm.assign rfl) rfl ?_
    refine Sl.nil ?_
    refine At.go ?_
    refine Sc.ret ?_
    refine At.then_ret ?_
    refine At.ret2 rfl rfl rfl ?_
    have e : putNums l wide = ([], 1) := by unfold putNums; rw [if_neg hw]
    rw [e]
    exact ⟨_, rfl, none, 0, rfl, Own.nil, Fr.none, Foot.refl _ _⟩
  ·
    have hw : wide = 2 ∨ wide = 4 := Classical.byContradiction fun h => h11 (decide_eq_false h)
    refine Sl.nil ?_
    refine At.weak [(0, _), (1, _), (4, _), (5, _), (11, _)] ⟨rfl, rfl, rfl, rfl, rfl, trivial⟩ ?_
    refine At.go ?_
    refine Sc.cond_f rfl ?_
    refine Sc.skip ?_
    refine At.go ?_
    refine Sc.seq ?_
    refine Sc.region ?_
    refine Sl.allocC zc87 rfl ?_
    intro w1 hg1 hs1 hf1
    refine Sl.nil ?_
    refine At.go ?_
    refine Sc.seq ?_
    refine Sc.seq ?_
    refine Sc.region ?_
    refine Sl.calm (Cm.move rfl) rfl ?_
    refine Sl.calm (Cm.len sl22 rfl) rfl ?_
    refine Sl.calm (Cm.move rfl) rfl ?_
    refine Sl.nil ?_
    refine At.go ?_
    refine Sc.block ?_
    refine Sc.loop (β := Nat) (fun k => [(1, .int .i64 wide), (6, .pointer (some ⟨W.heap.size, 0, none⟩)), (12, .slice lo l.length lc), (13, .int .i64 l.length), (14, .int .i64 k)]) (fun k w => k ≤ l.length ∧ WrL (fun k => W.heap.size ≤ k) w.heap W.heap.size (numsL (l.take k) wide).1 (numsL (l.take k) wide).2 ∧ Foot nob W w) (fun k => l.length - k) 0 ⟨rfl, rfl, rfl, rfl, rfl, trivial⟩ ⟨Nat.zero_le _, WrO.zeroL hg1 (Nat.le_refl _), hf1⟩ ?_
    rintro k w2 ⟨hk, hP2, hF2⟩
    refine Sc.seq ?_
    refine Sc.region ?_
    refine Sl.fork (Cm.lss rfl rfl) rfl (fun h15 => ?_) (fun h15 => ?_)
    ·
      refine Sl.nil ?_
      refine At.go ?_
      refine Sc.seq ?_
      refine Sc.cond_t rfl ?_
      refine Sc.skip ?_
      refine At.go ?_
      refine Sc.seq ?_
      refine Sc.block ?_
      refine Sc.seq ?_
      refine Sc.region ?_
      refine Sl.calm (Cm.indexAddr1 sl22 rfl rfl hv.non (by omega)) rfl ?_
      refine Sl.calm (Cm.ld sca3 rfl ((hv.grow hF2).gz 0 k rfl (by omega))) rfl ?_
      refine Sl.calm (Cm.assign rfl) rfl ?_
      refine Sl.nil ?_
      refine At.weak [(1, _), (6, _), (8, _), (12, _), (13, _), (14, _), (15, _)] ⟨rfl, rfl, rfl, rfl, rfl, rfl, rfl, trivial⟩ ?_
      refine At.go ?_
      refine Sc.region ?_
      refine Sl.calm (Cm.move rfl) rfl ?_
      refine Sl.calm (Cm.move rfl) rfl ?_
      refine Sl.call fn43 rfl (num_ok (fun k => W.heap.size ≤ k) W.heap.size _ _ (l.getD k 0) wide w2 hP2 (fun k hk => Nat.le_trans hF2.size hk) (by have := hlen k; omega)) rfl ?_
      rintro _ w3 ⟨hP3, hF3⟩
      refine Sl.nil ?_
      refine At.block_normal ?_
      refine At.weak [(1, _), (6, _), (8, _), (12, _), (13, _), (14, _), (15, _)] ⟨rfl, rfl, rfl, rfl, rfl, rfl, rfl, trivial⟩ ?_
      refine At.go ?_
      refine Sc.region ?_
      refine Sl.calm (Cm.add64 rfl rfl (by omega)) rfl ?_
      refine Sl.calm (Cm.move rfl) rfl ?_
      refine Sl.nil ?_
      refine At.again (k + 1) ⟨rfl, rfl, rfl, rfl, rfl, trivial⟩ ?_ (by show l.length - (k + 1) < l.length - k; omega)
      exact ⟨by omega, by rw [numsL_succ l wide k (by omega)]; exact hP3, (hF2.any.trans hF3).fresh (fun k hk => hk)⟩
    ·
      refine Sl.nil ?_
      refine At.go ?_
      refine Sc.seq ?_
      refine Sc.cond_f rfl ?_
      refine Sc.exit ?_
      refine At.then_exit ?_
      refine At.then_exit ?_
      refine At.block_hit ?_
      refine At.go ?_
      refine Sc.seq ?_
      refine Sc.region ?_
      refine Sl.call fn44 rfl (wdone_ok _ W.heap.size _ _ w2 hP2 (by have := hlen k; omega)) rfl ?_
      rintro _ w3 ⟨ao3, c3, rfl, ho3, hfr3, hf3⟩
      refine Sl.calm (Cm.field fld87_0 rfl) rfl ?_
      refine Sl.call fn45 rfl (err_ok _ W.heap.size _ _ w3 (hP2.grow hf3)) rfl ?_
      rintro _ w4 ⟨rfl, hw4⟩
      subst w4
      refine Sl.calm (Cm.assign rfl) rfl ?_
      refine Sl.calm (Cm.assign rfl) rfl ?_
      refine Sl.nil ?_
      refine At.weak [(1, _), (4, _), (5, _), (6, _), (12, _), (13, _), (14, _), (15, _)] ⟨rfl, rfl, rfl, rfl, rfl, rfl, rfl, rfl, trivial⟩ ?_
      refine At.go ?_
      refine Sc.ret ?_
      refine At.ret2 rfl rfl rfl ?_
      rw [fin_nat hk (by assumption)] at *
      exact ⟨_, rfl, ao3, c3, by unfold putNums; rw [if_pos hw], by unfold putNums; rw [if_pos hw]; exact ho3, hfr3.mono hF2.size, hF2.trans hf3⟩

set_option maxHeartbeats 1000000 in
theorem rputNums_ok (lo : Option Addr) (lc : Nat) (l : List Int) (wide : Int) (W : World) (hv : Vw i64 W.heap lo lc l) (hb : l.length ≤ 137438953472) :
    Calls Try.prog 16 [.slice lo l.length lc, .int .i64 wide].toArray W (Ret (PutP W (putNums l wide))) := by
  have hlen := numsL_le l wide
  have hl := hv.len63
  refine calls_of_sc 33 [(0, _), (1, _)] Try.func16 rfl rfl rfl (enter_slots ⟨rfl, rfl, trivial⟩) ?_
  refine Sc.seq ?_
  refine Sc.region ?_
  refine Sl.calm (Cm.assign rfl) rfl ?_
  refine Sl.calm (Cm.assign rfl) rfl ?_
  refine Sl.nil ?_
  refine At.go ?_
  refine Sc.seq ?_
  refine Sc.seq ?_
  refine Sc.region ?_
  refine Sl.calm (Cm.move rfl) rfl ?_
  refine Sl.fork (Cm.neq rfl rfl) rfl (fun h9 => ?_) (fun h9 => ?_)
  ·
    refine Sl.calm (Cm.move rfl) rfl ?_
    refine Sl.want rfl rfl (Cm.move rfl) rfl ?_
    refine Sl.forkWant rfl rfl (Cm.neq rfl rfl) rfl (fun h12 => ?_) (fun h12 => ?_)
    ·
      refine Sl.calm (Cm.pick_t rfl rfl) rfl ?_
      refine Sl.nil ?_
      refine At.weak [(0, _), (1, _), (4, _), (5, _), (13, _)] ⟨rfl, rfl, rfl, rfl, rfl, trivial⟩ ?_
      refine At.go ?_
      refine Sc.cond_t rfl ?_
      refine Sc.seq ?_
      refine Sc.region ?_
      refine Sl.calm (Cm.assign rfl) rfl ?_
      refine Sl.calm (Cm.assign rfl) rfl ?_
      refine Sl.nil ?_
      refine At.go ?_
      refine Sc.ret ?_
      refine At.then_ret ?_
      refine At.ret2 rfl rfl rfl ?_
      have hw : ¬ (wide = 2 ∨ wide = 4) := by omega
      have e : putNums l wide = ([], 1) := by unfold putNums; rw [if_neg hw]
      rw [e]
      exact ⟨_, rfl, none, 0, rfl, Own.nil, Fr.none, Foot.refl _ _⟩
    ·
      refine Sl.calm (Cm.pick_t rfl rfl) rfl ?_
      refine Sl.nil ?_
      refine At.weak [(0, _), (1, _), (4, _), (5, _), (13, _)] ⟨rfl, rfl, rfl, rfl, rfl, trivial⟩ ?_
      refine At.go ?_
      refine Sc.cond_f rfl ?_
      refine Sc.skip ?_
      refine At.go ?_
      refine Sc.seq ?_
      refine Sc.region ?_
      refine Sl.calm (Cm.build plc91 zc91 rfl rfl) rfl ?_
      refine Sl.allocC zc91 rfl ?_
      intro w1 hg1 hs1 hf1
      refine Sl.storeAll (vs := [.slice none 0 0, .int .i64 0]) agg91 rfl rfl (by simp [Value.oneCell']) hg1 rfl ?_
      intro w1b hg1b hs1b hf1b
      have hw : wide = 2 ∨ wide = 4 := by omega
      have hF1 : Foot nob W w1b := hf1.trans_to hf1b (fun k hk => .inr (by omega))
      refine Sl.nil ?_
      refine At.weak [(0, _), (1, _), (4, _), (5, _), (6, _), (13, _)] ⟨rfl, rfl, rfl, rfl, rfl, rfl, trivial⟩ ?_
      refine At.go ?_
      refine Sc.seq ?_
      refine Sc.seq ?_
      refine Sc.region ?_
      refine Sl.calm (Cm.assign rfl) rfl ?_
      refine Sl.nil ?_
      refine At.go ?_
      refine Sc.block ?_
      refine Sc.loop (β := Nat) (fun k => [(0, .slice lo l.length lc), (1, .int .i64 wide), (6, .pointer (some ⟨W.heap.size, 0, none⟩)), (7, .int .i64 k)]) (fun k w => k ≤ l.length ∧ WrR (fun k => W.heap.size ≤ k) w.heap W.heap.size (numsL (l.take k) wide).1 (numsL (l.take k) wide).2 ∧ Foot nob W w) (fun k => l.length - k) 0 ⟨rfl, rfl, rfl, rfl, trivial⟩ ⟨Nat.zero_le _, WrO.zeroR hg1b (Nat.le_refl _), hF1⟩ ?_
      rintro k w2 ⟨hk, hP2, hF2⟩
      refine Sc.seq ?_
      refine Sc.seq ?_
      refine Sc.region ?_
      refine Sl.calm (Cm.move rfl) rfl ?_
      refine Sl.calm (Cm.move rfl) rfl ?_
      refine Sl.calm (Cm.len sl22 rfl) rfl ?_
      refine Sl.fork (Cm.lss rfl rfl) rfl (fun h18 => ?_) (fun h18 => ?_)
      ·
        refine Sl.nil ?_
        refine At.weak [(0, _), (1, _), (6, _), (7, _), (18, _)] ⟨rfl, rfl, rfl, rfl, rfl, trivial⟩ ?_
        refine At.go ?_
        refine Sc.cond_t rfl ?_
        refine Sc.skip ?_
        refine At.go ?_
        refine Sc.seq ?_
        refine Sc.block ?_
        refine Sc.region ?_
        refine Sl.calm (Cm.move rfl) rfl ?_
        refine Sl.calm (Cm.move rfl) rfl ?_
        refine Sl.calm (Cm.indexAddr1 sl22 rfl rfl hv.non (by omega)) rfl ?_
        refine Sl.calm (Cm.ld sca3 rfl ((hv.grow hF2).gz 0 k rfl (by omega))) rfl ?_
        refine Sl.calm (Cm.move rfl) rfl ?_
        refine Sl.call fn46 rfl (rnum_ok (fun k => W.heap.size ≤ k) W.heap.size _ _ (l.getD k 0) wide w2 hP2 (fun k hk => Nat.le_trans hF2.size hk) (by have := hlen k; omega)) rfl ?_
        rintro _ w3 ⟨hP3, hF3⟩
        refine Sl.nil ?_
        refine At.block_normal ?_
        refine At.weak [(0, _), (1, _), (6, _), (7, _), (18, _)] ⟨rfl, rfl, rfl, rfl, rfl, trivial⟩ ?_
        refine At.go ?_
        refine Sc.region ?_
        refine Sl.calm (Cm.move rfl) rfl ?_
        refine Sl.calm (Cm.add64 rfl rfl (by omega)) rfl ?_
        refine Sl.calm (Cm.assign rfl) rfl ?_
        refine Sl.nil ?_
        refine At.again (k + 1) ⟨rfl, rfl, rfl, rfl, trivial⟩ ?_ (by show l.length - (k + 1) < l.length - k; omega)
        exact ⟨by omega, by rw [numsL_succ l wide k (by omega)]; exact hP3, (hF2.any.trans hF3).fresh (fun k hk => hk)⟩
      ·
        refine Sl.nil ?_
        refine At.weak [(0, _), (1, _), (6, _), (7, _), (18, _)] ⟨rfl, rfl, rfl, rfl, rfl, trivial⟩ ?_
        refine At.go ?_
        refine Sc.cond_f rfl ?_
        refine Sc.exit ?_
        refine At.then_exit ?_
        refine At.then_exit ?_
        refine At.block_hit ?_
        refine At.go ?_
        refine Sc.seq ?_
        refine Sc.seq ?_
        refine Sc.region ?_
        refine Sl.calm (Cm.field fld91_1 rfl) rfl ?_
        rw [fin_nat hk (by assumption)] at *
        have hPP := hP2
        obtain ⟨ao, c, hobj, hown, hap, hDp, hDa⟩ := hP2
        refine Sl.calm (Cm.ld sca26 rfl (cellF hobj rfl)) rfl ?_
        refine Sl.fork (Cm.neq rfl rfl) rfl (fun h29 => ?_) (fun h29 => ?_)
        ·
          refine Sl.nil ?_
          refine At.weak [(0, _), (1, _), (6, _), (7, _), (18, _), (29, _)] ⟨rfl, rfl, rfl, rfl, rfl, rfl, trivial⟩ ?_
          refine At.go ?_
          refine Sc.cond_t rfl ?_
          refine Sc.seq ?_
          refine Sc.quiet 4 [0, 1, 2, 3] mixed (by kernel_rfl) ?_
          refine Sx.calm rfl rfl (Cm.field fld91_1 rfl) rfl ?_
          refine Sx.calm rfl rfl (Cm.ld sca26 rfl (cellF hobj rfl)) rfl ?_
          refine Sx.calm rfl rfl (Cm.assign rfl) rfl ?_
          refine Sx.calm rfl rfl (Cm.assign rfl) rfl ?_
          refine Sx.nil ?_
          refine At.weak [(0, _), (1, _), (4, _), (5, _), (6, _), (7, _), (18, _), (29, _)] ⟨rfl, rfl, rfl, rfl, rfl, rfl, rfl, rfl, trivial⟩ ?_
          refine At.go ?_
          refine Sc.ret ?_
          refine At.then_ret ?_
          refine At.ret2 rfl rfl rfl ?_
          have e : putNums l wide = ([], (numsL l wide).1) := by unfold putNums doneX; rw [if_pos hw, if_pos (by omega)]
          rw [e]
          exact ⟨_, rfl, none, 0, rfl, Own.nil, Fr.none, hF2.draws 1⟩
        ·
          refine Sl.nil ?_
          refine At.weak [(0, _), (1, _), (6, _), (7, _), (18, _), (29, _)] ⟨rfl, rfl, rfl, rfl, rfl, rfl, trivial⟩ ?_
          refine At.go ?_
          refine Sc.cond_f rfl ?_
          refine Sc.skip ?_
          refine At.go ?_
          refine Sc.seq ?_
          refine Sc.region ?_
          refine Sl.call fn47 rfl (rdone_ok _ W.heap.size _ _ w2 hPP (by have := hlen l.length; rw [List.take_length] at this; omega)) rfl ?_
          rintro _ w3 ⟨ao3, c3, rfl, ho3, hfr3, hf3⟩
          refine Sl.calm (Cm.assign rfl) rfl ?_
          refine Sl.calm (Cm.assign rfl) rfl ?_
          refine Sl.nil ?_
          refine At.weak [(0, _), (1, _), (4, _), (5, _), (6, _), (7, _), (18, _), (29, _)] ⟨rfl, rfl, rfl, rfl, rfl, rfl, rfl, rfl, trivial⟩ ?_
          refine At.go ?_
          refine Sc.ret ?_
          refine At.ret2 rfl rfl rfl ?_
          have e : putNums l wide = (doneX (numsL l wide).1 (numsL l wide).2, 0) := by unfold putNums; rw [if_pos hw]; congr 1; omega
          rw [e]
          exact ⟨_, rfl, ao3, c3, rfl, ho3, hfr3.mono hF2.size, hF2.trans hf3⟩
  ·
    refine Sl.calm (Cm.move rfl) rfl ?_
    refine Sl.skip rfl rfl rfl rfl ?_
    refine Sl.skip rfl rfl rfl rfl ?_
    refine Sl.calm (Cm.pick_f rfl rfl) rfl ?_
    refine Sl.nil ?_
    refine At.weak [(0, _), (1, _), (4, _), (5, _), (13, _)] ⟨rfl, rfl, rfl, rfl, rfl, trivial⟩ ?_
    refine At.go ?_
    refine Sc.cond_f rfl ?_
    refine Sc.skip ?_
    refine At.go ?_
    refine Sc.seq ?_
    refine Sc.region ?_
    refine Sl.calm (Cm.build plc91 zc91 rfl rfl) rfl ?_
    refine Sl.allocC zc91 rfl ?_
    intro w1 hg1 hs1 hf1
    refine Sl.storeAll (vs := [.slice none 0 0, .int .i64 0]) agg91 rfl rfl (by simp [Value.oneCell']) hg1 rfl ?_
    intro w1b hg1b hs1b hf1b
    have hw : wide = 2 ∨ wide = 4 := by omega
    have hF1 : Foot nob W w1b := hf1.trans_to hf1b (fun k hk => .inr (by omega))
    refine Sl.nil ?_
    refine At.weak [(0, _), (1, _), (4, _), (5, _), (6, _), (13, _)] ⟨rfl, rfl, rfl, rfl, rfl, rfl, trivial⟩ ?_
    refine At.go ?_
    refine Sc.seq ?_
    refine Sc.seq ?_
    refine Sc.region ?_
    refine Sl.calm (Cm.assign rfl) rfl ?_
    refine Sl.nil ?_
    refine At.go ?_
    refine Sc.block ?_
    refine Sc.loop (β := Nat) (fun k => [(0, .slice lo l.length lc), (1, .int .i64 wide), (6, .pointer (some ⟨W.heap.size, 0, none⟩)), (7, .int .i64 k)]) (fun k w => k ≤ l.length ∧ WrR (fun k => W.heap.size ≤ k) w.heap W.heap.size (numsL (l.take k) wide).1 (numsL (l.take k) wide).2 ∧ Foot nob W w) (fun k => l.length - k) 0 ⟨rfl, rfl, rfl, rfl, trivial⟩ ⟨Nat.zero_le _, WrO.zeroR hg1b (Nat.le_refl _), hF1⟩ ?_
    rintro k w2 ⟨hk, hP2, hF2⟩
    refine Sc.seq ?_
    refine Sc.seq ?_
    refine Sc.region ?_
    refine Sl.calm (Cm.move rfl) rfl ?_
    refine Sl.calm (Cm.move rfl) rfl ?_
    refine Sl.calm (Cm.len sl22 rfl) rfl ?_
    refine Sl.fork (Cm.lss rfl rfl) rfl (fun h18 => ?_) (fun h18 => ?_)
    ·
      refine Sl.nil ?_
      refine At.weak [(0, _), (1, _), (6, _), (7, _), (18, _)] ⟨rfl, rfl, rfl, rfl, rfl, trivial⟩ ?_
      refine At.go ?_
      refine Sc.cond_t rfl ?_
      refine Sc.skip ?_
      refine At.go ?_
      refine Sc.seq ?_
      refine Sc.block ?_
      refine Sc.region ?_
      refine Sl.calm (Cm.move rfl) rfl ?_
      refine Sl.calm (Cm.move rfl) rfl ?_
      refine Sl.calm (Cm.indexAddr1 sl22 rfl rfl hv.non (by omega)) rfl ?_
      refine Sl.calm (Cm.ld sca3 rfl ((hv.grow hF2).gz 0 k rfl (by omega))) rfl ?_
      refine Sl.calm (Cm.move rfl) rfl ?_
      refine Sl.call fn46 rfl (rnum_ok (fun k => W.heap.size ≤ k) W.heap.size _ _ (l.getD k 0) wide w2 hP2 (fun k hk => Nat.le_trans hF2.size hk) (by have := hlen k; omega)) rfl ?_
      rintro _ w3 ⟨hP3, hF3⟩
      refine Sl.nil ?_
      refine At.block_normal ?_
      refine At.weak [(0, _), (1, _), (6, _), (7, _), (18, _)] ⟨rfl, rfl, rfl, rfl, rfl, trivial⟩ ?_
      refine At.go ?_
      refine Sc.region ?_
      refine Sl.calm (Cm.move rfl) rfl ?_
      refine Sl.calm (Cm.add64 rfl rfl (by omega)) rfl ?_
      refine Sl.calm (Cm.assign rfl) rfl ?_
      refine Sl.nil ?_
      refine At.again (k + 1) ⟨rfl, rfl, rfl, rfl, trivial⟩ ?_ (by show l.length - (k + 1) < l.length - k; omega)
      exact ⟨by omega, by rw [numsL_succ l wide k (by omega)]; exact hP3, (hF2.any.trans hF3).fresh (fun k hk => hk)⟩
    ·
      refine Sl.nil ?_
      refine At.weak [(0, _), (1, _), (6, _), (7, _), (18, _)] ⟨rfl, rfl, rfl, rfl, rfl, trivial⟩ ?_
      refine At.go ?_
      refine Sc.cond_f rfl ?_
      refine Sc.exit ?_
      refine At.then_exit ?_
      refine At.then_exit ?_
      refine At.block_hit ?_
      refine At.go ?_
      refine Sc.seq ?_
      refine Sc.seq ?_
      refine Sc.region ?_
      refine Sl.calm (Cm.field fld91_1 rfl) rfl ?_
      rw [fin_nat hk (by assumption)] at *
      have hPP := hP2
      obtain ⟨ao, c, hobj, hown, hap, hDp, hDa⟩ := hP2
      refine Sl.calm (Cm.ld sca26 rfl (cellF hobj rfl)) rfl ?_
      refine Sl.fork (Cm.neq rfl rfl) rfl (fun h29 => ?_) (fun h29 => ?_)
      ·
        refine Sl.nil ?_
        refine At.weak [(0, _), (1, _), (6, _), (7, _), (18, _), (29, _)] ⟨rfl, rfl, rfl, rfl, rfl, rfl, trivial⟩ ?_
        refine At.go ?_
        refine Sc.cond_t rfl ?_
        refine Sc.seq ?_
        refine Sc.quiet 4 [0, 1, 2, 3] mixed (by kernel_rfl) ?_
        refine Sx.calm rfl rfl (Cm.field fld91_1 rfl) rfl ?_
        refine Sx.calm rfl rfl (Cm.ld sca26 rfl (cellF hobj rfl)) rfl ?_
        refine Sx.calm rfl rfl (Cm.assign rfl) rfl ?_
        refine Sx.calm rfl rfl (Cm.assign rfl) rfl ?_
        refine Sx.nil ?_
        refine At.weak [(0, _), (1, _), (4, _), (5, _), (6, _), (7, _), (18, _), (29, _)] ⟨rfl, rfl, rfl, rfl, rfl, rfl, rfl, rfl, trivial⟩ ?_
        refine At.go ?_
        refine Sc.ret ?_
        refine At.then_ret ?_
        refine At.ret2 rfl rfl rfl ?_
        have e : putNums l wide = ([], (numsL l wide).1) := by unfold putNums doneX; rw [if_pos hw, if_pos (by omega)]
        rw [e]
        exact ⟨_, rfl, none, 0, rfl, Own.nil, Fr.none, hF2.draws 1⟩
      ·
        refine Sl.nil ?_
        refine At.weak [(0, _), (1, _), (6, _), (7, _), (18, _), (29, _)] ⟨rfl, rfl, rfl, rfl, rfl, rfl, trivial⟩ ?_
        refine At.go ?_
        refine Sc.cond_f rfl ?_
        refine Sc.skip ?_
        refine At.go ?_
        refine Sc.seq ?_
        refine Sc.region ?_
        refine Sl.call fn47 rfl (rdone_ok _ W.heap.size _ _ w2 hPP (by have := hlen l.length; rw [List.take_length] at this; omega)) rfl ?_
        rintro _ w3 ⟨ao3, c3, rfl, ho3, hfr3, hf3⟩
        refine Sl.calm (Cm.assign rfl) rfl ?_
        refine Sl.calm (Cm.assign rfl) rfl ?_
        refine Sl.nil ?_
        refine At.weak [(0, _), (1, _), (4, _), (5, _), (6, _), (7, _), (18, _), (29, _)] ⟨rfl, rfl, rfl, rfl, rfl, rfl, rfl, rfl, trivial⟩ ?_
        refine At.go ?_
        refine Sc.ret ?_
        refine At.ret2 rfl rfl rfl ?_
        have e : putNums l wide = (doneX (numsL l wide).1 (numsL l wide).2, 0) := by unfold putNums; rw [if_pos hw]; congr 1; omega
        rw [e]
        exact ⟨_, rfl, ao3, c3, rfl, ho3, hfr3.mono hF2.size, hF2.trans hf3⟩
end Go.Proofs.Ytoaplldahbbaiaa
