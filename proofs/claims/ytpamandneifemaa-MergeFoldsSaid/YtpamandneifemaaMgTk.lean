/- merge: the laws MergeTrees and MergeLooks. No condition beyond the bounds that each states. -/
import Derived.Test.YtpamandneifemaaMgGk
import Derived.Test.YtpamandneifemaaLiftMk
namespace Go.Proofs.Ytpamandneifemaa
open Go Go.RowKit Go.Maps
set_option linter.unusedVariables false

theorem sum_le : ∀ {l : List Nat} {k : Nat}, (∀ x ∈ l, x ≤ k) → l.sum ≤ l.length * k
  | [], k, _ => Nat.zero_le _
  | x :: l, k, h => by
    have h1 := sum_le (l := l) (fun y hy => h y (by simp [hy]))
    have h2 := h x (by simp)
    rw [List.sum_cons, List.length_cons, Nat.succ_mul]; omega
theorem offU {Ls : Lys} (h : ∀ ps ∈ Ls, GdU ps) (hl : Ls.length ≤ 5) : offL Ls Ls.length ≤ 125 := by
  unfold offL
  rw [List.take_length]
  have := sum_le (l := Ls.map List.length) (k := 25) (fun x hx => by obtain ⟨ps, hp, rfl⟩ := List.mem_map.1 hx; exact (h ps hp).2.1)
  rw [List.length_map] at this
  have h2 := Nat.mul_le_mul_right 25 hl
  omega
theorem gduA {Ls : Lys} (h : ∀ ps ∈ Ls, GdU ps) : GdA Ls := fun ps hp => (h ps hp).gd
theorem NodesV.all {D : Nat → Prop} {H : Array Obj} {o : Option Addr} {c : Nat} {zs : List (NdH × Nd)} (h : OwnM 10 encN 35 H o c zs) (hz : ∀ z ∈ zs, NdV D H z) : NodesV (fun _ => True) H o c zs := ⟨h.vw encN_cells, fun z hzm => (hz z hzm).mono (fun _ _ => trivial)⟩
variable {D D' : Nat → Prop}
set_option maxHeartbeats 2000000 in
theorem mergeTrees_ok (lo : Option Addr) (lc : Nat) (hs : List Hd) (Ls : Lys) (W : World) (hv : LysV D W.heap lo lc hs Ls) (hw : ∀ ps ∈ Ls, ∀ p ∈ ps, okN p.2 ∧ smN p.2) :
    Calls Try.prog 3 [.slice lo Ls.length lc].toArray W (Ret fun v w' => v = .bool true ∧ Foot nob W w') := by
  refine calls_of_sc 21 [(0, _)] Try.func3 rfl rfl rfl (enter_slots ⟨rfl, trivial⟩) ?_
  refine Sc.seq ?_
  refine Sc.region ?_
  refine Sl.calm (Cm.assign rfl) rfl ?_
  refine Sl.nil ?_
  refine At.go ?_
  refine Sc.seq ?_
  refine Sc.region ?_
  refine Sl.call fn10 rfl (mshown_ok W) rfl ?_
  rintro _ w1 ⟨rfl, hf1⟩
  refine Sl.calm (Cm.assign rfl) rfl ?_
  refine Sl.nil ?_
  refine At.weak [(0, _), (2, _), (3, _)] ⟨rfl, rfl, rfl, trivial⟩ ?_
  refine At.go ?_
  refine Sc.seq ?_
  refine Sc.region ?_
  refine Sl.calm (Cm.move rfl) rfl ?_
  refine Sl.call fn11 rfl (fewU_ok lo lc hs Ls w1 (hv.grow hf1) hw) rfl ?_
  rintro _ w2 ⟨o, c, hs2, L2, rfl, hv2, hgu, hl5, hl1, hf2⟩
  have hg := gduA hgu
  have hT := offU hgu hl5
  refine Sl.calm (Cm.assign rfl) rfl ?_
  refine Sl.nil ?_
  refine At.weak [(0, _), (2, _), (3, _)] ⟨rfl, rfl, rfl, trivial⟩ ?_
  refine At.go ?_
  refine Sc.seq ?_
  refine Sc.region ?_
  refine Sl.calm (Cm.move rfl) rfl ?_
  refine Sl.call fn12 rfl (merge_ok o c hs2 L2 w2 hv2 hg (by omega) (by omega)) rfl ?_
  rintro _ w3 ⟨o3, c3, zs, rfl, ho3, hzn, hzv, hfo3, hf3⟩
  refine Sl.calm (Cm.assign rfl) rfl ?_
  refine Sl.nil ?_
  refine At.weak [(0, _), (2, _), (3, _), (4, _)] ⟨rfl, rfl, rfl, rfl, trivial⟩ ?_
  refine At.go ?_
  refine Sc.seq ?_
  refine Sc.region ?_
  refine Sl.calm (Cm.move rfl) rfl ?_
  refine Sl.call fn13 rfl (rmerge_ok o c hs2 L2 w3 (hv2.grow hf3) hg (by omega) (by omega)) rfl ?_
  rintro _ w4 ⟨o4, c4, rfl, ho4, hv4, hfo4, hf4⟩
  refine Sl.calm (Cm.assign rfl) rfl ?_
  refine Sl.nil ?_
  refine At.weak [(0, _), (2, _), (3, _), (4, _), (5, _)] ⟨rfl, rfl, rfl, rfl, rfl, trivial⟩ ?_
  refine At.go ?_
  refine Sc.seq ?_
  refine Sc.region ?_
  refine Sl.calm (Cm.move rfl) rfl ?_
  refine Sl.calm (Cm.move rfl) rfl ?_
  refine Sl.call fn14 rfl (rsameN_ok o3 o4 c3 c4 zs (canP (visL L2)) w4 ((NodesV.all ho3 hzv).grow hf4) hv4) rfl ?_
  rintro v5 w5 ⟨hb, _, hf5⟩
  obtain rfl := hb.2 hzn
  refine Sl.calm (Cm.assign rfl) rfl ?_
  refine Sl.nil ?_
  refine At.weak [(0, _), (2, _), (3, _), (4, _), (5, _), (6, _)] ⟨rfl, rfl, rfl, rfl, rfl, rfl, trivial⟩ ?_
  refine At.go ?_
  refine Sc.seq ?_
  refine Sc.region ?_
  refine Sl.calm (Cm.move rfl) rfl ?_
  refine Sl.calm (Cm.move rfl) rfl ?_
  refine Sl.want rfl rfl (Cm.move rfl) rfl ?_
  refine Sl.calm (Cm.pick_t rfl rfl) rfl ?_
  refine Sl.calm (Cm.assign rfl) rfl ?_
  refine Sl.nil ?_
  refine At.weak [(0, _), (2, _), (3, _), (4, _), (5, _), (6, _)] ⟨rfl, rfl, rfl, rfl, rfl, rfl, trivial⟩ ?_
  refine At.go ?_
  refine Sc.ret ?_
  refine At.ret1 rfl rfl ?_
  exact ⟨_, rfl, rfl, (((hf1.trans hf2).trans hf3).trans hf4).trans hf5⟩
/-! looks -/
set_option maxHeartbeats 1000000 in
theorem valid_ok19 (o : Option Addr) (c : Nat) (s : List (List UInt8)) (W : World) (hv : Vw strE W.heap o c s) (hsm : ∀ x ∈ s, x.length ≤ maxLen) :
    Calls Try.prog 21 [.slice o s.length c].toArray W (Ret fun v w' => v = .bool (decide (∀ x ∈ s, vErr x = 0)) ∧ w' = W) := by
  have h63 := hv.len63
  refine calls_of_sc 16 [(0, _)] Try.func21 rfl rfl rfl (enter_slots ⟨rfl, trivial⟩) ?_
  refine Sc.seq ?_
  refine Sc.region ?_
  refine Sl.calm (Cm.assign rfl) rfl ?_
  refine Sl.nil ?_
  refine At.go ?_
  refine Sc.seq ?_
  refine Sc.seq ?_
  refine Sc.region ?_
  refine Sl.calm (Cm.assign rfl) rfl ?_
  refine Sl.nil ?_
  refine At.go ?_
  refine Sc.block ?_
  refine Sc.loop (β := Nat) (fun i => [(0, .slice o s.length c), (3, .int .i64 i)]) (fun i w => i ≤ s.length ∧ (∀ (j : Nat) (y : List UInt8), j < i → s[j]? = some y → vErr y = 0) ∧ w = W) (fun i => s.length - i) 0 ⟨rfl, rfl, trivial⟩ ⟨Nat.zero_le _, fun j y h => by omega, rfl⟩ ?_
  rintro i w ⟨hi, hno, ew⟩
  subst w
  refine Sc.seq ?_
  refine Sc.seq ?_
  refine Sc.region ?_
  refine Sl.calm (Cm.move rfl) rfl ?_
  refine Sl.calm (Cm.move rfl) rfl ?_
  refine Sl.calm (Cm.len sl29 rfl) rfl ?_
  refine Sl.fork (Cm.lss rfl rfl) rfl (fun h7 => ?_) (fun h7 => ?_)
  ·
    have hil : i < s.length := by omega
    obtain ⟨x, hx⟩ : ∃ x, s[i]? = some x := ⟨_, List.getElem?_eq_getElem hil⟩
    have hxm := List.mem_of_getElem? hx
    refine Sl.nil ?_
    refine At.weak [(0, _), (3, _), (7, _)] ⟨rfl, rfl, rfl, trivial⟩ ?_
    refine At.go ?_
    refine Sc.cond_t rfl ?_
    refine Sc.skip ?_
    refine At.go ?_
    refine Sc.seq ?_
    refine Sc.block ?_
    refine Sc.seq ?_
    refine Sc.region ?_
    refine Sl.calm (Cm.move rfl) rfl ?_
    refine Sl.calm (Cm.move rfl) rfl ?_
    refine Sl.calm (Cm.indexAddr1 sl29 rfl rfl hv.non (by omega)) rfl ?_
    refine Sl.calm (Cm.ofEq (u := .string (bs x)) (Cm.ld sca9 rfl (hv.get i x hx)) rfl) rfl ?_
    refine Sl.call fn42 rfl (rvalid_ok x W (hsm x hxm)) rfl ?_
    rintro _ w1 ⟨rfl, rfl⟩
    refine Sl.fork (Cm.neq rfl rfl) rfl (fun h15 => ?_) (fun h15 => ?_)
    ·
      refine Sl.nil ?_
      refine At.weak [(0, _), (3, _), (7, _), (15, _)] ⟨rfl, rfl, rfl, rfl, trivial⟩ ?_
      refine At.go ?_
      refine Sc.cond_t rfl ?_
      refine Sc.seq ?_
      refine Sc.region ?_
      refine Sl.calm (Cm.assign rfl) rfl ?_
      refine Sl.nil ?_
      refine At.go ?_
      refine Sc.ret ?_
      refine At.block_ret ?_
      refine At.then_ret ?_
      refine At.then_ret ?_
      refine At.block_ret ?_
      refine At.then_ret ?_
      refine At.ret1 rfl rfl ?_
      first
        | exact ⟨_, rfl, by rw [decide_eq_false (fun g => h15 (g x hxm))], rfl⟩
        | exact ⟨_, rfl, by rw [decide_eq_true (fun y hy => by obtain ⟨j, hj⟩ := List.getElem?_of_mem hy; exact hno j y (by have := (List.getElem?_eq_some_iff.1 hj).1; omega) hj)], rfl⟩
    ·
      refine Sl.nil ?_
      refine At.weak [(0, _), (3, _), (7, _), (15, _)] ⟨rfl, rfl, rfl, rfl, trivial⟩ ?_
      refine At.go ?_
      refine Sc.cond_f rfl ?_
      refine Sc.skip ?_
      refine At.block_normal ?_
      refine At.go ?_
      refine Sc.region ?_
      refine Sl.calm (Cm.move rfl) rfl ?_
      refine Sl.calm (Cm.add64 rfl rfl (by omega)) rfl ?_
      refine Sl.calm (Cm.assign rfl) rfl ?_
      refine Sl.nil ?_
      refine At.again (i + 1) ⟨rfl, rfl, trivial⟩ ⟨by omega, fun j y hj hy => ?_, rfl⟩ (by show s.length - (i + 1) < s.length - i; omega)
      by_cases e : j = i
      · subst e; rw [hx] at hy; cases hy; exact Classical.not_not.1 h15
      · exact hno j y (by omega) hy
  ·
    have hie : i = s.length := by omega
    refine Sl.nil ?_
    refine At.weak [(0, _), (3, _), (7, _)] ⟨rfl, rfl, rfl, trivial⟩ ?_
    refine At.go ?_
    refine Sc.cond_f rfl ?_
    refine Sc.exit ?_
    refine At.then_exit ?_
    refine At.then_exit ?_
    refine At.block_hit ?_
    refine At.go ?_
    refine Sc.seq ?_
    refine Sc.region ?_
    refine Sl.calm (Cm.assign rfl) rfl ?_
    refine Sl.nil ?_
    refine At.go ?_
    refine Sc.ret ?_
    refine At.ret1 rfl rfl ?_
    first
      | exact ⟨_, rfl, by rw [decide_eq_false (fun g => h15 (g x hxm))], rfl⟩
      | exact ⟨_, rfl, by rw [decide_eq_true (fun y hy => by obtain ⟨j, hj⟩ := List.getElem?_of_mem hy; exact hno j y (by have := (List.getElem?_eq_some_iff.1 hj).1; omega) hj)], rfl⟩
set_option maxHeartbeats 1000000 in
theorem ints_ok (ao bo : Option Addr) (ac bc : Nat) (xs ys : List Nat) (W : World) (ha : Vw nN W.heap ao ac xs) (hb : Vw nN W.heap bo bc ys) (e : xs = ys) :
    Calls Try.prog 26 [.slice ao xs.length ac, .slice bo ys.length bc].toArray W (Ret fun v w' => v = .bool true ∧ Foot nob W w') := by
  subst e
  have h63 := ha.len63
  refine calls_of_sc 26 [(0, _), (1, _)] Try.func26 rfl rfl rfl (enter_slots ⟨rfl, rfl, trivial⟩) ?_
  refine Sc.seq ?_
  refine Sc.region ?_
  refine Sl.calm (Cm.assign rfl) rfl ?_
  refine Sl.nil ?_
  refine At.go ?_
  refine Sc.seq ?_
  refine Sc.seq ?_
  refine Sc.region ?_
  refine Sl.calm (Cm.move rfl) rfl ?_
  refine Sl.calm (Cm.len sl45 rfl) rfl ?_
  refine Sl.calm (Cm.move rfl) rfl ?_
  refine Sl.calm (Cm.len sl45 rfl) rfl ?_
  refine Sl.calm (Cm.no (Cm.neq rfl rfl) (fun h => h rfl)) rfl ?_
  refine Sl.nil ?_
  refine At.weak [(0, _), (1, _), (4, _), (10, _)] ⟨rfl, rfl, rfl, rfl, trivial⟩ ?_
  refine At.go ?_
  refine Sc.cond_f rfl ?_
  refine Sc.skip ?_
  refine At.go ?_
  refine Sc.seq ?_
  refine Sc.seq ?_
  refine Sc.region ?_
  refine Sl.calm (Cm.assign rfl) rfl ?_
  refine Sl.nil ?_
  refine At.go ?_
  refine Sc.block ?_
  refine Sc.loop (β := Nat) (fun i => [(0, .slice ao xs.length ac), (1, .slice bo xs.length bc), (5, .int .i64 i)]) (fun i w => i ≤ xs.length ∧ Foot nob W w) (fun i => xs.length - i) 0 ⟨rfl, rfl, rfl, trivial⟩ ⟨Nat.zero_le _, Foot.refl _ _⟩ ?_
  rintro i w2 ⟨hi, hF2⟩
  refine Sc.seq ?_
  refine Sc.seq ?_
  refine Sc.region ?_
  refine Sl.calm (Cm.move rfl) rfl ?_
  refine Sl.calm (Cm.move rfl) rfl ?_
  refine Sl.calm (Cm.len sl45 rfl) rfl ?_
  refine Sl.fork (Cm.lss rfl rfl) rfl (fun h14 => ?_) (fun h14 => ?_)
  ·
    have hil : i < xs.length := by omega
    obtain ⟨x, hx⟩ : ∃ x, xs[i]? = some x := ⟨_, List.getElem?_eq_getElem hil⟩
    refine Sl.nil ?_
    refine At.weak [(0, _), (1, _), (5, _), (14, _)] ⟨rfl, rfl, rfl, rfl, trivial⟩ ?_
    refine At.go ?_
    refine Sc.cond_t rfl ?_
    refine Sc.skip ?_
    refine At.go ?_
    refine Sc.seq ?_
    refine Sc.block ?_
    refine Sc.seq ?_
    refine Sc.quiet 9 [0, 1, 2, 3, 4, 5, 6, 7, 8] mixed (by kernel_rfl) ?_
    refine Sx.calm rfl rfl (Cm.move rfl) rfl ?_
    refine Sx.calm rfl rfl (Cm.move rfl) rfl ?_
    refine Sx.calm rfl rfl (Cm.indexAddr1 sl45 rfl rfl (ha.grow hF2).non (by omega)) rfl ?_
    refine Sx.calm rfl rfl (Cm.ofEq (u := nN x) (Cm.ld sca3 rfl ((ha.grow hF2).get i x hx)) rfl) rfl ?_
    refine Sx.calm rfl rfl (Cm.move rfl) rfl ?_
    refine Sx.calm rfl rfl (Cm.move rfl) rfl ?_
    refine Sx.calm rfl rfl (Cm.indexAddr1 sl45 rfl rfl (hb.grow hF2).non (by omega)) rfl ?_
    refine Sx.calm rfl rfl (Cm.ofEq (u := nN x) (Cm.ld sca3 rfl ((hb.grow hF2).get i x hx)) rfl) rfl ?_
    refine Sx.calm rfl rfl (Cm.no (Cm.neq (k := .i64) (m := (x : Int)) (n := (x : Int)) rfl rfl) (fun h => h rfl)) rfl ?_
    refine Sx.nil ?_
    refine At.weak [(0, _), (1, _), (5, _), (14, _), (25, _)] ⟨rfl, rfl, rfl, rfl, rfl, trivial⟩ ?_
    refine At.go ?_
    refine Sc.cond_f rfl ?_
    refine Sc.skip ?_
    refine At.block_normal ?_
    refine At.go ?_
    refine Sc.region ?_
    refine Sl.calm (Cm.move rfl) rfl ?_
    refine Sl.calm (Cm.add64 rfl rfl (by omega)) rfl ?_
    refine Sl.calm (Cm.assign rfl) rfl ?_
    refine Sl.nil ?_
    exact At.again (i + 1) ⟨rfl, rfl, rfl, trivial⟩ ⟨by omega, hF2.draws 1⟩ (by show xs.length - (i + 1) < xs.length - i; omega)
  ·
    refine Sl.nil ?_
    refine At.weak [(0, _), (1, _), (5, _), (14, _)] ⟨rfl, rfl, rfl, rfl, trivial⟩ ?_
    refine At.go ?_
    refine Sc.cond_f rfl ?_
    refine Sc.exit ?_
    refine At.then_exit ?_
    refine At.then_exit ?_
    refine At.block_hit ?_
    refine At.go ?_
    refine Sc.seq ?_
    refine Sc.region ?_
    refine Sl.calm (Cm.assign rfl) rfl ?_
    refine Sl.nil ?_
    refine At.go ?_
    refine Sc.ret ?_
    refine At.ret1 rfl rfl ?_
    exact ⟨_, rfl, rfl, hF2⟩
set_option maxHeartbeats 8000000 in
theorem mergeLooks_ok (lo : Option Addr) (lc : Nat) (hs : List Hd) (Ls : Lys) (ro : Option Addr) (rc : Nat) (rh : List Hd) (Rs : List (List (List UInt8))) (ly : Int) (W : World) (hv : LysV D W.heap lo lc hs Ls) (hw : ∀ ps ∈ Ls, ∀ p ∈ ps, okN p.2 ∧ smN p.2) (hr : Vw hd W.heap ro rc rh) (hR : SrwV D' W.heap rh Rs) :
    Calls Try.prog 9 [.slice lo Ls.length lc, .slice ro rh.length rc, .int .i64 ly].toArray W (Ret fun v w' => v = .bool true ∧ Foot nob W w') := by
  have hr63 := hr.len63
  have hrl := hR.1
  refine calls_of_sc 100 [(0, _), (1, _), (2, _)] Try.func9 rfl rfl rfl (enter_slots ⟨rfl, rfl, rfl, trivial⟩) ?_
  refine Sc.seq ?_
  refine Sc.region ?_
  refine Sl.calm (Cm.assign rfl) rfl ?_
  refine Sl.nil ?_
  refine At.go ?_
  refine Sc.seq ?_
  refine Sc.region ?_
  refine Sl.call fn10 rfl (mshown_ok W) rfl ?_
  rintro _ w1 ⟨rfl, hf1⟩
  refine Sl.calm (Cm.assign rfl) rfl ?_
  refine Sl.nil ?_
  refine At.weak [(0, _), (1, _), (2, _), (6, _), (7, _)] ⟨rfl, rfl, rfl, rfl, rfl, trivial⟩ ?_
  refine At.go ?_
  refine Sc.seq ?_
  refine Sc.region ?_
  refine Sl.calm (Cm.move rfl) rfl ?_
  refine Sl.call fn11 rfl (fewU_ok lo lc hs Ls w1 (hv.grow hf1) hw) rfl ?_
  rintro _ w2 ⟨o, c, hs2, L2, rfl, hv2, hgu, hl5, hl1, hf2⟩
  have hg := gduA hgu
  have hF2 := hf1.trans hf2
  have hll : L2.length ≤ 1000 := by omega
  refine Sl.calm (Cm.assign rfl) rfl ?_
  refine Sl.nil ?_
  refine At.weak [(0, _), (1, _), (2, _), (6, _), (7, _)] ⟨rfl, rfl, rfl, rfl, rfl, trivial⟩ ?_
  refine At.go ?_
  refine Sc.seq ?_
  refine Sc.seq ?_
  refine Sc.region ?_
  refine Sl.calm (Cm.assign rfl) rfl ?_
  refine Sl.nil ?_
  refine At.go ?_
  refine Sc.block ?_
  refine Sc.loop (β := Nat) (fun i => [(0, .slice o L2.length c), (1, .slice ro rh.length rc), (2, .int .i64 ly), (7, .bool true), (8, .int .i64 i)]) (fun i w => i ≤ rh.length ∧ Foot nob w2 w) (fun i => rh.length - i) 0 ⟨rfl, rfl, rfl, rfl, rfl, trivial⟩ ⟨Nat.zero_le _, Foot.refl _ _⟩ ?_
  rintro i w3 ⟨hi, hF3⟩
  refine Sc.seq ?_
  refine Sc.seq ?_
  refine Sc.region ?_
  refine Sl.calm (Cm.move rfl) rfl ?_
  refine Sl.calm (Cm.move rfl) rfl ?_
  refine Sl.calm (Cm.len sl43 rfl) rfl ?_
  refine Sl.fork (Cm.lss rfl rfl) rfl (fun h23 => ?_) (fun h23 => ?_)
  ·
    have hil : i < rh.length := by omega
    obtain ⟨h, hh⟩ : ∃ h, rh[i]? = some h := ⟨_, List.getElem?_eq_getElem hil⟩
    obtain ⟨s, hs⟩ : ∃ s, Rs[i]? = some s := ⟨_, List.getElem?_eq_getElem (by omega)⟩
    have hns := hR.2 i h s hh hs
    have hF3W := hF2.trans hF3
    have hr3 := hr.grow hF3W
    have hn3 := (hns.1.keep hF3W (fun _ _ => id)).mono (D' := fun _ => True) (fun _ _ => trivial)
    have hv3 : LysV (fun _ => True) w3.heap o c hs2 L2 := ⟨(hv2.grow hF3).1, (hv2.grow hF3).2.1, fun i h ps h1 h2 => ⟨((hv2.grow hF3).2.2 i h ps h1 h2).1, ((hv2.grow hF3).2.2 i h ps h1 h2).2.1, fun p hp => (((hv2.grow hF3).2.2 i h ps h1 h2).2.2 p hp).mono (fun _ _ => trivial)⟩⟩
    refine Sl.calm (Cm.move rfl) rfl ?_
    refine Sl.want rfl rfl (Cm.move rfl) rfl ?_
    refine Sl.forkWant rfl rfl (Cm.lss rfl rfl) rfl (fun h26 => ?_) (fun h26 => ?_)
    ·
      refine Sl.calm (Cm.pick_t rfl rfl) rfl ?_
      refine Sl.nil ?_
      refine At.weak [(0, _), (1, _), (2, _), (7, _), (8, _), (27, _)] ⟨rfl, rfl, rfl, rfl, rfl, rfl, trivial⟩ ?_
      refine At.go ?_
      refine Sc.cond_t rfl ?_
      refine Sc.skip ?_
      refine At.go ?_
      refine Sc.seq ?_
      refine Sc.block ?_
      refine Sc.seq ?_
      refine Sc.region ?_
      refine Sl.calm (Cm.move rfl) rfl ?_
      refine Sl.calm (Cm.move rfl) rfl ?_
      refine Sl.calm (Cm.indexAddr1 sl43 rfl rfl hr3.non (by omega)) rfl ?_
      refine Sl.calm (Cm.ofEq (u := .slice h.a s.length h.c) (Cm.ld sca29 rfl (hr3.get i h hh)) (by rw [← hn3.1]; rfl)) rfl ?_
      refine Sl.call fn21 rfl (valid_ok19 h.a h.c s w3 hn3.2.1 hns.2) rfl ?_
      rintro _ w4 ⟨rfl, hw4⟩
      subst w4
      by_cases h34 : ∀ x ∈ s, vErr x = 0
      ·
        rw [decide_eq_true h34]
        have hsn := h34
        refine Sl.calm (Cm.assign rfl) rfl ?_
        refine Sl.nil ?_
        refine At.weak [(0, _), (1, _), (2, _), (7, _), (8, _), (9, _), (27, _)] ⟨rfl, rfl, rfl, rfl, rfl, rfl, rfl, trivial⟩ ?_
        refine At.go ?_
        refine Sc.seq ?_
        refine Sc.seq ?_
        refine Sc.region ?_
        refine Sl.calm (Cm.move rfl) rfl ?_
        refine Sl.calm (Cm.not rfl) rfl ?_
        refine Sl.nil ?_
        refine At.weak [(0, _), (1, _), (2, _), (7, _), (8, _), (9, _), (27, _), (36, _)] ⟨rfl, rfl, rfl, rfl, rfl, rfl, rfl, rfl, trivial⟩ ?_
        refine At.go ?_
        refine Sc.cond_f rfl ?_
        refine Sc.skip ?_
        refine At.go ?_
        refine Sc.seq ?_
        refine Sc.region ?_
        refine Sl.calm (Cm.move rfl) rfl ?_
        refine Sl.calm (Cm.move rfl) rfl ?_
        refine Sl.calm (Cm.move rfl) rfl ?_
        refine Sl.calm (Cm.indexAddr1 sl43 rfl rfl hr3.non (by omega)) rfl ?_
        refine Sl.calm (Cm.ofEq (u := .slice h.a s.length h.c) (Cm.ld sca29 rfl (hr3.get i h hh)) (by rw [← hn3.1]; rfl)) rfl ?_
        refine Sl.call fn22 rfl (msources_ok o c hs2 L2 h.a h.c s w3 hv3 hg hll hn3.2.1 hsn) rfl ?_
        rintro _ w5 ⟨o5, c5, rfl, ho5, hfo5, hf5⟩
        have hr5 := hr3.grow hf5
        have hn5 := hn3.keep hf5 (fun _ _ => id)
        have hv5 := hv3.grow hf5
        refine Sl.calm (Cm.assign rfl) rfl ?_
        refine Sl.nil ?_
        refine At.weak [(0, _), (1, _), (2, _), (7, _), (8, _), (9, _), (10, _), (27, _), (36, _)] ⟨rfl, rfl, rfl, rfl, rfl, rfl, rfl, rfl, rfl, trivial⟩ ?_
        refine At.go ?_
        refine Sc.seq ?_
        refine Sc.region ?_
        refine Sl.calm (Cm.move rfl) rfl ?_
        refine Sl.calm (Cm.move rfl) rfl ?_
        refine Sl.calm (Cm.move rfl) rfl ?_
        refine Sl.calm (Cm.indexAddr1 sl43 rfl rfl hr5.non (by omega)) rfl ?_
        refine Sl.calm (Cm.ofEq (u := .slice h.a s.length h.c) (Cm.ld sca29 rfl (hr5.get i h hh)) (by rw [← hn3.1]; rfl)) rfl ?_
        refine Sl.call fn23 rfl (rsources_ok o c hs2 L2 hll s.length h.a h.c s w5 (Nat.le_refl _) hv5 hn5.2.1) rfl ?_
        rintro _ w6 ⟨o6, c6, rfl, ho6, hfo6, hf6⟩
        have hr6 := hr5.grow hf6
        have hn6 := hn5.keep hf6 (fun _ _ => id)
        have hv6 := hv5.grow hf6
        refine Sl.calm (Cm.assign rfl) rfl ?_
        refine Sl.nil ?_
        refine At.weak [(0, _), (1, _), (2, _), (7, _), (8, _), (9, _), (10, _), (11, _), (27, _), (36, _)] ⟨rfl, rfl, rfl, rfl, rfl, rfl, rfl, rfl, rfl, rfl, trivial⟩ ?_
        refine At.go ?_
        refine Sc.seq ?_
        refine Sc.region ?_
        refine Sl.calm (Cm.move rfl) rfl ?_
        refine Sl.calm (Cm.move rfl) rfl ?_
        refine Sl.calm (Cm.move rfl) rfl ?_
        refine Sl.calm (Cm.indexAddr1 sl43 rfl rfl hr6.non (by omega)) rfl ?_
        refine Sl.calm (Cm.ofEq (u := .slice h.a s.length h.c) (Cm.ld sca29 rfl (hr6.get i h hh)) (by rw [← hn3.1]; rfl)) rfl ?_
        refine Sl.call fn24 rfl (mtop_ok o c hs2 L2 h s w6 hv6 hg hll hn6 hsn) rfl ?_
        rintro _ w7 ⟨rfl, hf7⟩
        have hr7 := hr6.grow hf7
        have hn7 := hn6.keep hf7 (fun _ _ => id)
        have hv7 := hv6.grow hf7
        refine Sl.calm (Cm.move rfl) rfl ?_
        refine Sl.calm (Cm.extract rfl rfl) rfl ?_
        refine Sl.calm (Cm.extract rfl rfl) rfl ?_
        refine Sl.calm (Cm.assign rfl) rfl ?_
        refine Sl.calm (Cm.assign rfl) rfl ?_
        refine Sl.nil ?_
        refine At.weak [(0, _), (1, _), (2, _), (7, _), (8, _), (9, _), (10, _), (11, _), (12, _), (13, _), (27, _), (36, _)] ⟨rfl, rfl, rfl, rfl, rfl, rfl, rfl, rfl, rfl, rfl, rfl, rfl, trivial⟩ ?_
        refine At.go ?_
        refine Sc.seq ?_
        refine Sc.region ?_
        refine Sl.calm (Cm.move rfl) rfl ?_
        refine Sl.calm (Cm.move rfl) rfl ?_
        refine Sl.calm (Cm.move rfl) rfl ?_
        refine Sl.calm (Cm.indexAddr1 sl43 rfl rfl hr7.non (by omega)) rfl ?_
        refine Sl.calm (Cm.ofEq (u := .slice h.a s.length h.c) (Cm.ld sca29 rfl (hr7.get i h hh)) (by rw [← hn3.1]; rfl)) rfl ?_
        refine Sl.call fn25 rfl (rtop_ok o c hs2 L2 h.a h.c s w7 hv7 hll hn7.2.1) rfl ?_
        rintro _ w8 ⟨rfl, hf8⟩
        have hr8 := hr7.grow hf8
        have hn8 := hn7.keep hf8 (fun _ _ => id)
        have hv8 := hv7.grow hf8
        refine Sl.calm (Cm.move rfl) rfl ?_
        refine Sl.calm (Cm.extract rfl rfl) rfl ?_
        refine Sl.calm (Cm.extract rfl rfl) rfl ?_
        refine Sl.calm (Cm.assign rfl) rfl ?_
        refine Sl.calm (Cm.assign rfl) rfl ?_
        refine Sl.nil ?_
        refine At.weak [(0, _), (1, _), (2, _), (7, _), (8, _), (9, _), (10, _), (11, _), (12, _), (13, _), (14, _), (15, _), (27, _), (36, _)] ⟨rfl, rfl, rfl, rfl, rfl, rfl, rfl, rfl, rfl, rfl, rfl, rfl, rfl, rfl, trivial⟩ ?_
        refine At.go ?_
        refine Sc.seq ?_
        refine Sc.region ?_
        refine Sl.calm (Cm.move rfl) rfl ?_
        refine Sl.calm (Cm.move rfl) rfl ?_
        refine Sl.call fn26 rfl (ints_ok o5 o6 c5 c6 (srcs L2 s) (srcs L2 s) w8 (((ho5.grow hf6).grow hf7).grow hf8).vw ((ho6.grow hf7).grow hf8).vw rfl) rfl ?_
        rintro _ w9 ⟨rfl, hf9⟩
        have hr9 := hr8.grow hf9
        have hn9 := hn8.keep hf9 (fun _ _ => id)
        have hv9 := hv8.grow hf9
        have hF9 : Foot nob w3 w9 := ((hf5.trans hf6).trans (hf7.trans hf8)).trans hf9
        refine Sl.calm (Cm.assign rfl) rfl ?_
        refine Sl.nil ?_
        refine At.weak [(0, _), (1, _), (2, _), (7, _), (8, _), (9, _), (10, _), (11, _), (12, _), (13, _), (14, _), (15, _), (16, _), (27, _), (36, _)] ⟨rfl, rfl, rfl, rfl, rfl, rfl, rfl, rfl, rfl, rfl, rfl, rfl, rfl, rfl, rfl, trivial⟩ ?_
        refine At.go ?_
        refine Sc.seq ?_
        refine Sc.draw 29 (fun H => Vw hd H ro rc rh) [19, 26] [0, 1, 2, 3, 4, 5, 6, 7, 8, 9, 10, 11, 12, 13, 14, 15, 16, 17, 18, 20, 21, 22, 23, 24, 25, 19, 26, 27, 28] mixed (by kernel_rfl) (hr9) ?_
        refine Sx.calm rfl rfl (Cm.move rfl) rfl ?_
        refine Sx.calm rfl rfl (Cm.not rfl) rfl ?_
        refine Sx.calm rfl rfl (Cm.move rfl) rfl ?_
        refine Sx.want rfl rfl rfl rfl (Cm.move rfl) rfl ?_
        refine Sx.want rfl rfl rfl rfl (Cm.move rfl) rfl ?_
        refine Sx.want rfl rfl rfl rfl (Cm.no (Cm.neq rfl rfl) (fun h => h rfl)) rfl ?_
        refine Sx.calm rfl rfl (Cm.pick_f rfl rfl) rfl ?_
        refine Sx.calm rfl rfl (Cm.move rfl) rfl ?_
        refine Sx.want rfl rfl rfl rfl (Cm.move rfl) rfl ?_
        refine Sx.want rfl rfl rfl rfl (Cm.move rfl) rfl ?_
        refine Sx.want rfl rfl rfl rfl (Cm.no (Cm.neq rfl rfl) (fun h => h rfl)) rfl ?_
        refine Sx.calm rfl rfl (Cm.pick_f rfl rfl) rfl ?_
        refine Sx.calm rfl rfl (Cm.move rfl) rfl ?_
        refine Sx.want rfl rfl rfl rfl (Cm.move rfl) rfl ?_
        refine Sx.want rfl rfl rfl rfl (Cm.move rfl) rfl ?_
        refine Sx.want rfl rfl rfl rfl (Cm.move rfl) rfl ?_
        refine Sx.want rfl rfl rfl rfl (Cm.indexAddr1 sl43 rfl rfl hr9.non (by omega)) rfl ?_
        refine Sx.want rfl rfl rfl rfl (Cm.ofEq (u := hd h) (Cm.load sca29 rfl (fun H hH => hH.get i h hh)) rfl) rfl ?_
        refine Sx.want rfl rfl rfl rfl (Cm.move rfl) rfl ?_
        refine Sx.want rfl rfl rfl rfl (Cm.move rfl) rfl ?_
        refine Sx.want rfl rfl rfl rfl (Cm.move rfl) rfl ?_
        refine Sx.want rfl rfl rfl rfl (Cm.move rfl) rfl ?_
        refine Sx.want rfl rfl rfl rfl (Cm.indexAddr1 sl43 rfl rfl hr9.non (by omega)) rfl ?_
        refine Sx.want rfl rfl rfl rfl (Cm.ofEq (u := .slice h.a s.length h.c) (Cm.load sca29 rfl (fun H hH => hH.get i h hh)) (by rw [← hn3.1]; rfl)) rfl ?_
        refine Sx.want rfl rfl rfl rfl (Cm.move rfl) rfl ?_
        refine Sx.eff rfl rfl (Sl.callWant rfl rfl fn27 rfl (mbelow_ok o c hs2 L2 h s ly (w9.drewN 1) (hv9.grow (Foot.ofDraws 1)) hg hll (hn9.keep (Foot.ofDraws 1) (fun _ _ => id)) hsn) rfl ?_)
        rintro _ wA ⟨rfl, hfA⟩
        have hfA := hfA.undraw
        have hrA := hr9.grow hfA
        have hnA := hn9.keep hfA (fun _ _ => id)
        refine Sx.on (by exact hrA) ?_
        refine Sx.eff rfl rfl (Sl.callWant rfl rfl fn28 rfl (rbelow_ok o c hs2 L2 h.a h.c s ly wA (hv9.grow hfA) hll hnA.2.1) rfl ?_)
        rintro _ wB ⟨rfl, hfB⟩
        have hFB := hF9.trans (hfA.trans hfB)
        refine Sx.on (by exact (hrA.grow hfB)) ?_
        refine Sx.want rfl rfl rfl rfl (Cm.ofEq (u := .bool false) (Cm.neqBool ty4 rfl rfl) (by simp)) rfl ?_
        refine Sx.calm rfl rfl (Cm.pick_f rfl rfl) rfl ?_
        refine Sx.nil ?_
        refine At.weak [(0, _), (1, _), (2, _), (7, _), (8, _), (9, _), (10, _), (11, _), (12, _), (13, _), (14, _), (15, _), (16, _), (27, _), (36, _), (98, _)] ⟨rfl, rfl, rfl, rfl, rfl, rfl, rfl, rfl, rfl, rfl, rfl, rfl, rfl, rfl, rfl, rfl, trivial⟩ ?_
        refine At.go ?_
        refine Sc.cond_f rfl ?_
        refine Sc.skip ?_
        refine At.block_normal ?_
        refine At.go ?_
        refine Sc.region ?_
        refine Sl.calm (Cm.move rfl) rfl ?_
        refine Sl.calm (Cm.add64 rfl rfl (by omega)) rfl ?_
        refine Sl.calm (Cm.assign rfl) rfl ?_
        refine Sl.nil ?_
        first
          | exact At.again (i + 1) ⟨rfl, rfl, rfl, rfl, rfl, trivial⟩ ⟨by omega, hF3.trans hFB⟩ (by show rh.length - (i + 1) < rh.length - i; omega)
          | exact At.again (i + 1) ⟨rfl, rfl, rfl, rfl, rfl, trivial⟩ ⟨by omega, hF3⟩ (by show rh.length - (i + 1) < rh.length - i; omega)
      ·
        rw [decide_eq_false h34]
        refine Sl.calm (Cm.assign rfl) rfl ?_
        refine Sl.nil ?_
        refine At.weak [(0, _), (1, _), (2, _), (7, _), (8, _), (9, _), (27, _)] ⟨rfl, rfl, rfl, rfl, rfl, rfl, rfl, trivial⟩ ?_
        refine At.go ?_
        refine Sc.seq ?_
        refine Sc.seq ?_
        refine Sc.region ?_
        refine Sl.calm (Cm.move rfl) rfl ?_
        refine Sl.calm (Cm.not rfl) rfl ?_
        refine Sl.nil ?_
        refine At.weak [(0, _), (1, _), (2, _), (7, _), (8, _), (9, _), (27, _), (36, _)] ⟨rfl, rfl, rfl, rfl, rfl, rfl, rfl, rfl, trivial⟩ ?_
        refine At.go ?_
        refine Sc.cond_t rfl ?_
        refine Sc.exit ?_
        refine At.then_exit ?_
        refine At.block_hit ?_
        refine At.go ?_
        refine Sc.region ?_
        refine Sl.calm (Cm.move rfl) rfl ?_
        refine Sl.calm (Cm.add64 rfl rfl (by omega)) rfl ?_
        refine Sl.calm (Cm.assign rfl) rfl ?_
        refine Sl.nil ?_
        first
          | exact At.again (i + 1) ⟨rfl, rfl, rfl, rfl, rfl, trivial⟩ ⟨by omega, hF3.trans hFB⟩ (by show rh.length - (i + 1) < rh.length - i; omega)
          | exact At.again (i + 1) ⟨rfl, rfl, rfl, rfl, rfl, trivial⟩ ⟨by omega, hF3⟩ (by show rh.length - (i + 1) < rh.length - i; omega)
    ·
      refine Sl.calm (Cm.pick_t rfl rfl) rfl ?_
      refine Sl.nil ?_
      refine At.weak [(0, _), (1, _), (2, _), (7, _), (8, _), (27, _)] ⟨rfl, rfl, rfl, rfl, rfl, rfl, trivial⟩ ?_
      refine At.go ?_
      refine Sc.cond_f rfl ?_
      refine Sc.exit ?_
      refine At.then_exit ?_
      refine At.then_exit ?_
      refine At.block_hit ?_
      refine At.go ?_
      refine Sc.seq ?_
      refine Sc.region ?_
      refine Sl.calm (Cm.move rfl) rfl ?_
      refine Sl.calm (Cm.assign rfl) rfl ?_
      refine Sl.nil ?_
      refine At.weak [(0, _), (1, _), (2, _), (6, _), (7, _), (8, _), (27, _)] ⟨rfl, rfl, rfl, rfl, rfl, rfl, rfl, trivial⟩ ?_
      refine At.go ?_
      refine Sc.ret ?_
      refine At.ret1 rfl rfl ?_
      exact ⟨_, rfl, rfl, hF2.trans hF3⟩
  ·
    refine Sl.calm (Cm.move rfl) rfl ?_
    refine Sl.skip rfl rfl rfl rfl ?_
    refine Sl.skip rfl rfl rfl rfl ?_
    refine Sl.calm (Cm.pick_f rfl rfl) rfl ?_
    refine Sl.nil ?_
    refine At.weak [(0, _), (1, _), (2, _), (7, _), (8, _), (27, _)] ⟨rfl, rfl, rfl, rfl, rfl, rfl, trivial⟩ ?_
    refine At.go ?_
    refine Sc.cond_f rfl ?_
    refine Sc.exit ?_
    refine At.then_exit ?_
    refine At.then_exit ?_
    refine At.block_hit ?_
    refine At.go ?_
    refine Sc.seq ?_
    refine Sc.region ?_
    refine Sl.calm (Cm.move rfl) rfl ?_
    refine Sl.calm (Cm.assign rfl) rfl ?_
    refine Sl.nil ?_
    refine At.weak [(0, _), (1, _), (2, _), (6, _), (7, _), (8, _), (27, _)] ⟨rfl, rfl, rfl, rfl, rfl, rfl, rfl, trivial⟩ ?_
    refine At.go ?_
    refine Sc.ret ?_
    refine At.ret1 rfl rfl ?_
    exact ⟨_, rfl, rfl, hF2.trans hF3⟩
end Go.Proofs.Ytpamandneifemaa
