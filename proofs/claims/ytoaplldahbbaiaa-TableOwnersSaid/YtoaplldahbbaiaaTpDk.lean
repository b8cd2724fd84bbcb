/- table: the law on what is written. No condition. -/
import Derived.Test.YtoaplldahbbaiaaTpCk
namespace Go.Proofs.Ytoaplldahbbaiaa
open Go Go.RowKit
set_option linter.unusedVariables false

theorem shown11_ok (W : World) : Calls Try.prog 14 [].toArray W (Ret fun v w' => v = .bool true ∧ Foot nob W w') := by
  have e1 : putNums [5, 258] 2 = ([5, 0, 2, 1], 0) := by decide +kernel
  have e2 : putXs [([97], [98])] = ([1, 1, 97, 1, 98], 0) := by decide +kernel
  refine calls_of_sc 34 [] Try.func14 rfl rfl rfl (enter_slots trivial) ?_
  refine Sc.seq ?_
  refine Sc.region ?_
  refine Sl.calm (Cm.assign rfl) rfl ?_
  refine Sl.nil ?_
  refine At.go ?_
  refine Sc.seq ?_
  refine Sc.region ?_
  refine Sl.lit2 (enc := i64) (u := 5) (u' := 258) sl22 (fun _ => rfl) rfl rfl rfl ?_
  intro w1 ho1 hs1 hf1
  refine Sl.call fn15 rfl (putNums_ok _ _ [5, 258] 2 w1 ho1.vw (by simp)) rfl ?_
  rw [e1]
  rintro _ w2 ⟨ao2, c2, rfl, ho2, hfr2, hf2⟩
  have hF2 := hf1.trans hf2
  refine Sl.calm (Cm.move rfl) rfl ?_
  refine Sl.calm (Cm.extract rfl rfl) rfl ?_
  refine Sl.calm (Cm.extract rfl rfl) rfl ?_
  refine Sl.calm (Cm.assign rfl) rfl ?_
  refine Sl.calm (Cm.assign rfl) rfl ?_
  refine Sl.nil ?_
  refine At.weak [(0, _), (1, _), (2, _)] ⟨rfl, rfl, rfl, trivial⟩ ?_
  refine At.go ?_
  refine Sc.seq ?_
  refine Sc.region ?_
  refine Sl.lit1 (enc := b8) (u := 98) sl25 rfl rfl rfl ?_
  intro w3 ho3 hs3 hf3
  obtain ⟨cur, hcur⟩ := ho3.obj
  refine Sl.markB sl25 ty5 (xs := [98]) rfl hcur ho3.vw rfl ?_
  intro w4 hv4 hs4 hf4
  have hF4 : Foot nob w2 w4 := hf3.trans_to hf4 (fun k hk => .inr (by omega))
  refine Sl.calm (Cm.build (cs := #[.string (bs [97]), .slice (some ⟨w2.heap.size, 0, none⟩) 1 1]) plc82 zc82 rfl (by kernel_rfl)) rfl ?_
  refine Sl.litG sl23 (cs := #[.string (bs [97]), .slice (some ⟨w2.heap.size, 0, none⟩) 1 1]) zc82 rfl rfl rfl (by kernel_rfl) rfl ?_
  intro w5 hg5 hs5 hf5
  have hX5 : XaV w5.heap (some ⟨w4.heap.size, 0, none⟩) 1 [([97], [98])] := ⟨[([97], ⟨some ⟨w2.heap.size, 0, none⟩, 1, 1⟩)], (ownM_new (k := 2) (xs := [(([97] : List UInt8), (⟨some ⟨w2.heap.size, 0, none⟩, 1, 1⟩ : Hd))]) encX_cells hg5 (by simp [maxLen])).vw encX_cells, rfl, fun i x y hx hy => by match i, hx, hy with | 0, hx, hy => (simp at hx hy; subst hx; subst hy; exact ⟨rfl, rfl, hv4.grow hf5, by simp [maxLen]⟩) | i + 1, hx, hy => (simp at hx)⟩
  refine Sl.call fn17 rfl (putX_ok _ _ [([97], [98])] w5 hX5) rfl ?_
  rw [e2]
  rintro _ w6 ⟨ao6, c6, rfl, ho6, hfr6, hf6⟩
  have hF6 := (hF4.trans hf5).trans hf6
  refine Sl.calm (Cm.move rfl) rfl ?_
  refine Sl.calm (Cm.extract rfl rfl) rfl ?_
  refine Sl.calm (Cm.extract rfl rfl) rfl ?_
  refine Sl.calm (Cm.assign rfl) rfl ?_
  refine Sl.calm (Cm.assign rfl) rfl ?_
  refine Sl.nil ?_
  refine At.weak [(0, _), (1, _), (2, _), (3, _), (4, _)] ⟨rfl, rfl, rfl, rfl, rfl, trivial⟩ ?_
  refine At.go ?_
  refine Sc.seq ?_
  refine Sc.region ?_
  refine Sl.calm (Cm.move rfl) rfl ?_
  refine Sl.calm (Cm.strIn sl25 ty5 ty9 rfl (ho2.grow hF6).vw) rfl ?_
  refine Sl.calm (Cm.yes (Cm.eqlBs rfl rfl) rfl) rfl ?_
  refine Sl.calm (Cm.move rfl) rfl ?_
  refine Sl.want rfl rfl (Cm.move rfl) rfl ?_
  refine Sl.want rfl rfl (Cm.yes (Cm.eql rfl rfl) rfl) rfl ?_
  refine Sl.calm (Cm.pick_t rfl rfl) rfl ?_
  refine Sl.calm (Cm.move rfl) rfl ?_
  refine Sl.want rfl rfl (Cm.move rfl) rfl ?_
  refine Sl.want rfl rfl (Cm.strIn sl25 ty5 ty9 rfl ho6.vw) rfl ?_
  refine Sl.want rfl rfl (Cm.yes (Cm.eqlBs rfl rfl) rfl) rfl ?_
  refine Sl.calm (Cm.pick_t rfl rfl) rfl ?_
  refine Sl.calm (Cm.move rfl) rfl ?_
  refine Sl.want rfl rfl (Cm.move rfl) rfl ?_
  refine Sl.want rfl rfl (Cm.yes (Cm.eql rfl rfl) rfl) rfl ?_
  refine Sl.calm (Cm.pick_t rfl rfl) rfl ?_
  refine Sl.calm (Cm.assign rfl) rfl ?_
  refine Sl.nil ?_
  refine At.weak [(0, _), (1, _), (2, _), (3, _), (4, _)] ⟨rfl, rfl, rfl, rfl, rfl, trivial⟩ ?_
  refine At.go ?_
  refine Sc.ret ?_
  refine At.ret1 rfl rfl ?_
  exact ⟨_, rfl, rfl, hF2.trans hF6⟩

theorem slcut1 {α : Type} {l : List α} {n : Nat} {z : Int} {ao : Option Addr} {c s : Nat} (hz : z = n) (h : n < l.length) : Value.slice (cutAo ao c 0 s) z.toNat c = .slice ao (l.take n).length c := by
  rw [cutAo_zero, List.length_take]; congr 1; omega
theorem slcut2 {α : Type} {l : List α} {n : Nat} {ao : Option Addr} {c : Nat} (h : ¬ n < l.length) : Value.slice ao l.length c = .slice ao (l.take n).length c := by
  rw [List.length_take]; congr 1; omega
theorem putXs_zero (X : List Xa) : (putXs X).2 = 0 ↔ X.length ≠ 0 ∧ mayX X := by
  unfold putXs
  by_cases h : X.length = 0 ∨ ¬ mayX X
  · rw [if_pos h]; simp only [Int.one_ne_zero, false_iff]; intro h2; rcases h with h | h; exact h2.1 h; exact h h2.2
  · rw [if_neg h]; simp only [true_iff]; exact ⟨fun e => h (.inl e), Classical.byContradiction fun e => h (.inr e)⟩

set_option maxHeartbeats 1000000 in
theorem tablePuts_ok (lo : Option Addr) (lc : Nat) (l : List Int) (wide : Int) (xo : Option Addr) (xc : Nat) (X : List Xa) (W : World) (hv : Vw i64 W.heap lo lc l) (hx : XaV W.heap xo xc X) :
    Calls Try.prog 3 [.slice lo l.length lc, .int .i64 wide, .slice xo X.length xc].toArray W (Ret fun v w' => v = .bool true ∧ Foot nob W w') := by
  have hl := hv.len63
  have hxl := hx.len63
  have hvl := hv.le
  have hxle := hx.le
  refine calls_of_sc 86 [(0, _), (1, _), (2, _)] Try.func3 rfl rfl rfl (enter_slots ⟨rfl, rfl, rfl, trivial⟩) ?_
  refine Sc.seq ?_
  refine Sc.region ?_
  refine Sl.calm (Cm.assign rfl) rfl ?_
  refine Sl.nil ?_
  refine At.go ?_
  refine Sc.seq ?_
  refine Sc.region ?_
  refine Sl.call fn14 rfl (shown11_ok W) rfl ?_
  rintro _ w1 ⟨rfl, hF1⟩
  refine Sl.calm (Cm.assign rfl) rfl ?_
  refine Sl.nil ?_
  refine At.weak [(0, _), (1, _), (2, _), (6, _), (7, _)] ⟨rfl, rfl, rfl, rfl, rfl, trivial⟩ ?_
  refine At.go ?_
  refine Sc.cut (β := Unit) (fun _u => [(0, .slice lo (l.take 200).length lc), (1, .int .i64 wide), (2, .slice xo X.length xc), (7, .bool true)]) (fun _u w => Foot nob W w) ?_ ?_
  ·
    refine Sc.seq ?_
    refine Sc.region ?_
    refine Sl.calm (Cm.move rfl) rfl ?_
    refine Sl.calm (Cm.len sl22 rfl) rfl ?_
    refine Sl.fork (Cm.gtr rfl rfl) rfl (fun h19 => ?_) (fun h19 => ?_)
    ·
      refine Sl.nil ?_
      refine At.weak [(0, _), (1, _), (2, _), (6, _), (7, _), (19, _)] ⟨rfl, rfl, rfl, rfl, rfl, rfl, trivial⟩ ?_
      refine At.go ?_
      refine Sc.cond_t rfl ?_
      refine Sc.region ?_
      refine Sl.calm (Cm.move rfl) rfl ?_
      refine Sl.calm (Cm.sliceH sl22 rfl rfl (by omega)) rfl ?_
      refine Sl.calm (Cm.assign rfl) rfl ?_
      refine Sl.nil ?_
      refine At.cut () ⟨(by first | exact congrArg some (slcut1 rfl (by omega)) | exact congrArg some (slcut2 (by omega))), rfl, rfl, rfl, trivial⟩ ?_
      exact hF1
    ·
      refine Sl.nil ?_
      refine At.weak [(0, _), (1, _), (2, _), (6, _), (7, _), (19, _)] ⟨rfl, rfl, rfl, rfl, rfl, rfl, trivial⟩ ?_
      refine At.go ?_
      refine Sc.cond_f rfl ?_
      refine Sc.skip ?_
      refine At.cut () ⟨(by first | exact congrArg some (slcut1 rfl (by omega)) | exact congrArg some (slcut2 (by omega))), rfl, rfl, rfl, trivial⟩ ?_
      exact hF1
  ·
    rintro _ w2 hF2
    refine Sc.cut (β := Unit) (fun _u => [(0, .slice lo (l.take 200).length lc), (1, .int .i64 wide), (2, .slice xo (X.take 12).length xc), (7, .bool true)]) (fun _u w => Foot nob W w) ?_ ?_
    ·
      refine Sc.seq ?_
      refine Sc.region ?_
      refine Sl.calm (Cm.move rfl) rfl ?_
      refine Sl.calm (Cm.len sl23 rfl) rfl ?_
      refine Sl.fork (Cm.gtr rfl rfl) rfl (fun h24 => ?_) (fun h24 => ?_)
      ·
        refine Sl.nil ?_
        refine At.weak [(0, _), (1, _), (2, _), (7, _), (24, _)] ⟨rfl, rfl, rfl, rfl, rfl, trivial⟩ ?_
        refine At.go ?_
        refine Sc.cond_t rfl ?_
        refine Sc.region ?_
        refine Sl.calm (Cm.move rfl) rfl ?_
        refine Sl.calm (Cm.sliceH sl23 rfl rfl (by omega)) rfl ?_
        refine Sl.calm (Cm.assign rfl) rfl ?_
        refine Sl.nil ?_
        refine At.cut () ⟨rfl, rfl, (by first | exact congrArg some (slcut1 rfl (by omega)) | exact congrArg some (slcut2 (by omega))), rfl, trivial⟩ ?_
        exact hF2
      ·
        refine Sl.nil ?_
        refine At.weak [(0, _), (1, _), (2, _), (7, _), (24, _)] ⟨rfl, rfl, rfl, rfl, rfl, trivial⟩ ?_
        refine At.go ?_
        refine Sc.cond_f rfl ?_
        refine Sc.skip ?_
        refine At.cut () ⟨rfl, rfl, (by first | exact congrArg some (slcut1 rfl (by omega)) | exact congrArg some (slcut2 (by omega))), rfl, trivial⟩ ?_
        exact hF2
    ·
      rintro _ w3 hF3
      have hv3 := (hv.take 200).grow hF3
      have hx3 := (hx.take 12).grow hF3
      have hl3 : (l.take 200).length ≤ 200 := by simp; omega
      refine Sc.seq ?_
      refine Sc.region ?_
      refine Sl.calm (Cm.move rfl) rfl ?_
      refine Sl.calm (Cm.move rfl) rfl ?_
      refine Sl.call fn15 rfl (putNums_ok lo lc _ wide w3 hv3 (by omega)) rfl ?_
      rintro _ w4 ⟨a4, c4, rfl, ho4, hfr4, hf4⟩
      refine Sl.calm (Cm.move rfl) rfl ?_
      refine Sl.calm (Cm.extract rfl rfl) rfl ?_
      refine Sl.calm (Cm.extract rfl rfl) rfl ?_
      refine Sl.calm (Cm.assign rfl) rfl ?_
      refine Sl.calm (Cm.assign rfl) rfl ?_
      refine Sl.nil ?_
      refine At.weak [(0, _), (1, _), (2, _), (7, _), (8, _), (9, _)] ⟨rfl, rfl, rfl, rfl, rfl, rfl, trivial⟩ ?_
      refine At.go ?_
      refine Sc.seq ?_
      refine Sc.region ?_
      refine Sl.calm (Cm.move rfl) rfl ?_
      refine Sl.calm (Cm.move rfl) rfl ?_
      refine Sl.call fn16 rfl (rputNums_ok lo lc _ wide w4 (hv3.grow hf4) (by omega)) rfl ?_
      rintro _ w5 ⟨a5, c5, rfl, ho5, hfr5, hf5⟩
      refine Sl.calm (Cm.move rfl) rfl ?_
      refine Sl.calm (Cm.extract rfl rfl) rfl ?_
      refine Sl.calm (Cm.extract rfl rfl) rfl ?_
      refine Sl.calm (Cm.assign rfl) rfl ?_
      refine Sl.calm (Cm.assign rfl) rfl ?_
      refine Sl.nil ?_
      refine At.weak [(0, _), (1, _), (2, _), (7, _), (8, _), (9, _), (10, _), (11, _)] ⟨rfl, rfl, rfl, rfl, rfl, rfl, rfl, rfl, trivial⟩ ?_
      refine At.go ?_
      refine Sc.seq ?_
      refine Sc.region ?_
      refine Sl.calm (Cm.move rfl) rfl ?_
      refine Sl.call fn17 rfl (putX_ok xo xc _ w5 ((hx3.grow hf4).grow hf5)) rfl ?_
      rintro _ w6 ⟨a6, c6, rfl, ho6, hfr6, hf6⟩
      refine Sl.calm (Cm.move rfl) rfl ?_
      refine Sl.calm (Cm.extract rfl rfl) rfl ?_
      refine Sl.calm (Cm.extract rfl rfl) rfl ?_
      refine Sl.calm (Cm.assign rfl) rfl ?_
      refine Sl.calm (Cm.assign rfl) rfl ?_
      refine Sl.nil ?_
      refine At.weak [(0, _), (1, _), (2, _), (7, _), (8, _), (9, _), (10, _), (11, _), (12, _), (13, _)] ⟨rfl, rfl, rfl, rfl, rfl, rfl, rfl, rfl, rfl, rfl, trivial⟩ ?_
      refine At.go ?_
      refine Sc.seq ?_
      refine Sc.region ?_
      refine Sl.calm (Cm.move rfl) rfl ?_
      refine Sl.call fn18 rfl (rputX_ok xo xc _ w6 (((hx3.grow hf4).grow hf5).grow hf6)) rfl ?_
      rintro _ w7 ⟨a7, c7, rfl, ho7, hfr7, hf7⟩
      refine Sl.calm (Cm.move rfl) rfl ?_
      refine Sl.calm (Cm.extract rfl rfl) rfl ?_
      refine Sl.calm (Cm.extract rfl rfl) rfl ?_
      refine Sl.calm (Cm.assign rfl) rfl ?_
      refine Sl.calm (Cm.assign rfl) rfl ?_
      refine Sl.nil ?_
      refine At.weak [(0, _), (1, _), (2, _), (7, _), (8, _), (9, _), (10, _), (11, _), (12, _), (13, _), (14, _), (15, _)] ⟨rfl, rfl, rfl, rfl, rfl, rfl, rfl, rfl, rfl, rfl, rfl, rfl, trivial⟩ ?_
      refine At.go ?_
      refine Sc.seq ?_
      refine Sc.region ?_
      refine Sl.calm (Cm.move rfl) rfl ?_
      refine Sl.calm (Cm.move rfl) rfl ?_
      refine Sl.want rfl rfl (Cm.move rfl) rfl ?_
      refine Sl.want rfl rfl (Cm.strIn sl25 ty5 ty9 rfl (((ho4.grow hf5).grow hf6).grow hf7).vw) rfl ?_
      refine Sl.want rfl rfl (Cm.move rfl) rfl ?_
      refine Sl.want rfl rfl (Cm.strIn sl25 ty5 ty9 rfl ((ho5.grow hf6).grow hf7).vw) rfl ?_
      refine Sl.want rfl rfl (Cm.yes (Cm.eqlBs rfl rfl) rfl) rfl ?_
      refine Sl.calm (Cm.pick_t rfl rfl) rfl ?_
      refine Sl.calm (Cm.move rfl) rfl ?_
      refine Sl.want rfl rfl (Cm.move rfl) rfl ?_
      refine Sl.want rfl rfl (Cm.move rfl) rfl ?_
      refine Sl.want rfl rfl (Cm.yes (Cm.eql rfl rfl) rfl) rfl ?_
      refine Sl.calm (Cm.pick_t rfl rfl) rfl ?_
      refine Sl.calm (Cm.move rfl) rfl ?_
      refine Sl.want rfl rfl (Cm.move rfl) rfl ?_
      refine Sl.want rfl rfl (Cm.strIn sl25 ty5 ty9 rfl (ho6.grow hf7).vw) rfl ?_
      refine Sl.want rfl rfl (Cm.move rfl) rfl ?_
      refine Sl.want rfl rfl (Cm.strIn sl25 ty5 ty9 rfl ho7.vw) rfl ?_
      refine Sl.want rfl rfl (Cm.yes (Cm.eqlBs rfl rfl) rfl) rfl ?_
      refine Sl.calm (Cm.pick_t rfl rfl) rfl ?_
      refine Sl.calm (Cm.move rfl) rfl ?_
      refine Sl.want rfl rfl (Cm.move rfl) rfl ?_
      refine Sl.want rfl rfl (Cm.move rfl) rfl ?_
      refine Sl.want rfl rfl (Cm.yes (Cm.eql rfl rfl) rfl) rfl ?_
      refine Sl.calm (Cm.pick_t rfl rfl) rfl ?_
      refine Sl.calm (Cm.move rfl) rfl ?_
      refine Sl.want rfl rfl (Cm.move rfl) rfl ?_
      refine Sl.callWant rfl rfl fn19 rfl (mayX_ok xo xc _ w7 ((((hx3.grow hf4).grow hf5).grow hf6).grow hf7)) rfl ?_
      rintro _ w8 ⟨rfl, hf8⟩
      refine Sl.want rfl rfl (Cm.move rfl) rfl ?_
      refine Sl.forkWant rfl rfl (Cm.eql rfl rfl) rfl (fun h78 => ?_) (fun h78 => ?_)
      ·
        refine Sl.want rfl rfl (Cm.move rfl) rfl ?_
        refine Sl.skip rfl rfl rfl rfl ?_
        refine Sl.skip rfl rfl rfl rfl ?_
        refine Sl.skip rfl rfl rfl rfl ?_
        refine Sl.want rfl rfl (Cm.pick_t rfl rfl) rfl ?_
        refine Sl.want rfl rfl (Cm.yes (Cm.ofBool (Cm.eqlBool ty4 rfl rfl)) (by rw [decide_eq_true ((putXs_zero _).1 h78).2]; rfl)) rfl ?_
        refine Sl.calm (Cm.pick_t rfl rfl) rfl ?_
        refine Sl.calm (Cm.assign rfl) rfl ?_
        refine Sl.nil ?_
        refine At.weak [(0, _), (1, _), (2, _), (6, _), (7, _), (8, _), (9, _), (10, _), (11, _), (12, _), (13, _), (14, _), (15, _)] ⟨rfl, rfl, rfl, rfl, rfl, rfl, rfl, rfl, rfl, rfl, rfl, rfl, rfl, trivial⟩ ?_
        refine At.go ?_
        refine Sc.ret ?_
        refine At.ret1 rfl rfl ?_
        exact ⟨_, rfl, rfl, ((((hF3.trans hf4).trans hf5).trans hf6).trans hf7).trans hf8⟩
      ·
        refine Sl.want rfl rfl (Cm.move rfl) rfl ?_
        refine Sl.want rfl rfl (Cm.move rfl) rfl ?_
        refine Sl.want rfl rfl (Cm.len sl23 rfl) rfl ?_
        refine Sl.forkWant rfl rfl (Cm.eql rfl rfl) rfl (fun h82 => ?_) (fun h82 => ?_)
        ·
          refine Sl.want rfl rfl (Cm.pick_f rfl rfl) rfl ?_
          refine Sl.want rfl rfl (Cm.yes (Cm.ofBool (Cm.eqlBool ty4 rfl rfl)) (by rw [decide_eq_true (show mayX (X.take 12) from ⟨fun i hi => by omega, by omega⟩)]; rfl)) rfl ?_
          refine Sl.calm (Cm.pick_t rfl rfl) rfl ?_
          refine Sl.calm (Cm.assign rfl) rfl ?_
          refine Sl.nil ?_
          refine At.weak [(0, _), (1, _), (2, _), (6, _), (7, _), (8, _), (9, _), (10, _), (11, _), (12, _), (13, _), (14, _), (15, _)] ⟨rfl, rfl, rfl, rfl, rfl, rfl, rfl, rfl, rfl, rfl, rfl, rfl, rfl, trivial⟩ ?_
          refine At.go ?_
          refine Sc.ret ?_
          refine At.ret1 rfl rfl ?_
          exact ⟨_, rfl, rfl, ((((hF3.trans hf4).trans hf5).trans hf6).trans hf7).trans hf8⟩
        ·
          refine Sl.want rfl rfl (Cm.pick_f rfl rfl) rfl ?_
          refine Sl.want rfl rfl (Cm.yes (Cm.ofBool (Cm.eqlBool ty4 rfl rfl)) (by rw [decide_eq_false (fun hm => h78 ((putXs_zero _).2 ⟨by omega, hm⟩))]; rfl)) rfl ?_
          refine Sl.calm (Cm.pick_t rfl rfl) rfl ?_
          refine Sl.calm (Cm.assign rfl) rfl ?_
          refine Sl.nil ?_
          refine At.weak [(0, _), (1, _), (2, _), (6, _), (7, _), (8, _), (9, _), (10, _), (11, _), (12, _), (13, _), (14, _), (15, _)] ⟨rfl, rfl, rfl, rfl, rfl, rfl, rfl, rfl, rfl, rfl, rfl, rfl, rfl, trivial⟩ ?_
          refine At.go ?_
          refine Sc.ret ?_
          refine At.ret1 rfl rfl ?_
          exact ⟨_, rfl, rfl, ((((hF3.trans hf4).trans hf5).trans hf6).trans hf7).trans hf8⟩
end Go.Proofs.Ytoaplldahbbaiaa
