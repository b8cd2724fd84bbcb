/- data: New, Done, Frame, the program's. No condition beyond the bounds that each states. -/
import Derived.Test.YtpnfjfbfgaiolaaDoorDaPk
namespace Go.Proofs.YtpnfjfbfgaiolaaDoor
open Go Go.RowKit
set_option linter.unusedVariables false

set_option maxHeartbeats 1000000 in
theorem dnew_ok (p first : Nat) (W : World) (ht : TbV W.heap p) :
    Calls Tryd.prog 11 [.pointer (some ⟨p, 0, none⟩), .int .i64 first].toArray W (Ret fun v w' => v = .pointer (some ⟨W.heap.size + 1, 0, none⟩) ∧ DwO (fun k => W.heap.size ≤ k) w'.heap (W.heap.size + 1) p first ⟨[], []⟩ ∧ Foot nob W w') := by
  have hpl := (Array.getElem?_eq_some_iff.1 ht).1
  refine calls_of_sc 10 [(0, _), (1, _)] Tryd.func11 rfl rfl rfl (enter_slots ⟨rfl, rfl, trivial⟩) ?_
  refine Sc.seq ?_
  refine Sc.region ?_
  refine Sl.calm (Cm.assign rfl) rfl ?_
  refine Sl.nil ?_
  refine At.go ?_
  refine Sc.seq ?_
  refine Sc.region ?_
  refine Sl.calm (Cm.move rfl) rfl ?_
  refine Sl.calm (Cm.move rfl) rfl ?_
  refine Sl.makeMap (enc := enS) rfl ?_
  intro w1 hm1 hs1 hf1
  refine Sl.calm (Cm.build (cs := #[.pointer (some ⟨p, 0, none⟩), .int .i64 first, .slice none 0 0, .map (some W.heap.size)]) plc61 zc61 rfl (by kernel_rfl)) rfl ?_
  refine Sl.box rfl rfl ?_
  intro w2 hg2 hs2 hf2
  rw [hs1] at hg2 ⊢
  refine Sl.calm (Cm.assign rfl) rfl ?_
  refine Sl.nil ?_
  refine At.weak [(0, _), (1, _), (4, _)] ⟨rfl, rfl, rfl, trivial⟩ ?_
  refine At.go ?_
  refine Sc.ret ?_
  refine At.ret1 rfl rfl ?_
  exact ⟨_, rfl, rfl, ⟨none, 0, W.heap.size, hg2, Own.nil, hm1.keep hf2 id, (fun ⟨a, ha, _⟩ => by cases ha), (by omega), (fun ⟨a, ha, _⟩ => by cases ha), (by omega), (fun k ⟨a, ha, _⟩ => by cases ha), Nat.le_refl _, (hf1.trans hf2).obj ht id, (by omega)⟩, hf1.trans hf2⟩
theorem ddone_ok (D : Nat → Prop) (g p first : Nat) (s : DS) (W : World) (hM : DwO D W.heap g p first s) (hb : s.B.length ≤ 1099511627776) :
    Calls Tryd.prog 13 [.pointer (some ⟨g, 0, none⟩)].toArray W (Ret (CloneB W s.B)) := by
  obtain ⟨bo, bc, mg, hg, h1, h2, h3, h4, h5, h6, h7, h8, h9, h10⟩ := hM
  refine calls_of_sc 8 [(0, _)] Tryd.func13 rfl rfl rfl (enter_slots ⟨rfl, trivial⟩) ?_
  refine Sc.seq ?_
  refine Sc.region ?_
  refine Sl.calm (Cm.assign rfl) rfl ?_
  refine Sl.nil ?_
  refine At.go ?_
  refine Sc.seq ?_
  refine Sc.region ?_
  refine Sl.calm (Cm.move rfl) rfl ?_
  refine Sl.calm (Cm.nilCheck rfl) rfl ?_
  refine Sl.calm (Cm.field fld61_2 rfl) rfl ?_
  refine Sl.calm (Cm.ld sca23 rfl (cellF hg rfl)) rfl ?_
  refine Sl.call fn25 rfl (clone_ok bo bc s.B W h1.vw (by omega)) rfl ?_
  intro _ w1 hP1
  refine Sl.calm (Cm.assign rfl) rfl ?_
  refine Sl.nil ?_
  refine At.weak [(0, _), (2, _)] ⟨rfl, rfl, trivial⟩ ?_
  refine At.go ?_
  refine Sc.ret ?_
  refine At.ret1 rfl rfl ?_
  exact ⟨_, rfl, hP1⟩
def frmD (first : Nat) (s : DS) (b : List UInt8) : DS × Nat := (⟨s.B ++ (putS b).1, s.m⟩, first + s.B.length)
set_option maxHeartbeats 2000000 in
theorem dframe_ok (D : Nat → Prop) (g p first : Nat) (s : DS) (bo0 : Option Addr) (bc0 : Nat) (b : List UInt8) (W : World) (hM : DwO D W.heap g p first s) (hD : ∀ k, W.heap.size ≤ k → D k) (hv : Vw b8 W.heap bo0 bc0 b) (hfi : first ≤ 1000) (hb : s.B.length ≤ 1099511627776) (hbl : b.length ≤ 128) :
    Calls Tryd.prog 14 [.pointer (some ⟨g, 0, none⟩), .slice bo0 b.length bc0].toArray W
      (Ret fun v w' => v = .int .i64 ((frmD first s b).2 : Nat) ∧ DwO D w'.heap g p first (frmD first s b).1 ∧ Foot D W w') := by
  obtain ⟨bo, bc, mg, hg, h1, h2, h3, h4, h5, h6, h7, h8, h9, h10⟩ := hM
  have hgl := (Array.getElem?_eq_some_iff.1 hg).1
  have hps := putS_len hbl
  refine calls_of_sc 37 [(0, _), (1, _)] Tryd.func14 rfl rfl rfl (enter_slots ⟨rfl, rfl, trivial⟩) ?_
  refine Sc.seq ?_
  refine Sc.region ?_
  refine Sl.calm (Cm.assign rfl) rfl ?_
  refine Sl.nil ?_
  refine At.go ?_
  refine Sc.seq ?_
  refine Sc.region ?_
  refine Sl.calm (Cm.move rfl) rfl ?_
  refine Sl.calm (Cm.nilCheck rfl) rfl ?_
  refine Sl.calm (Cm.field fld61_0 rfl) rfl ?_
  refine Sl.calm (Cm.ld sca32 rfl (cellF hg rfl)) rfl ?_
  refine Sl.calm (Cm.move rfl) rfl ?_
  refine Sl.call fn24 rfl (fput_ok p bo0 bc0 b W h9 hv) rfl ?_
  rintro _ w1 ⟨o1, c1, rfl, ho1, hfr1, hf1⟩
  have hg1 := hf1.obj hg id
  refine Sl.calm (Cm.move rfl) rfl ?_
  refine Sl.calm (Cm.extract rfl rfl) rfl ?_
  refine Sl.calm (Cm.extract rfl rfl) rfl ?_
  refine Sl.calm (Cm.assign rfl) rfl ?_
  refine Sl.calm (Cm.assign rfl) rfl ?_
  refine Sl.nil ?_
  refine At.weak [(0, _), (1, _), (4, _), (5, _)] ⟨rfl, rfl, rfl, rfl, trivial⟩ ?_
  refine At.go ?_
  refine Sc.seq ?_
  refine Sc.draw 11 (fun H => H[g]? = some (.cells (dwC p first bo s.B.length bc mg).toArray 61 (0, 0))) [] [0, 1, 2, 3, 4, 5, 6, 7, 8, 9, 10] mixed (by kernel_rfl) (hg1) ?_
  refine Sx.calm rfl rfl (Cm.move rfl) rfl ?_
  refine Sx.calm rfl rfl (Cm.nilCheck rfl) rfl ?_
  refine Sx.calm rfl rfl (Cm.field fld61_1 rfl) rfl ?_
  refine Sx.calm rfl rfl (Cm.load sca3 rfl (fun H hH => cellF hH rfl)) rfl ?_
  refine Sx.calm rfl rfl (Cm.move rfl) rfl ?_
  refine Sx.calm rfl rfl (Cm.nilCheck rfl) rfl ?_
  refine Sx.calm rfl rfl (Cm.field fld61_2 rfl) rfl ?_
  refine Sx.calm rfl rfl (Cm.load sca23 rfl (fun H hH => cellF hH rfl)) rfl ?_
  refine Sx.calm rfl rfl (Cm.len sl23 rfl) rfl ?_
  refine Sx.calm rfl rfl (Cm.add64 rfl rfl (by omega)) rfl ?_
  refine Sx.calm rfl rfl (Cm.assign rfl) rfl ?_
  refine Sx.nil ?_
  refine At.weak [(0, _), (1, _), (4, _), (5, _), (7, _)] ⟨rfl, rfl, rfl, rfl, rfl, trivial⟩ ?_
  refine At.go ?_
  refine Sc.seq ?_
  refine Sc.region ?_
  refine Sl.calm (Cm.move rfl) rfl ?_
  refine Sl.calm (Cm.move rfl) rfl ?_
  refine Sl.calm (Cm.nilCheck rfl) rfl ?_
  refine Sl.calm (Cm.field fld61_2 rfl) rfl ?_
  refine Sl.calm (Cm.ld sca23 rfl (cellF hg1 rfl)) rfl ?_
  refine Sl.calm (Cm.move rfl) rfl ?_
  refine Sl.append b8_one sl23 rfl rfl (h1.grow (hf1.draws 1)) ho1.vw (by omega) (by unfold maxLen; omega) rfl ?_
  intro o2 c2 w2 ho2 hf2 hr2 hn2
  have hf2 := hf2.undraw
  have hg2 := hf2.obj hg1 h3
  refine Sl.calm (Cm.nilCheck rfl) rfl ?_
  refine Sl.calm (Cm.field fld61_2 rfl) rfl ?_
  refine Sl.store sca23 rfl rfl rfl hg2 rfl ?_
  intro w3 hg3 hs3 hf3
  obtain ⟨hM3, hF3⟩ := dw_b (W := w1) (mq := s.m) (first := first) (Bq := s.B ++ (putS b).1) (hf_lt hf1 hD) (h2.keep hf1 id) h3 h4 h5 h6 h7 h8 (hf1.obj h9 id) h10 (by have := hf1.size; omega) ho2 hf2 hr2 hg3 hf3
  refine Sl.nil ?_
  refine At.weak [(0, _), (1, _), (4, _), (5, _), (7, _)] ⟨rfl, rfl, rfl, rfl, rfl, trivial⟩ ?_
  refine At.go ?_
  refine Sc.seq ?_
  refine Sc.region ?_
  refine Sl.calm (Cm.move rfl) rfl ?_
  refine Sl.calm (Cm.assign rfl) rfl ?_
  refine Sl.nil ?_
  refine At.weak [(0, _), (1, _), (4, _), (5, _), (7, _)] ⟨rfl, rfl, rfl, rfl, rfl, trivial⟩ ?_
  refine At.go ?_
  refine Sc.ret ?_
  refine At.ret1 rfl rfl ?_
  exact ⟨_, rfl, rfl, hM3, hf1.any.trans hF3⟩
end Go.Proofs.YtpnfjfbfgaiolaaDoor
