/- lz: the laws. No condition beyond the bounds that each states. -/
import Derived.Test.YtapmfoogjkdffaaLzG
namespace Go.Proofs.Ytapmfoogjkdffaa
open Go Go.RowKit
set_option linter.unusedVariables false

theorem wf_i64 {z : Int} (h : (Lit.int .i64 z).wf = true) : -9223372036854775808 ≤ z ∧ z ≤ 9223372036854775807 := by
  have h1 : IntKind.i64.min = -9223372036854775808 := rfl
  have h2 : IntKind.i64.max = 9223372036854775807 := rfl
  simp only [Lit.wf, h1, h2, Bool.and_eq_true, decide_eq_true_eq] at h
  exact h
theorem wf_u8 {z : Int} (h : (Lit.int .u8 z).wf = true) : 0 ≤ z ∧ z ≤ 255 := by
  have h1 : IntKind.u8.min = 0 := rfl
  have h2 : IntKind.u8.max = 255 := rfl
  simp only [Lit.wf, h1, h2, Bool.and_eq_true, decide_eq_true_eq] at h
  exact h

set_option maxHeartbeats 1000000 in
theorem lzPacks_ok (b0 : List UInt8) (ao : Option Addr) (cap : Nat) (W : World) (hv0 : Vw b8 W.heap ao cap b0) :
    Calls Try.prog 5 [.slice ao b0.length cap].toArray W (Ret fun v w' => v = .bool true ∧ Foot nob W w') := by
  refine calls_of_sc 45 [(0, _)] Try.func5 rfl rfl rfl (enter_slots ⟨rfl, trivial⟩) ?_
  refine Sc.seq ?_
  refine Sc.region ?_
  refine Sl.calm (Cm.assign rfl) rfl ?_
  refine Sl.nil ?_
  refine At.go ?_
  refine Sc.seq ?_
  refine Sc.region ?_
  refine Sl.call fn20 rfl (shown01_ok W) rfl ?_
  rintro _ w1 ⟨rfl, hf1⟩
  refine Sl.calm (Cm.assign rfl) rfl ?_
  refine Sl.nil ?_
  refine At.weak [(0, _), (2, _), (3, _)] ⟨rfl, rfl, rfl, trivial⟩ ?_
  refine At.go ?_
  refine Sc.seq ?_
  refine Sc.region ?_
  refine Sl.calm (Cm.move rfl) rfl ?_
  refine Sl.call fn21 rfl (few_ok ao cap b0 5000 w1 (hv0.grow hf1)) rfl ?_
  rintro _ wq ⟨rfl, hwq⟩
  subst wq
  obtain ⟨b, hb⟩ : ∃ b, b = b0.take 5000 := ⟨_, rfl⟩
  have hbl : b.length ≤ 5000 := by rw [hb, List.length_take]; omega
  have hv : Vw b8 w1.heap ao cap b := by rw [hb]; exact (hv0.grow hf1).take 5000
  rw [← hb]
  refine Sl.calm (Cm.assign rfl) rfl ?_
  refine Sl.nil ?_
  refine At.weak [(0, _), (2, _), (3, _)] ⟨rfl, rfl, rfl, trivial⟩ ?_
  refine At.go ?_
  refine Sc.seq ?_
  refine Sc.region ?_
  refine Sl.lit0 b8 sl30 rfl ?_
  intro w2 ho2 hs2 hf2
  refine Sl.calm (Cm.move rfl) rfl ?_
  refine Sl.append b8_one sl30 rfl rfl ho2 (hv.grow hf2) (by simp; omega) (by simp; unfold maxLen; omega) rfl ?_
  intro o3 c3 w3 ho3 hf3 hr3 hn3
  rw [List.nil_append] at ho3 ⊢
  have hF3 : Foot nob w1 w3 := hf2.trans_to hf3 (fr_at _).step
  refine Sl.calm (Cm.assign rfl) rfl ?_
  refine Sl.nil ?_
  refine At.weak [(0, _), (2, _), (3, _), (4, _)] ⟨rfl, rfl, rfl, rfl, trivial⟩ ?_
  refine At.go ?_
  refine Sc.seq ?_
  refine Sc.region ?_
  refine Sl.calm (Cm.move rfl) rfl ?_
  refine Sl.call fn22 rfl (pack_ok o3 c3 b w3 ho3.vw) rfl ?_
  rintro _ w4 ⟨o4, c4, rfl, ho4, hfr4, hf4⟩
  refine Sl.calm (Cm.move rfl) rfl ?_
  refine Sl.calm (Cm.extract rfl rfl) rfl ?_
  refine Sl.calm (Cm.extract rfl rfl) rfl ?_
  refine Sl.calm (Cm.assign rfl) rfl ?_
  refine Sl.calm (Cm.assign rfl) rfl ?_
  refine Sl.nil ?_
  refine At.weak [(0, _), (2, _), (3, _), (4, _), (5, _), (6, _)] ⟨rfl, rfl, rfl, rfl, rfl, rfl, trivial⟩ ?_
  refine At.go ?_
  refine Sc.seq ?_
  refine Sc.region ?_
  refine Sl.calm (Cm.move rfl) rfl ?_
  refine Sl.call fn23 rfl (rpack_ok ao cap b w4 (hv.grow (hF3.trans hf4))) rfl ?_
  rintro _ w5 ⟨o5, c5, rfl, ho5, hfr5, hf5⟩
  refine Sl.calm (Cm.move rfl) rfl ?_
  refine Sl.calm (Cm.extract rfl rfl) rfl ?_
  refine Sl.calm (Cm.extract rfl rfl) rfl ?_
  refine Sl.calm (Cm.assign rfl) rfl ?_
  refine Sl.calm (Cm.assign rfl) rfl ?_
  refine Sl.nil ?_
  refine At.weak [(0, _), (2, _), (3, _), (4, _), (5, _), (6, _), (7, _), (8, _)] ⟨rfl, rfl, rfl, rfl, rfl, rfl, rfl, rfl, trivial⟩ ?_
  refine At.go ?_
  refine Sc.seq ?_
  refine Sc.region ?_
  refine Sl.calm (Cm.move rfl) rfl ?_
  refine Sl.calm (Cm.move rfl) rfl ?_
  refine Sl.want rfl rfl (Cm.move rfl) rfl ?_
  refine Sl.want rfl rfl (Cm.strIn sl30 ty5 ty9 rfl (ho4.grow hf5).vw) rfl ?_
  refine Sl.want rfl rfl (Cm.move rfl) rfl ?_
  refine Sl.want rfl rfl (Cm.strIn sl30 ty5 ty9 rfl ho5.vw) rfl ?_
  refine Sl.want rfl rfl (Cm.yes (Cm.eqlBs rfl rfl) rfl) rfl ?_
  refine Sl.calm (Cm.pick_t rfl rfl) rfl ?_
  refine Sl.calm (Cm.move rfl) rfl ?_
  refine Sl.want rfl rfl (Cm.move rfl) rfl ?_
  refine Sl.want rfl rfl (Cm.move rfl) rfl ?_
  refine Sl.want rfl rfl (Cm.yes (Cm.eql rfl rfl) rfl) rfl ?_
  refine Sl.calm (Cm.pick_t rfl rfl) rfl ?_
  refine Sl.calm (Cm.move rfl) rfl ?_
  refine Sl.want rfl rfl (Cm.move rfl) rfl ?_
  refine Sl.want rfl rfl (Cm.strIn sl30 ty5 ty9 rfl ((ho3.grow hf4).grow hf5).vw) rfl ?_
  refine Sl.want rfl rfl (Cm.move rfl) rfl ?_
  refine Sl.want rfl rfl (Cm.strIn sl30 ty5 ty9 rfl (hv.grow ((hF3.trans hf4).trans hf5))) rfl ?_
  refine Sl.want rfl rfl (Cm.yes (Cm.eqlBs rfl rfl) rfl) rfl ?_
  refine Sl.calm (Cm.pick_t rfl rfl) rfl ?_
  refine Sl.calm (Cm.assign rfl) rfl ?_
  refine Sl.nil ?_
  refine At.weak [(0, _), (2, _), (3, _), (4, _), (5, _), (6, _), (7, _), (8, _)] ⟨rfl, rfl, rfl, rfl, rfl, rfl, rfl, rfl, trivial⟩ ?_
  refine At.go ?_
  refine Sc.ret ?_
  refine At.ret1 rfl rfl ?_
  exact ⟨_, rfl, rfl, hf1.trans ((hF3.trans hf4).trans hf5)⟩

set_option maxHeartbeats 1000000 in
theorem lzUnpacks_ok (b0 : List UInt8) (ao : Option Addr) (cap : Nat) (most : Int) (W : World) (hv0 : Vw b8 W.heap ao cap b0) (hm : -9223372036854775808 ≤ most ∧ most ≤ 9223372036854775807) :
    Calls Try.prog 6 [.slice ao b0.length cap, .int .i64 most].toArray W (Ret fun v w' => v = .bool true ∧ Foot nob W w') := by
  refine calls_of_sc 40 [(0, _), (1, _)] Try.func6 rfl rfl rfl (enter_slots ⟨rfl, rfl, trivial⟩) ?_
  refine Sc.seq ?_
  refine Sc.region ?_
  refine Sl.calm (Cm.assign rfl) rfl ?_
  refine Sl.nil ?_
  refine At.go ?_
  refine Sc.seq ?_
  refine Sc.region ?_
  refine Sl.call fn20 rfl (shown01_ok W) rfl ?_
  rintro _ w1 ⟨rfl, hf1⟩
  refine Sl.calm (Cm.assign rfl) rfl ?_
  refine Sl.nil ?_
  refine At.weak [(0, _), (1, _), (4, _), (5, _)] ⟨rfl, rfl, rfl, rfl, trivial⟩ ?_
  refine At.go ?_
  refine Sc.seq ?_
  refine Sc.region ?_
  refine Sl.calm (Cm.move rfl) rfl ?_
  refine Sl.call fn21 rfl (few_ok ao cap b0 1000 w1 (hv0.grow hf1)) rfl ?_
  rintro _ wq ⟨rfl, hwq⟩
  subst wq
  obtain ⟨b, hb⟩ : ∃ b, b = b0.take 1000 := ⟨_, rfl⟩
  have hbl : b.length ≤ 1000 := by rw [hb, List.length_take]; omega
  have hv : Vw b8 w1.heap ao cap b := by rw [hb]; exact (hv0.grow hf1).take 1000
  rw [← hb]
  refine Sl.calm (Cm.assign rfl) rfl ?_
  refine Sl.nil ?_
  refine At.weak [(0, _), (1, _), (4, _), (5, _)] ⟨rfl, rfl, rfl, rfl, trivial⟩ ?_
  refine At.go ?_
  refine Sc.seq ?_
  refine Sc.region ?_
  refine Sl.lit0 b8 sl30 rfl ?_
  intro w2 ho2 hs2 hf2
  refine Sl.calm (Cm.move rfl) rfl ?_
  refine Sl.append b8_one sl30 rfl rfl ho2 (hv.grow hf2) (by simp; omega) (by simp; unfold maxLen; omega) rfl ?_
  intro o3 c3 w3 ho3 hf3 hr3 hn3
  rw [List.nil_append] at ho3 ⊢
  have hF3 : Foot nob w1 w3 := hf2.trans_to hf3 (fr_at _).step
  refine Sl.calm (Cm.move rfl) rfl ?_
  refine Sl.call fn24 rfl (unpack_ok o3 c3 b most w3 ho3.vw (by omega) hm.2) rfl ?_
  rintro _ w4 ⟨o4, c4, rfl, ho4, hfr4, hf4⟩
  refine Sl.calm (Cm.move rfl) rfl ?_
  refine Sl.calm (Cm.extract rfl rfl) rfl ?_
  refine Sl.calm (Cm.extract rfl rfl) rfl ?_
  refine Sl.calm (Cm.assign rfl) rfl ?_
  refine Sl.calm (Cm.assign rfl) rfl ?_
  refine Sl.nil ?_
  refine At.weak [(0, _), (1, _), (4, _), (5, _), (6, _), (7, _)] ⟨rfl, rfl, rfl, rfl, rfl, rfl, trivial⟩ ?_
  refine At.go ?_
  refine Sc.seq ?_
  refine Sc.region ?_
  refine Sl.calm (Cm.move rfl) rfl ?_
  refine Sl.calm (Cm.move rfl) rfl ?_
  refine Sl.call fn25 rfl (runpack_ok ao cap b most w4 (hv.grow (hF3.trans hf4)) (by omega) hm.2) rfl ?_
  rintro _ w5 ⟨o5, c5, rfl, ho5, hfr5, hf5⟩
  refine Sl.calm (Cm.move rfl) rfl ?_
  refine Sl.calm (Cm.extract rfl rfl) rfl ?_
  refine Sl.calm (Cm.extract rfl rfl) rfl ?_
  refine Sl.calm (Cm.assign rfl) rfl ?_
  refine Sl.calm (Cm.assign rfl) rfl ?_
  refine Sl.nil ?_
  refine At.weak [(0, _), (1, _), (4, _), (5, _), (6, _), (7, _), (8, _), (9, _)] ⟨rfl, rfl, rfl, rfl, rfl, rfl, rfl, rfl, trivial⟩ ?_
  refine At.go ?_
  refine Sc.seq ?_
  refine Sc.region ?_
  refine Sl.calm (Cm.move rfl) rfl ?_
  refine Sl.calm (Cm.move rfl) rfl ?_
  refine Sl.want rfl rfl (Cm.move rfl) rfl ?_
  refine Sl.want rfl rfl (Cm.strIn sl30 ty5 ty9 rfl (ho4.grow hf5).vw) rfl ?_
  refine Sl.want rfl rfl (Cm.move rfl) rfl ?_
  refine Sl.want rfl rfl (Cm.strIn sl30 ty5 ty9 rfl ho5.vw) rfl ?_
  refine Sl.want rfl rfl (Cm.yes (Cm.eqlBs rfl rfl) rfl) rfl ?_
  refine Sl.calm (Cm.pick_t rfl rfl) rfl ?_
  refine Sl.calm (Cm.move rfl) rfl ?_
  refine Sl.want rfl rfl (Cm.move rfl) rfl ?_
  refine Sl.want rfl rfl (Cm.move rfl) rfl ?_
  refine Sl.want rfl rfl (Cm.yes (Cm.eql rfl rfl) rfl) rfl ?_
  refine Sl.calm (Cm.pick_t rfl rfl) rfl ?_
  refine Sl.calm (Cm.assign rfl) rfl ?_
  refine Sl.nil ?_
  refine At.weak [(0, _), (1, _), (4, _), (5, _), (6, _), (7, _), (8, _), (9, _)] ⟨rfl, rfl, rfl, rfl, rfl, rfl, rfl, rfl, trivial⟩ ?_
  refine At.go ?_
  refine Sc.ret ?_
  refine At.ret1 rfl rfl ?_
  exact ⟨_, rfl, rfl, hf1.trans ((hF3.trans hf4).trans hf5)⟩

set_option maxHeartbeats 1000000 in
theorem lzMatches_ok (b0 : List UInt8) (ao : Option Addr) (cap : Nat) (a : Int) (W : World) (hv0 : Vw b8 W.heap ao cap b0) (hm : -9223372036854775808 ≤ a ∧ a ≤ 9223372036854775807) :
    Calls Try.prog 10 [.slice ao b0.length cap, .int .i64 a].toArray W (Ret fun v w' => v = .bool true ∧ Foot nob W w') := by
  refine calls_of_sc 36 [(0, _), (1, _)] Try.func10 rfl rfl rfl (enter_slots ⟨rfl, rfl, trivial⟩) ?_
  refine Sc.seq ?_
  refine Sc.region ?_
  refine Sl.calm (Cm.assign rfl) rfl ?_
  refine Sl.nil ?_
  refine At.go ?_
  refine Sc.seq ?_
  refine Sc.region ?_
  refine Sl.call fn20 rfl (shown01_ok W) rfl ?_
  rintro _ w1 ⟨rfl, hf1⟩
  refine Sl.calm (Cm.assign rfl) rfl ?_
  refine Sl.nil ?_
  refine At.weak [(0, _), (1, _), (4, _), (5, _)] ⟨rfl, rfl, rfl, rfl, trivial⟩ ?_
  refine At.go ?_
  refine Sc.seq ?_
  refine Sc.region ?_
  refine Sl.calm (Cm.move rfl) rfl ?_
  refine Sl.call fn21 rfl (few_ok ao cap b0 1000 w1 (hv0.grow hf1)) rfl ?_
  rintro _ wq ⟨rfl, hwq⟩
  subst wq
  obtain ⟨b, hb⟩ : ∃ b, b = b0.take 1000 := ⟨_, rfl⟩
  have hbl : b.length ≤ 1000 := by rw [hb, List.length_take]; omega
  have hv : Vw b8 w1.heap ao cap b := by rw [hb]; exact (hv0.grow hf1).take 1000
  rw [← hb]
  refine Sl.calm (Cm.assign rfl) rfl ?_
  refine Sl.nil ?_
  refine At.weak [(0, _), (1, _), (4, _), (5, _)] ⟨rfl, rfl, rfl, rfl, trivial⟩ ?_
  refine At.go ?_
  refine Sc.seq ?_
  refine Sc.region ?_
  refine Sl.calm (Cm.move rfl) rfl ?_
  refine Sl.calm (Cm.move rfl) rfl ?_
  refine Sl.call fn26 rfl (lmatch_ok ao cap b a w1 hv (by omega)) rfl ?_
  rintro _ w2 ⟨rfl, hf2⟩
  refine Sl.calm (Cm.move rfl) rfl ?_
  refine Sl.calm (Cm.extract rfl rfl) rfl ?_
  refine Sl.calm (Cm.extract rfl rfl) rfl ?_
  refine Sl.calm (Cm.assign rfl) rfl ?_
  refine Sl.calm (Cm.assign rfl) rfl ?_
  refine Sl.nil ?_
  refine At.weak [(0, _), (1, _), (4, _), (5, _), (6, _), (7, _)] ⟨rfl, rfl, rfl, rfl, rfl, rfl, trivial⟩ ?_
  refine At.go ?_
  refine Sc.seq ?_
  refine Sc.region ?_
  refine Sl.calm (Cm.move rfl) rfl ?_
  refine Sl.calm (Cm.move rfl) rfl ?_
  refine Sl.call fn27 rfl (rmatch_ok ao cap b a w2 (hv.grow hf2) (by omega)) rfl ?_
  rintro _ _ ⟨rfl, n, rfl⟩
  refine Sl.calm (Cm.move rfl) rfl ?_
  refine Sl.calm (Cm.extract rfl rfl) rfl ?_
  refine Sl.calm (Cm.extract rfl rfl) rfl ?_
  refine Sl.calm (Cm.assign rfl) rfl ?_
  refine Sl.calm (Cm.assign rfl) rfl ?_
  refine Sl.nil ?_
  refine At.weak [(0, _), (1, _), (4, _), (5, _), (6, _), (7, _), (8, _), (9, _)] ⟨rfl, rfl, rfl, rfl, rfl, rfl, rfl, rfl, trivial⟩ ?_
  refine At.go ?_
  refine Sc.seq ?_
  refine Sc.region ?_
  refine Sl.calm (Cm.move rfl) rfl ?_
  refine Sl.calm (Cm.move rfl) rfl ?_
  refine Sl.want rfl rfl (Cm.move rfl) rfl ?_
  refine Sl.want rfl rfl (Cm.move rfl) rfl ?_
  refine Sl.want rfl rfl (Cm.yes (Cm.eql rfl rfl) rfl) rfl ?_
  refine Sl.calm (Cm.pick_t rfl rfl) rfl ?_
  refine Sl.calm (Cm.move rfl) rfl ?_
  refine Sl.want rfl rfl (Cm.move rfl) rfl ?_
  refine Sl.want rfl rfl (Cm.move rfl) rfl ?_
  refine Sl.want rfl rfl (Cm.yes (Cm.eql rfl rfl) rfl) rfl ?_
  refine Sl.calm (Cm.pick_t rfl rfl) rfl ?_
  refine Sl.calm (Cm.assign rfl) rfl ?_
  refine Sl.nil ?_
  refine At.weak [(0, _), (1, _), (4, _), (5, _), (6, _), (7, _), (8, _), (9, _)] ⟨rfl, rfl, rfl, rfl, rfl, rfl, rfl, rfl, trivial⟩ ?_
  refine At.go ?_
  refine Sc.ret ?_
  refine At.ret1 rfl rfl ?_
  exact ⟨_, rfl, rfl, (hf1.trans hf2).draws n⟩

theorem pkR_fit {b : List UInt8} (h : b.length ≤ 4096) : pkR b = (pkS b, 0) := by unfold pkR; rw [if_neg (by omega)]
set_option maxHeartbeats 1000000 in
theorem lzBack_ok (b0 : List UInt8) (ao : Option Addr) (cap : Nat) (W : World) (hv0 : Vw b8 W.heap ao cap b0) :
    Calls Try.prog 7 [.slice ao b0.length cap].toArray W (Ret fun v w' => v = .bool true ∧ Foot nob W w') := by
  refine calls_of_sc 65 [(0, _)] Try.func7 rfl rfl rfl (enter_slots ⟨rfl, trivial⟩) ?_
  refine Sc.seq ?_
  refine Sc.region ?_
  refine Sl.calm (Cm.assign rfl) rfl ?_
  refine Sl.nil ?_
  refine At.go ?_
  refine Sc.seq ?_
  refine Sc.region ?_
  refine Sl.call fn20 rfl (shown01_ok W) rfl ?_
  rintro _ w1 ⟨rfl, hf1⟩
  refine Sl.calm (Cm.assign rfl) rfl ?_
  refine Sl.nil ?_
  refine At.weak [(0, _), (2, _), (3, _)] ⟨rfl, rfl, rfl, trivial⟩ ?_
  refine At.go ?_
  refine Sc.seq ?_
  refine Sc.region ?_
  refine Sl.calm (Cm.move rfl) rfl ?_
  refine Sl.call fn21 rfl (few_ok ao cap b0 4096 w1 (hv0.grow hf1)) rfl ?_
  rintro _ wq ⟨rfl, hwq⟩
  subst wq
  obtain ⟨b, hb⟩ : ∃ b, b = b0.take 4096 := ⟨_, rfl⟩
  have hbl : b.length ≤ 4096 := by rw [hb, List.length_take]; omega
  have hv : Vw b8 w1.heap ao cap b := by rw [hb]; exact (hv0.grow hf1).take 4096
  rw [← hb]
  refine Sl.calm (Cm.assign rfl) rfl ?_
  refine Sl.nil ?_
  refine At.weak [(0, _), (2, _), (3, _)] ⟨rfl, rfl, rfl, trivial⟩ ?_
  refine At.go ?_
  refine Sc.seq ?_
  refine Sc.region ?_
  refine Sl.calm (Cm.move rfl) rfl ?_
  refine Sl.call fn22 rfl (pack_ok ao cap b w1 hv) rfl ?_
  rw [pkR_fit hbl]
  rintro _ w2 ⟨o2, c2, rfl, ho2, hfr2, hf2⟩
  have hpl := pkS_len b
  refine Sl.calm (Cm.move rfl) rfl ?_
  refine Sl.calm (Cm.extract rfl rfl) rfl ?_
  refine Sl.calm (Cm.extract rfl rfl) rfl ?_
  refine Sl.calm (Cm.assign rfl) rfl ?_
  refine Sl.calm (Cm.assign rfl) rfl ?_
  refine Sl.nil ?_
  refine At.weak [(0, _), (2, _), (3, _), (4, _), (5, _)] ⟨rfl, rfl, rfl, rfl, rfl, trivial⟩ ?_
  refine At.go ?_
  refine Sc.seq ?_
  refine Sc.region ?_
  refine Sl.calm (Cm.move rfl) rfl ?_
  refine Sl.calm (Cm.move rfl) rfl ?_
  refine Sl.calm (Cm.len sl30 rfl) rfl ?_
  refine Sl.call fn24 rfl (unpack_ok o2 c2 (pkS b) b.length w2 ho2.vw (by omega) (by omega)) rfl ?_
  rw [unpack_pack]
  rintro _ w3 ⟨o3, c3, rfl, ho3, hfr3, hf3⟩
  refine Sl.calm (Cm.move rfl) rfl ?_
  refine Sl.calm (Cm.extract rfl rfl) rfl ?_
  refine Sl.calm (Cm.extract rfl rfl) rfl ?_
  refine Sl.calm (Cm.assign rfl) rfl ?_
  refine Sl.calm (Cm.assign rfl) rfl ?_
  refine Sl.nil ?_
  refine At.weak [(0, _), (2, _), (3, _), (4, _), (5, _), (6, _), (7, _)] ⟨rfl, rfl, rfl, rfl, rfl, rfl, rfl, trivial⟩ ?_
  refine At.go ?_
  refine Sc.seq ?_
  refine Sc.region ?_
  refine Sl.calm (Cm.move rfl) rfl ?_
  refine Sl.calm (Cm.move rfl) rfl ?_
  refine Sl.calm (Cm.len sl30 rfl) rfl ?_
  refine Sl.calm (Cm.sub64 rfl rfl (by omega)) rfl ?_
  refine Sl.call fn24 rfl (unpack_ok o2 c2 (pkS b) ((b.length : Int) - 1) w3 (ho2.grow hf3).vw (by omega) (by omega)) rfl ?_
  rw [unpack_less]
  rintro _ w4 ⟨o4, c4, rfl, ho4, hfr4, hf4⟩
  obtain ⟨e, he⟩ : ∃ e : Int, e = if b.length = 0 then 1 else 3 := ⟨_, rfl⟩
  rw [← he]
  have he1 : (b.length = 0 ∧ e = 1) ∨ (b.length ≠ 0 ∧ e = 3) := by rw [he]; split; exact .inl ⟨by assumption, rfl⟩; exact .inr ⟨by assumption, rfl⟩
  refine Sl.calm (Cm.move rfl) rfl ?_
  refine Sl.calm (Cm.extract rfl rfl) rfl ?_
  refine Sl.calm (Cm.extract rfl rfl) rfl ?_
  refine Sl.calm (Cm.assign rfl) rfl ?_
  refine Sl.calm (Cm.assign rfl) rfl ?_
  refine Sl.nil ?_
  refine At.weak [(0, _), (2, _), (3, _), (4, _), (5, _), (6, _), (7, _), (9, _)] ⟨rfl, rfl, rfl, rfl, rfl, rfl, rfl, rfl, trivial⟩ ?_
  refine At.go ?_
  refine Sc.seq ?_
  refine Sc.region ?_
  refine Sl.calm (Cm.move rfl) rfl ?_
  refine Sl.calm (Cm.move rfl) rfl ?_
  refine Sl.want rfl rfl (Cm.move rfl) rfl ?_
  refine Sl.want rfl rfl (Cm.yes (Cm.eql rfl rfl) rfl) rfl ?_
  refine Sl.calm (Cm.pick_t rfl rfl) rfl ?_
  refine Sl.calm (Cm.move rfl) rfl ?_
  refine Sl.want rfl rfl (Cm.move rfl) rfl ?_
  refine Sl.want rfl rfl (Cm.yes (Cm.eql rfl rfl) rfl) rfl ?_
  refine Sl.calm (Cm.pick_t rfl rfl) rfl ?_
  refine Sl.calm (Cm.move rfl) rfl ?_
  refine Sl.want rfl rfl (Cm.move rfl) rfl ?_
  refine Sl.want rfl rfl (Cm.strIn sl30 ty5 ty9 rfl (ho3.grow hf4).vw) rfl ?_
  refine Sl.want rfl rfl (Cm.move rfl) rfl ?_
  refine Sl.want rfl rfl (Cm.strIn sl30 ty5 ty9 rfl (hv.grow ((hf2.trans hf3).trans hf4))) rfl ?_
  refine Sl.want rfl rfl (Cm.yes (Cm.eqlBs rfl rfl) rfl) rfl ?_
  refine Sl.calm (Cm.pick_t rfl rfl) rfl ?_
  refine Sl.calm (Cm.move rfl) rfl ?_
  refine Sl.want rfl rfl (Cm.move rfl) rfl ?_
  refine Sl.want rfl rfl (Cm.len sl30 rfl) rfl ?_
  refine Sl.forkWant rfl rfl (Cm.eql rfl rfl) rfl (fun h52 => ?_) (fun h52 => ?_)
  ·
    refine Sl.want rfl rfl (Cm.move rfl) rfl ?_
    refine Sl.want rfl rfl (Cm.yes (Cm.eql rfl rfl) (by omega)) rfl ?_
    refine Sl.want rfl rfl (Cm.eqlBool ty4 rfl rfl) rfl ?_
    refine Sl.calm (Cm.pick_t rfl rfl) rfl ?_
    refine Sl.calm (Cm.move rfl) rfl ?_
    refine Sl.want rfl rfl (Cm.move rfl) rfl ?_
    refine Sl.want rfl rfl (Cm.len sl30 rfl) rfl ?_
    refine Sl.want rfl rfl (Cm.no (Cm.gtr rfl rfl) (by omega)) rfl ?_
    refine Sl.want rfl rfl (Cm.move rfl) rfl ?_
    refine Sl.want rfl rfl (Cm.no (Cm.eql rfl rfl) (by omega)) rfl ?_
    refine Sl.want rfl rfl (Cm.eqlBool ty4 rfl rfl) rfl ?_
    refine Sl.calm (Cm.pick_t rfl rfl) rfl ?_
    refine Sl.calm (Cm.assign rfl) rfl ?_
    refine Sl.nil ?_
    refine At.weak [(0, _), (2, _), (3, _), (4, _), (5, _), (6, _), (7, _), (9, _)] ⟨rfl, rfl, rfl, rfl, rfl, rfl, rfl, rfl, trivial⟩ ?_
    refine At.go ?_
    refine Sc.ret ?_
    refine At.ret1 rfl rfl ?_
    exact ⟨_, rfl, rfl, hf1.trans ((hf2.trans hf3).trans hf4)⟩
  ·
    refine Sl.want rfl rfl (Cm.move rfl) rfl ?_
    refine Sl.want rfl rfl (Cm.no (Cm.eql rfl rfl) (by omega)) rfl ?_
    refine Sl.want rfl rfl (Cm.eqlBool ty4 rfl rfl) rfl ?_
    refine Sl.calm (Cm.pick_t rfl rfl) rfl ?_
    refine Sl.calm (Cm.move rfl) rfl ?_
    refine Sl.want rfl rfl (Cm.move rfl) rfl ?_
    refine Sl.want rfl rfl (Cm.len sl30 rfl) rfl ?_
    refine Sl.want rfl rfl (Cm.yes (Cm.gtr rfl rfl) (by omega)) rfl ?_
    refine Sl.want rfl rfl (Cm.move rfl) rfl ?_
    refine Sl.want rfl rfl (Cm.yes (Cm.eql rfl rfl) (by omega)) rfl ?_
    refine Sl.want rfl rfl (Cm.eqlBool ty4 rfl rfl) rfl ?_
    refine Sl.calm (Cm.pick_t rfl rfl) rfl ?_
    refine Sl.calm (Cm.assign rfl) rfl ?_
    refine Sl.nil ?_
    refine At.weak [(0, _), (2, _), (3, _), (4, _), (5, _), (6, _), (7, _), (9, _)] ⟨rfl, rfl, rfl, rfl, rfl, rfl, rfl, rfl, trivial⟩ ?_
    refine At.go ?_
    refine Sc.ret ?_
    refine At.ret1 rfl rfl ?_
    exact ⟨_, rfl, rfl, hf1.trans ((hf2.trans hf3).trans hf4)⟩
end Go.Proofs.Ytapmfoogjkdffaa
