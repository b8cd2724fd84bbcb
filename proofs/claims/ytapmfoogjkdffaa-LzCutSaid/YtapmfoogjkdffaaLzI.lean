/- lz: the laws on cuts, lengths and the nearest match. No condition beyond the bounds that each states. -/
import Derived.Test.YtapmfoogjkdffaaLzH
namespace Go.Proofs.Ytapmfoogjkdffaa
open Go Go.RowKit
set_option linter.unusedVariables false

def PutE (W : World) (x : List UInt8) (e : Int) : Value → World → Prop := fun v w' => ∃ ao c, v = .tuple #[.slice ao x.length c, .int .i64 e] ∧ Own b8 5 w'.heap ao c x ∧ Fr W.heap.size ao ∧ Foot nob W w'
set_option maxHeartbeats 2000000 in
theorem lzCut_ok (x0 : List UInt8) (ao : Option Addr) (ca : Nat) (y0 : List UInt8) (bo : Option Addr) (cb : Nat) (n : Int) (W : World) (hva0 : Vw b8 W.heap ao ca x0) (hvb0 : Vw b8 W.heap bo cb y0) :
    Calls Try.prog 9 [.slice ao x0.length ca, .slice bo y0.length cb, .int .i64 n].toArray W (Ret fun v w' => v = .bool true ∧ Foot nob W w') := by
  refine calls_of_sc 114 [(0, _), (1, _), (2, _)] Try.func9 rfl rfl rfl (enter_slots ⟨rfl, rfl, rfl, trivial⟩) ?_
  refine Sc.seq ?_
  refine Sc.region ?_
  refine Sl.calm (Cm.assign rfl) rfl ?_
  refine Sl.nil ?_
  refine At.go ?_
  refine Sc.seq ?_
  refine Sc.region ?_
  refine Sl.call fn20 rfl (shown01_ok W) rfl ?_
  rintro _ w1 ⟨rfl, hf1⟩
  refine Sl.calm (Cm.assign rfl) rfl ?_
  refine Sl.nil ?_
  refine At.weak [(0, _), (1, _), (2, _), (6, _), (7, _)] ⟨rfl, rfl, rfl, rfl, rfl, trivial⟩ ?_
  refine At.go ?_
  refine Sc.seq ?_
  refine Sc.region ?_
  refine Sl.calm (Cm.move rfl) rfl ?_
  refine Sl.call fn21 rfl (few_ok ao ca x0 2000 w1 (hva0.grow hf1)) rfl ?_
  rintro _ wq ⟨rfl, hwq⟩
  subst wq
  obtain ⟨a, ha⟩ : ∃ a, a = x0.take 2000 := ⟨_, rfl⟩
  have hal : a.length ≤ 2000 := by rw [ha, List.length_take]; omega
  have hva : Vw b8 w1.heap ao ca a := by rw [ha]; exact (hva0.grow hf1).take 2000
  rw [← ha]
  refine Sl.calm (Cm.assign rfl) rfl ?_
  refine Sl.nil ?_
  refine At.weak [(0, _), (1, _), (2, _), (6, _), (7, _)] ⟨rfl, rfl, rfl, rfl, rfl, trivial⟩ ?_
  refine At.go ?_
  refine Sc.seq ?_
  refine Sc.region ?_
  refine Sl.calm (Cm.move rfl) rfl ?_
  refine Sl.call fn21 rfl (few_ok bo cb y0 2000 w1 (hvb0.grow hf1)) rfl ?_
  rintro _ wq ⟨rfl, hwq⟩
  subst wq
  obtain ⟨b, hb⟩ : ∃ b, b = y0.take 2000 := ⟨_, rfl⟩
  have hbl : b.length ≤ 2000 := by rw [hb, List.length_take]; omega
  have hvb : Vw b8 w1.heap bo cb b := by rw [hb]; exact (hvb0.grow hf1).take 2000
  rw [← hb]
  refine Sl.calm (Cm.assign rfl) rfl ?_
  refine Sl.nil ?_
  refine At.weak [(0, _), (1, _), (2, _), (6, _), (7, _)] ⟨rfl, rfl, rfl, rfl, rfl, trivial⟩ ?_
  refine At.go ?_
  refine Sc.seq ?_
  refine Sc.region ?_
  refine Sl.calm (Cm.move rfl) rfl ?_
  refine Sl.call fn22 rfl (pack_ok ao ca a w1 hva) rfl ?_
  rw [pkR_fit (by omega)]
  intro _ w2 hP
  have hP : PutE _ (pkS a) 0 _ w2 := hP
  obtain ⟨o2, c2, rfl, ho2, hfr2, hf2⟩ := hP
  have hpa := pkS_len a
  refine Sl.calm (Cm.move rfl) rfl ?_
  refine Sl.calm (Cm.extract rfl rfl) rfl ?_
  refine Sl.calm (Cm.extract rfl rfl) rfl ?_
  refine Sl.calm (Cm.assign rfl) rfl ?_
  refine Sl.calm (Cm.assign rfl) rfl ?_
  refine Sl.nil ?_
  refine At.weak [(0, _), (1, _), (2, _), (6, _), (7, _), (8, _), (9, _)] ⟨rfl, rfl, rfl, rfl, rfl, rfl, rfl, trivial⟩ ?_
  refine At.go ?_
  refine Sc.seq ?_
  refine Sc.region ?_
  refine Sl.calm (Cm.move rfl) rfl ?_
  refine Sl.call fn22 rfl (pack_ok bo cb b w2 (hvb.grow hf2)) rfl ?_
  rw [pkR_fit (by omega)]
  intro _ w3 hP
  have hP : PutE _ (pkS b) 0 _ w3 := hP
  obtain ⟨o3, c3, rfl, ho3, hfr3, hf3⟩ := hP
  have hpb := pkS_len b
  have ho23 := ho2.grow hf3
  have hle2 := ho23.vw.le
  have hF3 := (hf1.trans hf2).trans hf3
  have hva3 := (hva.grow hf2).grow hf3
  have hle3 := hva3.le
  refine Sl.calm (Cm.move rfl) rfl ?_
  refine Sl.calm (Cm.extract rfl rfl) rfl ?_
  refine Sl.calm (Cm.extract rfl rfl) rfl ?_
  refine Sl.calm (Cm.assign rfl) rfl ?_
  refine Sl.calm (Cm.assign rfl) rfl ?_
  refine Sl.nil ?_
  refine At.weak [(0, _), (1, _), (2, _), (6, _), (7, _), (8, _), (9, _), (10, _), (11, _)] ⟨rfl, rfl, rfl, rfl, rfl, rfl, rfl, rfl, rfl, trivial⟩ ?_
  refine At.go ?_
  refine Sc.seq ?_
  refine Sc.seq ?_
  refine Sc.region ?_
  refine Sl.calm (Cm.move rfl) rfl ?_
  refine Sl.calm (Cm.no (Cm.neq rfl rfl) (by decide)) rfl ?_
  refine Sl.calm (Cm.move rfl) rfl ?_
  refine Sl.want rfl rfl (Cm.move rfl) rfl ?_
  refine Sl.want rfl rfl (Cm.no (Cm.neq rfl rfl) (by decide)) rfl ?_
  refine Sl.calm (Cm.pick_f rfl rfl) rfl ?_
  refine Sl.nil ?_
  refine At.weak [(0, _), (1, _), (2, _), (6, _), (7, _), (8, _), (9, _), (10, _), (11, _), (36, _)] ⟨rfl, rfl, rfl, rfl, rfl, rfl, rfl, rfl, rfl, rfl, trivial⟩ ?_
  refine At.go ?_
  refine Sc.cond_f rfl ?_
  refine Sc.skip ?_
  refine At.go ?_
  refine Sc.cut (β := Unit) (fun _u => [(0, .slice ao a.length ca), (1, .slice bo b.length cb), (7, .bool true), (8, .slice o2 (pkS a).length c2), (10, .slice o3 (pkS b).length c3)]) (fun _u w => Foot nob w3 w) ?_ ?_
  ·
    refine Sc.seq ?_
    refine Sc.region ?_
    refine Sl.calm (Cm.move rfl) rfl ?_
    refine Sl.fork (Cm.geq rfl rfl) rfl (fun h38 => ?_) (fun h38 => ?_)
    ·
      refine Sl.calm (Cm.move rfl) rfl ?_
      refine Sl.want rfl rfl (Cm.move rfl) rfl ?_
      refine Sl.want rfl rfl (Cm.move rfl) rfl ?_
      refine Sl.want rfl rfl (Cm.len sl30 rfl) rfl ?_
      refine Sl.forkWant rfl rfl (Cm.lss rfl rfl) rfl (fun h43 => ?_) (fun h43 => ?_)
      ·
        refine Sl.calm (Cm.pick_t rfl rfl) rfl ?_
        refine Sl.nil ?_
        refine At.weak [(0, _), (1, _), (2, _), (6, _), (7, _), (8, _), (9, _), (10, _), (11, _), (36, _), (44, _)] ⟨rfl, rfl, rfl, rfl, rfl, rfl, rfl, rfl, rfl, rfl, rfl, trivial⟩ ?_
        refine At.go ?_
        refine Sc.cond_t rfl ?_
        refine Sc.seq ?_
        refine Sc.region ?_
        refine Sl.calm (Cm.move rfl) rfl ?_
        refine Sl.calm (Cm.move rfl) rfl ?_
        refine Sl.calm (Cm.sliceH sl30 rfl rfl (by omega)) rfl ?_
        refine Sl.calm (Cm.move rfl) rfl ?_
        refine Sl.calm (Cm.len sl30 rfl) rfl ?_
        have hcl : ((pkS a).take n.toNat).length = n.toNat := by rw [List.length_take]; omega
        refine Sl.call fn24 rfl (by rw [cutAo_zero, ← hcl]; exact unpack_ok o2 c2 ((pkS a).take n.toNat) a.length w3 (ho23.vw.take _) (by omega) (by omega)) rfl ?_
        rintro _ w4 ⟨o4, c4, rfl, ho4, hfr4, hf4⟩
        have hcut := unpack_cut a (n := n.toNat) (by omega)
        obtain ⟨U, hU⟩ : ∃ U, U = upS ((pkS a).take n.toNat) a.length := ⟨_, rfl⟩
        rw [← hU] at hcut ho4 ⊢
        obtain ⟨o, l, hol, hU1, hU2⟩ : ∃ o l, a = o ++ l ∧ U.1 = o ∧ (U.2 = 0 ∨ U.2 = 2) := by
          rcases hcut with h | ⟨o, l, h1, h2⟩
          · exact ⟨[], a, rfl, by rw [h], .inr (by rw [h])⟩
          · exact ⟨o, l, h1, by rw [h2], .inl (by rw [h2])⟩
        rw [hU1] at ho4 ⊢
        have hoa : o.length ≤ a.length := by rw [hol]; simp
        have hva4 := hva3.grow hf4
        refine Sl.calm (Cm.move rfl) rfl ?_
        refine Sl.calm (Cm.extract rfl rfl) rfl ?_
        refine Sl.calm (Cm.extract rfl rfl) rfl ?_
        refine Sl.calm (Cm.assign rfl) rfl ?_
        refine Sl.calm (Cm.assign rfl) rfl ?_
        refine Sl.nil ?_
        refine At.weak [(0, _), (1, _), (2, _), (6, _), (7, _), (8, _), (9, _), (10, _), (11, _), (12, _), (13, _), (36, _), (44, _)] ⟨rfl, rfl, rfl, rfl, rfl, rfl, rfl, rfl, rfl, rfl, rfl, rfl, rfl, trivial⟩ ?_
        refine At.go ?_
        refine Sc.seq ?_
        refine Sc.quiet 23 [0, 1, 2, 3, 4, 5, 6, 7, 8, 9, 10, 11, 12, 13, 14, 15, 16, 17, 18, 19, 20, 21, 22] mixed (by kernel_rfl) ?_
        refine Sx.calm rfl rfl (Cm.move rfl) rfl ?_
        refine Sx.fork rfl rfl (Cm.neq rfl rfl) rfl (fun h55 => ?_) (fun h55 => ?_)
        ·
          refine Sx.calm rfl rfl (Cm.move rfl) rfl ?_
          refine Sx.want rfl rfl rfl rfl (Cm.move rfl) rfl ?_
          refine Sx.want rfl rfl rfl rfl (Cm.no (Cm.neq rfl rfl) (by omega)) rfl ?_
          refine Sx.calm rfl rfl (Cm.pick_t rfl rfl) rfl ?_
          refine Sx.calm rfl rfl (Cm.move rfl) rfl ?_
          refine Sx.want rfl rfl rfl rfl (Cm.move rfl) rfl ?_
          refine Sx.want rfl rfl rfl rfl (Cm.len sl30 rfl) rfl ?_
          refine Sx.want rfl rfl rfl rfl (Cm.move rfl) rfl ?_
          refine Sx.want rfl rfl rfl rfl (Cm.len sl30 rfl) rfl ?_
          refine Sx.want rfl rfl rfl rfl (Cm.no (Cm.gtr rfl rfl) (by omega)) rfl ?_
          refine Sx.calm rfl rfl (Cm.pick_f rfl rfl) rfl ?_
          refine Sx.calm rfl rfl (Cm.move rfl) rfl ?_
          refine Sx.want rfl rfl rfl rfl (Cm.move rfl) rfl ?_
          refine Sx.want rfl rfl rfl rfl (Cm.strIn sl30 ty5 ty9 rfl ho4.vw) rfl ?_
          refine Sx.want rfl rfl rfl rfl (Cm.move rfl) rfl ?_
          refine Sx.want rfl rfl rfl rfl (Cm.move rfl) rfl ?_
          refine Sx.want rfl rfl rfl rfl (Cm.len sl30 rfl) rfl ?_
          refine Sx.want rfl rfl rfl rfl (Cm.sliceH sl30 rfl rfl (by omega)) rfl ?_
          rw [cutAo_zero, show ((o.length : Nat) : Int).toNat = (a.take o.length).length by rw [List.length_take]; omega]
          refine Sx.want rfl rfl rfl rfl (Cm.strIn sl30 ty5 ty9 rfl (hva4.take _)) rfl ?_
          refine Sx.want rfl rfl rfl rfl (Cm.no (Cm.neqBs rfl rfl) (by rw [hol]; simp)) rfl ?_
          refine Sx.calm rfl rfl (Cm.pick_f rfl rfl) rfl ?_
          refine Sx.nil ?_
          refine At.weak [(0, _), (1, _), (2, _), (6, _), (7, _), (8, _), (9, _), (10, _), (11, _), (12, _), (13, _), (36, _), (44, _), (76, _)] ⟨rfl, rfl, rfl, rfl, rfl, rfl, rfl, rfl, rfl, rfl, rfl, rfl, rfl, rfl, trivial⟩ ?_
          refine At.go ?_
          refine Sc.cond_f rfl ?_
          refine Sc.skip ?_
          exact At.cut () ⟨rfl, rfl, rfl, rfl, rfl, trivial⟩ (hf4.draws _)
        ·
          refine Sx.calm rfl rfl (Cm.move rfl) rfl ?_
          refine Sx.skip rfl rfl rfl rfl rfl rfl ?_
          refine Sx.skip rfl rfl rfl rfl rfl rfl ?_
          refine Sx.calm rfl rfl (Cm.pick_f rfl rfl) rfl ?_
          refine Sx.calm rfl rfl (Cm.move rfl) rfl ?_
          refine Sx.want rfl rfl rfl rfl (Cm.move rfl) rfl ?_
          refine Sx.want rfl rfl rfl rfl (Cm.len sl30 rfl) rfl ?_
          refine Sx.want rfl rfl rfl rfl (Cm.move rfl) rfl ?_
          refine Sx.want rfl rfl rfl rfl (Cm.len sl30 rfl) rfl ?_
          refine Sx.want rfl rfl rfl rfl (Cm.no (Cm.gtr rfl rfl) (by omega)) rfl ?_
          refine Sx.calm rfl rfl (Cm.pick_f rfl rfl) rfl ?_
          refine Sx.calm rfl rfl (Cm.move rfl) rfl ?_
          refine Sx.want rfl rfl rfl rfl (Cm.move rfl) rfl ?_
          refine Sx.want rfl rfl rfl rfl (Cm.strIn sl30 ty5 ty9 rfl ho4.vw) rfl ?_
          refine Sx.want rfl rfl rfl rfl (Cm.move rfl) rfl ?_
          refine Sx.want rfl rfl rfl rfl (Cm.move rfl) rfl ?_
          refine Sx.want rfl rfl rfl rfl (Cm.len sl30 rfl) rfl ?_
          refine Sx.want rfl rfl rfl rfl (Cm.sliceH sl30 rfl rfl (by omega)) rfl ?_
          rw [cutAo_zero, show ((o.length : Nat) : Int).toNat = (a.take o.length).length by rw [List.length_take]; omega]
          refine Sx.want rfl rfl rfl rfl (Cm.strIn sl30 ty5 ty9 rfl (hva4.take _)) rfl ?_
          refine Sx.want rfl rfl rfl rfl (Cm.no (Cm.neqBs rfl rfl) (by rw [hol]; simp)) rfl ?_
          refine Sx.calm rfl rfl (Cm.pick_f rfl rfl) rfl ?_
          refine Sx.nil ?_
          refine At.weak [(0, _), (1, _), (2, _), (6, _), (7, _), (8, _), (9, _), (10, _), (11, _), (12, _), (13, _), (36, _), (44, _), (76, _)] ⟨rfl, rfl, rfl, rfl, rfl, rfl, rfl, rfl, rfl, rfl, rfl, rfl, rfl, rfl, trivial⟩ ?_
          refine At.go ?_
          refine Sc.cond_f rfl ?_
          refine Sc.skip ?_
          exact At.cut () ⟨rfl, rfl, rfl, rfl, rfl, trivial⟩ (hf4.draws _)
      ·
        refine Sl.calm (Cm.pick_t rfl rfl) rfl ?_
        refine Sl.nil ?_
        refine At.weak [(0, _), (1, _), (2, _), (6, _), (7, _), (8, _), (9, _), (10, _), (11, _), (36, _), (44, _)] ⟨rfl, rfl, rfl, rfl, rfl, rfl, rfl, rfl, rfl, rfl, rfl, trivial⟩ ?_
        refine At.go ?_
        refine Sc.cond_f rfl ?_
        refine Sc.skip ?_
        exact At.cut () ⟨rfl, rfl, rfl, rfl, rfl, trivial⟩ (Foot.refl _ _)
    ·
      refine Sl.calm (Cm.move rfl) rfl ?_
      refine Sl.skip rfl rfl rfl rfl ?_
      refine Sl.skip rfl rfl rfl rfl ?_
      refine Sl.skip rfl rfl rfl rfl ?_
      refine Sl.skip rfl rfl rfl rfl ?_
      refine Sl.calm (Cm.pick_f rfl rfl) rfl ?_
      refine Sl.nil ?_
      refine At.weak [(0, _), (1, _), (2, _), (6, _), (7, _), (8, _), (9, _), (10, _), (11, _), (36, _), (44, _)] ⟨rfl, rfl, rfl, rfl, rfl, rfl, rfl, rfl, rfl, rfl, rfl, trivial⟩ ?_
      refine At.go ?_
      refine Sc.cond_f rfl ?_
      refine Sc.skip ?_
      exact At.cut () ⟨rfl, rfl, rfl, rfl, rfl, trivial⟩ (Foot.refl _ _)
  ·
    rintro _ w5 hf5
    refine Sc.seq ?_
    refine Sc.region ?_
    refine Sl.lit0 b8 sl30 rfl ?_
    intro w6 ho6 hs6 hf6
    refine Sl.calm (Cm.move rfl) rfl ?_
    refine Sl.append b8_one sl30 rfl rfl ho6 ((ho23.grow hf5).grow hf6).vw (by simp; omega) (by simp; unfold maxLen; omega) rfl ?_
    intro o7 c7 w7 ho7 hf7 hr7 hn7
    rw [List.nil_append] at ho7 ⊢
    have hfr7 : Fr w5.heap.size o7 := fr_next (fr_at _) hr7 hf6.size
    have hf57 : Foot nob w5 w7 := hf6.trans_to hf7 (fr_at _).step
    refine Sl.calm (Cm.move rfl) rfl ?_
    refine Sl.append b8_one sl30 rfl rfl ho7 ((ho3.grow hf5).grow hf57).vw (by omega) (by unfold maxLen; omega) rfl ?_
    intro o8 c8 w8 ho8 hf8 hr8 hn8
    have hf58 : Foot nob w5 w8 := hf57.trans_to hf8 hfr7.step
    refine Sl.calm (Cm.move rfl) rfl ?_
    refine Sl.calm (Cm.len sl30 rfl) rfl ?_
    refine Sl.calm (Cm.move rfl) rfl ?_
    refine Sl.calm (Cm.len sl30 rfl) rfl ?_
    refine Sl.calm (Cm.add64 rfl rfl (by omega)) rfl ?_
    refine Sl.call fn24 rfl (unpack_ok o8 c8 (pkS a ++ pkS b) ((a.length : Int) + b.length) w8 ho8.vw (by rw [List.length_append]; omega) (by omega)) rfl ?_
    rw [unpack_two]
    intro _ w9 hP
    have hP : PutE _ (a ++ b) 0 _ w9 := hP
    obtain ⟨o9, c9, rfl, ho9, hfr9, hf9⟩ := hP
    have hl9 : (a ++ b).length = a.length + b.length := List.length_append ..
    have hle9 := ho9.vw.le
    refine Sl.calm (Cm.move rfl) rfl ?_
    refine Sl.calm (Cm.extract rfl rfl) rfl ?_
    refine Sl.calm (Cm.extract rfl rfl) rfl ?_
    refine Sl.calm (Cm.assign rfl) rfl ?_
    refine Sl.calm (Cm.assign rfl) rfl ?_
    refine Sl.nil ?_
    refine At.weak [(0, _), (1, _), (7, _), (8, _), (10, _), (14, _), (15, _)] ⟨rfl, rfl, rfl, rfl, rfl, rfl, rfl, trivial⟩ ?_
    refine At.go ?_
    refine Sc.seq ?_
    refine Sc.seq ?_
    refine Sc.region ?_
    refine Sl.calm (Cm.move rfl) rfl ?_
    refine Sl.calm (Cm.no (Cm.neq rfl rfl) (by decide)) rfl ?_
    refine Sl.nil ?_
    refine At.weak [(0, _), (1, _), (7, _), (8, _), (10, _), (14, _), (15, _), (92, _)] ⟨rfl, rfl, rfl, rfl, rfl, rfl, rfl, rfl, trivial⟩ ?_
    refine At.go ?_
    refine Sc.cond_f rfl ?_
    refine Sc.skip ?_
    refine At.go ?_
    refine Sc.seq ?_
    refine Sc.quiet 22 [0, 1, 2, 3, 4, 5, 6, 7, 8, 9, 10, 11, 12, 13, 14, 15, 16, 17, 18, 19, 20, 21] mixed (by kernel_rfl) ?_
    refine Sx.calm rfl rfl (Cm.move rfl) rfl ?_
    refine Sx.calm rfl rfl (Cm.move rfl) rfl ?_
    refine Sx.want rfl rfl rfl rfl (Cm.move rfl) rfl ?_
    refine Sx.want rfl rfl rfl rfl (Cm.len sl30 rfl) rfl ?_
    refine Sx.want rfl rfl rfl rfl (Cm.move rfl) rfl ?_
    refine Sx.want rfl rfl rfl rfl (Cm.len sl30 rfl) rfl ?_
    refine Sx.want rfl rfl rfl rfl (Cm.move rfl) rfl ?_
    refine Sx.want rfl rfl rfl rfl (Cm.len sl30 rfl) rfl ?_
    refine Sx.want rfl rfl rfl rfl (Cm.add64 rfl rfl (by omega)) rfl ?_
    refine Sx.want rfl rfl rfl rfl (Cm.yes (Cm.eql rfl rfl) (by omega)) rfl ?_
    refine Sx.calm rfl rfl (Cm.pick_t rfl rfl) rfl ?_
    refine Sx.calm rfl rfl (Cm.move rfl) rfl ?_
    refine Sx.want rfl rfl rfl rfl (Cm.move rfl) rfl ?_
    refine Sx.want rfl rfl rfl rfl (Cm.move rfl) rfl ?_
    refine Sx.want rfl rfl rfl rfl (Cm.len sl30 rfl) rfl ?_
    refine Sx.want rfl rfl rfl rfl (Cm.sliceH sl30 rfl rfl (by omega)) rfl ?_
    rw [cutAo_zero, show ((a.length : Nat) : Int).toNat = ((a ++ b).take a.length).length by rw [List.length_take]; omega]
    refine Sx.want rfl rfl rfl rfl (Cm.strIn sl30 ty5 ty9 rfl (ho9.vw.take _)) rfl ?_
    refine Sx.want rfl rfl rfl rfl (Cm.move rfl) rfl ?_
    refine Sx.want rfl rfl rfl rfl (Cm.strIn sl30 ty5 ty9 rfl (((hva3.grow hf5).grow hf58).grow hf9)) rfl ?_
    refine Sx.want rfl rfl rfl rfl (Cm.yes (Cm.eqlBs rfl rfl) (by simp)) rfl ?_
    refine Sx.calm rfl rfl (Cm.pick_t rfl rfl) rfl ?_
    refine Sx.calm rfl rfl (Cm.assign rfl) rfl ?_
    refine Sx.nil ?_
    refine At.weak [(0, _), (1, _), (6, _), (7, _), (8, _), (10, _), (14, _), (15, _), (92, _)] ⟨rfl, rfl, rfl, rfl, rfl, rfl, rfl, rfl, rfl, trivial⟩ ?_
    refine At.go ?_
    refine Sc.ret ?_
    refine At.ret1 rfl rfl ?_
    exact ⟨_, rfl, rfl, (((hF3.trans hf5).trans hf58).trans hf9).draws 1⟩

theorem sameB (c : Int) (k i : Nat) (h : i ≤ k) : (List.replicate i (UInt8.ofNat c.toNat) ++ List.replicate (k - i) 0).length = k := by simp; omega
theorem same_set (c : UInt8) {k i : Nat} (h : i < k) : (List.replicate i c ++ List.replicate (k - i) 0).set i c = List.replicate (i + 1) c ++ List.replicate (k - (i + 1)) 0 := by
  rw [List.set_append_right _ _ (by simp), List.length_replicate, Nat.sub_self, show k - i = (k - (i + 1)) + 1 by omega, List.replicate_succ, List.set_cons_zero, List.replicate_succ', List.append_assoc]; rfl
set_option maxHeartbeats 2000000 in
theorem lzShort_ok (b0 : List UInt8) (ao : Option Addr) (cap : Nat) (c : Int) (n : Int) (W : World) (hv0 : Vw b8 W.heap ao cap b0) (hc : 0 ≤ c ∧ c ≤ 255) (hn : -9223372036854775808 ≤ n ∧ n ≤ 9223372036854775807) :
    Calls Try.prog 8 [.slice ao b0.length cap, .int .u8 c, .int .i64 n].toArray W (Ret fun v w' => v = .bool true ∧ Foot nob W w') := by
  obtain ⟨u, hu⟩ : ∃ u : UInt8, c = u.toNat := ⟨UInt8.ofNat c.toNat, by rw [UInt8.toNat_ofNat']; omega⟩
  subst hu
  refine calls_of_sc 76 [(0, _), (1, _), (2, _)] Try.func8 rfl rfl rfl (enter_slots ⟨rfl, rfl, rfl, trivial⟩) ?_
  refine Sc.seq ?_
  refine Sc.region ?_
  refine Sl.calm (Cm.assign rfl) rfl ?_
  refine Sl.nil ?_
  refine At.go ?_
  refine Sc.seq ?_
  refine Sc.region ?_
  refine Sl.call fn20 rfl (shown01_ok W) rfl ?_
  rintro _ w1 ⟨rfl, hf1⟩
  refine Sl.calm (Cm.assign rfl) rfl ?_
  refine Sl.nil ?_
  refine At.weak [(0, _), (1, _), (2, _), (6, _), (7, _)] ⟨rfl, rfl, rfl, rfl, rfl, trivial⟩ ?_
  refine At.go ?_
  refine Sc.seq ?_
  refine Sc.region ?_
  refine Sl.calm (Cm.move rfl) rfl ?_
  refine Sl.call fn21 rfl (few_ok ao cap b0 4096 w1 (hv0.grow hf1)) rfl ?_
  rintro _ wq ⟨rfl, hwq⟩
  subst wq
  obtain ⟨b, hb⟩ : ∃ b, b = b0.take 4096 := ⟨_, rfl⟩
  have hbl : b.length ≤ 4096 := by rw [hb, List.length_take]; omega
  have hv : Vw b8 w1.heap ao cap b := by rw [hb]; exact (hv0.grow hf1).take 4096
  rw [← hb]
  refine Sl.calm (Cm.assign rfl) rfl ?_
  refine Sl.nil ?_
  refine At.weak [(0, _), (1, _), (2, _), (6, _), (7, _)] ⟨rfl, rfl, rfl, rfl, rfl, trivial⟩ ?_
  refine At.go ?_
  refine Sc.seq ?_
  refine Sc.region ?_
  refine Sl.calm (Cm.move rfl) rfl ?_
  refine Sl.call fn22 rfl (pack_ok ao cap b w1 hv) rfl ?_
  rw [pkR_fit hbl]
  intro _ w2 hP
  have hP : PutE _ (pkS b) 0 _ w2 := hP
  obtain ⟨o2, c2, rfl, ho2, hfr2, hf2⟩ := hP
  have hpl := pkS_len b
  refine Sl.calm (Cm.move rfl) rfl ?_
  refine Sl.calm (Cm.extract rfl rfl) rfl ?_
  refine Sl.calm (Cm.extract rfl rfl) rfl ?_
  refine Sl.calm (Cm.assign rfl) rfl ?_
  refine Sl.calm (Cm.assign rfl) rfl ?_
  refine Sl.nil ?_
  refine At.weak [(0, _), (1, _), (2, _), (6, _), (7, _), (8, _), (9, _)] ⟨rfl, rfl, rfl, rfl, rfl, rfl, rfl, trivial⟩ ?_
  refine At.go ?_
  refine Sc.seq ?_
  refine Sc.region ?_
  refine Sl.calm (Cm.move rfl) rfl ?_
  refine Sl.calm (Cm.remW rfl rfl (by decide)) rfl ?_
  obtain ⟨r, hr⟩ : ∃ r : Int, r = n.tmod 4097 := ⟨_, rfl⟩
  have hr1 : -4097 < r ∧ r < 4097 := by
    have h1 := Int.tmod_lt_of_pos n (show (0 : Int) < 4097 by decide)
    have h2 := Int.lt_tmod_of_pos n (show (0 : Int) < 4097 by decide)
    omega
  rw [← hr]
  refine Sl.calm (Cm.assign rfl) rfl ?_
  refine Sl.nil ?_
  refine At.weak [(0, _), (1, _), (2, _), (6, _), (7, _), (8, _), (9, _), (10, _)] ⟨rfl, rfl, rfl, rfl, rfl, rfl, rfl, rfl, trivial⟩ ?_
  refine At.go ?_
  refine Sc.cut (β := Nat) (fun k => [(0, .slice ao b.length cap), (1, .int .u8 u.toNat), (7, .bool true), (8, .slice o2 (pkS b).length c2), (9, .int .i64 0), (10, .int .i64 k)]) (fun k w => k ≤ 4096 ∧ w = w2) ?_ ?_
  ·
    refine Sc.seq ?_
    refine Sc.region ?_
    refine Sl.calm (Cm.move rfl) rfl ?_
    refine Sl.fork (Cm.lss rfl rfl) rfl (fun h26 => ?_) (fun h26 => ?_)
    ·
      refine Sl.nil ?_
      refine At.weak [(0, _), (1, _), (2, _), (6, _), (7, _), (8, _), (9, _), (10, _), (26, _)] ⟨rfl, rfl, rfl, rfl, rfl, rfl, rfl, rfl, rfl, trivial⟩ ?_
      refine At.go ?_
      refine Sc.cond_t rfl ?_
      refine Sc.region ?_
      refine Sl.calm (Cm.move rfl) rfl ?_
      refine Sl.calm (Cm.neg64 rfl (by omega)) rfl ?_
      refine Sl.calm (Cm.assign rfl) rfl ?_
      refine Sl.nil ?_
      exact At.cut r.natAbs ⟨rfl, rfl, rfl, rfl, rfl, by show some (Value.int .i64 _) = some (Value.int .i64 _); congr 2; omega, trivial⟩ ⟨by omega, rfl⟩
    ·
      refine Sl.nil ?_
      refine At.weak [(0, _), (1, _), (2, _), (6, _), (7, _), (8, _), (9, _), (10, _), (26, _)] ⟨rfl, rfl, rfl, rfl, rfl, rfl, rfl, rfl, rfl, trivial⟩ ?_
      refine At.go ?_
      refine Sc.cond_f rfl ?_
      refine Sc.skip ?_
      exact At.cut r.natAbs ⟨rfl, rfl, rfl, rfl, rfl, by show some (Value.int .i64 _) = some (Value.int .i64 _); congr 2; omega, trivial⟩ ⟨by omega, rfl⟩
  ·
    rintro k wq ⟨hk, hwq⟩
    subst wq
    refine Sc.seq ?_
    refine Sc.region ?_
    refine Sl.calm (Cm.move rfl) rfl ?_
    refine Sl.make b8 (0 : UInt8) sl30 z5 rfl rfl rfl (by omega) (by omega) (by omega) (by omega) rfl ?_
    intro w3 ho3 hs3 hf3
    have hkn : ((k : Nat) : Int).toNat = k := rfl
    rw [hkn] at ho3 ⊢
    obtain ⟨g3, hg3⟩ : ∃ g, g = w2.heap.size := ⟨_, rfl⟩
    rw [← hg3] at ho3 ⊢
    refine Sl.calm (Cm.assign rfl) rfl ?_
    refine Sl.nil ?_
    refine At.weak [(0, _), (1, _), (7, _), (8, _), (9, _), (10, _), (11, _)] ⟨rfl, rfl, rfl, rfl, rfl, rfl, rfl, trivial⟩ ?_
    refine At.go ?_
    refine Sc.seq ?_
    refine Sc.seq ?_
    refine Sc.region ?_
    refine Sl.calm (Cm.assign rfl) rfl ?_
    refine Sl.nil ?_
    refine At.go ?_
    refine Sc.block ?_
    refine Sc.loop (β := Nat) (fun i => [(0, .slice ao b.length cap), (1, .int .u8 u.toNat), (7, .bool true), (8, .slice o2 (pkS b).length c2), (9, .int .i64 0), (10, .int .i64 k), (11, .slice (some ⟨g3, 0, none⟩) k k), (12, .int .i64 i)]) (fun i w => i ≤ k ∧ Own b8 5 w.heap (some ⟨g3, 0, none⟩) k (List.replicate i u ++ List.replicate (k - i) 0) ∧ Foot nob w2 w) (fun i => k - i) 0 ⟨rfl, rfl, rfl, rfl, rfl, rfl, rfl, rfl, trivial⟩ ⟨Nat.zero_le _, by simpa using ho3, hf3⟩ ?_
    rintro i w4 ⟨hi, ho4, hF4⟩
    refine Sc.seq ?_
    refine Sc.seq ?_
    refine Sc.region ?_
    refine Sl.calm (Cm.move rfl) rfl ?_
    refine Sl.calm (Cm.move rfl) rfl ?_
    refine Sl.fork (Cm.lss rfl rfl) rfl (fun h33 => ?_) (fun h33 => ?_)
    ·
      refine Sl.nil ?_
      refine At.weak [(0, _), (1, _), (7, _), (8, _), (9, _), (10, _), (11, _), (12, _), (33, _)] ⟨rfl, rfl, rfl, rfl, rfl, rfl, rfl, rfl, rfl, trivial⟩ ?_
      refine At.go ?_
      refine Sc.cond_t rfl ?_
      refine Sc.skip ?_
      refine At.go ?_
      refine Sc.seq ?_
      refine Sc.block ?_
      refine Sc.region ?_
      refine Sl.calm (Cm.move rfl) rfl ?_
      refine Sl.calm (Cm.move rfl) rfl ?_
      refine Sl.calm (Cm.move rfl) rfl ?_
      refine Sl.calm (Cm.indexAddr1 sl30 rfl rfl (fun _ => by simp) (by omega)) rfl ?_
      have hil : (List.replicate i u ++ List.replicate (k - i) (0 : UInt8)).length = k := by simp; omega
      refine Sl.storeRow b8_one sca5 (z := (i : Int)) (u := u) rfl rfl ho4 (by rw [hil]; omega) ?_
      intro w5 ho5 hs5 hf5
      have hin : ((i : Nat) : Int).toNat = i := rfl
      rw [hin, same_set u (by omega)] at ho5
      refine Sl.nil ?_
      refine At.block_normal ?_
      refine At.weak [(0, _), (1, _), (7, _), (8, _), (9, _), (10, _), (11, _), (12, _), (33, _)] ⟨rfl, rfl, rfl, rfl, rfl, rfl, rfl, rfl, rfl, trivial⟩ ?_
      refine At.go ?_
      refine Sc.region ?_
      refine Sl.calm (Cm.move rfl) rfl ?_
      refine Sl.calm (Cm.add64 rfl rfl (by omega)) rfl ?_
      refine Sl.calm (Cm.assign rfl) rfl ?_
      refine Sl.nil ?_
      exact At.again (i + 1) ⟨rfl, rfl, rfl, rfl, rfl, rfl, rfl, rfl, trivial⟩ ⟨by omega, ho5, hF4.trans_to hf5 (fun q ⟨x, hx, hq⟩ => .inr (by cases hx; have h : g3 = q := hq; omega))⟩ (by show k - (i + 1) < k - i; omega)
    ·
      refine Sl.nil ?_
      refine At.weak [(0, _), (1, _), (7, _), (8, _), (9, _), (10, _), (11, _), (12, _), (33, _)] ⟨rfl, rfl, rfl, rfl, rfl, rfl, rfl, rfl, rfl, trivial⟩ ?_
      refine At.go ?_
      refine Sc.cond_f rfl ?_
      refine Sc.exit ?_
      refine At.then_exit ?_
      refine At.then_exit ?_
      refine At.block_hit ?_
      refine At.go ?_
      refine Sc.seq ?_
      refine Sc.region ?_
      refine Sl.calm (Cm.move rfl) rfl ?_
      have hik : i = k := by omega
      subst hik
      have hrep : List.replicate i u ++ List.replicate (i - i) 0 = List.replicate i u := by simp
      rw [hrep] at ho4
      have hsl : Value.slice (some ⟨g3, 0, none⟩) i i = .slice (some ⟨g3, 0, none⟩) (List.replicate i u).length i := by rw [List.length_replicate]
      refine Sl.call fn22 rfl (by rw [hsl]; exact pack_ok _ _ (List.replicate i u) w4 ho4.vw) rfl ?_
      rw [pkR_fit (by rw [List.length_replicate]; omega)]
      intro _ w6 hP
      have hP : PutE _ (pkS (List.replicate i u)) 0 _ w6 := hP
      obtain ⟨o6, c6, rfl, ho6, hfr6, hf6⟩ := hP
      have hss := same_short u i
      refine Sl.calm (Cm.move rfl) rfl ?_
      refine Sl.calm (Cm.extract rfl rfl) rfl ?_
      refine Sl.calm (Cm.extract rfl rfl) rfl ?_
      refine Sl.calm (Cm.assign rfl) rfl ?_
      refine Sl.calm (Cm.assign rfl) rfl ?_
      refine Sl.nil ?_
      refine At.weak [(0, _), (1, _), (7, _), (8, _), (9, _), (10, _), (11, _), (12, _), (13, _), (14, _), (33, _)] ⟨rfl, rfl, rfl, rfl, rfl, rfl, rfl, rfl, rfl, rfl, rfl, trivial⟩ ?_
      refine At.go ?_
      refine Sc.seq ?_
      refine Sc.region ?_
      refine Sl.calm (Cm.move rfl) rfl ?_
      refine Sl.calm (Cm.move rfl) rfl ?_
      refine Sl.want rfl rfl (Cm.move rfl) rfl ?_
      refine Sl.want rfl rfl (Cm.yes (Cm.eql rfl rfl) rfl) rfl ?_
      refine Sl.calm (Cm.pick_t rfl rfl) rfl ?_
      refine Sl.calm (Cm.move rfl) rfl ?_
      refine Sl.want rfl rfl (Cm.move rfl) rfl ?_
      refine Sl.want rfl rfl (Cm.yes (Cm.eql rfl rfl) rfl) rfl ?_
      refine Sl.calm (Cm.pick_t rfl rfl) rfl ?_
      refine Sl.calm (Cm.move rfl) rfl ?_
      refine Sl.want rfl rfl (Cm.move rfl) rfl ?_
      refine Sl.want rfl rfl (Cm.len sl30 rfl) rfl ?_
      refine Sl.want rfl rfl (Cm.move rfl) rfl ?_
      refine Sl.want rfl rfl (Cm.len sl30 rfl) rfl ?_
      refine Sl.want rfl rfl (Cm.move rfl) rfl ?_
      refine Sl.want rfl rfl (Cm.len sl30 rfl) rfl ?_
      refine Sl.want rfl rfl (Cm.add64 rfl rfl (by omega)) rfl ?_
      refine Sl.want rfl rfl (Cm.quo64 rfl rfl (by omega) (by decide)) rfl ?_
      refine Sl.want rfl rfl (Cm.add64 rfl rfl (by omega)) rfl ?_
      refine Sl.want rfl rfl (Cm.yes (Cm.leq rfl rfl) (by omega)) rfl ?_
      refine Sl.calm (Cm.pick_t rfl rfl) rfl ?_
      refine Sl.calm (Cm.move rfl) rfl ?_
      refine Sl.want rfl rfl (Cm.move rfl) rfl ?_
      refine Sl.want rfl rfl (Cm.len sl30 rfl) rfl ?_
      refine Sl.want rfl rfl (Cm.move rfl) rfl ?_
      refine Sl.want rfl rfl (Cm.quo64 rfl rfl (by omega) (by decide)) rfl ?_
      refine Sl.want rfl rfl (Cm.mul64 rfl rfl (by omega)) rfl ?_
      refine Sl.want rfl rfl (Cm.add64 rfl rfl (by omega)) rfl ?_
      refine Sl.want rfl rfl (Cm.add64 rfl rfl (by omega)) rfl ?_
      refine Sl.want rfl rfl (Cm.yes (Cm.leq rfl rfl) (by omega)) rfl ?_
      refine Sl.calm (Cm.pick_t rfl rfl) rfl ?_
      refine Sl.calm (Cm.assign rfl) rfl ?_
      refine Sl.nil ?_
      refine At.weak [(0, _), (1, _), (6, _), (7, _), (8, _), (9, _), (10, _), (11, _), (12, _), (13, _), (14, _), (33, _)] ⟨rfl, rfl, rfl, rfl, rfl, rfl, rfl, rfl, rfl, rfl, rfl, rfl, trivial⟩ ?_
      refine At.go ?_
      refine Sc.ret ?_
      refine At.ret1 rfl rfl ?_
      exact ⟨_, rfl, rfl, ((hf1.trans hf2).trans hF4).trans hf6⟩

theorem mtZ_zero {b : List UInt8} {a : Int} (h : (mtZ b a).1 = 0) : (mtZ b a).2 = 0 := by
  unfold mtZ at h ⊢
  split
  · rfl
  · rename_i hn
    rw [if_neg hn] at h
    rw [mt_zero h]
set_option maxHeartbeats 2000000 in
theorem lzNearest_ok (b0 : List UInt8) (ao : Option Addr) (cap : Nat) (a other : Int) (W : World) (hv0 : Vw b8 W.heap ao cap b0) (ha : -9223372036854775808 ≤ a ∧ a ≤ 9223372036854775807) (ho : -9223372036854775808 ≤ other ∧ other ≤ 9223372036854775807) :
    Calls Try.prog 11 [.slice ao b0.length cap, .int .i64 a, .int .i64 other].toArray W (Ret fun v w' => v = .bool true ∧ Foot nob W w') := by
  refine calls_of_sc 157 [(0, _), (1, _), (2, _)] Try.func11 rfl rfl rfl (enter_slots ⟨rfl, rfl, rfl, trivial⟩) ?_
  refine Sc.seq ?_
  refine Sc.region ?_
  refine Sl.calm (Cm.assign rfl) rfl ?_
  refine Sl.nil ?_
  refine At.go ?_
  refine Sc.seq ?_
  refine Sc.region ?_
  refine Sl.call fn20 rfl (shown01_ok W) rfl ?_
  rintro _ w1 ⟨rfl, hf1⟩
  refine Sl.calm (Cm.assign rfl) rfl ?_
  refine Sl.nil ?_
  refine At.weak [(0, _), (1, _), (2, _), (6, _), (7, _)] ⟨rfl, rfl, rfl, rfl, rfl, trivial⟩ ?_
  refine At.go ?_
  refine Sc.seq ?_
  refine Sc.region ?_
  refine Sl.calm (Cm.move rfl) rfl ?_
  refine Sl.call fn21 rfl (few_ok ao cap b0 600 w1 (hv0.grow hf1)) rfl ?_
  rintro _ wq ⟨rfl, hwq⟩
  subst wq
  obtain ⟨b, hb⟩ : ∃ b, b = b0.take 600 := ⟨_, rfl⟩
  have hbl : b.length ≤ 600 := by rw [hb, List.length_take]; omega
  have hv1 : Vw b8 w1.heap ao cap b := by rw [hb]; exact (hv0.grow hf1).take 600
  rw [← hb]
  refine Sl.calm (Cm.assign rfl) rfl ?_
  refine Sl.nil ?_
  refine At.weak [(0, _), (1, _), (2, _), (6, _), (7, _)] ⟨rfl, rfl, rfl, rfl, rfl, trivial⟩ ?_
  refine At.go ?_
  refine Sc.seq ?_
  refine Sc.region ?_
  refine Sl.calm (Cm.move rfl) rfl ?_
  refine Sl.calm (Cm.move rfl) rfl ?_
  refine Sl.call fn26 rfl (lmatch_ok ao cap b a w1 hv1 (by omega)) rfl ?_
  rintro _ w2 ⟨rfl, hf2⟩
  have hv := hv1.grow hf2
  obtain ⟨n, hn⟩ : ∃ n, n = (mtZ b a).1 := ⟨_, rfl⟩
  obtain ⟨bk, hbk⟩ : ∃ x, x = (mtZ b a).2 := ⟨_, rfl⟩
  rw [← hn, ← hbk]
  refine Sl.calm (Cm.move rfl) rfl ?_
  refine Sl.calm (Cm.extract rfl rfl) rfl ?_
  refine Sl.calm (Cm.extract rfl rfl) rfl ?_
  refine Sl.calm (Cm.assign rfl) rfl ?_
  refine Sl.calm (Cm.assign rfl) rfl ?_
  refine Sl.nil ?_
  refine At.weak [(0, _), (1, _), (2, _), (6, _), (7, _), (8, _), (9, _)] ⟨rfl, rfl, rfl, rfl, rfl, rfl, rfl, trivial⟩ ?_
  refine At.go ?_
  refine Sc.seq ?_
  refine Sc.seq ?_
  refine Sc.region ?_
  refine Sl.calm (Cm.move rfl) rfl ?_
  refine Sl.fork (Cm.eql rfl rfl) rfl (fun h23 => ?_) (fun h23 => ?_)
  ·
    have hb0 : bk = 0 := by rw [hbk]; exact mtZ_zero (by omega)
    refine Sl.nil ?_
    refine At.weak [(0, _), (1, _), (2, _), (6, _), (7, _), (8, _), (9, _), (23, _)] ⟨rfl, rfl, rfl, rfl, rfl, rfl, rfl, rfl, trivial⟩ ?_
    refine At.go ?_
    refine Sc.cond_t rfl ?_
    refine Sc.seq ?_
    refine Sc.region ?_
    refine Sl.calm (Cm.move rfl) rfl ?_
    refine Sl.calm (Cm.move rfl) rfl ?_
    refine Sl.want rfl rfl (Cm.move rfl) rfl ?_
    refine Sl.want rfl rfl (Cm.yes (Cm.eql rfl rfl) (by omega)) rfl ?_
    refine Sl.calm (Cm.pick_t rfl rfl) rfl ?_
    refine Sl.calm (Cm.assign rfl) rfl ?_
    refine Sl.nil ?_
    refine At.weak [(0, _), (1, _), (2, _), (6, _), (7, _), (8, _), (9, _), (23, _)] ⟨rfl, rfl, rfl, rfl, rfl, rfl, rfl, rfl, trivial⟩ ?_
    refine At.go ?_
    refine Sc.ret ?_
    refine At.then_ret ?_
    refine At.ret1 rfl rfl ?_
    first
      | exact ⟨_, rfl, rfl, hf1.trans hf2⟩
      | exact ⟨_, rfl, rfl, (hf1.trans hf2).draws d⟩
      | exact ⟨_, rfl, rfl, (hf1.trans hf2).draws (e + 1)⟩
  ·
    obtain ⟨q, hq⟩ : ∃ q : Nat, a = q := ⟨a.toNat, by
      apply Classical.byContradiction
      intro h
      have : mtZ b a = (0, 0) := mtZ_none (by omega)
      rw [this] at hn
      omega⟩
    subst hq
    rw [mtZ_nat] at hn hbk
    have hn1 : (mt b q).1 ≠ 0 := by omega
    obtain ⟨m1, m2, m3, m4, m5, m6, m7, m8, m9⟩ := mt_spec hn1
    rw [← hn] at m2 m3 m4 m8 m9
    rw [← hbk] at m5 m6 m7 m8 m9
    have hcl := lik_spec b q (q - bk)
    rw [m8] at hcl
    refine Sl.nil ?_
    refine At.weak [(0, _), (1, _), (2, _), (6, _), (7, _), (8, _), (9, _), (23, _)] ⟨rfl, rfl, rfl, rfl, rfl, rfl, rfl, rfl, trivial⟩ ?_
    refine At.go ?_
    refine Sc.cond_f rfl ?_
    refine Sc.skip ?_
    refine At.go ?_
    refine Sc.seq ?_
    refine Sc.seq ?_
    refine Sc.region ?_
    refine Sl.calm (Cm.move rfl) rfl ?_
    refine Sl.calm (Cm.no (Cm.lss rfl rfl) (by omega)) rfl ?_
    refine Sl.calm (Cm.move rfl) rfl ?_
    refine Sl.want rfl rfl (Cm.move rfl) rfl ?_
    refine Sl.want rfl rfl (Cm.move rfl) rfl ?_
    refine Sl.want rfl rfl (Cm.len sl30 rfl) rfl ?_
    refine Sl.want rfl rfl (Cm.no (Cm.geq rfl rfl) (by omega)) rfl ?_
    refine Sl.calm (Cm.pick_f rfl rfl) rfl ?_
    refine Sl.calm (Cm.move rfl) rfl ?_
    refine Sl.want rfl rfl (Cm.move rfl) rfl ?_
    refine Sl.want rfl rfl (Cm.no (Cm.lss rfl rfl) (by omega)) rfl ?_
    refine Sl.calm (Cm.pick_f rfl rfl) rfl ?_
    refine Sl.calm (Cm.move rfl) rfl ?_
    refine Sl.want rfl rfl (Cm.move rfl) rfl ?_
    refine Sl.want rfl rfl (Cm.no (Cm.gtr rfl rfl) (by omega)) rfl ?_
    refine Sl.calm (Cm.pick_f rfl rfl) rfl ?_
    refine Sl.calm (Cm.move rfl) rfl ?_
    refine Sl.want rfl rfl (Cm.move rfl) rfl ?_
    refine Sl.want rfl rfl (Cm.move rfl) rfl ?_
    refine Sl.want rfl rfl (Cm.len sl30 rfl) rfl ?_
    refine Sl.want rfl rfl (Cm.move rfl) rfl ?_
    refine Sl.want rfl rfl (Cm.sub64 rfl rfl (by omega)) rfl ?_
    refine Sl.want rfl rfl (Cm.no (Cm.gtr rfl rfl) (by omega)) rfl ?_
    refine Sl.calm (Cm.pick_f rfl rfl) rfl ?_
    refine Sl.calm (Cm.move rfl) rfl ?_
    refine Sl.want rfl rfl (Cm.move rfl) rfl ?_
    refine Sl.want rfl rfl (Cm.no (Cm.lss rfl rfl) (by omega)) rfl ?_
    refine Sl.calm (Cm.pick_f rfl rfl) rfl ?_
    refine Sl.calm (Cm.move rfl) rfl ?_
    refine Sl.want rfl rfl (Cm.move rfl) rfl ?_
    refine Sl.want rfl rfl (Cm.no (Cm.gtr rfl rfl) (by omega)) rfl ?_
    refine Sl.calm (Cm.pick_f rfl rfl) rfl ?_
    refine Sl.calm (Cm.move rfl) rfl ?_
    refine Sl.want rfl rfl (Cm.move rfl) rfl ?_
    refine Sl.want rfl rfl (Cm.move rfl) rfl ?_
    refine Sl.want rfl rfl (Cm.no (Cm.gtr rfl rfl) (by omega)) rfl ?_
    refine Sl.calm (Cm.pick_f rfl rfl) rfl ?_
    refine Sl.nil ?_
    refine At.weak [(0, _), (1, _), (2, _), (6, _), (7, _), (8, _), (9, _), (23, _), (65, _)] ⟨rfl, rfl, rfl, rfl, rfl, rfl, rfl, rfl, rfl, trivial⟩ ?_
    refine At.go ?_
    refine Sc.cond_f rfl ?_
    refine Sc.skip ?_
    refine At.go ?_
    refine Sc.seq ?_
    refine Sc.seq ?_
    refine Sc.region ?_
    refine Sl.calm (Cm.assign rfl) rfl ?_
    refine Sl.nil ?_
    refine At.go ?_
    refine Sc.block ?_
    refine Sc.loop (β := Nat × Nat) (fun ⟨i, d⟩ => [(0, .slice ao b.length cap), (1, .int .i64 q), (2, .int .i64 other), (7, .bool true), (8, .int .i64 n), (9, .int .i64 bk), (10, .int .i64 i)]) (fun ⟨i, d⟩ w => i ≤ n ∧ w = w2.drewN d) (fun ⟨i, d⟩ => n - i) ⟨0, 0⟩ ⟨rfl, rfl, rfl, rfl, rfl, rfl, rfl, trivial⟩ ⟨Nat.zero_le _, rfl⟩ ?_
    rintro ⟨i, d⟩ _ ⟨hi, rfl⟩
    refine Sc.seq ?_
    refine Sc.seq ?_
    refine Sc.region ?_
    refine Sl.calm (Cm.move rfl) rfl ?_
    refine Sl.calm (Cm.move rfl) rfl ?_
    refine Sl.fork (Cm.lss rfl rfl) rfl (fun h68 => ?_) (fun h68 => ?_)
    ·
      refine Sl.nil ?_
      refine At.weak [(0, _), (1, _), (2, _), (7, _), (8, _), (9, _), (10, _), (68, _)] ⟨rfl, rfl, rfl, rfl, rfl, rfl, rfl, rfl, trivial⟩ ?_
      refine At.go ?_
      refine Sc.cond_t rfl ?_
      refine Sc.skip ?_
      refine At.go ?_
      refine Sc.seq ?_
      refine Sc.block ?_
      refine Sc.seq ?_
      refine Sc.quiet 15 [0, 1, 2, 3, 4, 5, 6, 7, 8, 9, 10, 11, 12, 13, 14] mixed (by kernel_rfl) ?_
      refine Sx.calm rfl rfl (Cm.move rfl) rfl ?_
      refine Sx.calm rfl rfl (Cm.move rfl) rfl ?_
      refine Sx.calm rfl rfl (Cm.move rfl) rfl ?_
      refine Sx.calm rfl rfl (Cm.add64 rfl rfl (by omega)) rfl ?_
      refine Sx.calm rfl rfl (Cm.indexAddr1 sl30 rfl rfl hv.non (by omega)) rfl ?_
      refine Sx.calm rfl rfl (Cm.ld sca5 rfl (hv.gz 0 (q + i) (by omega) (by omega))) rfl ?_
      refine Sx.calm rfl rfl (Cm.move rfl) rfl ?_
      refine Sx.calm rfl rfl (Cm.move rfl) rfl ?_
      refine Sx.calm rfl rfl (Cm.move rfl) rfl ?_
      refine Sx.calm rfl rfl (Cm.add64 rfl rfl (by omega)) rfl ?_
      refine Sx.calm rfl rfl (Cm.move rfl) rfl ?_
      refine Sx.calm rfl rfl (Cm.sub64 rfl rfl (by omega)) rfl ?_
      refine Sx.calm rfl rfl (Cm.indexAddr1 sl30 rfl rfl hv.non (by omega)) rfl ?_
      refine Sx.calm rfl rfl (Cm.ld sca5 rfl (hv.gz 0 (q - bk + i) (by omega) (by omega))) rfl ?_
      refine Sx.calm rfl rfl (Cm.no (Cm.neq rfl rfl) (fun h => h (by rw [(hcl.1 i (by omega)).2.2]))) rfl ?_
      refine Sx.nil ?_
      refine At.weak [(0, _), (1, _), (2, _), (7, _), (8, _), (9, _), (10, _), (68, _), (85, _)] ⟨rfl, rfl, rfl, rfl, rfl, rfl, rfl, rfl, rfl, trivial⟩ ?_
      refine At.go ?_
      refine Sc.cond_f rfl ?_
      refine Sc.skip ?_
      refine At.block_normal ?_
      refine At.go ?_
      refine Sc.region ?_
      refine Sl.calm (Cm.move rfl) rfl ?_
      refine Sl.calm (Cm.add64 rfl rfl (by omega)) rfl ?_
      refine Sl.calm (Cm.assign rfl) rfl ?_
      refine Sl.nil ?_
      exact At.again ⟨i + 1, d + 1⟩ ⟨rfl, rfl, rfl, rfl, rfl, rfl, rfl, trivial⟩ ⟨by omega, rfl⟩ (by show n - (i + 1) < n - i; omega)
    ·
      refine Sl.nil ?_
      refine At.weak [(0, _), (1, _), (2, _), (7, _), (8, _), (9, _), (10, _), (68, _)] ⟨rfl, rfl, rfl, rfl, rfl, rfl, rfl, rfl, trivial⟩ ?_
      refine At.go ?_
      refine Sc.cond_f rfl ?_
      refine Sc.exit ?_
      refine At.then_exit ?_
      refine At.then_exit ?_
      refine At.block_hit ?_
      refine At.go ?_
      refine Sc.cut (β := Nat) (fun d => [(0, .slice ao b.length cap), (1, .int .i64 q), (2, .int .i64 other), (7, .bool true), (8, .int .i64 n), (9, .int .i64 bk), (11, .bool false)]) (fun d w => w = w2.drewN d) ?_ ?_
      ·
        refine Sc.quiet 28 [0, 1, 2, 3, 4, 5, 6, 7, 8, 9, 10, 11, 12, 13, 14, 15, 16, 17, 18, 19, 20, 21, 22, 23, 24, 25, 26, 27] mixed (by kernel_rfl) ?_
        refine Sx.calm rfl rfl (Cm.move rfl) rfl ?_
        refine Sx.fork rfl rfl (Cm.lss rfl rfl) rfl (fun h87 => ?_) (fun h87 => ?_)
        ·
          refine Sx.calm rfl rfl (Cm.move rfl) rfl ?_
          refine Sx.want rfl rfl rfl rfl (Cm.move rfl) rfl ?_
          refine Sx.want rfl rfl rfl rfl (Cm.move rfl) rfl ?_
          refine Sx.want rfl rfl rfl rfl (Cm.add64 rfl rfl (by omega)) rfl ?_
          refine Sx.want rfl rfl rfl rfl (Cm.move rfl) rfl ?_
          refine Sx.want rfl rfl rfl rfl (Cm.len sl30 rfl) rfl ?_
          refine Sx.forkWant rfl rfl rfl rfl (Cm.lss rfl rfl) rfl (fun h94 => ?_) (fun h94 => ?_)
          ·
            refine Sx.calm rfl rfl (Cm.pick_t rfl rfl) rfl ?_
            refine Sx.calm rfl rfl (Cm.move rfl) rfl ?_
            refine Sx.want rfl rfl rfl rfl (Cm.move rfl) rfl ?_
            refine Sx.want rfl rfl rfl rfl (Cm.move rfl) rfl ?_
            refine Sx.want rfl rfl rfl rfl (Cm.move rfl) rfl ?_
            refine Sx.want rfl rfl rfl rfl (Cm.add64 rfl rfl (by omega)) rfl ?_
            refine Sx.want rfl rfl rfl rfl (Cm.indexAddr1 sl30 rfl rfl hv.non (by omega)) rfl ?_
            refine Sx.want rfl rfl rfl rfl (Cm.ld sca5 rfl (hv.gz 0 (q + n) (by omega) (by omega))) rfl ?_
            refine Sx.want rfl rfl rfl rfl (Cm.move rfl) rfl ?_
            refine Sx.want rfl rfl rfl rfl (Cm.move rfl) rfl ?_
            refine Sx.want rfl rfl rfl rfl (Cm.move rfl) rfl ?_
            refine Sx.want rfl rfl rfl rfl (Cm.add64 rfl rfl (by omega)) rfl ?_
            refine Sx.want rfl rfl rfl rfl (Cm.move rfl) rfl ?_
            refine Sx.want rfl rfl rfl rfl (Cm.sub64 rfl rfl (by omega)) rfl ?_
            refine Sx.want rfl rfl rfl rfl (Cm.indexAddr1 sl30 rfl rfl hv.non (by omega)) rfl ?_
            refine Sx.want rfl rfl rfl rfl (Cm.ld sca5 rfl (hv.gz 0 (q - bk + n) (by omega) (by omega))) rfl ?_
            refine Sx.want rfl rfl rfl rfl (Cm.no (Cm.eql rfl rfl) (fun h => hcl.2 ⟨by omega, by omega, cl_byte h⟩)) rfl ?_
            refine Sx.calm rfl rfl (Cm.pick_t rfl rfl) rfl ?_
            refine Sx.calm rfl rfl (Cm.assign rfl) rfl ?_
            refine Sx.nil ?_
            exact At.cut (d + 1) ⟨rfl, rfl, rfl, rfl, rfl, rfl, rfl, trivial⟩ rfl
          ·
            refine Sx.calm rfl rfl (Cm.pick_t rfl rfl) rfl ?_
            refine Sx.calm rfl rfl (Cm.move rfl) rfl ?_
            refine Sx.skip rfl rfl rfl rfl rfl rfl ?_
            refine Sx.skip rfl rfl rfl rfl rfl rfl ?_
            refine Sx.skip rfl rfl rfl rfl rfl rfl ?_
            refine Sx.skip rfl rfl rfl rfl rfl rfl ?_
            refine Sx.skip rfl rfl rfl rfl rfl rfl ?_
            refine Sx.skip rfl rfl rfl rfl rfl rfl ?_
            refine Sx.skip rfl rfl rfl rfl rfl rfl ?_
            refine Sx.skip rfl rfl rfl rfl rfl rfl ?_
            refine Sx.skip rfl rfl rfl rfl rfl rfl ?_
            refine Sx.skip rfl rfl rfl rfl rfl rfl ?_
            refine Sx.skip rfl rfl rfl rfl rfl rfl ?_
            refine Sx.skip rfl rfl rfl rfl rfl rfl ?_
            refine Sx.skip rfl rfl rfl rfl rfl rfl ?_
            refine Sx.skip rfl rfl rfl rfl rfl rfl ?_
            refine Sx.skip rfl rfl rfl rfl rfl rfl ?_
            refine Sx.calm rfl rfl (Cm.pick_f rfl rfl) rfl ?_
            refine Sx.calm rfl rfl (Cm.assign rfl) rfl ?_
            refine Sx.nil ?_
            exact At.cut (d + 1) ⟨rfl, rfl, rfl, rfl, rfl, rfl, rfl, trivial⟩ rfl
        ·
          refine Sx.calm rfl rfl (Cm.move rfl) rfl ?_
          refine Sx.skip rfl rfl rfl rfl rfl rfl ?_
          refine Sx.skip rfl rfl rfl rfl rfl rfl ?_
          refine Sx.skip rfl rfl rfl rfl rfl rfl ?_
          refine Sx.skip rfl rfl rfl rfl rfl rfl ?_
          refine Sx.skip rfl rfl rfl rfl rfl rfl ?_
          refine Sx.skip rfl rfl rfl rfl rfl rfl ?_
          refine Sx.calm rfl rfl (Cm.pick_f rfl rfl) rfl ?_
          refine Sx.calm rfl rfl (Cm.move rfl) rfl ?_
          refine Sx.skip rfl rfl rfl rfl rfl rfl ?_
          refine Sx.skip rfl rfl rfl rfl rfl rfl ?_
          refine Sx.skip rfl rfl rfl rfl rfl rfl ?_
          refine Sx.skip rfl rfl rfl rfl rfl rfl ?_
          refine Sx.skip rfl rfl rfl rfl rfl rfl ?_
          refine Sx.skip rfl rfl rfl rfl rfl rfl ?_
          refine Sx.skip rfl rfl rfl rfl rfl rfl ?_
          refine Sx.skip rfl rfl rfl rfl rfl rfl ?_
          refine Sx.skip rfl rfl rfl rfl rfl rfl ?_
          refine Sx.skip rfl rfl rfl rfl rfl rfl ?_
          refine Sx.skip rfl rfl rfl rfl rfl rfl ?_
          refine Sx.skip rfl rfl rfl rfl rfl rfl ?_
          refine Sx.skip rfl rfl rfl rfl rfl rfl ?_
          refine Sx.skip rfl rfl rfl rfl rfl rfl ?_
          refine Sx.skip rfl rfl rfl rfl rfl rfl ?_
          refine Sx.calm rfl rfl (Cm.pick_f rfl rfl) rfl ?_
          refine Sx.calm rfl rfl (Cm.assign rfl) rfl ?_
          refine Sx.nil ?_
          exact At.cut (d + 1) ⟨rfl, rfl, rfl, rfl, rfl, rfl, rfl, trivial⟩ rfl
      ·
        rintro d _ rfl
        refine Sc.seq ?_
        refine Sc.seq ?_
        refine Sc.region ?_
        refine Sl.calm (Cm.move rfl) rfl ?_
        refine Sl.fork (Cm.lss rfl rfl) rfl (fun h114 => ?_) (fun h114 => ?_)
        ·
          refine Sl.calm (Cm.move rfl) rfl ?_
          refine Sl.skip rfl rfl rfl rfl ?_
          refine Sl.skip rfl rfl rfl rfl ?_
          refine Sl.skip rfl rfl rfl rfl ?_
          refine Sl.calm (Cm.pick_t rfl rfl) rfl ?_
          refine Sl.nil ?_
          refine At.weak [(0, _), (1, _), (2, _), (7, _), (8, _), (9, _), (11, _), (119, _)] ⟨rfl, rfl, rfl, rfl, rfl, rfl, rfl, rfl, trivial⟩ ?_
          refine At.go ?_
          refine Sc.cond_t rfl ?_
          refine Sc.seq ?_
          refine Sc.region ?_
          refine Sl.calm (Cm.move rfl) rfl ?_
          refine Sl.calm (Cm.move rfl) rfl ?_
          refine Sl.want rfl rfl (Cm.move rfl) rfl ?_
          refine Sl.want rfl rfl (Cm.not rfl) rfl ?_
          refine Sl.calm (Cm.pick_t rfl rfl) rfl ?_
          refine Sl.calm (Cm.assign rfl) rfl ?_
          refine Sl.nil ?_
          refine At.weak [(0, _), (1, _), (2, _), (6, _), (7, _), (8, _), (9, _), (11, _), (119, _)] ⟨rfl, rfl, rfl, rfl, rfl, rfl, rfl, rfl, rfl, trivial⟩ ?_
          refine At.go ?_
          refine Sc.ret ?_
          refine At.then_ret ?_
          refine At.ret1 rfl rfl ?_
          first
            | exact ⟨_, rfl, rfl, hf1.trans hf2⟩
            | exact ⟨_, rfl, rfl, (hf1.trans hf2).draws d⟩
            | exact ⟨_, rfl, rfl, (hf1.trans hf2).draws (e + 1)⟩
        ·
          refine Sl.calm (Cm.move rfl) rfl ?_
          refine Sl.want rfl rfl (Cm.move rfl) rfl ?_
          refine Sl.want rfl rfl (Cm.move rfl) rfl ?_
          refine Sl.forkWant rfl rfl (Cm.geq rfl rfl) rfl (fun h118 => ?_) (fun h118 => ?_)
          ·
            refine Sl.calm (Cm.pick_f rfl rfl) rfl ?_
            refine Sl.nil ?_
            refine At.weak [(0, _), (1, _), (2, _), (7, _), (8, _), (9, _), (11, _), (119, _)] ⟨rfl, rfl, rfl, rfl, rfl, rfl, rfl, rfl, trivial⟩ ?_
            refine At.go ?_
            refine Sc.cond_t rfl ?_
            refine Sc.seq ?_
            refine Sc.region ?_
            refine Sl.calm (Cm.move rfl) rfl ?_
            refine Sl.calm (Cm.move rfl) rfl ?_
            refine Sl.want rfl rfl (Cm.move rfl) rfl ?_
            refine Sl.want rfl rfl (Cm.not rfl) rfl ?_
            refine Sl.calm (Cm.pick_t rfl rfl) rfl ?_
            refine Sl.calm (Cm.assign rfl) rfl ?_
            refine Sl.nil ?_
            refine At.weak [(0, _), (1, _), (2, _), (6, _), (7, _), (8, _), (9, _), (11, _), (119, _)] ⟨rfl, rfl, rfl, rfl, rfl, rfl, rfl, rfl, rfl, trivial⟩ ?_
            refine At.go ?_
            refine Sc.ret ?_
            refine At.then_ret ?_
            refine At.ret1 rfl rfl ?_
            first
              | exact ⟨_, rfl, rfl, hf1.trans hf2⟩
              | exact ⟨_, rfl, rfl, (hf1.trans hf2).draws d⟩
              | exact ⟨_, rfl, rfl, (hf1.trans hf2).draws (e + 1)⟩
          ·
            obtain ⟨j, rfl⟩ : ∃ j : Nat, other = j := ⟨other.toNat, by omega⟩
            refine Sl.calm (Cm.pick_f rfl rfl) rfl ?_
            refine Sl.nil ?_
            refine At.weak [(0, _), (1, _), (2, _), (7, _), (8, _), (9, _), (11, _), (119, _)] ⟨rfl, rfl, rfl, rfl, rfl, rfl, rfl, rfl, trivial⟩ ?_
            refine At.go ?_
            refine Sc.cond_f rfl ?_
            refine Sc.skip ?_
            refine At.go ?_
            refine Sc.seq ?_
            refine Sc.region ?_
            refine Sl.calm (Cm.assign rfl) rfl ?_
            refine Sl.nil ?_
            refine At.go ?_
            refine Sc.seq ?_
            refine Sc.block ?_
            refine Sc.loop (β := Nat × Nat) (fun ⟨k, e⟩ => [(0, .slice ao b.length cap), (1, .int .i64 q), (2, .int .i64 j), (7, .bool true), (8, .int .i64 n), (11, .bool false), (12, .int .i64 k)]) (fun ⟨k, e⟩ w => k ≤ n ∧ (∀ i, i < k → CL b q (q - j) i) ∧ w = w2.drewN e) (fun ⟨k, e⟩ => n - k) ⟨0, d⟩ ⟨rfl, rfl, rfl, rfl, rfl, rfl, rfl, trivial⟩ ⟨Nat.zero_le _, fun i hi => by omega, rfl⟩ ?_
            rintro ⟨k, e⟩ _ ⟨hk, hall, rfl⟩
            refine Sc.seq ?_
            refine Sc.seq ?_
            refine Sc.quiet 20 [0, 1, 2, 3, 4, 5, 6, 7, 8, 9, 10, 11, 12, 13, 14, 15, 16, 17, 18, 19] mixed (by kernel_rfl) ?_
            refine Sx.calm rfl rfl (Cm.move rfl) rfl ?_
            refine Sx.calm rfl rfl (Cm.move rfl) rfl ?_
            refine Sx.fork rfl rfl (Cm.lss rfl rfl) rfl (fun h127 => ?_) (fun h127 => ?_)
            ·
              refine Sx.calm rfl rfl (Cm.move rfl) rfl ?_
              refine Sx.want rfl rfl rfl rfl (Cm.move rfl) rfl ?_
              refine Sx.want rfl rfl rfl rfl (Cm.move rfl) rfl ?_
              refine Sx.want rfl rfl rfl rfl (Cm.move rfl) rfl ?_
              refine Sx.want rfl rfl rfl rfl (Cm.add64 rfl rfl (by omega)) rfl ?_
              refine Sx.want rfl rfl rfl rfl (Cm.indexAddr1 sl30 rfl rfl hv.non (by omega)) rfl ?_
              refine Sx.want rfl rfl rfl rfl (Cm.ld sca5 rfl (hv.gz 0 (q + k) (by omega) (by omega))) rfl ?_
              refine Sx.want rfl rfl rfl rfl (Cm.move rfl) rfl ?_
              refine Sx.want rfl rfl rfl rfl (Cm.move rfl) rfl ?_
              refine Sx.want rfl rfl rfl rfl (Cm.move rfl) rfl ?_
              refine Sx.want rfl rfl rfl rfl (Cm.add64 rfl rfl (by omega)) rfl ?_
              refine Sx.want rfl rfl rfl rfl (Cm.move rfl) rfl ?_
              refine Sx.want rfl rfl rfl rfl (Cm.sub64 rfl rfl (by omega)) rfl ?_
              refine Sx.want rfl rfl rfl rfl (Cm.indexAddr1 sl30 rfl rfl hv.non (by omega)) rfl ?_
              refine Sx.want rfl rfl rfl rfl (Cm.ld sca5 rfl (hv.gz 0 (q - j + k) (by omega) (by omega))) rfl ?_
              refine Sx.forkWant rfl rfl rfl rfl (Cm.eql rfl rfl) rfl (fun h143 => ?_) (fun h143 => ?_)
              ·
                refine Sx.calm rfl rfl (Cm.pick_t rfl rfl) rfl ?_
                refine Sx.nil ?_
                refine At.weak [(0, _), (1, _), (2, _), (7, _), (8, _), (11, _), (12, _), (144, _)] ⟨rfl, rfl, rfl, rfl, rfl, rfl, rfl, rfl, trivial⟩ ?_
                refine At.go ?_
                refine Sc.cond_t rfl ?_
                refine Sc.skip ?_
                refine At.go ?_
                refine Sc.block ?_
                refine Sc.region ?_
                refine Sl.calm (Cm.move rfl) rfl ?_
                refine Sl.calm (Cm.add64 rfl rfl (by omega)) rfl ?_
                refine Sl.calm (Cm.assign rfl) rfl ?_
                refine Sl.nil ?_
                refine At.block_normal ?_
                refine At.again ⟨k + 1, e + 1⟩ ⟨rfl, rfl, rfl, rfl, rfl, rfl, rfl, trivial⟩ ⟨by omega, fun i hi => ?_, rfl⟩ (by show n - (k + 1) < n - k; omega)
                by_cases hik : i = k
                · subst hik; exact ⟨by omega, by omega, cl_byte h143⟩
                · exact hall i (by omega)
              ·
                refine Sx.calm rfl rfl (Cm.pick_t rfl rfl) rfl ?_
                refine Sx.nil ?_
                refine At.weak [(0, _), (1, _), (2, _), (7, _), (8, _), (11, _), (12, _), (144, _)] ⟨rfl, rfl, rfl, rfl, rfl, rfl, rfl, rfl, trivial⟩ ?_
                refine At.go ?_
                refine Sc.cond_f rfl ?_
                refine Sc.exit ?_
                refine At.then_exit ?_
                refine At.then_exit ?_
                refine At.block_hit ?_
                refine At.go ?_
                refine Sc.seq ?_
                refine Sc.region ?_
                refine Sl.calm (Cm.move rfl) rfl ?_
                refine Sl.calm (Cm.move rfl) rfl ?_
                refine Sl.want rfl rfl (Cm.move rfl) rfl ?_
                refine Sl.want rfl rfl (Cm.not rfl) rfl ?_
                refine Sl.calm (Cm.pick_t rfl rfl) rfl ?_
                refine Sl.calm (Cm.move rfl) rfl ?_
                refine Sl.want rfl rfl (Cm.move rfl) rfl ?_
                refine Sl.want rfl rfl (Cm.move rfl) rfl ?_
                refine Sl.want rfl rfl (Cm.yes (Cm.lss rfl rfl) (by omega)) rfl ?_
                refine Sl.calm (Cm.pick_t rfl rfl) rfl ?_
                refine Sl.calm (Cm.assign rfl) rfl ?_
                refine Sl.nil ?_
                refine At.weak [(0, _), (1, _), (2, _), (6, _), (7, _), (8, _), (11, _), (12, _), (144, _)] ⟨rfl, rfl, rfl, rfl, rfl, rfl, rfl, rfl, rfl, trivial⟩ ?_
                refine At.go ?_
                refine Sc.ret ?_
                refine At.ret1 rfl rfl ?_
                first
                  | exact ⟨_, rfl, rfl, hf1.trans hf2⟩
                  | exact ⟨_, rfl, rfl, (hf1.trans hf2).draws d⟩
                  | exact ⟨_, rfl, rfl, (hf1.trans hf2).draws (e + 1)⟩
            ·
              exact absurd (m9 j (by omega) (by omega)) (fun h => (lik_spec b q (q - j)).2 (hall _ (by omega)))
end Go.Proofs.Ytapmfoogjkdffaa
