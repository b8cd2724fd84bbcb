/- data: the document's example; files that have the same blocks. No condition beyond the bounds that each states. -/
import Derived.Test.YtpnfjfbfgaiolaaDoorDaGk
namespace Go.Proofs.YtpnfjfbfgaiolaaDoor
open Go Go.RowKit
set_option linter.unusedVariables false

theorem like1_ok (W : World) : Calls Tryd.prog 21 [.int .u8 97, .int .i64 130].toArray W (Ret fun v w' => ∃ o c, v = .slice o daE1.length c ∧ Own b8 5 w'.heap o c daE1 ∧ Fr W.heap.size o ∧ Foot nob W w') :=
  (dlike_ok 97 130 W (by decide)).mono (by rintro e w' ⟨v, rfl, o, c, rfl, h1, h2, h3⟩; exact ⟨_, rfl, o, c, by rw [daE1_len], by unfold daE1; exact h1, h2, h3⟩)
theorem like2_ok (W : World) : Calls Tryd.prog 21 [.int .u8 97, .int .i64 128].toArray W (Ret fun v w' => ∃ o c, v = .slice o daE2.length c ∧ Own b8 5 w'.heap o c daE2 ∧ Fr W.heap.size o ∧ Foot nob W w') :=
  (dlike_ok 97 128 W (by decide)).mono (by rintro e w' ⟨v, rfl, o, c, rfl, h1, h2, h3⟩; exact ⟨_, rfl, o, c, by rw [daE2_len], by unfold daE2; exact h1, h2, h3⟩)
theorem like3_ok (W : World) : Calls Tryd.prog 21 [.int .u8 0, .int .i64 128].toArray W (Ret fun v w' => ∃ o c, v = .slice o daE3.length c ∧ Own b8 5 w'.heap o c daE3 ∧ Fr W.heap.size o ∧ Foot nob W w') :=
  (dlike_ok 0 128 W (by decide)).mono (by rintro e w' ⟨v, rfl, o, c, rfl, h1, h2, h3⟩; exact ⟨_, rfl, o, c, by rw [daE3_len], by unfold daE3; exact h1, h2, h3⟩)
set_option maxHeartbeats 4000000 in
theorem shown12_ok (W : World) : Calls Tryd.prog 8 [].toArray W (Ret fun v w' => v = .bool true ∧ Foot nob W w') := by
  have hl1 := daE1_len
  have hl2 := daE2_len
  have hl3 := daE3_len
  have hb1 := runD_le daE1
  obtain ⟨s3, hds3⟩ : ∃ s, s = (addD 64 (ds1 daE1) daE3).1 := ⟨_, rfl⟩
  have hb3 := (addD_B 64 (ds1 daE1) daE3).1
  rw [← hds3] at hb3
  have hx3 := ex_3
  rw [← hds3] at hx3
  have hb4 := runD_le daE3
  have hx1 := ds1_B daE1
  have hb5 : s3.B.length ≤ 1000 := by omega
  refine calls_of_sc 69 [] Tryd.func8 rfl rfl rfl (enter_slots trivial) ?_
  refine Sc.seq ?_
  refine Sc.region ?_
  refine Sl.calm (Cm.assign rfl) rfl ?_
  refine Sl.nil ?_
  refine At.go ?_
  refine Sc.seq ?_
  refine Sc.region ?_
  refine Sl.call fn10 rfl (crcnew_ok W) rfl ?_
  rintro _ w1 ⟨rfl, hf1⟩
  refine Sl.allocC zc28 rfl ?_
  intro w2 hg2 hs2 hf2
  refine Sl.storeAll (vs := tab) aggTab rfl rfl tab_one hg2 (by rw [tab_len, List.length_replicate]) ?_
  intro w3 hg3 hs3 hf3
  obtain ⟨p, hp⟩ : ∃ p, p = w1.heap.size := ⟨_, rfl⟩
  have hF3 : Foot nob W w3 := (hf1.trans hf2).trans_to hf3 (fun k hk => .inr (by have h : k = w1.heap.size := hk; have := hf1.size; omega))
  rw [← hp] at hg3 ⊢
  have ht3 : TbV w3.heap p := hg3
  refine Sl.nil ?_
  refine At.weak [(0, _), (1, _)] ⟨rfl, rfl, trivial⟩ ?_
  refine At.go ?_
  refine Sc.seq ?_
  refine Sc.region ?_
  refine Sl.call fn11 rfl (dnewT_ok p 64 w3 ht3) rfl ?_
  rintro _ w4 ⟨rfl, hM4, hf4⟩
  obtain ⟨g, hg⟩ : ∃ g, g = w3.heap.size + 1 := ⟨_, rfl⟩
  rw [← hg]
  rw [← hg] at hM4
  obtain ⟨A4, hA4⟩ : ∃ A : Nat → Prop, A = fun k => w3.heap.size ≤ k ∧ k < w4.heap.size := ⟨_, rfl⟩
  rw [← hA4] at hM4
  have hz4 := hf4.size
  have hB4 : ∀ k, A4 k → w3.heap.size ≤ k := by rw [hA4]; rintro k ⟨h, _⟩; exact h
  refine Sl.calm (Cm.assign rfl) rfl ?_
  refine Sl.nil ?_
  refine At.weak [(0, _), (1, _), (2, _)] ⟨rfl, rfl, rfl, trivial⟩ ?_
  refine At.go ?_
  refine Sc.seq ?_
  refine Sc.seq ?_
  refine Sc.region ?_
  refine Sl.calm (Cm.move rfl) rfl ?_
  refine Sl.calm (Cm.eqlPtrNil ptr30 rfl rfl) rfl ?_
  refine Sl.nil ?_
  refine At.weak [(0, _), (1, _), (2, _), (14, _)] ⟨rfl, rfl, rfl, rfl, trivial⟩ ?_
  refine At.go ?_
  refine Sc.cond_f rfl ?_
  refine Sc.skip ?_
  refine At.go ?_
  refine Sc.seq ?_
  refine Sc.region ?_
  refine Sl.calm (Cm.move rfl) rfl ?_
  refine Sl.call fn21 rfl (like1_ok w4) rfl ?_
  rintro _ w5 ⟨o5, c5, rfl, ho5, hfr5, hf5⟩
  have hz5 := hf5.size
  refine Sl.call fn12 rfl (daddT_ok A4 g p 64 ⟨[], []⟩ o5 c5 daE1 w5 (hM4.grow hf5) ho5.vw (by decide) (by decide) (by omega)) rfl ?_
  rw [ex_1]
  rintro _ w6 ⟨o6, c6, rfl, ho6, hfr6, hM6, hF6⟩
  have hz6 := hF6.size
  obtain ⟨A6, hA6⟩ : ∃ A : Nat → Prop, A = fun k => Nx A4 w5 w6 k ∧ ¬ blk o6 k := ⟨_, rfl⟩
  rw [← hA6] at hM6
  have hB6 : ∀ k, A6 k → w3.heap.size ≤ k := by rw [hA6]; rintro k ⟨h | h, _⟩; exact hB4 k h; have := h.1; omega
  have hl6 := ho6.lt
  have hn6 : ∀ k, blk o6 k → ¬ A6 k := by rw [hA6]; exact fun k h e => e.2 h
  refine Sl.calm (Cm.move rfl) rfl ?_
  refine Sl.calm (Cm.extract rfl rfl) rfl ?_
  refine Sl.calm (Cm.extract rfl rfl) rfl ?_
  refine Sl.calm (Cm.assign rfl) rfl ?_
  refine Sl.calm (Cm.assign rfl) rfl ?_
  refine Sl.nil ?_
  refine At.weak [(0, _), (1, _), (2, _), (3, _), (4, _), (14, _)] ⟨rfl, rfl, rfl, rfl, rfl, rfl, trivial⟩ ?_
  refine At.go ?_
  refine Sc.seq ?_
  refine Sc.region ?_
  refine Sl.calm (Cm.move rfl) rfl ?_
  refine Sl.call fn21 rfl (like2_ok w6) rfl ?_
  rintro _ w7 ⟨o7, c7, rfl, ho7, hfr7, hf7⟩
  have hz7 := hf7.size
  refine Sl.call fn12 rfl (daddT_ok A6 g p 64 (ds1 daE1) o7 c7 daE2 w7 (hM6.grow hf7) ho7.vw (by decide) (by omega) (by omega)) rfl ?_
  rw [ex_2]
  rintro _ w8 ⟨o8, c8, rfl, ho8, hfr8, hM8, hF8⟩
  have hz8 := hF8.size
  obtain ⟨A8, hA8⟩ : ∃ A : Nat → Prop, A = fun k => Nx A6 w7 w8 k ∧ ¬ blk o8 k := ⟨_, rfl⟩
  rw [← hA8] at hM8
  have hB8 : ∀ k, A8 k → w3.heap.size ≤ k := by rw [hA8]; rintro k ⟨h | h, _⟩; exact hB6 k h; have := h.1; omega
  have hn8 : ∀ k, blk o6 k → ¬ A8 k := by rw [hA8]; rintro k ⟨a, ha, e⟩ ⟨h | h, _⟩; exact hn6 k ⟨a, ha, e⟩ h; have := hl6 a ha; have := h.1; omega
  refine Sl.calm (Cm.move rfl) rfl ?_
  refine Sl.calm (Cm.extract rfl rfl) rfl ?_
  refine Sl.calm (Cm.extract rfl rfl) rfl ?_
  refine Sl.calm (Cm.assign rfl) rfl ?_
  refine Sl.calm (Cm.assign rfl) rfl ?_
  refine Sl.nil ?_
  refine At.weak [(0, _), (1, _), (2, _), (3, _), (4, _), (5, _), (14, _)] ⟨rfl, rfl, rfl, rfl, rfl, rfl, rfl, trivial⟩ ?_
  refine At.go ?_
  refine Sc.seq ?_
  refine Sc.region ?_
  refine Sl.calm (Cm.move rfl) rfl ?_
  refine Sl.call fn21 rfl (like3_ok w8) rfl ?_
  rintro _ w9 ⟨o9, c9, rfl, ho9, hfr9, hf9⟩
  have hz9 := hf9.size
  refine Sl.call fn12 rfl (daddT_ok A8 g p 64 (ds1 daE1) o9 c9 daE3 w9 (hM8.grow hf9) ho9.vw (by decide) (by omega) (by omega)) rfl ?_
  rintro _ w10 ⟨o10, c10, rfl, ho10, hfr10, hM10, hF10⟩
  have hz10 := hF10.size
  obtain ⟨A10, hA10⟩ : ∃ A : Nat → Prop, A = fun k => Nx A8 w9 w10 k ∧ ¬ blk o10 k := ⟨_, rfl⟩
  rw [← hA10, ← hds3] at hM10
  have hB10 : ∀ k, A10 k → w3.heap.size ≤ k := by rw [hA10]; rintro k ⟨h | h, _⟩; exact hB8 k h; have := h.1; omega
  have hn10 : ∀ k, blk o6 k → ¬ A10 k := by rw [hA10]; rintro k ⟨a, ha, e⟩ ⟨h | h, _⟩; exact hn8 k ⟨a, ha, e⟩ h; have := hl6 a ha; have := h.1; omega
  refine Sl.calm (Cm.move rfl) rfl ?_
  refine Sl.calm (Cm.extract rfl rfl) rfl ?_
  refine Sl.calm (Cm.extract rfl rfl) rfl ?_
  refine Sl.calm (Cm.assign rfl) rfl ?_
  refine Sl.calm (Cm.assign rfl) rfl ?_
  refine Sl.nil ?_
  refine At.weak [(0, _), (1, _), (2, _), (3, _), (4, _), (5, _), (7, _), (14, _)] ⟨rfl, rfl, rfl, rfl, rfl, rfl, rfl, rfl, trivial⟩ ?_
  refine At.go ?_
  refine Sc.seq ?_
  refine Sc.region ?_
  refine Sl.calm (Cm.move rfl) rfl ?_
  refine Sl.lit1 (enc := b8) (u := (97 : UInt8)) sl23 (b8_one _) rfl rfl ?_
  intro w11 ho11 hs11 hf11
  obtain ⟨cur, hcur⟩ := ho11.obj
  refine Sl.markB sl23 ty5 (xs := [97]) rfl hcur ho11.vw rfl ?_
  intro w12 hv12 hs12 hf12
  have hf112 : Foot nob w10 w12 := hf11.trans_to hf12 (fun k hk => .inr (by have h : k = w10.heap.size := hk; omega))
  have hz12 := hf112.size
  refine Sl.call fn12 rfl (daddT_ok A10 g p 64 s3 _ _ [97] w12 (hM10.grow hf112) hv12 (by decide) (by omega) (by decide)) rfl ?_
  rw [ex_4]
  rintro _ w13 ⟨o13, c13, rfl, ho13, hfr13, hM13, hF13⟩
  have hM13 : DwO _ w13.heap g p 64 s3 := hM13
  have ho6z := (((((ho6.grow hf7).keep hF8 (fun a ha => hn6 _ ⟨a, ha, rfl⟩)).grow hf9).keep hF10 (fun a ha => hn8 _ ⟨a, ha, rfl⟩)).grow hf112).keep hF13 (fun a ha => hn10 _ ⟨a, ha, rfl⟩)
  have hF13w : Foot nob w3 w13 := ((((((((hf4.trans hf5).trans_to hF6 (fun k h => .inr (hB4 k h))).trans hf7).trans_to hF8 (fun k h => .inr (hB6 k h))).trans hf9).trans_to hF10 (fun k h => .inr (hB8 k h))).trans hf112).trans_to hF13 (fun k h => .inr (hB10 k h)))
  refine Sl.calm (Cm.move rfl) rfl ?_
  refine Sl.calm (Cm.extract rfl rfl) rfl ?_
  refine Sl.calm (Cm.extract rfl rfl) rfl ?_
  refine Sl.calm (Cm.assign rfl) rfl ?_
  refine Sl.calm (Cm.assign rfl) rfl ?_
  refine Sl.nil ?_
  refine At.weak [(0, _), (1, _), (2, _), (3, _), (4, _), (5, _), (7, _), (9, _), (10, _), (14, _)] ⟨rfl, rfl, rfl, rfl, rfl, rfl, rfl, rfl, rfl, rfl, trivial⟩ ?_
  refine At.go ?_
  refine Sc.seq ?_
  refine Sc.region ?_
  refine Sl.calm (Cm.move rfl) rfl ?_
  refine Sl.calm (Cm.yes (Cm.eql rfl rfl) rfl) rfl ?_
  refine Sl.calm (Cm.move rfl) rfl ?_
  refine Sl.want rfl rfl (Cm.move rfl) rfl ?_
  refine Sl.want rfl rfl (Cm.strIn sl23 ty5 ty9 rfl ho6z.vw) rfl ?_
  refine Sl.want rfl rfl (Cm.yes (Cm.eqlBs rfl rfl) tail_daE1) rfl ?_
  refine Sl.calm (Cm.pick_t rfl rfl) rfl ?_
  refine Sl.calm (Cm.move rfl) rfl ?_
  refine Sl.want rfl rfl (Cm.move rfl) rfl ?_
  refine Sl.want rfl rfl (Cm.yes (Cm.eql rfl rfl) rfl) rfl ?_
  refine Sl.calm (Cm.pick_t rfl rfl) rfl ?_
  refine Sl.calm (Cm.move rfl) rfl ?_
  refine Sl.want rfl rfl (Cm.move rfl) rfl ?_
  refine Sl.want rfl rfl (Cm.move rfl) rfl ?_
  refine Sl.callWant rfl rfl fn13 rfl (ddone_ok _ g p 64 _ w13 hM13 (by omega)) rfl ?_
  rintro _ w14 ⟨o14, c14, rfl, ho14, hfr14, hf14⟩
  refine Sl.want rfl rfl (Cm.len sl23 rfl) rfl ?_
  refine Sl.want rfl rfl (Cm.add64 rfl rfl (by omega)) rfl ?_
  refine Sl.want rfl rfl (Cm.sub64 rfl rfl (by omega)) rfl ?_
  refine Sl.want rfl rfl (Cm.yes (Cm.eql rfl rfl) hx3) rfl ?_
  refine Sl.calm (Cm.pick_t rfl rfl) rfl ?_
  refine Sl.calm (Cm.move rfl) rfl ?_
  refine Sl.want rfl rfl (Cm.move rfl) rfl ?_
  refine Sl.want rfl rfl (Cm.yes (Cm.eql rfl rfl) rfl) rfl ?_
  refine Sl.calm (Cm.pick_t rfl rfl) rfl ?_
  refine Sl.calm (Cm.move rfl) rfl ?_
  refine Sl.want rfl rfl (Cm.move rfl) rfl ?_
  refine Sl.want rfl rfl (Cm.strIn sl23 ty5 ty9 rfl (ho13.vw.grow hf14)) rfl ?_
  refine Sl.want rfl rfl (Cm.yes (Cm.eqlBs rfl rfl) tail_one) rfl ?_
  refine Sl.calm (Cm.pick_t rfl rfl) rfl ?_
  refine Sl.calm (Cm.assign rfl) rfl ?_
  refine Sl.nil ?_
  refine At.weak [(0, _), (1, _), (2, _), (3, _), (4, _), (5, _), (7, _), (9, _), (10, _), (14, _)] ⟨rfl, rfl, rfl, rfl, rfl, rfl, rfl, rfl, rfl, rfl, trivial⟩ ?_
  refine At.go ?_
  refine Sc.ret ?_
  refine At.ret1 rfl rfl ?_
  exact ⟨_, rfl, rfl, (hF3.trans hF13w).trans hf14⟩
end Go.Proofs.YtpnfjfbfgaiolaaDoor
