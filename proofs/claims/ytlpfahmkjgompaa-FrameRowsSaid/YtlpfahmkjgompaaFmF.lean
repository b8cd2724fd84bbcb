/- frame: the laws on what comes back, on lengths, on frames in a row. No condition beyond the bounds that each states. -/
import Derived.Test.YtlpfahmkjgompaaFmE
namespace Go.Proofs.Ytlpfahmkjgompaa
open Go Go.RowKit
set_option linter.unusedVariables false

theorem putS_ok {b : List UInt8} (h : b.length ≤ 128) : (putS b).2 = 0 := (take_frame h []).2.1
set_option maxHeartbeats 2000000 in
theorem frameBack_ok (x0 : List UInt8) (ao : Option Addr) (ca : Nat) (y0 : List UInt8) (bo : Option Addr) (cb : Nat) (z0 : List UInt8) (co : Option Addr) (cc : Nat) (W : World) (hva0 : Vw b8 W.heap ao ca x0) (hvb0 : Vw b8 W.heap bo cb y0) (hvc0 : Vw b8 W.heap co cc z0) :
    Calls Try.prog 6 [.slice ao x0.length ca, .slice bo y0.length cb, .slice co z0.length cc].toArray W (Ret fun v w' => v = .bool true ∧ Foot nob W w') := by
  refine calls_of_sc 86 [(0, _), (1, _), (2, _)] Try.func6 rfl rfl rfl (enter_slots ⟨rfl, rfl, rfl, trivial⟩) ?_
  refine Sc.seq ?_
  refine Sc.region ?_
  refine Sl.calm (Cm.assign rfl) rfl ?_
  refine Sl.nil ?_
  refine At.go ?_
  refine Sc.seq ?_
  refine Sc.region ?_
  refine Sl.call fn14 rfl (shown04_ok W) rfl ?_
  rintro _ w1 ⟨rfl, hf1⟩
  refine Sl.calm (Cm.assign rfl) rfl ?_
  refine Sl.nil ?_
  refine At.weak [(0, _), (1, _), (2, _), (6, _), (7, _)] ⟨rfl, rfl, rfl, rfl, rfl, trivial⟩ ?_
  refine At.go ?_
  refine Sc.seq ?_
  refine Sc.region ?_
  refine Sl.calm (Cm.move rfl) rfl ?_
  refine Sl.call fn15 rfl (few4_ok ao ca x0 128 w1 (hva0.grow hf1)) rfl ?_
  rintro _ wq ⟨rfl, hwq⟩
  subst wq
  obtain ⟨b, hb⟩ : ∃ b, b = x0.take 128 := ⟨_, rfl⟩
  have hbl : b.length ≤ 128 := by rw [hb, List.length_take]; omega
  have hva : Vw b8 w1.heap ao ca b := by rw [hb]; exact (hva0.grow hf1).take 128
  rw [← hb]
  refine Sl.calm (Cm.assign rfl) rfl ?_
  refine Sl.nil ?_
  refine At.weak [(0, _), (1, _), (2, _), (6, _), (7, _)] ⟨rfl, rfl, rfl, rfl, rfl, trivial⟩ ?_
  refine At.go ?_
  refine Sc.seq ?_
  refine Sc.region ?_
  refine Sl.calm (Cm.move rfl) rfl ?_
  refine Sl.call fn15 rfl (few4_ok bo cb y0 200 w1 (hvb0.grow hf1)) rfl ?_
  rintro _ wq ⟨rfl, hwq⟩
  subst wq
  obtain ⟨y, hy⟩ : ∃ b, b = y0.take 200 := ⟨_, rfl⟩
  have hyl : y.length ≤ 200 := by rw [hy, List.length_take]; omega
  have hvb : Vw b8 w1.heap bo cb y := by rw [hy]; exact (hvb0.grow hf1).take 200
  rw [← hy]
  refine Sl.calm (Cm.assign rfl) rfl ?_
  refine Sl.nil ?_
  refine At.weak [(0, _), (1, _), (2, _), (6, _), (7, _)] ⟨rfl, rfl, rfl, rfl, rfl, trivial⟩ ?_
  refine At.go ?_
  refine Sc.seq ?_
  refine Sc.region ?_
  refine Sl.calm (Cm.move rfl) rfl ?_
  refine Sl.call fn15 rfl (few4_ok co cc z0 200 w1 (hvc0.grow hf1)) rfl ?_
  rintro _ wq ⟨rfl, hwq⟩
  subst wq
  obtain ⟨z, hz⟩ : ∃ b, b = z0.take 200 := ⟨_, rfl⟩
  have hzl : z.length ≤ 200 := by rw [hz, List.length_take]; omega
  have hvc : Vw b8 w1.heap co cc z := by rw [hz]; exact (hvc0.grow hf1).take 200
  rw [← hz]
  refine Sl.calm (Cm.assign rfl) rfl ?_
  refine Sl.nil ?_
  refine At.weak [(0, _), (1, _), (2, _), (6, _), (7, _)] ⟨rfl, rfl, rfl, rfl, rfl, trivial⟩ ?_
  refine At.go ?_
  refine Sc.seq ?_
  refine Sc.region ?_
  refine Sl.call fn16 rfl (crcnew_ok w1) rfl ?_
  rintro _ w4 ⟨rfl, hf4⟩
  refine Sl.allocC zc27 rfl ?_
  intro w5 hg5 hs5 hf5
  refine Sl.storeAll (vs := tab) aggTab rfl rfl tab_one hg5 (by rw [tab_len, List.length_replicate]) ?_
  intro w6 hg6 hs6 hf6
  obtain ⟨p, hp⟩ : ∃ p, p = w4.heap.size := ⟨_, rfl⟩
  have hF6 : Foot nob w1 w6 := (hf4.trans hf5).trans_to hf6 (fun k hk => .inr (by have h : k = w4.heap.size := hk; have := hf4.size; omega))
  rw [← hp] at hg6 ⊢
  have ht6 : TbV w6.heap p := hg6
  have hpl := putS_len hbl
  have hpz := putS_ok hbl
  refine Sl.nil ?_
  refine At.weak [(0, _), (1, _), (2, _), (6, _), (7, _), (8, _)] ⟨rfl, rfl, rfl, rfl, rfl, rfl, trivial⟩ ?_
  refine At.go ?_
  refine Sc.seq ?_
  refine Sc.region ?_
  refine Sl.calm (Cm.move rfl) rfl ?_
  refine Sl.call fn17 rfl (fput_ok p ao ca b w6 ht6 (hva.grow hF6)) rfl ?_
  rintro _ w7 ⟨o7, c7, rfl, ho7, hfr7, hf7⟩
  have hF7 := hF6.trans hf7
  have ht7 : TbV w7.heap p := hf7.obj ht6 id
  refine Sl.calm (Cm.move rfl) rfl ?_
  refine Sl.calm (Cm.extract rfl rfl) rfl ?_
  refine Sl.calm (Cm.extract rfl rfl) rfl ?_
  refine Sl.calm (Cm.assign rfl) rfl ?_
  refine Sl.calm (Cm.assign rfl) rfl ?_
  refine Sl.nil ?_
  refine At.weak [(0, _), (1, _), (2, _), (6, _), (7, _), (8, _), (9, _), (10, _)] ⟨rfl, rfl, rfl, rfl, rfl, rfl, rfl, rfl, trivial⟩ ?_
  refine At.go ?_
  refine Sc.seq ?_
  refine Sc.region ?_
  refine Sl.lit0 b8 sl22 rfl ?_
  intro w8 ho8 hs8 hf8
  refine Sl.calm (Cm.move rfl) rfl ?_
  refine Sl.append b8_one sl22 rfl rfl ho8 ((hvb.grow hF7).grow hf8) (by simp; omega) (by simp; unfold maxLen; omega) rfl ?_
  intro o9 c9 w9 ho9 hf9 hr9 hn9
  rw [List.nil_append] at ho9 ⊢
  have hF79 : Foot nob w7 w9 := hf8.trans_to hf9 (fr_at _).step
  have hfr9 : Fr w7.heap.size o9 := fr_next (fr_at _) hr9 hf8.size
  refine Sl.calm (Cm.move rfl) rfl ?_
  refine Sl.append b8_one sl22 rfl rfl ho9 (ho7.grow hF79).vw (by omega) (by unfold maxLen; omega) rfl ?_
  intro o10 c10 w10 ho10 hf10 hr10 hn10
  have hF710 : Foot nob w7 w10 := hF79.trans_to hf10 hfr9.step
  have hfr10 : Fr w7.heap.size o10 := fr_next hfr9 hr10 hF79.size
  have hl10 : (y ++ (putS b).1).length = y.length + (putS b).1.length := List.length_append ..
  refine Sl.calm (Cm.move rfl) rfl ?_
  refine Sl.append b8_one sl22 rfl rfl ho10 ((hvc.grow hF7).grow hF710) (by omega) (by unfold maxLen; omega) rfl ?_
  intro o11 c11 w11 ho11 hf11 hr11 hn11
  have hF711 : Foot nob w7 w11 := hF710.trans_to hf11 hfr10.step
  have hF11 := hF7.trans hF711
  have ht11 : TbV w11.heap p := hF711.obj ht7 id
  rw [List.append_assoc] at ho11 ⊢
  obtain ⟨tk1, tk2⟩ := takeS_put hbl y z
  have hl11 : (y ++ ((putS b).1 ++ z)).length ≤ 1000 := by rw [List.length_append, List.length_append]; omega
  refine Sl.calm (Cm.assign rfl) rfl ?_
  refine Sl.nil ?_
  refine At.weak [(0, _), (1, _), (2, _), (6, _), (7, _), (8, _), (9, _), (10, _), (11, _)] ⟨rfl, rfl, rfl, rfl, rfl, rfl, rfl, rfl, rfl, trivial⟩ ?_
  refine At.go ?_
  refine Sc.seq ?_
  refine Sc.region ?_
  refine Sl.calm (Cm.move rfl) rfl ?_
  refine Sl.calm (Cm.move rfl) rfl ?_
  refine Sl.calm (Cm.len sl22 rfl) rfl ?_
  refine Sl.call fn19 rfl (ftake_ok p o11 c11 (y ++ ((putS b).1 ++ z)) y.length w11 ht11 ho11.vw (by omega) (by omega)) rfl ?_
  rw [tk1]
  rintro _ w12 ⟨o12, c12, rfl, ho12, hfr12, hf12⟩
  refine Sl.calm (Cm.move rfl) rfl ?_
  refine Sl.calm (Cm.extract rfl rfl) rfl ?_
  refine Sl.calm (Cm.extract rfl rfl) rfl ?_
  refine Sl.calm (Cm.extract rfl rfl) rfl ?_
  refine Sl.calm (Cm.assign rfl) rfl ?_
  refine Sl.calm (Cm.assign rfl) rfl ?_
  refine Sl.calm (Cm.assign rfl) rfl ?_
  refine Sl.nil ?_
  refine At.weak [(0, _), (1, _), (2, _), (6, _), (7, _), (8, _), (9, _), (10, _), (11, _), (12, _), (13, _), (14, _)] ⟨rfl, rfl, rfl, rfl, rfl, rfl, rfl, rfl, rfl, rfl, rfl, rfl, trivial⟩ ?_
  refine At.go ?_
  refine Sc.seq ?_
  refine Sc.region ?_
  refine Sl.calm (Cm.move rfl) rfl ?_
  refine Sl.calm (Cm.move rfl) rfl ?_
  refine Sl.calm (Cm.len sl22 rfl) rfl ?_
  refine Sl.call fn21 rfl (fskip_ok o11 c11 (y ++ ((putS b).1 ++ z)) y.length w12 (ho11.grow hf12).vw (by omega) (by omega)) rfl ?_
  rw [tk2]
  rintro _ w13 ⟨rfl, hf13⟩
  have hle7 := ho7.vw.len63
  refine Sl.calm (Cm.move rfl) rfl ?_
  refine Sl.calm (Cm.extract rfl rfl) rfl ?_
  refine Sl.calm (Cm.extract rfl rfl) rfl ?_
  refine Sl.calm (Cm.assign rfl) rfl ?_
  refine Sl.calm (Cm.assign rfl) rfl ?_
  refine Sl.nil ?_
  refine At.weak [(0, _), (1, _), (2, _), (6, _), (7, _), (8, _), (9, _), (10, _), (11, _), (12, _), (13, _), (14, _), (15, _), (16, _)] ⟨rfl, rfl, rfl, rfl, rfl, rfl, rfl, rfl, rfl, rfl, rfl, rfl, rfl, rfl, trivial⟩ ?_
  refine At.go ?_
  refine Sc.seq ?_
  refine Sc.region ?_
  refine Sl.calm (Cm.move rfl) rfl ?_
  refine Sl.calm (Cm.move rfl) rfl ?_
  refine Sl.want rfl rfl (Cm.move rfl) rfl ?_
  refine Sl.want rfl rfl (Cm.yes (Cm.eql rfl rfl) (by rw [hpz])) rfl ?_
  refine Sl.calm (Cm.pick_t rfl rfl) rfl ?_
  refine Sl.calm (Cm.move rfl) rfl ?_
  refine Sl.want rfl rfl (Cm.move rfl) rfl ?_
  refine Sl.want rfl rfl (Cm.yes (Cm.eql rfl rfl) rfl) rfl ?_
  refine Sl.calm (Cm.pick_t rfl rfl) rfl ?_
  refine Sl.calm (Cm.move rfl) rfl ?_
  refine Sl.want rfl rfl (Cm.move rfl) rfl ?_
  refine Sl.want rfl rfl (Cm.yes (Cm.eql rfl rfl) rfl) rfl ?_
  refine Sl.calm (Cm.pick_t rfl rfl) rfl ?_
  refine Sl.calm (Cm.move rfl) rfl ?_
  refine Sl.want rfl rfl (Cm.move rfl) rfl ?_
  refine Sl.want rfl rfl (Cm.strIn sl22 ty5 ty9 rfl (ho12.grow hf13).vw) rfl ?_
  refine Sl.want rfl rfl (Cm.move rfl) rfl ?_
  refine Sl.want rfl rfl (Cm.strIn sl22 ty5 ty9 rfl (((hva.grow hF11).grow hf12).grow hf13)) rfl ?_
  refine Sl.want rfl rfl (Cm.yes (Cm.eqlBs rfl rfl) rfl) rfl ?_
  refine Sl.calm (Cm.pick_t rfl rfl) rfl ?_
  refine Sl.calm (Cm.move rfl) rfl ?_
  refine Sl.want rfl rfl (Cm.move rfl) rfl ?_
  refine Sl.want rfl rfl (Cm.move rfl) rfl ?_
  refine Sl.want rfl rfl (Cm.len sl22 rfl) rfl ?_
  refine Sl.want rfl rfl (Cm.move rfl) rfl ?_
  refine Sl.want rfl rfl (Cm.len sl22 rfl) rfl ?_
  refine Sl.want rfl rfl (Cm.add64 rfl rfl (by omega)) rfl ?_
  refine Sl.want rfl rfl (Cm.yes (Cm.eql rfl rfl) rfl) rfl ?_
  refine Sl.calm (Cm.pick_t rfl rfl) rfl ?_
  refine Sl.calm (Cm.move rfl) rfl ?_
  refine Sl.want rfl rfl (Cm.move rfl) rfl ?_
  refine Sl.want rfl rfl (Cm.move rfl) rfl ?_
  refine Sl.want rfl rfl (Cm.yes (Cm.eql rfl rfl) rfl) rfl ?_
  refine Sl.calm (Cm.pick_t rfl rfl) rfl ?_
  refine Sl.calm (Cm.assign rfl) rfl ?_
  refine Sl.nil ?_
  refine At.weak [(0, _), (1, _), (2, _), (6, _), (7, _), (8, _), (9, _), (10, _), (11, _), (12, _), (13, _), (14, _), (15, _), (16, _)] ⟨rfl, rfl, rfl, rfl, rfl, rfl, rfl, rfl, rfl, rfl, rfl, rfl, rfl, rfl, trivial⟩ ?_
  refine At.go ?_
  refine Sc.ret ?_
  refine At.ret1 rfl rfl ?_
  exact ⟨_, rfl, rfl, ((hf1.trans hF11).trans hf12).trans hf13⟩

theorem same4 {c : UInt8} {L : Nat} (h4 : 4 ≤ L) (hL : L ≤ 131) : (pkS (List.replicate L c)).length = 4 := by
  unfold pkS
  have e0 : (mt (List.replicate L c) 0).1 = 0 := by
    apply Classical.byContradiction
    intro h
    have := mt_spec h
    omega
  have e := same_mt (c := c) (a := 1) (k := L) (Nat.le_refl _) (by omega)
  rw [pk_one (by simp; omega) e0, show 0 + 1 = 1 from rfl, pk_copy (by rw [e]; simp only; omega), e]
  simp only
  rw [pk_end (by simp; omega), rn_nil, List.length_append, rn_len _ _ _ rfl]
  simp
theorem same_frame {c : UInt8} {L : Nat} (h4 : 4 ≤ L) (hL : L ≤ 128) : (putS (List.replicate L c)).1.length ≤ 11 := by
  have h := same4 (c := c) h4 (by omega)
  have hl : (List.replicate L c).length = L := List.length_replicate ..
  unfold putS
  rw [if_neg (by omega), if_neg (by omega)]
  split
  · simp only [frS_len, lenF]; split <;> omega
  · simp only [frS_len, lenF]; split <;> omega
theorem same_set4 (c : UInt8) {k i : Nat} (h : i < k) : (List.replicate i c ++ List.replicate (k - i) 0).set i c = List.replicate (i + 1) c ++ List.replicate (k - (i + 1)) 0 := by
  rw [List.set_append_right _ _ (by simp), List.length_replicate, Nat.sub_self, show k - i = (k - (i + 1)) + 1 by omega, List.replicate_succ, List.set_cons_zero, List.replicate_succ', List.append_assoc]; rfl
set_option maxHeartbeats 2000000 in
theorem frameShort_ok (b0 : List UInt8) (ao : Option Addr) (cap : Nat) (c : Int) (n : Int) (W : World) (hv0 : Vw b8 W.heap ao cap b0) (hc : 0 ≤ c ∧ c ≤ 255) (hn : -9223372036854775808 ≤ n ∧ n ≤ 9223372036854775807) :
    Calls Try.prog 4 [.slice ao b0.length cap, .int .u8 c, .int .i64 n].toArray W (Ret fun v w' => v = .bool true ∧ Foot nob W w') := by
  obtain ⟨u, hu⟩ : ∃ u : UInt8, c = u.toNat := ⟨UInt8.ofNat c.toNat, by rw [UInt8.toNat_ofNat']; omega⟩
  subst hu
  refine calls_of_sc 71 [(0, _), (1, _), (2, _)] Try.func4 rfl rfl rfl (enter_slots ⟨rfl, rfl, rfl, trivial⟩) ?_
  refine Sc.seq ?_
  refine Sc.region ?_
  refine Sl.calm (Cm.assign rfl) rfl ?_
  refine Sl.nil ?_
  refine At.go ?_
  refine Sc.seq ?_
  refine Sc.region ?_
  refine Sl.call fn14 rfl (shown04_ok W) rfl ?_
  rintro _ w1 ⟨rfl, hf1⟩
  refine Sl.calm (Cm.assign rfl) rfl ?_
  refine Sl.nil ?_
  refine At.weak [(0, _), (1, _), (2, _), (6, _), (7, _)] ⟨rfl, rfl, rfl, rfl, rfl, trivial⟩ ?_
  refine At.go ?_
  refine Sc.seq ?_
  refine Sc.region ?_
  refine Sl.calm (Cm.move rfl) rfl ?_
  refine Sl.call fn15 rfl (few4_ok ao cap b0 128 w1 (hv0.grow hf1)) rfl ?_
  rintro _ wq ⟨rfl, hwq⟩
  subst wq
  obtain ⟨b, hb⟩ : ∃ b, b = b0.take 128 := ⟨_, rfl⟩
  have hbl : b.length ≤ 128 := by rw [hb, List.length_take]; omega
  have hv : Vw b8 w1.heap ao cap b := by rw [hb]; exact (hv0.grow hf1).take 128
  rw [← hb]
  refine Sl.calm (Cm.assign rfl) rfl ?_
  refine Sl.nil ?_
  refine At.weak [(0, _), (1, _), (2, _), (6, _), (7, _)] ⟨rfl, rfl, rfl, rfl, rfl, trivial⟩ ?_
  refine At.go ?_
  refine Sc.seq ?_
  refine Sc.region ?_
  refine Sl.call fn16 rfl (crcnew_ok w1) rfl ?_
  rintro _ w4 ⟨rfl, hf4⟩
  refine Sl.allocC zc27 rfl ?_
  intro w5 hg5 hs5 hf5
  refine Sl.storeAll (vs := tab) aggTab rfl rfl tab_one hg5 (by rw [tab_len, List.length_replicate]) ?_
  intro w6 hg6 hs6 hf6
  obtain ⟨p, hp⟩ : ∃ p, p = w4.heap.size := ⟨_, rfl⟩
  have hF6 : Foot nob w1 w6 := (hf4.trans hf5).trans_to hf6 (fun k hk => .inr (by have h : k = w4.heap.size := hk; have := hf4.size; omega))
  rw [← hp] at hg6 ⊢
  have ht6 : TbV w6.heap p := hg6
  have hpl := putS_len hbl
  have hpz := putS_ok hbl
  refine Sl.nil ?_
  refine At.weak [(0, _), (1, _), (2, _), (6, _), (7, _), (8, _)] ⟨rfl, rfl, rfl, rfl, rfl, rfl, trivial⟩ ?_
  refine At.go ?_
  refine Sc.seq ?_
  refine Sc.region ?_
  refine Sl.calm (Cm.move rfl) rfl ?_
  refine Sl.call fn17 rfl (fput_ok p ao cap b w6 ht6 (hv.grow hF6)) rfl ?_
  rintro _ w2 ⟨o2, c2, rfl, ho2, hfr2, hf2⟩
  have hF2 := hF6.trans hf2
  have ht2 : TbV w2.heap p := hf2.obj ht6 id
  have hplt := (Array.getElem?_eq_some_iff.1 ht2).1
  refine Sl.calm (Cm.move rfl) rfl ?_
  refine Sl.calm (Cm.extract rfl rfl) rfl ?_
  refine Sl.calm (Cm.extract rfl rfl) rfl ?_
  refine Sl.calm (Cm.assign rfl) rfl ?_
  refine Sl.calm (Cm.assign rfl) rfl ?_
  refine Sl.nil ?_
  refine At.weak [(0, _), (1, _), (2, _), (6, _), (7, _), (8, _), (9, _), (10, _)] ⟨rfl, rfl, rfl, rfl, rfl, rfl, rfl, rfl, trivial⟩ ?_
  refine At.go ?_
  refine Sc.seq ?_
  refine Sc.region ?_
  refine Sl.calm (Cm.move rfl) rfl ?_
  refine Sl.calm (Cm.remW rfl rfl (by decide)) rfl ?_
  obtain ⟨r, hr⟩ : ∃ r : Int, r = n.tmod 125 := ⟨_, rfl⟩
  have hr1 : -125 < r ∧ r < 125 := by
    have h1 := Int.tmod_lt_of_pos n (show (0 : Int) < 125 by decide)
    have h2 := Int.lt_tmod_of_pos n (show (0 : Int) < 125 by decide)
    omega
  rw [← hr]
  refine Sl.calm (Cm.assign rfl) rfl ?_
  refine Sl.nil ?_
  refine At.weak [(0, _), (1, _), (2, _), (6, _), (7, _), (8, _), (9, _), (10, _), (11, _)] ⟨rfl, rfl, rfl, rfl, rfl, rfl, rfl, rfl, rfl, trivial⟩ ?_
  refine At.go ?_
  refine Sc.cut (β := Nat) (fun k => [(0, .slice ao b.length cap), (1, .int .u8 u.toNat), (7, .bool true), (8, .pointer (some ⟨p, 0, none⟩)), (9, .slice o2 (putS b).1.length c2), (10, .int .i64 (putS b).2), (11, .int .i64 k)]) (fun k w => k ≤ 124 ∧ w = w2) ?_ ?_
  ·
    refine Sc.seq ?_
    refine Sc.region ?_
    refine Sl.calm (Cm.move rfl) rfl ?_
    refine Sl.fork (Cm.lss rfl rfl) rfl (fun h28 => ?_) (fun h28 => ?_)
    ·
      refine Sl.nil ?_
      refine At.weak [(0, _), (1, _), (2, _), (6, _), (7, _), (8, _), (9, _), (10, _), (11, _), (28, _)] ⟨rfl, rfl, rfl, rfl, rfl, rfl, rfl, rfl, rfl, rfl, trivial⟩ ?_
      refine At.go ?_
      refine Sc.cond_t rfl ?_
      refine Sc.region ?_
      refine Sl.calm (Cm.move rfl) rfl ?_
      refine Sl.calm (Cm.neg64 rfl (by omega)) rfl ?_
      refine Sl.calm (Cm.assign rfl) rfl ?_
      refine Sl.nil ?_
      exact At.cut r.natAbs ⟨rfl, rfl, rfl, rfl, rfl, rfl, by show some (Value.int .i64 _) = some (Value.int .i64 _); congr 2; omega, trivial⟩ ⟨by omega, rfl⟩
    ·
      refine Sl.nil ?_
      refine At.weak [(0, _), (1, _), (2, _), (6, _), (7, _), (8, _), (9, _), (10, _), (11, _), (28, _)] ⟨rfl, rfl, rfl, rfl, rfl, rfl, rfl, rfl, rfl, rfl, trivial⟩ ?_
      refine At.go ?_
      refine Sc.cond_f rfl ?_
      refine Sc.skip ?_
      exact At.cut r.natAbs ⟨rfl, rfl, rfl, rfl, rfl, rfl, by show some (Value.int .i64 _) = some (Value.int .i64 _); congr 2; omega, trivial⟩ ⟨by omega, rfl⟩
  ·
    rintro k wq ⟨hk, hwq⟩
    subst wq
    refine Sc.seq ?_
    refine Sc.region ?_
    refine Sl.calm (Cm.move rfl) rfl ?_
    refine Sl.calm (Cm.add64 rfl rfl (by omega)) rfl ?_
    obtain ⟨L, hL⟩ : ∃ L : Nat, L = 4 + k := ⟨_, rfl⟩
    rw [show (4 : Int) + k = (L : Nat) by omega]
    refine Sl.make b8 (0 : UInt8) sl22 z5 rfl rfl rfl (by omega) (by omega) (by omega) (by omega) rfl ?_
    intro w3 ho3 hs3 hf3
    have hkn : ((L : Nat) : Int).toNat = L := rfl
    rw [hkn] at ho3 ⊢
    obtain ⟨g3, hg3⟩ : ∃ g, g = w2.heap.size := ⟨_, rfl⟩
    rw [← hg3] at ho3 ⊢
    refine Sl.calm (Cm.assign rfl) rfl ?_
    refine Sl.nil ?_
    refine At.weak [(0, _), (1, _), (7, _), (8, _), (9, _), (10, _), (11, _), (12, _)] ⟨rfl, rfl, rfl, rfl, rfl, rfl, rfl, rfl, trivial⟩ ?_
    refine At.go ?_
    refine Sc.seq ?_
    refine Sc.seq ?_
    refine Sc.region ?_
    refine Sl.calm (Cm.assign rfl) rfl ?_
    refine Sl.nil ?_
    refine At.go ?_
    refine Sc.block ?_
    refine Sc.loop (β := Nat) (fun i => [(0, .slice ao b.length cap), (1, .int .u8 u.toNat), (7, .bool true), (8, .pointer (some ⟨p, 0, none⟩)), (9, .slice o2 (putS b).1.length c2), (10, .int .i64 (putS b).2), (12, .slice (some ⟨g3, 0, none⟩) L L), (13, .int .i64 i)]) (fun i w => i ≤ L ∧ Own b8 5 w.heap (some ⟨g3, 0, none⟩) L (List.replicate i u ++ List.replicate (L - i) 0) ∧ TbV w.heap p ∧ Foot nob w2 w) (fun i => L - i) 0 ⟨rfl, rfl, rfl, rfl, rfl, rfl, rfl, rfl, trivial⟩ ⟨Nat.zero_le _, by simpa using ho3, hf3.obj ht2 id, hf3⟩ ?_
    rintro i w4 ⟨hi, ho4, ht4, hF4⟩
    refine Sc.seq ?_
    refine Sc.seq ?_
    refine Sc.region ?_
    refine Sl.calm (Cm.move rfl) rfl ?_
    refine Sl.calm (Cm.move rfl) rfl ?_
    refine Sl.calm (Cm.len sl22 rfl) rfl ?_
    refine Sl.fork (Cm.lss rfl rfl) rfl (fun h37 => ?_) (fun h37 => ?_)
    ·
      refine Sl.nil ?_
      refine At.weak [(0, _), (1, _), (7, _), (8, _), (9, _), (10, _), (12, _), (13, _), (37, _)] ⟨rfl, rfl, rfl, rfl, rfl, rfl, rfl, rfl, rfl, trivial⟩ ?_
      refine At.go ?_
      refine Sc.cond_t rfl ?_
      refine Sc.skip ?_
      refine At.go ?_
      refine Sc.seq ?_
      refine Sc.block ?_
      refine Sc.region ?_
      refine Sl.calm (Cm.move rfl) rfl ?_
      refine Sl.calm (Cm.move rfl) rfl ?_
      refine Sl.calm (Cm.move rfl) rfl ?_
      refine Sl.calm (Cm.indexAddr1 sl22 rfl rfl (fun _ => by simp) (by omega)) rfl ?_
      have hil : (List.replicate i u ++ List.replicate (L - i) (0 : UInt8)).length = L := by simp; omega
      refine Sl.storeRow b8_one sca5 (z := (i : Int)) (u := u) rfl rfl ho4 (by rw [hil]; omega) ?_
      intro w5 ho5 hs5 hf5
      have hin : ((i : Nat) : Int).toNat = i := rfl
      rw [hin, same_set4 u (by omega)] at ho5
      refine Sl.nil ?_
      refine At.block_normal ?_
      refine At.weak [(0, _), (1, _), (7, _), (8, _), (9, _), (10, _), (12, _), (13, _), (37, _)] ⟨rfl, rfl, rfl, rfl, rfl, rfl, rfl, rfl, rfl, trivial⟩ ?_
      refine At.go ?_
      refine Sc.region ?_
      refine Sl.calm (Cm.move rfl) rfl ?_
      refine Sl.calm (Cm.add64 rfl rfl (by omega)) rfl ?_
      refine Sl.calm (Cm.assign rfl) rfl ?_
      refine Sl.nil ?_
      exact At.again (i + 1) ⟨rfl, rfl, rfl, rfl, rfl, rfl, rfl, rfl, trivial⟩ ⟨by omega, ho5, hf5.obj ht4 (fun ⟨x, hx, hq⟩ => by cases hx; have h : g3 = p := hq; omega), hF4.trans_to hf5 (fun q ⟨x, hx, hq⟩ => .inr (by cases hx; have h : g3 = q := hq; omega))⟩ (by show L - (i + 1) < L - i; omega)
    ·
      refine Sl.nil ?_
      refine At.weak [(0, _), (1, _), (7, _), (8, _), (9, _), (10, _), (12, _), (13, _), (37, _)] ⟨rfl, rfl, rfl, rfl, rfl, rfl, rfl, rfl, rfl, trivial⟩ ?_
      refine At.go ?_
      refine Sc.cond_f rfl ?_
      refine Sc.exit ?_
      refine At.then_exit ?_
      refine At.then_exit ?_
      refine At.block_hit ?_
      refine At.go ?_
      refine Sc.seq ?_
      refine Sc.region ?_
      refine Sl.calm (Cm.move rfl) rfl ?_
      have hik : i = L := by omega
      subst hik
      have hrep : List.replicate i u ++ List.replicate (i - i) 0 = List.replicate i u := by simp
      rw [hrep] at ho4
      have hsl : Value.slice (some ⟨g3, 0, none⟩) i i = .slice (some ⟨g3, 0, none⟩) (List.replicate i u).length i := by rw [List.length_replicate]
      have hl1 : (List.replicate i u).length ≤ 128 := by rw [List.length_replicate]; omega
      refine Sl.call fn17 rfl (by rw [hsl]; exact fput_ok p _ _ (List.replicate i u) w4 ht4 ho4.vw) rfl ?_
      rintro _ w7 ⟨o7, c7, rfl, ho7, hfr7, hf7⟩
      have hss := same_frame (c := u) (L := i) (by omega) (by omega)
      have hpz2 := putS_ok hl1
      refine Sl.calm (Cm.move rfl) rfl ?_
      refine Sl.calm (Cm.extract rfl rfl) rfl ?_
      refine Sl.calm (Cm.extract rfl rfl) rfl ?_
      refine Sl.calm (Cm.assign rfl) rfl ?_
      refine Sl.calm (Cm.assign rfl) rfl ?_
      refine Sl.nil ?_
      refine At.weak [(0, _), (1, _), (7, _), (8, _), (9, _), (10, _), (12, _), (13, _), (14, _), (15, _), (37, _)] ⟨rfl, rfl, rfl, rfl, rfl, rfl, rfl, rfl, rfl, rfl, rfl, trivial⟩ ?_
      refine At.go ?_
      refine Sc.seq ?_
      refine Sc.region ?_
      refine Sl.calm (Cm.move rfl) rfl ?_
      refine Sl.calm (Cm.move rfl) rfl ?_
      refine Sl.want rfl rfl (Cm.move rfl) rfl ?_
      refine Sl.want rfl rfl (Cm.yes (Cm.eql rfl rfl) (by rw [hpz])) rfl ?_
      refine Sl.calm (Cm.pick_t rfl rfl) rfl ?_
      refine Sl.calm (Cm.move rfl) rfl ?_
      refine Sl.want rfl rfl (Cm.move rfl) rfl ?_
      refine Sl.want rfl rfl (Cm.yes (Cm.eql rfl rfl) (by rw [hpz2])) rfl ?_
      refine Sl.calm (Cm.pick_t rfl rfl) rfl ?_
      refine Sl.calm (Cm.move rfl) rfl ?_
      refine Sl.want rfl rfl (Cm.move rfl) rfl ?_
      refine Sl.want rfl rfl (Cm.len sl22 rfl) rfl ?_
      refine Sl.want rfl rfl (Cm.move rfl) rfl ?_
      refine Sl.want rfl rfl (Cm.len sl22 rfl) rfl ?_
      refine Sl.want rfl rfl (Cm.add64 rfl rfl (by omega)) rfl ?_
      refine Sl.want rfl rfl (Cm.yes (Cm.leq rfl rfl) (by omega)) rfl ?_
      refine Sl.calm (Cm.pick_t rfl rfl) rfl ?_
      refine Sl.calm (Cm.move rfl) rfl ?_
      refine Sl.want rfl rfl (Cm.move rfl) rfl ?_
      refine Sl.want rfl rfl (Cm.len sl22 rfl) rfl ?_
      refine Sl.want rfl rfl (Cm.yes (Cm.leq rfl rfl) (by omega)) rfl ?_
      refine Sl.calm (Cm.pick_t rfl rfl) rfl ?_
      refine Sl.calm (Cm.assign rfl) rfl ?_
      refine Sl.nil ?_
      refine At.weak [(0, _), (1, _), (6, _), (7, _), (8, _), (9, _), (10, _), (12, _), (13, _), (14, _), (15, _), (37, _)] ⟨rfl, rfl, rfl, rfl, rfl, rfl, rfl, rfl, rfl, rfl, rfl, rfl, trivial⟩ ?_
      refine At.go ?_
      refine Sc.ret ?_
      refine At.ret1 rfl rfl ?_
      exact ⟨_, rfl, rfl, ((hf1.trans hF2).trans hF4).trans hf7⟩
end Go.Proofs.Ytlpfahmkjgompaa
