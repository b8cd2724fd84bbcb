/- table: TakeNums, the reference's. No condition beyond the bounds that each states. -/
import Derived.Test.YtoaplldahbbaiaaTnAk
namespace Go.Proofs.Ytoaplldahbbaiaa
open Go Go.RowKit
set_option linter.unusedVariables false

set_option maxHeartbeats 4000000 in
theorem rtnums_ok (g : Nat) (io : Option Addr) (ic : Nat) (im : List UInt8) (fr to many wide : Int) (W : World) (hM : RrV W.heap g io ic im fr to) (him : im.length ≤ 1073741824) (hm : many ≤ 9223372036854775807) :
    Calls Try.prog 30 [.pointer (some ⟨g, 0, none⟩), .int .i64 many, .int .i64 wide].toArray W (Ret fun v w' => ∃ o c,
      v = .tuple #[.slice o (tnS im fr to many wide).1.length c, .int .i64 (tnS im fr to many wide).2] ∧ Own i64 3 w'.heap o c (tnS im fr to many wide).1 ∧ Fr W.heap.size o ∧ Foot nob W w') := by
  obtain ⟨T, hT⟩ : ∃ T, T = tnS im fr to many wide := ⟨_, rfl⟩
  obtain ⟨Z, hZ⟩ : ∃ Z, Z = readS im fr to 0 0 := ⟨_, rfl⟩
  refine calls_of_sc 73 [(0, _), (1, _), (2, _)] Try.func30 rfl rfl rfl (enter_slots ⟨rfl, rfl, rfl, trivial⟩) ?_
  refine Sc.seq ?_
  refine Sc.region ?_
  refine Sl.calm (Cm.assign rfl) rfl ?_
  refine Sl.calm (Cm.assign rfl) rfl ?_
  refine Sl.nil ?_
  refine At.go ?_
  refine Sc.seq ?_
  refine Sc.seq ?_
  refine Sc.region ?_
  refine Sl.calm (Cm.move rfl) rfl ?_
  refine Sl.fork (Cm.lss rfl rfl) rfl (fun h22 => ?_) (fun h22 => ?_)
  ·
    have e : T = ([], 1) := by rw [hT]; exact tnS_arg (.inl h22)
    refine Sl.calm (Cm.move rfl) rfl ?_
    refine Sl.skip rfl rfl rfl rfl ?_
    refine Sl.skip rfl rfl rfl rfl ?_
    refine Sl.skip rfl rfl rfl rfl ?_
    refine Sl.skip rfl rfl rfl rfl ?_
    refine Sl.skip rfl rfl rfl rfl ?_
    refine Sl.skip rfl rfl rfl rfl ?_
    refine Sl.calm (Cm.pick_t rfl rfl) rfl ?_
    refine Sl.nil ?_
    refine At.weak [(0, _), (1, _), (2, _), (6, _), (7, _), (30, _)] ⟨rfl, rfl, rfl, rfl, rfl, rfl, trivial⟩ ?_
    refine At.go ?_
    refine Sc.cond_t rfl ?_
    refine Sc.seq ?_
    refine Sc.region ?_
    refine Sl.calm (Cm.assign rfl) rfl ?_
    refine Sl.calm (Cm.assign rfl) rfl ?_
    refine Sl.nil ?_
    refine At.go ?_
    refine Sc.ret ?_
    refine At.then_ret ?_
    refine At.ret2 rfl rfl rfl ?_
    rw [← hT, e]
    exact ⟨_, rfl, none, 0, rfl, Own.nil, Fr.none, Foot.refl _ _⟩
  ·
    refine Sl.calm (Cm.move rfl) rfl ?_
    refine Sl.want rfl rfl (Cm.move rfl) rfl ?_
    refine Sl.forkWant rfl rfl (Cm.neq rfl rfl) rfl (fun h25 => ?_) (fun h25 => ?_)
    ·
      refine Sl.want rfl rfl (Cm.move rfl) rfl ?_
      refine Sl.want rfl rfl (Cm.move rfl) rfl ?_
      refine Sl.forkWant rfl rfl (Cm.neq rfl rfl) rfl (fun h28 => ?_) (fun h28 => ?_)
      ·
        have e : T = ([], 1) := by rw [hT]; exact tnS_arg (.inr (by omega))
        refine Sl.want rfl rfl (Cm.pick_t rfl rfl) rfl ?_
        refine Sl.calm (Cm.pick_f rfl rfl) rfl ?_
        refine Sl.nil ?_
        refine At.weak [(0, _), (1, _), (2, _), (6, _), (7, _), (30, _)] ⟨rfl, rfl, rfl, rfl, rfl, rfl, trivial⟩ ?_
        refine At.go ?_
        refine Sc.cond_t rfl ?_
        refine Sc.seq ?_
        refine Sc.region ?_
        refine Sl.calm (Cm.assign rfl) rfl ?_
        refine Sl.calm (Cm.assign rfl) rfl ?_
        refine Sl.nil ?_
        refine At.go ?_
        refine Sc.ret ?_
        refine At.then_ret ?_
        refine At.ret2 rfl rfl rfl ?_
        rw [← hT, e]
        exact ⟨_, rfl, none, 0, rfl, Own.nil, Fr.none, Foot.refl _ _⟩
      ·
        have hok : ¬ (many < 0 ∨ ¬ (wide = 2 ∨ wide = 4)) := by omega
        refine Sl.want rfl rfl (Cm.pick_t rfl rfl) rfl ?_
        refine Sl.calm (Cm.pick_f rfl rfl) rfl ?_
        refine Sl.nil ?_
        refine At.weak [(0, _), (1, _), (2, _), (6, _), (7, _), (30, _)] ⟨rfl, rfl, rfl, rfl, rfl, rfl, trivial⟩ ?_
        refine At.go ?_
        refine Sc.cond_f rfl ?_
        refine Sc.skip ?_
        refine At.go ?_
        refine Sc.seq ?_
        refine Sc.region ?_
        refine Sl.calm (Cm.move rfl) rfl ?_
        refine Sl.call fn62 rfl (rmread_ok g io ic im fr to 0 0 W hM (by omega) (by decide) (by decide)) rfl ?_
        rw [← hZ]
        rintro _ w1 ⟨o1, c1, rfl, ho1, hfr1, hf1⟩
        refine Sl.calm (Cm.move rfl) rfl ?_
        refine Sl.calm (Cm.extract rfl rfl) rfl ?_
        refine Sl.calm (Cm.extract rfl rfl) rfl ?_
        refine Sl.calm (Cm.extract rfl rfl) rfl ?_
        refine Sl.calm (Cm.assign rfl) rfl ?_
        refine Sl.calm (Cm.assign rfl) rfl ?_
        refine Sl.calm (Cm.assign rfl) rfl ?_
        refine Sl.nil ?_
        refine At.weak [(0, _), (1, _), (2, _), (6, _), (7, _), (10, _), (30, _)] ⟨rfl, rfl, rfl, rfl, rfl, rfl, rfl, trivial⟩ ?_
        refine At.go ?_
        refine Sc.seq ?_
        refine Sc.seq ?_
        refine Sc.region ?_
        refine Sl.calm (Cm.move rfl) rfl ?_
        refine Sl.fork (Cm.neq rfl rfl) rfl (fun h38 => ?_) (fun h38 => ?_)
        ·
          have e : T = ([], 2) := by
            rw [hT]
            refine tnS_may hok ?_
            cases hms : mayS im fr to with
            | false => rfl
            | true => rw [hZ, readS_zero (Int.le_refl 0) hms] at h38; exact absurd rfl h38
          refine Sl.nil ?_
          refine At.weak [(0, _), (1, _), (2, _), (6, _), (7, _), (10, _), (30, _), (38, _)] ⟨rfl, rfl, rfl, rfl, rfl, rfl, rfl, rfl, trivial⟩ ?_
          refine At.go ?_
          refine Sc.cond_t rfl ?_
          refine Sc.seq ?_
          refine Sc.region ?_
          refine Sl.calm (Cm.assign rfl) rfl ?_
          refine Sl.calm (Cm.assign rfl) rfl ?_
          refine Sl.nil ?_
          refine At.go ?_
          refine Sc.ret ?_
          refine At.then_ret ?_
          refine At.ret2 rfl rfl rfl ?_
          rw [← hT, e]
          exact ⟨_, rfl, none, 0, rfl, Own.nil, Fr.none, hf1⟩
        ·
          have hmay : mayS im fr to = true := by
            cases hms : mayS im fr to with
            | true => rfl
            | false => rw [hZ] at h38; exact absurd (readS_may hms) h38
          refine Sl.nil ?_
          refine At.weak [(0, _), (1, _), (2, _), (6, _), (7, _), (10, _), (30, _), (38, _)] ⟨rfl, rfl, rfl, rfl, rfl, rfl, rfl, rfl, trivial⟩ ?_
          refine At.go ?_
          refine Sc.cond_f rfl ?_
          refine Sc.skip ?_
          refine At.go ?_
          refine Sc.seq ?_
          refine Sc.region ?_
          refine Sl.calm (Cm.assign rfl) rfl ?_
          refine Sl.nil ?_
          refine At.go ?_
          refine Sc.seq ?_
          refine Sc.region ?_
          refine Sl.lit0 i64 sl22 rfl ?_
          intro w2 ho2 hs2 hf2
          have hF2 := hf1.trans hf2
          refine Sl.calm (Cm.assign rfl) rfl ?_
          refine Sl.nil ?_
          refine At.weak [(0, _), (1, _), (2, _), (6, _), (7, _), (10, _), (11, _), (12, _), (30, _), (38, _)] ⟨rfl, rfl, rfl, rfl, rfl, rfl, rfl, rfl, rfl, rfl, trivial⟩ ?_
          refine At.go ?_
          refine Sc.seq ?_
          refine Sc.seq ?_
          refine Sc.region ?_
          refine Sl.calm (Cm.assign rfl) rfl ?_
          refine Sl.nil ?_
          refine At.go ?_
          refine Sc.block ?_
          refine Sc.loop (β := (List Int × Int) × (Option Addr × Nat)) (fun ⟨⟨os, q⟩, ⟨oo, oc⟩⟩ => [(0, .pointer (some ⟨g, 0, none⟩)), (1, .int .i64 many), (2, .int .i64 wide), (11, .int .i64 q), (12, .slice oo os.length oc), (13, .int .i64 os.length)]) (fun ⟨⟨os, q⟩, ⟨oo, oc⟩⟩ w => TnI im fr to wide many.toNat os q ∧ Own i64 3 w.heap oo oc os ∧ Fr W.heap.size oo ∧ Foot nob W w) (fun ⟨⟨os, q⟩, ⟨oo, oc⟩⟩ => many.toNat - os.length) ⟨⟨[], 0⟩, ⟨some ⟨w1.heap.size, 0, none⟩, 0⟩⟩ ⟨rfl, rfl, rfl, rfl, rfl, rfl, trivial⟩ ⟨TnI.zero, ho2, (fr_at _).mono hf1.size, hF2⟩ ?_
          rintro ⟨⟨os, q⟩, ⟨oo, oc⟩⟩ w3 ⟨hI, hoo, hfro, hF3⟩
          refine Sc.seq ?_
          refine Sc.seq ?_
          refine Sc.region ?_
          refine Sl.calm (Cm.move rfl) rfl ?_
          refine Sl.calm (Cm.move rfl) rfl ?_
          refine Sl.fork (Cm.lss rfl rfl) rfl (fun h42 => ?_) (fun h42 => ?_)
          ·
            have hlt : os.length < many.toNat := by omega
            obtain ⟨i1, i2, i3, i4⟩ := hI
            have hI : TnI im fr to wide many.toNat os q := ⟨i1, i2, i3, i4⟩
            obtain ⟨R, hR⟩ : ∃ R, R = readS im fr to q wide := ⟨_, rfl⟩
            refine Sl.nil ?_
            refine At.weak [(0, _), (1, _), (2, _), (11, _), (12, _), (13, _), (42, _)] ⟨rfl, rfl, rfl, rfl, rfl, rfl, rfl, trivial⟩ ?_
            refine At.go ?_
            refine Sc.cond_t rfl ?_
            refine Sc.skip ?_
            refine At.go ?_
            refine Sc.seq ?_
            refine Sc.block ?_
            refine Sc.seq ?_
            refine Sc.region ?_
            refine Sl.calm (Cm.move rfl) rfl ?_
            refine Sl.calm (Cm.move rfl) rfl ?_
            refine Sl.calm (Cm.move rfl) rfl ?_
            refine Sl.call fn62 rfl (rmread_ok g io ic im fr to q wide w3 (hM.grow hF3) (by omega) (by omega) (by omega)) rfl ?_
            rw [← hR]
            rintro _ w4 ⟨o4, c4, rfl, ho4, hfr4, hf4⟩
            have hF4 := hF3.trans hf4
            have hz4 := hf4.size
            refine Sl.calm (Cm.move rfl) rfl ?_
            refine Sl.calm (Cm.extract rfl rfl) rfl ?_
            refine Sl.calm (Cm.extract rfl rfl) rfl ?_
            refine Sl.calm (Cm.extract rfl rfl) rfl ?_
            refine Sl.calm (Cm.assign rfl) rfl ?_
            refine Sl.calm (Cm.assign rfl) rfl ?_
            refine Sl.calm (Cm.assign rfl) rfl ?_
            refine Sl.nil ?_
            refine At.weak [(0, _), (1, _), (2, _), (11, _), (12, _), (13, _), (14, _), (15, _), (16, _), (42, _)] ⟨rfl, rfl, rfl, rfl, rfl, rfl, rfl, rfl, rfl, rfl, trivial⟩ ?_
            refine At.go ?_
            refine Sc.seq ?_
            refine Sc.seq ?_
            refine Sc.region ?_
            refine Sl.calm (Cm.move rfl) rfl ?_
            refine Sl.fork (Cm.neq rfl rfl) rfl (fun h54 => ?_) (fun h54 => ?_)
            ·
              have e : T = ([], 2) := by rw [hT]; exact tnS_none hok (hI.bad hlt (by rw [← hR]; exact h54))
              refine Sl.nil ?_
              refine At.weak [(0, _), (1, _), (2, _), (11, _), (12, _), (13, _), (14, _), (15, _), (16, _), (42, _), (54, _)] ⟨rfl, rfl, rfl, rfl, rfl, rfl, rfl, rfl, rfl, rfl, rfl, trivial⟩ ?_
              refine At.go ?_
              refine Sc.cond_t rfl ?_
              refine Sc.seq ?_
              refine Sc.region ?_
              refine Sl.calm (Cm.assign rfl) rfl ?_
              refine Sl.calm (Cm.assign rfl) rfl ?_
              refine Sl.nil ?_
              refine At.go ?_
              refine Sc.ret ?_
              refine At.then_ret ?_
              refine At.block_ret ?_
              refine At.then_ret ?_
              refine At.then_ret ?_
              refine At.block_ret ?_
              refine At.then_ret ?_
              refine At.ret2 rfl rfl rfl ?_
              rw [← hT, e]
              exact ⟨_, rfl, none, 0, rfl, Own.nil, Fr.none, hF4⟩
            ·
              have e54 : R.2.2 = 0 := Decidable.not_not.1 h54
              have hl4 : (R.1.length : Int) = wide := by have := e54; rw [hR] at this ⊢; exact (readS_ok this).2.2.2.1
              have hI5 := hI.next hlt (by omega) (by rw [← hR]; exact e54)
              rw [← hR] at hI5
              have ev := num_whole (b := R.1) (by omega) (by omega) hl4
              have hv4 := valB_small (bs := R.1) (by omega)
              refine Sl.nil ?_
              refine At.weak [(0, _), (1, _), (2, _), (11, _), (12, _), (13, _), (14, _), (15, _), (16, _), (42, _), (54, _)] ⟨rfl, rfl, rfl, rfl, rfl, rfl, rfl, rfl, rfl, rfl, rfl, trivial⟩ ?_
              refine At.go ?_
              refine Sc.cond_f rfl ?_
              refine Sc.skip ?_
              refine At.go ?_
              refine Sc.seq ?_
              refine Sc.region ?_
              refine Sl.calm (Cm.move rfl) rfl ?_
              refine Sl.calm (Cm.build (cs := #[.slice o4 R.1.length c4, .int .i64 0]) plc106 zc106 rfl (by kernel_rfl)) rfl ?_
              refine Sl.allocC zc106 rfl ?_
              intro w5 hg5 hs5 hf5
              refine Sl.storeAll (vs := [.slice o4 R.1.length c4, .int .i64 0]) agg106 rfl rfl (by simp [Value.oneCell']) hg5 rfl ?_
              intro w6 hg6 hs6 hf6
              obtain ⟨p, hp⟩ : ∃ p, p = w4.heap.size := ⟨_, rfl⟩
              rw [← hp] at hg6 ⊢
              have hf46 : Foot nob w4 w6 := hf5.trans_to hf6 (fun k hk => .inr (by have : k = w4.heap.size := hk; omega))
              have ho6 := ho4.grow hf46
              have hP6 : RdR (fun k => w3.heap.size ≤ k ∧ k < w6.heap.size) w6.heap p 0 R.1 := ⟨o4, c4, hg6, ho6.vw, ⟨by omega, by omega⟩, fun _ => ⟨fun ⟨a, ha, hb⟩ => by have h3 := ho4.lt a ha; omega, fun k ⟨a, ha, hb⟩ => by have h3 := ho4.lt a ha; have h4 := hfr4 a ha; omega⟩⟩
              refine Sl.nil ?_
              refine At.weak [(0, _), (1, _), (2, _), (11, _), (12, _), (13, _), (14, _), (15, _), (16, _), (17, _), (42, _), (54, _)] ⟨rfl, rfl, rfl, rfl, rfl, rfl, rfl, rfl, rfl, rfl, rfl, rfl, trivial⟩ ?_
              refine At.go ?_
              refine Sc.seq ?_
              refine Sc.region ?_
              refine Sl.calm (Cm.move rfl) rfl ?_
              refine Sl.calm (Cm.move rfl) rfl ?_
              refine Sl.call fn58 rfl (rrdnum_ok p 0 R.1 wide w6 hP6 (by omega)) rfl ?_
              rintro _ w7 ⟨rfl, hP7, hf7⟩
              rw [ev]
              have hz6 := hf46.size
              have hz7 := hf7.size
              have hf37 : Foot nob w3 w7 := (hf4.trans hf46).trans_to hf7 (fun k hk => .inr (by have : k = p := hk; omega))
              refine Sl.lit1 (enc := i64) (u := ((valB R.1 : Nat) : Int)) sl22 (i64_oneT _) rfl rfl ?_
              intro w8 ho8 hs8 hf8
              have hf38 := hf37.trans hf8
              have hz8 := hf38.size
              refine Sl.append i64_oneT sl22 rfl rfl (hoo.grow hf38) ho8.vw (by simp only [List.length_singleton]; omega) (by simp only [List.length_singleton]; unfold maxLen; omega) rfl ?_
              intro o9 c9 w9 ho9 hf9 hr9 hn9
              have hF9 : Foot nob W w9 := (hF3.trans hf38).trans_to hf9 hfro.step
              refine Sl.calm (Cm.assign rfl) rfl ?_
              refine Sl.nil ?_
              refine At.weak [(0, _), (1, _), (2, _), (11, _), (12, _), (13, _), (14, _), (15, _), (16, _), (17, _), (42, _), (54, _)] ⟨rfl, rfl, rfl, rfl, rfl, rfl, rfl, rfl, rfl, rfl, rfl, rfl, trivial⟩ ?_
              refine At.go ?_
              refine Sc.region ?_
              refine Sl.calm (Cm.move rfl) rfl ?_
              refine Sl.calm (Cm.assign rfl) rfl ?_
              refine Sl.nil ?_
              refine At.block_normal ?_
              refine At.weak [(0, _), (1, _), (2, _), (11, _), (12, _), (13, _), (14, _), (15, _), (16, _), (17, _), (42, _), (54, _)] ⟨rfl, rfl, rfl, rfl, rfl, rfl, rfl, rfl, rfl, rfl, rfl, rfl, trivial⟩ ?_
              refine At.go ?_
              refine Sc.region ?_
              refine Sl.calm (Cm.move rfl) rfl ?_
              refine Sl.calm (Cm.add64 rfl rfl (by omega)) rfl ?_
              refine Sl.calm (Cm.assign rfl) rfl ?_
              refine Sl.nil ?_
              refine At.again ⟨⟨os ++ [((valB R.1 : Nat) : Int)], R.2.1⟩, ⟨o9, c9⟩⟩ ⟨rfl, rfl, rfl, rfl, rfl, ?_, trivial⟩ ⟨hI5, ho9, fr_next hfro hr9 (hF3.trans hf38).size, hF9⟩ ?_
              · show some (Value.int .i64 ((os.length : Int) + 1)) = _
                rw [List.length_append, List.length_singleton]; rfl
              · show many.toNat - (os ++ _).length < many.toNat - os.length
                rw [List.length_append, List.length_singleton]; omega
          ·
            have hdn := hI.done (by omega)
            obtain ⟨i1, i2, i3, i4⟩ := hI
            obtain ⟨R, hR⟩ : ∃ R, R = readS im fr to q 1 := ⟨_, rfl⟩
            refine Sl.nil ?_
            refine At.weak [(0, _), (1, _), (2, _), (11, _), (12, _), (13, _), (42, _)] ⟨rfl, rfl, rfl, rfl, rfl, rfl, rfl, trivial⟩ ?_
            refine At.go ?_
            refine Sc.cond_f rfl ?_
            refine Sc.exit ?_
            refine At.then_exit ?_
            refine At.then_exit ?_
            refine At.block_hit ?_
            refine At.go ?_
            refine Sc.seq ?_
            refine Sc.region ?_
            refine Sl.calm (Cm.move rfl) rfl ?_
            refine Sl.calm (Cm.move rfl) rfl ?_
            refine Sl.call fn62 rfl (rmread_ok g io ic im fr to q 1 w3 (hM.grow hF3) (by omega) (by omega) (by decide)) rfl ?_
            rw [← hR]
            rintro _ w4 ⟨o4, c4, rfl, ho4, hfr4, hf4⟩
            have hF4 := hF3.trans hf4
            refine Sl.calm (Cm.move rfl) rfl ?_
            refine Sl.calm (Cm.extract rfl rfl) rfl ?_
            refine Sl.calm (Cm.extract rfl rfl) rfl ?_
            refine Sl.calm (Cm.extract rfl rfl) rfl ?_
            refine Sl.calm (Cm.assign rfl) rfl ?_
            refine Sl.calm (Cm.assign rfl) rfl ?_
            refine Sl.calm (Cm.assign rfl) rfl ?_
            refine Sl.nil ?_
            refine At.weak [(0, _), (1, _), (2, _), (11, _), (12, _), (13, _), (20, _), (42, _)] ⟨rfl, rfl, rfl, rfl, rfl, rfl, rfl, rfl, trivial⟩ ?_
            refine At.go ?_
            refine Sc.seq ?_
            refine Sc.seq ?_
            refine Sc.region ?_
            refine Sl.calm (Cm.move rfl) rfl ?_
            refine Sl.fork (Cm.eql rfl rfl) rfl (fun h71 => ?_) (fun h71 => ?_)
            ·
              have e : T = ([], 2) := by rw [hT]; exact tnS_more hok hdn (by rw [← hR]; exact h71)
              refine Sl.nil ?_
              refine At.weak [(0, _), (1, _), (2, _), (11, _), (12, _), (13, _), (20, _), (42, _), (71, _)] ⟨rfl, rfl, rfl, rfl, rfl, rfl, rfl, rfl, rfl, trivial⟩ ?_
              refine At.go ?_
              refine Sc.cond_t rfl ?_
              refine Sc.seq ?_
              refine Sc.region ?_
              refine Sl.calm (Cm.assign rfl) rfl ?_
              refine Sl.calm (Cm.assign rfl) rfl ?_
              refine Sl.nil ?_
              refine At.go ?_
              refine Sc.ret ?_
              refine At.then_ret ?_
              refine At.ret2 rfl rfl rfl ?_
              rw [← hT, e]
              exact ⟨_, rfl, none, 0, rfl, Own.nil, Fr.none, hF4⟩
            ·
              have e : T = (os, 0) := by rw [hT]; exact tnS_good hok hmay hdn (by rw [← hR]; exact h71)
              refine Sl.nil ?_
              refine At.weak [(0, _), (1, _), (2, _), (11, _), (12, _), (13, _), (20, _), (42, _), (71, _)] ⟨rfl, rfl, rfl, rfl, rfl, rfl, rfl, rfl, rfl, trivial⟩ ?_
              refine At.go ?_
              refine Sc.cond_f rfl ?_
              refine Sc.skip ?_
              refine At.go ?_
              refine Sc.seq ?_
              refine Sc.region ?_
              refine Sl.calm (Cm.move rfl) rfl ?_
              refine Sl.calm (Cm.assign rfl) rfl ?_
              refine Sl.calm (Cm.assign rfl) rfl ?_
              refine Sl.nil ?_
              refine At.weak [(0, _), (1, _), (2, _), (6, _), (7, _), (11, _), (12, _), (13, _), (20, _), (42, _), (71, _)] ⟨rfl, rfl, rfl, rfl, rfl, rfl, rfl, rfl, rfl, rfl, rfl, trivial⟩ ?_
              refine At.go ?_
              refine Sc.ret ?_
              refine At.ret2 rfl rfl rfl ?_
              rw [← hT, e]
              exact ⟨_, rfl, oo, oc, rfl, hoo.grow hf4, hfro, hF4⟩
    ·
      have hok : ¬ (many < 0 ∨ ¬ (wide = 2 ∨ wide = 4)) := by omega
      refine Sl.want rfl rfl (Cm.move rfl) rfl ?_
      refine Sl.skip rfl rfl rfl rfl ?_
      refine Sl.skip rfl rfl rfl rfl ?_
      refine Sl.want rfl rfl (Cm.pick_f rfl rfl) rfl ?_
      refine Sl.calm (Cm.pick_f rfl rfl) rfl ?_
      refine Sl.nil ?_
      refine At.weak [(0, _), (1, _), (2, _), (6, _), (7, _), (30, _)] ⟨rfl, rfl, rfl, rfl, rfl, rfl, trivial⟩ ?_
      refine At.go ?_
      refine Sc.cond_f rfl ?_
      refine Sc.skip ?_
      refine At.go ?_
      refine Sc.seq ?_
      refine Sc.region ?_
      refine Sl.calm (Cm.move rfl) rfl ?_
      refine Sl.call fn62 rfl (rmread_ok g io ic im fr to 0 0 W hM (by omega) (by decide) (by decide)) rfl ?_
      rw [← hZ]
      rintro _ w1 ⟨o1, c1, rfl, ho1, hfr1, hf1⟩
      refine Sl.calm (Cm.move rfl) rfl ?_
      refine Sl.calm (Cm.extract rfl rfl) rfl ?_
      refine Sl.calm (Cm.extract rfl rfl) rfl ?_
      refine Sl.calm (Cm.extract rfl rfl) rfl ?_
      refine Sl.calm (Cm.assign rfl) rfl ?_
      refine Sl.calm (Cm.assign rfl) rfl ?_
      refine Sl.calm (Cm.assign rfl) rfl ?_
      refine Sl.nil ?_
      refine At.weak [(0, _), (1, _), (2, _), (6, _), (7, _), (10, _), (30, _)] ⟨rfl, rfl, rfl, rfl, rfl, rfl, rfl, trivial⟩ ?_
      refine At.go ?_
      refine Sc.seq ?_
      refine Sc.seq ?_
      refine Sc.region ?_
      refine Sl.calm (Cm.move rfl) rfl ?_
      refine Sl.fork (Cm.neq rfl rfl) rfl (fun h38 => ?_) (fun h38 => ?_)
      ·
        have e : T = ([], 2) := by
          rw [hT]
          refine tnS_may hok ?_
          cases hms : mayS im fr to with
          | false => rfl
          | true => rw [hZ, readS_zero (Int.le_refl 0) hms] at h38; exact absurd rfl h38
        refine Sl.nil ?_
        refine At.weak [(0, _), (1, _), (2, _), (6, _), (7, _), (10, _), (30, _), (38, _)] ⟨rfl, rfl, rfl, rfl, rfl, rfl, rfl, rfl, trivial⟩ ?_
        refine At.go ?_
        refine Sc.cond_t rfl ?_
        refine Sc.seq ?_
        refine Sc.region ?_
        refine Sl.calm (Cm.assign rfl) rfl ?_
        refine Sl.calm (Cm.assign rfl) rfl ?_
        refine Sl.nil ?_
        refine At.go ?_
        refine Sc.ret ?_
        refine At.then_ret ?_
        refine At.ret2 rfl rfl rfl ?_
        rw [← hT, e]
        exact ⟨_, rfl, none, 0, rfl, Own.nil, Fr.none, hf1⟩
      ·
        have hmay : mayS im fr to = true := by
          cases hms : mayS im fr to with
          | true => rfl
          | false => rw [hZ] at h38; exact absurd (readS_may hms) h38
        refine Sl.nil ?_
        refine At.weak [(0, _), (1, _), (2, _), (6, _), (7, _), (10, _), (30, _), (38, _)] ⟨rfl, rfl, rfl, rfl, rfl, rfl, rfl, rfl, trivial⟩ ?_
        refine At.go ?_
        refine Sc.cond_f rfl ?_
        refine Sc.skip ?_
        refine At.go ?_
        refine Sc.seq ?_
        refine Sc.region ?_
        refine Sl.calm (Cm.assign rfl) rfl ?_
        refine Sl.nil ?_
        refine At.go ?_
        refine Sc.seq ?_
        refine Sc.region ?_
        refine Sl.lit0 i64 sl22 rfl ?_
        intro w2 ho2 hs2 hf2
        have hF2 := hf1.trans hf2
        refine Sl.calm (Cm.assign rfl) rfl ?_
        refine Sl.nil ?_
        refine At.weak [(0, _), (1, _), (2, _), (6, _), (7, _), (10, _), (11, _), (12, _), (30, _), (38, _)] ⟨rfl, rfl, rfl, rfl, rfl, rfl, rfl, rfl, rfl, rfl, trivial⟩ ?_
        refine At.go ?_
        refine Sc.seq ?_
        refine Sc.seq ?_
        refine Sc.region ?_
        refine Sl.calm (Cm.assign rfl) rfl ?_
        refine Sl.nil ?_
        refine At.go ?_
        refine Sc.block ?_
        refine Sc.loop (β := (List Int × Int) × (Option Addr × Nat)) (fun ⟨⟨os, q⟩, ⟨oo, oc⟩⟩ => [(0, .pointer (some ⟨g, 0, none⟩)), (1, .int .i64 many), (2, .int .i64 wide), (11, .int .i64 q), (12, .slice oo os.length oc), (13, .int .i64 os.length)]) (fun ⟨⟨os, q⟩, ⟨oo, oc⟩⟩ w => TnI im fr to wide many.toNat os q ∧ Own i64 3 w.heap oo oc os ∧ Fr W.heap.size oo ∧ Foot nob W w) (fun ⟨⟨os, q⟩, ⟨oo, oc⟩⟩ => many.toNat - os.length) ⟨⟨[], 0⟩, ⟨some ⟨w1.heap.size, 0, none⟩, 0⟩⟩ ⟨rfl, rfl, rfl, rfl, rfl, rfl, trivial⟩ ⟨TnI.zero, ho2, (fr_at _).mono hf1.size, hF2⟩ ?_
        rintro ⟨⟨os, q⟩, ⟨oo, oc⟩⟩ w3 ⟨hI, hoo, hfro, hF3⟩
        refine Sc.seq ?_
        refine Sc.seq ?_
        refine Sc.region ?_
        refine Sl.calm (Cm.move rfl) rfl ?_
        refine Sl.calm (Cm.move rfl) rfl ?_
        refine Sl.fork (Cm.lss rfl rfl) rfl (fun h42 => ?_) (fun h42 => ?_)
        ·
          have hlt : os.length < many.toNat := by omega
          obtain ⟨i1, i2, i3, i4⟩ := hI
          have hI : TnI im fr to wide many.toNat os q := ⟨i1, i2, i3, i4⟩
          obtain ⟨R, hR⟩ : ∃ R, R = readS im fr to q wide := ⟨_, rfl⟩
          refine Sl.nil ?_
          refine At.weak [(0, _), (1, _), (2, _), (11, _), (12, _), (13, _), (42, _)] ⟨rfl, rfl, rfl, rfl, rfl, rfl, rfl, trivial⟩ ?_
          refine At.go ?_
          refine Sc.cond_t rfl ?_
          refine Sc.skip ?_
          refine At.go ?_
          refine Sc.seq ?_
          refine Sc.block ?_
          refine Sc.seq ?_
          refine Sc.region ?_
          refine Sl.calm (Cm.move rfl) rfl ?_
          refine Sl.calm (Cm.move rfl) rfl ?_
          refine Sl.calm (Cm.move rfl) rfl ?_
          refine Sl.call fn62 rfl (rmread_ok g io ic im fr to q wide w3 (hM.grow hF3) (by omega) (by omega) (by omega)) rfl ?_
          rw [← hR]
          rintro _ w4 ⟨o4, c4, rfl, ho4, hfr4, hf4⟩
          have hF4 := hF3.trans hf4
          have hz4 := hf4.size
          refine Sl.calm (Cm.move rfl) rfl ?_
          refine Sl.calm (Cm.extract rfl rfl) rfl ?_
          refine Sl.calm (Cm.extract rfl rfl) rfl ?_
          refine Sl.calm (Cm.extract rfl rfl) rfl ?_
          refine Sl.calm (Cm.assign rfl) rfl ?_
          refine Sl.calm (Cm.assign rfl) rfl ?_
          refine Sl.calm (Cm.assign rfl) rfl ?_
          refine Sl.nil ?_
          refine At.weak [(0, _), (1, _), (2, _), (11, _), (12, _), (13, _), (14, _), (15, _), (16, _), (42, _)] ⟨rfl, rfl, rfl, rfl, rfl, rfl, rfl, rfl, rfl, rfl, trivial⟩ ?_
          refine At.go ?_
          refine Sc.seq ?_
          refine Sc.seq ?_
          refine Sc.region ?_
          refine Sl.calm (Cm.move rfl) rfl ?_
          refine Sl.fork (Cm.neq rfl rfl) rfl (fun h54 => ?_) (fun h54 => ?_)
          ·
            have e : T = ([], 2) := by rw [hT]; exact tnS_none hok (hI.bad hlt (by rw [← hR]; exact h54))
            refine Sl.nil ?_
            refine At.weak [(0, _), (1, _), (2, _), (11, _), (12, _), (13, _), (14, _), (15, _), (16, _), (42, _), (54, _)] ⟨rfl, rfl, rfl, rfl, rfl, rfl, rfl, rfl, rfl, rfl, rfl, trivial⟩ ?_
            refine At.go ?_
            refine Sc.cond_t rfl ?_
            refine Sc.seq ?_
            refine Sc.region ?_
            refine Sl.calm (Cm.assign rfl) rfl ?_
            refine Sl.calm (Cm.assign rfl) rfl ?_
            refine Sl.nil ?_
            refine At.go ?_
            refine Sc.ret ?_
            refine At.then_ret ?_
            refine At.block_ret ?_
            refine At.then_ret ?_
            refine At.then_ret ?_
            refine At.block_ret ?_
            refine At.then_ret ?_
            refine At.ret2 rfl rfl rfl ?_
            rw [← hT, e]
            exact ⟨_, rfl, none, 0, rfl, Own.nil, Fr.none, hF4⟩
          ·
            have e54 : R.2.2 = 0 := Decidable.not_not.1 h54
            have hl4 : (R.1.length : Int) = wide := by have := e54; rw [hR] at this ⊢; exact (readS_ok this).2.2.2.1
            have hI5 := hI.next hlt (by omega) (by rw [← hR]; exact e54)
            rw [← hR] at hI5
            have ev := num_whole (b := R.1) (by omega) (by omega) hl4
            have hv4 := valB_small (bs := R.1) (by omega)
            refine Sl.nil ?_
            refine At.weak [(0, _), (1, _), (2, _), (11, _), (12, _), (13, _), (14, _), (15, _), (16, _), (42, _), (54, _)] ⟨rfl, rfl, rfl, rfl, rfl, rfl, rfl, rfl, rfl, rfl, rfl, trivial⟩ ?_
            refine At.go ?_
            refine Sc.cond_f rfl ?_
            refine Sc.skip ?_
            refine At.go ?_
            refine Sc.seq ?_
            refine Sc.region ?_
            refine Sl.calm (Cm.move rfl) rfl ?_
            refine Sl.calm (Cm.build (cs := #[.slice o4 R.1.length c4, .int .i64 0]) plc106 zc106 rfl (by kernel_rfl)) rfl ?_
            refine Sl.allocC zc106 rfl ?_
            intro w5 hg5 hs5 hf5
            refine Sl.storeAll (vs := [.slice o4 R.1.length c4, .int .i64 0]) agg106 rfl rfl (by simp [Value.oneCell']) hg5 rfl ?_
            intro w6 hg6 hs6 hf6
            obtain ⟨p, hp⟩ : ∃ p, p = w4.heap.size := ⟨_, rfl⟩
            rw [← hp] at hg6 ⊢
            have hf46 : Foot nob w4 w6 := hf5.trans_to hf6 (fun k hk => .inr (by have : k = w4.heap.size := hk; omega))
            have ho6 := ho4.grow hf46
            have hP6 : RdR (fun k => w3.heap.size ≤ k ∧ k < w6.heap.size) w6.heap p 0 R.1 := ⟨o4, c4, hg6, ho6.vw, ⟨by omega, by omega⟩, fun _ => ⟨fun ⟨a, ha, hb⟩ => by have h3 := ho4.lt a ha; omega, fun k ⟨a, ha, hb⟩ => by have h3 := ho4.lt a ha; have h4 := hfr4 a ha; omega⟩⟩
            refine Sl.nil ?_
            refine At.weak [(0, _), (1, _), (2, _), (11, _), (12, _), (13, _), (14, _), (15, _), (16, _), (17, _), (42, _), (54, _)] ⟨rfl, rfl, rfl, rfl, rfl, rfl, rfl, rfl, rfl, rfl, rfl, rfl, trivial⟩ ?_
            refine At.go ?_
            refine Sc.seq ?_
            refine Sc.region ?_
            refine Sl.calm (Cm.move rfl) rfl ?_
            refine Sl.calm (Cm.move rfl) rfl ?_
            refine Sl.call fn58 rfl (rrdnum_ok p 0 R.1 wide w6 hP6 (by omega)) rfl ?_
            rintro _ w7 ⟨rfl, hP7, hf7⟩
            rw [ev]
            have hz6 := hf46.size
            have hz7 := hf7.size
            have hf37 : Foot nob w3 w7 := (hf4.trans hf46).trans_to hf7 (fun k hk => .inr (by have : k = p := hk; omega))
            refine Sl.lit1 (enc := i64) (u := ((valB R.1 : Nat) : Int)) sl22 (i64_oneT _) rfl rfl ?_
            intro w8 ho8 hs8 hf8
            have hf38 := hf37.trans hf8
            have hz8 := hf38.size
            refine Sl.append i64_oneT sl22 rfl rfl (hoo.grow hf38) ho8.vw (by simp only [List.length_singleton]; omega) (by simp only [List.length_singleton]; unfold maxLen; omega) rfl ?_
            intro o9 c9 w9 ho9 hf9 hr9 hn9
            have hF9 : Foot nob W w9 := (hF3.trans hf38).trans_to hf9 hfro.step
            refine Sl.calm (Cm.assign rfl) rfl ?_
            refine Sl.nil ?_
            refine At.weak [(0, _), (1, _), (2, _), (11, _), (12, _), (13, _), (14, _), (15, _), (16, _), (17, _), (42, _), (54, _)] ⟨rfl, rfl, rfl, rfl, rfl, rfl, rfl, rfl, rfl, rfl, rfl, rfl, trivial⟩ ?_
            refine At.go ?_
            refine Sc.region ?_
            refine Sl.calm (Cm.move rfl) rfl ?_
            refine Sl.calm (Cm.assign rfl) rfl ?_
            refine Sl.nil ?_
            refine At.block_normal ?_
            refine At.weak [(0, _), (1, _), (2, _), (11, _), (12, _), (13, _), (14, _), (15, _), (16, _), (17, _), (42, _), (54, _)] ⟨rfl, rfl, rfl, rfl, rfl, rfl, rfl, rfl, rfl, rfl, rfl, rfl, trivial⟩ ?_
            refine At.go ?_
            refine Sc.region ?_
            refine Sl.calm (Cm.move rfl) rfl ?_
            refine Sl.calm (Cm.add64 rfl rfl (by omega)) rfl ?_
            refine Sl.calm (Cm.assign rfl) rfl ?_
            refine Sl.nil ?_
            refine At.again ⟨⟨os ++ [((valB R.1 : Nat) : Int)], R.2.1⟩, ⟨o9, c9⟩⟩ ⟨rfl, rfl, rfl, rfl, rfl, ?_, trivial⟩ ⟨hI5, ho9, fr_next hfro hr9 (hF3.trans hf38).size, hF9⟩ ?_
            · show some (Value.int .i64 ((os.length : Int) + 1)) = _
              rw [List.length_append, List.length_singleton]; rfl
            · show many.toNat - (os ++ _).length < many.toNat - os.length
              rw [List.length_append, List.length_singleton]; omega
        ·
          have hdn := hI.done (by omega)
          obtain ⟨i1, i2, i3, i4⟩ := hI
          obtain ⟨R, hR⟩ : ∃ R, R = readS im fr to q 1 := ⟨_, rfl⟩
          refine Sl.nil ?_
          refine At.weak [(0, _), (1, _), (2, _), (11, _), (12, _), (13, _), (42, _)] ⟨rfl, rfl, rfl, rfl, rfl, rfl, rfl, trivial⟩ ?_
          refine At.go ?_
          refine Sc.cond_f rfl ?_
          refine Sc.exit ?_
          refine At.then_exit ?_
          refine At.then_exit ?_
          refine At.block_hit ?_
          refine At.go ?_
          refine Sc.seq ?_
          refine Sc.region ?_
          refine Sl.calm (Cm.move rfl) rfl ?_
          refine Sl.calm (Cm.move rfl) rfl ?_
          refine Sl.call fn62 rfl (rmread_ok g io ic im fr to q 1 w3 (hM.grow hF3) (by omega) (by omega) (by decide)) rfl ?_
          rw [← hR]
          rintro _ w4 ⟨o4, c4, rfl, ho4, hfr4, hf4⟩
          have hF4 := hF3.trans hf4
          refine Sl.calm (Cm.move rfl) rfl ?_
          refine Sl.calm (Cm.extract rfl rfl) rfl ?_
          refine Sl.calm (Cm.extract rfl rfl) rfl ?_
          refine Sl.calm (Cm.extract rfl rfl) rfl ?_
          refine Sl.calm (Cm.assign rfl) rfl ?_
          refine Sl.calm (Cm.assign rfl) rfl ?_
          refine Sl.calm (Cm.assign rfl) rfl ?_
          refine Sl.nil ?_
          refine At.weak [(0, _), (1, _), (2, _), (11, _), (12, _), (13, _), (20, _), (42, _)] ⟨rfl, rfl, rfl, rfl, rfl, rfl, rfl, rfl, trivial⟩ ?_
          refine At.go ?_
          refine Sc.seq ?_
          refine Sc.seq ?_
          refine Sc.region ?_
          refine Sl.calm (Cm.move rfl) rfl ?_
          refine Sl.fork (Cm.eql rfl rfl) rfl (fun h71 => ?_) (fun h71 => ?_)
          ·
            have e : T = ([], 2) := by rw [hT]; exact tnS_more hok hdn (by rw [← hR]; exact h71)
            refine Sl.nil ?_
            refine At.weak [(0, _), (1, _), (2, _), (11, _), (12, _), (13, _), (20, _), (42, _), (71, _)] ⟨rfl, rfl, rfl, rfl, rfl, rfl, rfl, rfl, rfl, trivial⟩ ?_
            refine At.go ?_
            refine Sc.cond_t rfl ?_
            refine Sc.seq ?_
            refine Sc.region ?_
            refine Sl.calm (Cm.assign rfl) rfl ?_
            refine Sl.calm (Cm.assign rfl) rfl ?_
            refine Sl.nil ?_
            refine At.go ?_
            refine Sc.ret ?_
            refine At.then_ret ?_
            refine At.ret2 rfl rfl rfl ?_
            rw [← hT, e]
            exact ⟨_, rfl, none, 0, rfl, Own.nil, Fr.none, hF4⟩
          ·
            have e : T = (os, 0) := by rw [hT]; exact tnS_good hok hmay hdn (by rw [← hR]; exact h71)
            refine Sl.nil ?_
            refine At.weak [(0, _), (1, _), (2, _), (11, _), (12, _), (13, _), (20, _), (42, _), (71, _)] ⟨rfl, rfl, rfl, rfl, rfl, rfl, rfl, rfl, rfl, trivial⟩ ?_
            refine At.go ?_
            refine Sc.cond_f rfl ?_
            refine Sc.skip ?_
            refine At.go ?_
            refine Sc.seq ?_
            refine Sc.region ?_
            refine Sl.calm (Cm.move rfl) rfl ?_
            refine Sl.calm (Cm.assign rfl) rfl ?_
            refine Sl.calm (Cm.assign rfl) rfl ?_
            refine Sl.nil ?_
            refine At.weak [(0, _), (1, _), (2, _), (6, _), (7, _), (11, _), (12, _), (13, _), (20, _), (42, _), (71, _)] ⟨rfl, rfl, rfl, rfl, rfl, rfl, rfl, rfl, rfl, rfl, rfl, trivial⟩ ?_
            refine At.go ?_
            refine Sc.ret ?_
            refine At.ret2 rfl rfl rfl ?_
            rw [← hT, e]
            exact ⟨_, rfl, oo, oc, rfl, hoo.grow hf4, hfro, hF4⟩
end Go.Proofs.Ytoaplldahbbaiaa
