/- frame: the reference's. No condition beyond the bounds that each states. -/
import Derived.Test.YtpnfjfbfgaiolaaDoorFmC
namespace Go.Proofs.YtpnfjfbfgaiolaaDoor
open Go Go.RowKit
set_option linter.unusedVariables false

theorem comp8 : ∀ x, x < 256 → 255 - x = 255 ^^^ x := by decide +kernel
theorem sub8 {x : Nat} (h : x < 256) : IntKind.u8.wrap (255 - (x : Int)) = ((255 ^^^ x : Nat) : Int) := by
  rw [← comp8 x h, show (255 : Int) - (x : Int) = ((255 - x : Nat) : Int) by omega, wrapU8 (by omega)]
theorem rhead_ok (n : Nat) (W : World) (hn : n < 65536) : Calls Tryd.prog 42 [.int .i64 n].toArray W (Ret fun v w' => ∃ o c, v = .slice o (hdB n).length c ∧ Own b8 5 w'.heap o c (hdB n) ∧ Fr W.heap.size o ∧ Foot nob W w') := by
  refine calls_of_sc 17 [(0, _)] Tryd.func42 rfl rfl rfl (enter_slots ⟨rfl, trivial⟩) ?_
  refine Sc.seq ?_
  refine Sc.region ?_
  refine Sl.calm (Cm.assign rfl) rfl ?_
  refine Sl.nil ?_
  refine At.go ?_
  refine Sc.seq ?_
  refine Sc.region ?_
  refine Sl.calm (Cm.move rfl) rfl ?_
  refine Sl.calm (Cm.convI_in (n := ((n % 256 : Nat) : Int)) is3 ty5 rfl (wrap8m n)) rfl ?_
  refine Sl.calm (Cm.assign rfl) rfl ?_
  refine Sl.nil ?_
  refine At.weak [(0, _), (2, _), (3, _)] ⟨rfl, rfl, rfl, trivial⟩ ?_
  refine At.go ?_
  refine Sc.seq ?_
  refine Sc.region ?_
  refine Sl.calm (Cm.move rfl) rfl ?_
  refine Sl.calm (Cm.ofEq (u := .int .i64 ((n / 256 : Nat) : Int)) (Cm.shr rfl rfl (by omega)) (by rw [hv_div])) rfl ?_
  refine Sl.calm (Cm.convI_in (n := ((n / 256 % 256 : Nat) : Int)) is3 ty5 rfl (wrap8m _)) rfl ?_
  refine Sl.calm (Cm.assign rfl) rfl ?_
  refine Sl.nil ?_
  refine At.weak [(0, _), (2, _), (3, _), (4, _)] ⟨rfl, rfl, rfl, rfl, trivial⟩ ?_
  refine At.go ?_
  refine Sc.seq ?_
  refine Sc.region ?_
  refine Sl.calm (Cm.move rfl) rfl ?_
  refine Sl.calm (Cm.move rfl) rfl ?_
  refine Sl.calm (Cm.move rfl) rfl ?_
  refine Sl.calm (Cm.move rfl) rfl ?_
  refine Sl.calm (Cm.xor8 rfl rfl (by omega) (by omega)) rfl ?_
  refine Sl.calm (Cm.ofEq (u := .int .u8 ((255 ^^^ ((n % 256) ^^^ (n / 256 % 256)) : Nat) : Int)) (Cm.subW rfl rfl) (by rw [sub8 (xor_lt8 (by omega) (by omega))])) rfl ?_
  refine Sl.litG sl23 (cs := (hdV n).toArray) zc5 rfl rfl rfl (by kernel_rfl) rfl ?_
  intro w1 hg1 hs1 hf1
  rw [hdV_eq] at hg1
  refine Sl.calm (Cm.assign rfl) rfl ?_
  refine Sl.nil ?_
  refine At.weak [(0, _), (2, _), (3, _), (4, _)] ⟨rfl, rfl, rfl, rfl, trivial⟩ ?_
  refine At.go ?_
  refine Sc.ret ?_
  refine At.ret1 rfl rfl ?_
  exact ⟨_, rfl, _, 3, rfl, own_new (xs := hdB n) hg1 (by rw [hdB_len]; unfold maxLen; decide), fr_at _, hf1⟩

set_option maxHeartbeats 2000000 in
theorem rfput_ok (ao : Option Addr) (c : Nat) (b : List UInt8) (W : World) (hv : Vw b8 W.heap ao c b) :
    Calls Tryd.prog 26 [.slice ao b.length c].toArray W (Ret (PutP W (putS b))) := by
  refine calls_of_sc 42 [(0, _)] Tryd.func26 rfl rfl rfl (enter_slots ⟨rfl, trivial⟩) ?_
  refine Sc.seq ?_
  refine Sc.region ?_
  refine Sl.calm (Cm.assign rfl) rfl ?_
  refine Sl.calm (Cm.assign rfl) rfl ?_
  refine Sl.nil ?_
  refine At.go ?_
  refine Sc.seq ?_
  refine Sc.seq ?_
  refine Sc.region ?_
  refine Sl.calm (Cm.move rfl) rfl ?_
  refine Sl.calm (Cm.len sl23 rfl) rfl ?_
  refine Sl.fork (Cm.gtr rfl rfl) rfl (fun h9 => ?_) (fun h9 => ?_)
  ·
    have e : putS b = ([], 3) := by unfold putS; rw [if_pos (by omega)]
    refine Sl.nil ?_
    refine At.weak [(0, _), (2, _), (3, _), (9, _)] ⟨rfl, rfl, rfl, rfl, trivial⟩ ?_
    refine At.go ?_
    refine Sc.cond_t rfl ?_
    refine Sc.seq ?_
    refine Sc.region ?_
    refine Sl.calm (Cm.assign rfl) rfl ?_
    refine Sl.calm (Cm.assign rfl) rfl ?_
    refine Sl.nil ?_
    refine At.go ?_
    refine Sc.ret ?_
    refine At.then_ret ?_
    refine At.ret2 rfl rfl rfl ?_
    rw [e]
    first
      | exact ⟨_, rfl, none, 0, rfl, Own.nil, Fr.none, Foot.refl _ _⟩
      | exact ⟨_, rfl, o3, c3, rfl, ho3, hfr3.mono hz2, hF2.trans hf3⟩
      | (have hF8 : Foot nob W w8 := (hF6.trans_to hf7 (fun k h => .inr (hD3b k h))).trans_to hf8 (fun k h => .inr (hD3b k h))
         exact ⟨_, rfl, o9, c9, rfl, ho9, hfr9.mono hF8.size, hF8.trans hf9⟩)
  ·
    refine Sl.nil ?_
    refine At.weak [(0, _), (2, _), (3, _), (9, _)] ⟨rfl, rfl, rfl, rfl, trivial⟩ ?_
    refine At.go ?_
    refine Sc.cond_f rfl ?_
    refine Sc.skip ?_
    refine At.go ?_
    refine Sc.seq ?_
    refine Sc.region ?_
    refine Sl.calm (Cm.build plc90 zc90 rfl rfl) rfl ?_
    refine Sl.allocC zc90 rfl ?_
    intro w1 hg1 hs1 hf1
    refine Sl.storeAll (vs := [.slice none 0 0, .int .i64 0]) agg90 rfl rfl (by simp [Value.oneCell']) hg1 rfl ?_
    intro w2 hg2 hs2 hf2
    have hF2 : Foot nob W w2 := hf1.trans_to hf2 (fun k hk => .inr (by have h : k = W.heap.size := hk; omega))
    have hP2 : WrR (fun k => W.heap.size ≤ k) w2.heap W.heap.size 0 [] := WrO.zeroR hg2 (Nat.le_refl _)
    have hz2 := hF2.size
    refine Sl.nil ?_
    refine At.weak [(0, _), (2, _), (3, _), (4, _), (9, _)] ⟨rfl, rfl, rfl, rfl, rfl, trivial⟩ ?_
    refine At.go ?_
    refine Sc.seq ?_
    refine Sc.seq ?_
    refine Sc.region ?_
    refine Sl.calm (Cm.move rfl) rfl ?_
    refine Sl.calm (Cm.len sl23 rfl) rfl ?_
    refine Sl.fork (Cm.eql rfl rfl) rfl (fun h13 => ?_) (fun h13 => ?_)
    ·
      have e : putS b = (frS [] 0, 0) := by unfold putS; rw [if_neg (by omega), if_pos (by omega)]
      refine Sl.nil ?_
      refine At.weak [(0, _), (2, _), (3, _), (4, _), (9, _), (13, _)] ⟨rfl, rfl, rfl, rfl, rfl, rfl, trivial⟩ ?_
      refine At.go ?_
      refine Sc.cond_t rfl ?_
      refine Sc.seq ?_
      refine Sc.region ?_
      refine Sl.call fn42 rfl (rhead_ok 0 w2 (by decide)) rfl ?_
      rintro _ w3 ⟨o3, c3, rfl, ho3, hfr3, hf3⟩
      refine Sl.calm (Cm.assign rfl) rfl ?_
      refine Sl.calm (Cm.assign rfl) rfl ?_
      refine Sl.nil ?_
      refine At.weak [(0, _), (2, _), (3, _), (4, _), (9, _), (13, _)] ⟨rfl, rfl, rfl, rfl, rfl, rfl, trivial⟩ ?_
      refine At.go ?_
      refine Sc.ret ?_
      refine At.then_ret ?_
      refine At.ret2 rfl rfl rfl ?_
      rw [e]
      first
        | exact ⟨_, rfl, none, 0, rfl, Own.nil, Fr.none, Foot.refl _ _⟩
        | exact ⟨_, rfl, o3, c3, rfl, ho3, hfr3.mono hz2, hF2.trans hf3⟩
        | (have hF8 : Foot nob W w8 := (hF6.trans_to hf7 (fun k h => .inr (hD3b k h))).trans_to hf8 (fun k h => .inr (hD3b k h))
           exact ⟨_, rfl, o9, c9, rfl, ho9, hfr9.mono hF8.size, hF8.trans hf9⟩)
    ·
      have hb0 : 0 < b.length := by omega
      have hltA := vw_lt hv hb0
      refine Sl.nil ?_
      refine At.weak [(0, _), (2, _), (3, _), (4, _), (9, _), (13, _)] ⟨rfl, rfl, rfl, rfl, rfl, rfl, trivial⟩ ?_
      refine At.go ?_
      refine Sc.cond_f rfl ?_
      refine Sc.skip ?_
      refine At.go ?_
      refine Sc.seq ?_
      refine Sc.region ?_
      refine Sl.calm (Cm.move rfl) rfl ?_
      refine Sl.call fn43 rfl (rpack_ok ao c b w2 (hv.grow hF2)) rfl ?_
      rw [pkR_fit (by omega)]
      intro _ w3 hP
      have hP : PutE _ (pkS b) 0 _ w3 := hP
      obtain ⟨o3, c3, rfl, ho3, hfr3, hf3⟩ := hP
      have hP3 := hP2.shrink hf3
      have hF3 := hF2.trans hf3
      have hz3 := hf3.size
      have hp0 := pkS_ne hb0
      obtain ⟨D3, hD3⟩ : ∃ D3 : Nat → Prop, D3 = fun k => W.heap.size ≤ k ∧ (k < w2.heap.size ∨ w3.heap.size ≤ k) := ⟨_, rfl⟩
      rw [← hD3] at hP3
      have hD3a : ∀ k, w3.heap.size ≤ k → D3 k := fun k hk => by rw [hD3]; exact ⟨by omega, .inr hk⟩
      have hD3b : ∀ k, D3 k → W.heap.size ≤ k := fun k hk => by rw [hD3] at hk; exact hk.1
      have hD3c : ∀ k, blk o3 k → ¬ D3 k := fun k ⟨a, ha, hk⟩ h => by rw [hD3] at h; have h2 := h.2; have h3 := hfr3 a ha; have h4 := ho3.lt a ha; omega
      refine Sl.calm (Cm.move rfl) rfl ?_
      refine Sl.calm (Cm.extract rfl rfl) rfl ?_
      refine Sl.calm (Cm.extract rfl rfl) rfl ?_
      refine Sl.calm (Cm.assign rfl) rfl ?_
      refine Sl.calm (Cm.assign rfl) rfl ?_
      refine Sl.nil ?_
      refine At.weak [(0, _), (2, _), (3, _), (4, _), (5, _), (9, _), (13, _)] ⟨rfl, rfl, rfl, rfl, rfl, rfl, rfl, trivial⟩ ?_
      refine At.go ?_
      refine Sc.cut (β := Nat × List UInt8 × Option Addr × Nat) (fun ⟨n, x, xo, xc⟩ => [(4, .pointer (some ⟨W.heap.size, 0, none⟩)), (5, .slice xo x.length xc)]) (fun ⟨n, x, xo, xc⟩ w => putS b = (hdB n ++ le (sumS x : Nat) 4 ++ x, 0) ∧ WrR D3 w.heap W.heap.size 0 (hdB n) ∧ Vw b8 w.heap xo xc x ∧ (∀ k, blk xo k → ¬ D3 k) ∧ x.length ≤ 128 ∧ w3.heap.size ≤ w.heap.size ∧ Foot nob W w) ?_ ?_
      ·
        refine Sc.seq ?_
        refine Sc.region ?_
        refine Sl.calm (Cm.move rfl) rfl ?_
        refine Sl.calm (Cm.len sl23 rfl) rfl ?_
        refine Sl.calm (Cm.move rfl) rfl ?_
        refine Sl.calm (Cm.len sl23 rfl) rfl ?_
        refine Sl.fork (Cm.lss rfl rfl) rfl (fun h24 => ?_) (fun h24 => ?_)
        ·
          have e : putS b = (hdB (pkS b).length ++ le (sumS (pkS b) : Nat) 4 ++ pkS b, 0) := by
            have h0 : ¬ (pkS b).length = 0 := by omega
            unfold putS frS; rw [if_neg (by omega), if_neg (by omega), if_pos (by omega), if_neg h0, Nat.add_zero, List.append_assoc]
          refine Sl.nil ?_
          refine At.weak [(0, _), (2, _), (3, _), (4, _), (5, _), (9, _), (13, _), (24, _)] ⟨rfl, rfl, rfl, rfl, rfl, rfl, rfl, rfl, trivial⟩ ?_
          refine At.go ?_
          refine Sc.cond_t rfl ?_
          refine Sc.region ?_
          refine Sl.calm (Cm.move rfl) rfl ?_
          refine Sl.calm (Cm.len sl23 rfl) rfl ?_
          refine Sl.call fn42 rfl (rhead_ok (pkS b).length w3 (by omega)) rfl ?_
          rintro _ w4 ⟨o4, c4, rfl, ho4, hfr4, hf4⟩
          refine Sl.call fn44 rfl (rbytes_ok D3 W.heap.size 0 [] o4 c4 (hdB (pkS b).length) w4 (hP3.grow hf4) (fun k hk => hD3a k (Nat.le_trans hf4.size hk)) ho4.vw (by simp) (by simp [hdB_len])) rfl ?_
          rintro _ w5 ⟨hP5, hf5⟩
          rw [putX_z, List.nil_append] at hP5
          refine Sl.nil ?_
          exact At.cut ⟨(pkS b).length, pkS b, o3, c3⟩ ⟨rfl, rfl, trivial⟩ ⟨e, hP5, (ho3.vw.grow hf4).keep hf5 (fun a ha h => hD3c _ ⟨a, ha, rfl⟩ h), hD3c, by omega, Nat.le_trans hf4.size hf5.size, (hF3.trans hf4).trans_to hf5 (fun k h => .inr (hD3b k h))⟩
        ·
          have e : putS b = (hdB (b.length + 32768) ++ le (sumS b : Nat) 4 ++ b, 0) := by
            have h0 : ¬ b.length = 0 := by omega
            unfold putS frS; rw [if_neg (by omega), if_neg (by omega), if_neg (by omega), if_neg h0, List.append_assoc]
          refine Sl.nil ?_
          refine At.weak [(0, _), (2, _), (3, _), (4, _), (5, _), (9, _), (13, _), (24, _)] ⟨rfl, rfl, rfl, rfl, rfl, rfl, rfl, rfl, trivial⟩ ?_
          refine At.go ?_
          refine Sc.cond_f rfl ?_
          refine Sc.seq ?_
          refine Sc.region ?_
          refine Sl.calm (Cm.move rfl) rfl ?_
          refine Sl.calm (Cm.assign rfl) rfl ?_
          refine Sl.nil ?_
          refine At.weak [(0, _), (2, _), (3, _), (4, _), (5, _), (9, _), (13, _), (24, _)] ⟨rfl, rfl, rfl, rfl, rfl, rfl, rfl, rfl, trivial⟩ ?_
          refine At.go ?_
          refine Sc.region ?_
          refine Sl.calm (Cm.move rfl) rfl ?_
          refine Sl.calm (Cm.len sl23 rfl) rfl ?_
          refine Sl.calm (Cm.add64 rfl rfl (by omega)) rfl ?_
          rw [show (32768 + (b.length : Int)) = ((b.length + 32768 : Nat) : Int) by omega]
          refine Sl.call fn42 rfl (rhead_ok (b.length + 32768) w3 (by omega)) rfl ?_
          rintro _ w4 ⟨o4, c4, rfl, ho4, hfr4, hf4⟩
          refine Sl.call fn44 rfl (rbytes_ok D3 W.heap.size 0 [] o4 c4 (hdB (b.length + 32768)) w4 (hP3.grow hf4) (fun k hk => hD3a k (Nat.le_trans hf4.size hk)) ho4.vw (by simp) (by simp [hdB_len])) rfl ?_
          rintro _ w5 ⟨hP5, hf5⟩
          rw [putX_z, List.nil_append] at hP5
          refine Sl.nil ?_
          exact At.cut ⟨b.length + 32768, b, ao, c⟩ ⟨rfl, rfl, trivial⟩ ⟨e, hP5, hv.grow ((hF3.trans hf4).trans_to hf5 (fun k h => .inr (hD3b k h))), fun k hk h => by have := hltA k hk; have := hD3b k h; omega, by omega, Nat.le_trans hf4.size hf5.size, (hF3.trans hf4).trans_to hf5 (fun k h => .inr (hD3b k h))⟩
      ·
        rintro ⟨n, x, xo, xc⟩ w6 ⟨e, hP6, hvx, hxD, hxl, hz6, hF6⟩
        refine Sc.seq ?_
        refine Sc.region ?_
        refine Sl.calm (Cm.move rfl) rfl ?_
        have hs := sumS_lt x
        refine Sl.call fn46 rfl (rsum_ok xo xc x w6 hvx) rfl ?_
        rintro _ wq ⟨rfl, hwq⟩
        subst wq
        refine Sl.calm (Cm.convI_in (n := ((sumS x : Nat) : Int)) is26 ty3 rfl (wrap64_id (by omega))) rfl ?_
        refine Sl.call fn45 rfl (rnum_ok D3 W.heap.size 0 (hdB n) (sumS x : Nat) 4 w6 hP6 (fun k hk => hD3a k (Nat.le_trans hz6 hk)) (by rw [hdB_len]; decide)) rfl ?_
        rintro _ w7 ⟨hP7, hf7⟩
        obtain ⟨s1, s2⟩ := put_stage (E := 0) (hdB n) hs rfl
        rw [s1, s2] at hP7
        have hz7 := hf7.size
        have hvx7 := hvx.keep hf7 (fun a ha h => hxD _ ⟨a, ha, rfl⟩ h)
        refine Sl.nil ?_
        refine At.weak [(4, _), (5, _)] ⟨rfl, rfl, trivial⟩ ?_
        refine At.go ?_
        refine Sc.seq ?_
        refine Sc.region ?_
        refine Sl.calm (Cm.move rfl) rfl ?_
        refine Sl.call fn44 rfl (rbytes_ok D3 W.heap.size 0 _ xo xc x w7 hP7 (fun k hk => hD3a k (by omega)) hvx7 (by simp only [List.length_append, hdB_len, le_length]; omega) (by omega)) rfl ?_
        rintro _ w8 ⟨hP8, hf8⟩
        rw [putX_z] at hP8
        refine Sl.nil ?_
        refine At.weak [(4, _), (5, _)] ⟨rfl, rfl, trivial⟩ ?_
        refine At.go ?_
        refine Sc.seq ?_
        refine Sc.region ?_
        refine Sl.call fn47 rfl (rdone_ok D3 W.heap.size 0 _ w8 hP8 (by simp only [List.length_append, hdB_len, le_length]; omega)) rfl ?_
        rintro _ w9 ⟨o9, c9, rfl, ho9, hfr9, hf9⟩
        rw [doneX_z] at ho9 ⊢
        refine Sl.calm (Cm.assign rfl) rfl ?_
        refine Sl.calm (Cm.assign rfl) rfl ?_
        refine Sl.nil ?_
        refine At.weak [(2, _), (3, _), (4, _), (5, _)] ⟨rfl, rfl, rfl, rfl, trivial⟩ ?_
        refine At.go ?_
        refine Sc.ret ?_
        refine At.ret2 rfl rfl rfl ?_
        rw [e]
        first
          | exact ⟨_, rfl, none, 0, rfl, Own.nil, Fr.none, Foot.refl _ _⟩
          | exact ⟨_, rfl, o3, c3, rfl, ho3, hfr3.mono hz2, hF2.trans hf3⟩
          | (have hF8 : Foot nob W w8 := (hF6.trans_to hf7 (fun k h => .inr (hD3b k h))).trans_to hf8 (fun k h => .inr (hD3b k h))
             exact ⟨_, rfl, o9, c9, rfl, ho9, hfr9.mono hF8.size, hF8.trans hf9⟩)
def RcP (W : World) (im : List UInt8) (a : Int) : Value → World → Prop := fun v w' => ∃ o c x s st nx e, v = .tuple #[.slice o x.length c, .int .i64 ((s : Nat) : Int), .bool st, .int .i64 nx, .int .i64 e] ∧ Own b8 5 w'.heap o c x ∧ Fr W.heap.size o ∧ Foot nob W w' ∧
    (e ≠ 0 → e = 2 ∧ nx = 0 ∧ cutS im a = none) ∧ (e = 0 → cutS im a = some (x, s, st) ∧ nx = a + lenF x)
theorem rc_none {W w' : World} {im : List UInt8} {a : Int} (h : cutS im a = none) (hf : Foot nob W w') : RcP W im a (.tuple #[.slice none 0 0, .int .i64 0, .bool false, .int .i64 0, .int .i64 2]) w' :=
  ⟨none, 0, [], 0, false, 0, 2, rfl, Own.nil, Fr.none, hf, fun _ => ⟨rfl, rfl, h⟩, fun h => by cases h⟩

set_option maxHeartbeats 2000000 in
theorem rcut_ok (io : Option Addr) (ic : Nat) (im : List UInt8) (a : Int) (W : World) (hv : Vw b8 W.heap io ic im) (hb : im.length ≤ 1099511627776) (ha : a ≤ 9223372036854775807) :
    Calls Tryd.prog 50 [.slice io im.length ic, .int .i64 a].toArray W (Ret (RcP W im a)) := by
  have hle := hv.le
  refine calls_of_sc 77 [(0, _), (1, _)] Tryd.func50 rfl rfl rfl (enter_slots ⟨rfl, rfl, trivial⟩) ?_
  refine Sc.seq ?_
  refine Sc.region ?_
  refine Sl.calm (Cm.assign rfl) rfl ?_
  refine Sl.calm (Cm.assign rfl) rfl ?_
  refine Sl.calm (Cm.assign rfl) rfl ?_
  refine Sl.calm (Cm.assign rfl) rfl ?_
  refine Sl.calm (Cm.assign rfl) rfl ?_
  refine Sl.nil ?_
  refine At.go ?_
  refine Sc.seq ?_
  refine Sc.seq ?_
  refine Sc.region ?_
  refine Sl.calm (Cm.move rfl) rfl ?_
  refine Sl.fork (Cm.lss rfl rfl) rfl (fun h16 => ?_) (fun h16 => ?_)
  ·
    have hno : cutS im a = none := by unfold cutS; rw [if_pos (by omega)]
    have hf9 : Foot nob W W := Foot.refl _ _
    refine Sl.calm (Cm.move rfl) rfl ?_
    refine Sl.skip rfl rfl rfl rfl ?_
    refine Sl.skip rfl rfl rfl rfl ?_
    refine Sl.skip rfl rfl rfl rfl ?_
    refine Sl.skip rfl rfl rfl rfl ?_
    refine Sl.calm (Cm.pick_t rfl rfl) rfl ?_
    refine Sl.nil ?_
    refine At.weak [(0, _), (1, _), (4, _), (5, _), (6, _), (7, _), (8, _), (22, _)] ⟨rfl, rfl, rfl, rfl, rfl, rfl, rfl, rfl, trivial⟩ ?_
    refine At.go ?_
    refine Sc.cond_t rfl ?_
    refine Sc.seq ?_
    refine Sc.region ?_
    refine Sl.calm (Cm.assign rfl) rfl ?_
    refine Sl.calm (Cm.assign rfl) rfl ?_
    refine Sl.calm (Cm.assign rfl) rfl ?_
    refine Sl.calm (Cm.assign rfl) rfl ?_
    refine Sl.calm (Cm.assign rfl) rfl ?_
    refine Sl.nil ?_
    refine At.go ?_
    refine Sc.ret ?_
    refine At.then_ret ?_
    refine At.ret5 rfl rfl rfl rfl rfl rfl ?_
    first
      | exact ⟨_, rfl, rc_none hno hf9⟩
      | exact ⟨_, rfl, none, 0, [], 0, false, _, 0, rfl, Own.nil, Fr.none, hF4, fun h => absurd rfl h, fun _ => ⟨by rw [hcs, hcp], rfl⟩⟩
      | (refine ⟨_, rfl, x9, xc9, (r.drop 7).take m, valB ((r.drop 3).take 4), decide (32768 ≤ n), _, 0, ?_, ho9, fun b hb => by have := hfr9 b hb; omega, hF9, fun h => absurd rfl h, fun _ => ⟨by rw [hcs, hcp], rfl⟩⟩
         rw [show (q : Int) + lenF ((r.drop 7).take m) = (q : Int) + 7 + m by unfold lenF; rw [hxl, if_neg (by omega)]; omega, show decide ((32768 : Int) ≤ n) = decide (32768 ≤ n) by congr 1; simp; omega])
  ·
    refine Sl.calm (Cm.move rfl) rfl ?_
    refine Sl.want rfl rfl (Cm.move rfl) rfl ?_
    refine Sl.want rfl rfl (Cm.move rfl) rfl ?_
    refine Sl.want rfl rfl (Cm.len sl23 rfl) rfl ?_
    refine Sl.forkWant rfl rfl (Cm.gtr rfl rfl) rfl (fun h21 => ?_) (fun h21 => ?_)
    ·
      have hno : cutS im a = none := by unfold cutS; rw [if_pos (by omega)]
      have hf9 : Foot nob W W := Foot.refl _ _
      refine Sl.calm (Cm.pick_f rfl rfl) rfl ?_
      refine Sl.nil ?_
      refine At.weak [(0, _), (1, _), (4, _), (5, _), (6, _), (7, _), (8, _), (22, _)] ⟨rfl, rfl, rfl, rfl, rfl, rfl, rfl, rfl, trivial⟩ ?_
      refine At.go ?_
      refine Sc.cond_t rfl ?_
      refine Sc.seq ?_
      refine Sc.region ?_
      refine Sl.calm (Cm.assign rfl) rfl ?_
      refine Sl.calm (Cm.assign rfl) rfl ?_
      refine Sl.calm (Cm.assign rfl) rfl ?_
      refine Sl.calm (Cm.assign rfl) rfl ?_
      refine Sl.calm (Cm.assign rfl) rfl ?_
      refine Sl.nil ?_
      refine At.go ?_
      refine Sc.ret ?_
      refine At.then_ret ?_
      refine At.ret5 rfl rfl rfl rfl rfl rfl ?_
      first
        | exact ⟨_, rfl, rc_none hno hf9⟩
        | exact ⟨_, rfl, none, 0, [], 0, false, _, 0, rfl, Own.nil, Fr.none, hF4, fun h => absurd rfl h, fun _ => ⟨by rw [hcs, hcp], rfl⟩⟩
        | (refine ⟨_, rfl, x9, xc9, (r.drop 7).take m, valB ((r.drop 3).take 4), decide (32768 ≤ n), _, 0, ?_, ho9, fun b hb => by have := hfr9 b hb; omega, hF9, fun h => absurd rfl h, fun _ => ⟨by rw [hcs, hcp], rfl⟩⟩
           rw [show (q : Int) + lenF ((r.drop 7).take m) = (q : Int) + 7 + m by unfold lenF; rw [hxl, if_neg (by omega)]; omega, show decide ((32768 : Int) ≤ n) = decide (32768 ≤ n) by congr 1; simp; omega])
    ·
      obtain ⟨q, rfl⟩ : ∃ q : Nat, a = q := ⟨a.toNat, by omega⟩
      have hcs : cutS im (q : Int) = cutP (im.drop q) := by unfold cutS; rw [if_neg (by omega)]; rfl
      obtain ⟨r, hr⟩ : ∃ r, r = im.drop q := ⟨_, rfl⟩
      have hrl : r.length = im.length - q := by rw [hr, List.length_drop]
      have hvr : Vw b8 W.heap (cutAo io ic q 1) (ic - q) r := by have := hv.cut (l := q) (h := im.length) (m := ic) (by omega) (Nat.le_refl _) hle (Nat.le_refl _); rw [List.take_of_length_le (by simp)] at this; rw [hr]; exact this
      rw [← hr] at hcs
      refine Sl.calm (Cm.pick_f rfl rfl) rfl ?_
      refine Sl.nil ?_
      refine At.weak [(0, _), (1, _), (4, _), (5, _), (6, _), (7, _), (8, _), (22, _)] ⟨rfl, rfl, rfl, rfl, rfl, rfl, rfl, rfl, trivial⟩ ?_
      refine At.go ?_
      refine Sc.cond_f rfl ?_
      refine Sc.skip ?_
      refine At.go ?_
      refine Sc.seq ?_
      refine Sc.region ?_
      refine Sl.calm (Cm.move rfl) rfl ?_
      refine Sl.calm (Cm.move rfl) rfl ?_
      refine Sl.calm (Cm.ofEq (u := .slice (cutAo io ic q 1) r.length (ic - q)) (Cm.sliceL sl23 rfl rfl (by omega)) (by rw [hrl]; rfl)) rfl ?_
      refine Sl.calm (Cm.build (cs := #[.slice (cutAo io ic q 1) r.length (ic - q), .int .i64 0]) plc121 zc121 rfl (by kernel_rfl)) rfl ?_
      refine Sl.allocC zc121 rfl ?_
      intro w1 hg1 hs1 hf1
      refine Sl.storeAll (vs := [.slice (cutAo io ic q 1) r.length (ic - q), .int .i64 0]) agg121 rfl rfl (by simp [Value.oneCell']) hg1 rfl ?_
      intro w2 hg2 hs2 hf2
      obtain ⟨p, hp⟩ : ∃ p, p = W.heap.size := ⟨_, rfl⟩
      have hF2 : Foot nob W w2 := hf1.trans_to hf2 (fun k hk => .inr (by have h : k = W.heap.size := hk; omega))
      rw [← hp] at hg2 ⊢
      have hP2 : RdR (fun k => k = p ∨ blk (cutAo io ic q 1) k) w2.heap p 0 r := ⟨cutAo io ic q 1, ic - q, hg2, hvr.grow hF2, .inl rfl, fun h0 => ⟨fun h => by have := vw_lt hvr h0 _ h; omega, fun k hk => .inr hk⟩⟩
      have hz2 := hF2.size
      have hlp := hP2.lt
      refine Sl.nil ?_
      refine At.weak [(0, _), (1, _), (4, _), (5, _), (6, _), (7, _), (8, _), (9, _), (22, _)] ⟨rfl, rfl, rfl, rfl, rfl, rfl, rfl, rfl, rfl, trivial⟩ ?_
      refine At.go ?_
      refine Sc.seq ?_
      refine Sc.region ?_
      refine Sl.call fn68 rfl (rrbyt_ok p 0 r 3 w2 hP2 (by omega)) rfl ?_
      rintro _ w3 ⟨h3, hc3, rfl, ho3, hfr3, hP3, hf3⟩
      have hz3 := hf3.size
      have hF3 : Foot nob W w3 := hF2.trans_to hf3 (fun k hk => .inr (by have h : k = p := hk; omega))
      refine Sl.calm (Cm.assign rfl) rfl ?_
      refine Sl.nil ?_
      refine At.weak [(0, _), (1, _), (4, _), (5, _), (6, _), (7, _), (8, _), (9, _), (10, _), (22, _)] ⟨rfl, rfl, rfl, rfl, rfl, rfl, rfl, rfl, rfl, rfl, trivial⟩ ?_
      refine At.go ?_
      refine Sc.seq ?_
      refine Sc.seq ?_
      refine Sc.region ?_
      refine Sl.calm (Cm.field fld121_1 rfl) rfl ?_
      have hP3o := hP3
      obtain ⟨ra, rc, hobj3, hrv3, hrap3⟩ := hP3o
      refine Sl.calm (Cm.ld sca45 rfl (cellF hobj3 rfl)) rfl ?_
      refine Sl.fork (Cm.neq rfl rfl) rfl (fun h30 => ?_) (fun h30 => ?_)
      ·
        have hsh : r.length < 3 := Classical.byContradiction fun h => h30 (cutE_good (by omega) (by omega))
        have hno : cutS im (q : Int) = none := by rw [hcs]; unfold cutP; rw [if_pos hsh]
        have hf9 := hF3
        refine Sl.nil ?_
        refine At.weak [(0, _), (1, _), (4, _), (5, _), (6, _), (7, _), (8, _), (9, _), (10, _), (22, _), (30, _)] ⟨rfl, rfl, rfl, rfl, rfl, rfl, rfl, rfl, rfl, rfl, rfl, trivial⟩ ?_
        refine At.go ?_
        refine Sc.cond_t rfl ?_
        refine Sc.seq ?_
        refine Sc.region ?_
        refine Sl.calm (Cm.assign rfl) rfl ?_
        refine Sl.calm (Cm.assign rfl) rfl ?_
        refine Sl.calm (Cm.assign rfl) rfl ?_
        refine Sl.calm (Cm.assign rfl) rfl ?_
        refine Sl.calm (Cm.assign rfl) rfl ?_
        refine Sl.nil ?_
        refine At.go ?_
        refine Sc.ret ?_
        refine At.then_ret ?_
        refine At.ret5 rfl rfl rfl rfl rfl rfl ?_
        first
          | exact ⟨_, rfl, rc_none hno hf9⟩
          | exact ⟨_, rfl, none, 0, [], 0, false, _, 0, rfl, Own.nil, Fr.none, hF4, fun h => absurd rfl h, fun _ => ⟨by rw [hcs, hcp], rfl⟩⟩
          | (refine ⟨_, rfl, x9, xc9, (r.drop 7).take m, valB ((r.drop 3).take 4), decide (32768 ≤ n), _, 0, ?_, ho9, fun b hb => by have := hfr9 b hb; omega, hF9, fun h => absurd rfl h, fun _ => ⟨by rw [hcs, hcp], rfl⟩⟩
             rw [show (q : Int) + lenF ((r.drop 7).take m) = (q : Int) + 7 + m by unfold lenF; rw [hxl, if_neg (by omega)]; omega, show decide ((32768 : Int) ≤ n) = decide (32768 ≤ n) by congr 1; simp; omega])
      ·
        have hE3 : cutE 0 r 3 = 0 := Decidable.not_not.1 h30
        obtain ⟨z1, z2, z3⟩ := cutE_zero hE3
        have z3r : 3 ≤ r.length := by omega
        obtain ⟨cb, cr⟩ := cutB_good hE3
        rw [cb] at ho3
        rw [hE3, cr] at hP3
        have hl3 : (r.take (Int.toNat 3)).length = 3 := by rw [List.length_take]; omega
        rw [cb]
        obtain ⟨B, hB⟩ : ∃ B, B = r.take (Int.toNat 3) := ⟨_, rfl⟩
        rw [← hB] at ho3 hl3 ⊢
        have hg0 : B.getD 0 0 = r.getD 0 0 := by rw [hB, List.getD, List.getD, List.getElem?_take]; rfl
        have hg1b : B.getD 1 0 = r.getD 1 0 := by rw [hB, List.getD, List.getD, List.getElem?_take]; rfl
        obtain ⟨b0, hb0⟩ : ∃ x, x = (r.getD 0 0).toNat := ⟨_, rfl⟩
        obtain ⟨b1, hb1⟩ : ∃ x, x = (r.getD 1 0).toNat := ⟨_, rfl⟩
        have hb0l : b0 < 256 := by have := (r.getD 0 0).toNat_lt; omega
        have hb1l : b1 < 256 := by have := (r.getD 1 0).toNat_lt; omega
        have hcp : cutP r = _ := rfl
        conv at hcp => rhs; unfold cutP
        rw [← hb0, ← hb1, if_neg (show ¬ r.length < 3 by omega), show r.take 3 = B from hB.symm] at hcp
        obtain ⟨n, hn⟩ : ∃ n, n = b0 + 256 * b1 := ⟨_, rfl⟩
        rw [← hn] at hcp
        have hnl : n < 65536 := by omega
        refine Sl.nil ?_
        refine At.weak [(0, _), (1, _), (4, _), (5, _), (6, _), (7, _), (8, _), (9, _), (10, _), (22, _), (30, _)] ⟨rfl, rfl, rfl, rfl, rfl, rfl, rfl, rfl, rfl, rfl, rfl, trivial⟩ ?_
        refine At.go ?_
        refine Sc.cond_f rfl ?_
        refine Sc.skip ?_
        refine At.go ?_
        refine Sc.seq ?_
        refine Sc.quiet 11 [0, 1, 2, 3, 4, 5, 6, 7, 8, 9, 10] mixed (by kernel_rfl) ?_
        refine Sx.calm rfl rfl (Cm.move rfl) rfl ?_
        refine Sx.calm rfl rfl (Cm.indexAddr1 sl23 rfl rfl ho3.vw.non (by omega)) rfl ?_
        refine Sx.calm rfl rfl (Cm.ld sca5 rfl (ho3.vw.gz 0 0 rfl (by omega))) rfl ?_
        refine Sx.calm rfl rfl (Cm.convI_in (n := (b0 : Int)) is5 ty3 rfl (by rw [hg0, ← hb0]; exact wrap64_id (by omega))) rfl ?_
        refine Sx.calm rfl rfl (Cm.move rfl) rfl ?_
        refine Sx.calm rfl rfl (Cm.indexAddr1 sl23 rfl rfl ho3.vw.non (by omega)) rfl ?_
        refine Sx.calm rfl rfl (Cm.ld sca5 rfl (ho3.vw.gz 0 1 rfl (by omega))) rfl ?_
        refine Sx.calm rfl rfl (Cm.convI_in (n := (b1 : Int)) is5 ty3 rfl (by rw [hg1b, ← hb1]; exact wrap64_id (by omega))) rfl ?_
        refine Sx.calm rfl rfl (Cm.mul64 rfl rfl (by omega)) rfl ?_
        refine Sx.calm rfl rfl (Cm.ofEq (u := .int .i64 ((n : Nat) : Int)) (Cm.add64 rfl rfl (by omega)) (by congr 1; omega)) rfl ?_
        refine Sx.calm rfl rfl (Cm.assign rfl) rfl ?_
        refine Sx.nil ?_
        refine At.weak [(0, _), (1, _), (4, _), (5, _), (6, _), (7, _), (8, _), (9, _), (10, _), (11, _), (22, _), (30, _)] ⟨rfl, rfl, rfl, rfl, rfl, rfl, rfl, rfl, rfl, rfl, rfl, rfl, trivial⟩ ?_
        refine At.go ?_
        refine Sc.seq ?_
        refine Sc.seq ?_
        refine Sc.draw 6 (fun H => Own b8 5 H h3 hc3 B) [1, 2] [0, 3, 4, 1, 2, 5] mixed (by kernel_rfl) (ho3) ?_
        refine Sx.calm rfl rfl (Cm.move rfl) rfl ?_
        refine Sx.calm rfl rfl (Cm.move rfl) rfl ?_
        refine Sx.calm rfl rfl (Cm.str sl23 ty5 ty9 rfl (fun H hH => hH.vw)) rfl ?_
        refine Sx.eff rfl rfl (Sl.call fn42 rfl (rhead_ok n _ hnl) rfl ?_)
        rintro _ w4 ⟨o4, c4, rfl, ho4, hfr4, hf4⟩
        have hf4 := hf4.undraw.undraw
        refine Sx.on (by exact ho3.grow hf4) ?_
        refine Sx.eff rfl rfl (Sl.calm (Cm.strIn sl23 ty5 ty9 rfl ho4.vw) rfl ?_)
        refine Sx.on (by exact ho3.grow hf4) ?_
        refine Sx.fork rfl rfl (Cm.neqBs rfl rfl) rfl (fun h46 => ?_) (fun h46 => ?_)
        ·
          have hno : cutS im (q : Int) = none := by rw [hcs, hcp, if_pos (fun h => h46 h.symm)]
          have hf9 := (hF3.trans hf4).draws 0
          refine Sx.nil ?_
          refine At.weak [(0, _), (1, _), (4, _), (5, _), (6, _), (7, _), (8, _), (9, _), (10, _), (11, _), (22, _), (30, _), (46, _)] ⟨rfl, rfl, rfl, rfl, rfl, rfl, rfl, rfl, rfl, rfl, rfl, rfl, rfl, trivial⟩ ?_
          refine At.go ?_
          refine Sc.cond_t rfl ?_
          refine Sc.seq ?_
          refine Sc.region ?_
          refine Sl.calm (Cm.assign rfl) rfl ?_
          refine Sl.calm (Cm.assign rfl) rfl ?_
          refine Sl.calm (Cm.assign rfl) rfl ?_
          refine Sl.calm (Cm.assign rfl) rfl ?_
          refine Sl.calm (Cm.assign rfl) rfl ?_
          refine Sl.nil ?_
          refine At.go ?_
          refine Sc.ret ?_
          refine At.then_ret ?_
          refine At.ret5 rfl rfl rfl rfl rfl rfl ?_
          first
            | exact ⟨_, rfl, rc_none hno hf9⟩
            | exact ⟨_, rfl, none, 0, [], 0, false, _, 0, rfl, Own.nil, Fr.none, hF4, fun h => absurd rfl h, fun _ => ⟨by rw [hcs, hcp], rfl⟩⟩
            | (refine ⟨_, rfl, x9, xc9, (r.drop 7).take m, valB ((r.drop 3).take 4), decide (32768 ≤ n), _, 0, ?_, ho9, fun b hb => by have := hfr9 b hb; omega, hF9, fun h => absurd rfl h, fun _ => ⟨by rw [hcs, hcp], rfl⟩⟩
               rw [show (q : Int) + lenF ((r.drop 7).take m) = (q : Int) + 7 + m by unfold lenF; rw [hxl, if_neg (by omega)]; omega, show decide ((32768 : Int) ≤ n) = decide (32768 ≤ n) by congr 1; simp; omega])
        ·
          have heq : B = hdB n := (Decidable.not_not.1 h46).symm
          rw [if_neg (fun h => h heq)] at hcp
          have hF4 := hF3.trans hf4
          have hP4 := hP3.grow hf4
          have hz4 := hf4.size
          obtain ⟨m, hm⟩ : ∃ m, m = n % 32768 := ⟨_, rfl⟩
          rw [← hm] at hcp
          refine Sx.nil ?_
          refine At.weak [(0, _), (1, _), (4, _), (5, _), (6, _), (7, _), (8, _), (9, _), (10, _), (11, _), (22, _), (30, _), (46, _)] ⟨rfl, rfl, rfl, rfl, rfl, rfl, rfl, rfl, rfl, rfl, rfl, rfl, rfl, trivial⟩ ?_
          refine At.go ?_
          refine Sc.cond_f rfl ?_
          refine Sc.skip ?_
          refine At.go ?_
          refine Sc.seq ?_
          refine Sc.region ?_
          refine Sl.calm (Cm.move rfl) rfl ?_
          refine Sl.calm (Cm.geq rfl rfl) rfl ?_
          refine Sl.calm (Cm.assign rfl) rfl ?_
          refine Sl.nil ?_
          refine At.weak [(0, _), (1, _), (4, _), (5, _), (6, _), (7, _), (8, _), (9, _), (10, _), (11, _), (12, _), (22, _), (30, _), (46, _)] ⟨rfl, rfl, rfl, rfl, rfl, rfl, rfl, rfl, rfl, rfl, rfl, rfl, rfl, rfl, trivial⟩ ?_
          refine At.go ?_
          refine Sc.seq ?_
          refine Sc.region ?_
          refine Sl.calm (Cm.move rfl) rfl ?_
          refine Sl.calm (Cm.ofEq (u := .int .i64 (m : Nat)) (Cm.rem64 rfl rfl (by omega) (by decide)) (by rw [hm]; rfl)) rfl ?_
          refine Sl.calm (Cm.assign rfl) rfl ?_
          refine Sl.nil ?_
          refine At.weak [(0, _), (1, _), (4, _), (5, _), (6, _), (7, _), (8, _), (9, _), (10, _), (11, _), (12, _), (22, _), (30, _), (46, _)] ⟨rfl, rfl, rfl, rfl, rfl, rfl, rfl, rfl, rfl, rfl, rfl, rfl, rfl, rfl, trivial⟩ ?_
          refine At.go ?_
          refine Sc.seq ?_
          refine Sc.seq ?_
          refine Sc.region ?_
          refine Sl.calm (Cm.move rfl) rfl ?_
          refine Sl.fork (Cm.gtr rfl rfl) rfl (fun h52 => ?_) (fun h52 => ?_)
          ·
            have hno : cutS im (q : Int) = none := by rw [hcs, hcp, if_pos (by omega)]
            have hf9 := hF4
            refine Sl.calm (Cm.move rfl) rfl ?_
            refine Sl.skip rfl rfl rfl rfl ?_
            refine Sl.skip rfl rfl rfl rfl ?_
            refine Sl.skip rfl rfl rfl rfl ?_
            refine Sl.skip rfl rfl rfl rfl ?_
            refine Sl.skip rfl rfl rfl rfl ?_
            refine Sl.calm (Cm.pick_t rfl rfl) rfl ?_
            refine Sl.nil ?_
            refine At.weak [(0, _), (1, _), (4, _), (5, _), (6, _), (7, _), (8, _), (9, _), (10, _), (11, _), (12, _), (22, _), (30, _), (46, _), (59, _)] ⟨rfl, rfl, rfl, rfl, rfl, rfl, rfl, rfl, rfl, rfl, rfl, rfl, rfl, rfl, rfl, trivial⟩ ?_
            refine At.go ?_
            refine Sc.cond_t rfl ?_
            refine Sc.seq ?_
            refine Sc.region ?_
            refine Sl.calm (Cm.assign rfl) rfl ?_
            refine Sl.calm (Cm.assign rfl) rfl ?_
            refine Sl.calm (Cm.assign rfl) rfl ?_
            refine Sl.calm (Cm.assign rfl) rfl ?_
            refine Sl.calm (Cm.assign rfl) rfl ?_
            refine Sl.nil ?_
            refine At.go ?_
            refine Sc.ret ?_
            refine At.then_ret ?_
            refine At.ret5 rfl rfl rfl rfl rfl rfl ?_
            first
              | exact ⟨_, rfl, rc_none hno hf9⟩
              | exact ⟨_, rfl, none, 0, [], 0, false, _, 0, rfl, Own.nil, Fr.none, hF4, fun h => absurd rfl h, fun _ => ⟨by rw [hcs, hcp], rfl⟩⟩
              | (refine ⟨_, rfl, x9, xc9, (r.drop 7).take m, valB ((r.drop 3).take 4), decide (32768 ≤ n), _, 0, ?_, ho9, fun b hb => by have := hfr9 b hb; omega, hF9, fun h => absurd rfl h, fun _ => ⟨by rw [hcs, hcp], rfl⟩⟩
                 rw [show (q : Int) + lenF ((r.drop 7).take m) = (q : Int) + 7 + m by unfold lenF; rw [hxl, if_neg (by omega)]; omega, show decide ((32768 : Int) ≤ n) = decide (32768 ≤ n) by congr 1; simp; omega])
          ·
            refine Sl.calm (Cm.move rfl) rfl ?_
            refine Sl.want rfl rfl (Cm.move rfl) rfl ?_
            refine Sl.forkWant rfl rfl (Cm.eql rfl rfl) rfl (fun h55 => ?_) (fun h55 => ?_)
            ·
              refine Sl.want rfl rfl (Cm.move rfl) rfl ?_
              refine Sl.forkWant rfl rfl (Cm.ofBool (Cm.move rfl)) rfl (fun h57 => ?_) (fun h57 => ?_)
              ·
                have h57 := of_decide_eq_true h57
                have hno : cutS im (q : Int) = none := by rw [hcs, hcp, if_pos (by omega)]
                have hf9 := hF4
                refine Sl.want rfl rfl (Cm.pick_t rfl rfl) rfl ?_
                refine Sl.calm (Cm.pick_f rfl rfl) rfl ?_
                refine Sl.nil ?_
                refine At.weak [(0, _), (1, _), (4, _), (5, _), (6, _), (7, _), (8, _), (9, _), (10, _), (11, _), (12, _), (22, _), (30, _), (46, _), (59, _)] ⟨rfl, rfl, rfl, rfl, rfl, rfl, rfl, rfl, rfl, rfl, rfl, rfl, rfl, rfl, rfl, trivial⟩ ?_
                refine At.go ?_
                refine Sc.cond_t rfl ?_
                refine Sc.seq ?_
                refine Sc.region ?_
                refine Sl.calm (Cm.assign rfl) rfl ?_
                refine Sl.calm (Cm.assign rfl) rfl ?_
                refine Sl.calm (Cm.assign rfl) rfl ?_
                refine Sl.calm (Cm.assign rfl) rfl ?_
                refine Sl.calm (Cm.assign rfl) rfl ?_
                refine Sl.nil ?_
                refine At.go ?_
                refine Sc.ret ?_
                refine At.then_ret ?_
                refine At.ret5 rfl rfl rfl rfl rfl rfl ?_
                first
                  | exact ⟨_, rfl, rc_none hno hf9⟩
                  | exact ⟨_, rfl, none, 0, [], 0, false, _, 0, rfl, Own.nil, Fr.none, hF4, fun h => absurd rfl h, fun _ => ⟨by rw [hcs, hcp], rfl⟩⟩
                  | (refine ⟨_, rfl, x9, xc9, (r.drop 7).take m, valB ((r.drop 3).take 4), decide (32768 ≤ n), _, 0, ?_, ho9, fun b hb => by have := hfr9 b hb; omega, hF9, fun h => absurd rfl h, fun _ => ⟨by rw [hcs, hcp], rfl⟩⟩
                     rw [show (q : Int) + lenF ((r.drop 7).take m) = (q : Int) + 7 + m by unfold lenF; rw [hxl, if_neg (by omega)]; omega, show decide ((32768 : Int) ≤ n) = decide (32768 ≤ n) by congr 1; simp; omega])
              ·
                have h57 : ¬ (32768 : Int) ≤ n := fun h => h57 (decide_eq_true h)
                refine Sl.want rfl rfl (Cm.pick_t rfl rfl) rfl ?_
                refine Sl.calm (Cm.pick_f rfl rfl) rfl ?_
                refine Sl.nil ?_
                refine At.weak [(0, _), (1, _), (4, _), (5, _), (6, _), (7, _), (8, _), (9, _), (10, _), (11, _), (12, _), (22, _), (30, _), (46, _), (59, _)] ⟨rfl, rfl, rfl, rfl, rfl, rfl, rfl, rfl, rfl, rfl, rfl, rfl, rfl, rfl, rfl, trivial⟩ ?_
                refine At.go ?_
                refine Sc.cond_f rfl ?_
                refine Sc.skip ?_
                refine At.go ?_
                refine Sc.seq ?_
                refine Sc.seq ?_
                refine Sc.region ?_
                refine Sl.calm (Cm.move rfl) rfl ?_
                refine Sl.fork (Cm.eql rfl rfl) rfl (fun h61 => ?_) (fun h61 => ?_)
                ·
                  rw [if_neg (by omega), if_pos (by omega)] at hcp
                  refine Sl.nil ?_
                  refine At.weak [(0, _), (1, _), (4, _), (5, _), (6, _), (7, _), (8, _), (9, _), (10, _), (11, _), (12, _), (22, _), (30, _), (46, _), (59, _), (61, _)] ⟨rfl, rfl, rfl, rfl, rfl, rfl, rfl, rfl, rfl, rfl, rfl, rfl, rfl, rfl, rfl, rfl, trivial⟩ ?_
                  refine At.go ?_
                  refine Sc.cond_t rfl ?_
                  refine Sc.seq ?_
                  refine Sc.region ?_
                  refine Sl.calm (Cm.move rfl) rfl ?_
                  refine Sl.calm (Cm.add64 rfl rfl (by omega)) rfl ?_
                  refine Sl.calm (Cm.assign rfl) rfl ?_
                  refine Sl.calm (Cm.assign rfl) rfl ?_
                  refine Sl.calm (Cm.assign rfl) rfl ?_
                  refine Sl.calm (Cm.assign rfl) rfl ?_
                  refine Sl.calm (Cm.assign rfl) rfl ?_
                  refine Sl.nil ?_
                  refine At.weak [(0, _), (1, _), (4, _), (5, _), (6, _), (7, _), (8, _), (9, _), (10, _), (11, _), (12, _), (22, _), (30, _), (46, _), (59, _), (61, _)] ⟨rfl, rfl, rfl, rfl, rfl, rfl, rfl, rfl, rfl, rfl, rfl, rfl, rfl, rfl, rfl, rfl, trivial⟩ ?_
                  refine At.go ?_
                  refine Sc.ret ?_
                  refine At.then_ret ?_
                  refine At.ret5 rfl rfl rfl rfl rfl rfl ?_
                  first
                    | exact ⟨_, rfl, rc_none hno hf9⟩
                    | exact ⟨_, rfl, none, 0, [], 0, false, _, 0, rfl, Own.nil, Fr.none, hF4, fun h => absurd rfl h, fun _ => ⟨by rw [hcs, hcp], rfl⟩⟩
                    | (refine ⟨_, rfl, x9, xc9, (r.drop 7).take m, valB ((r.drop 3).take 4), decide (32768 ≤ n), _, 0, ?_, ho9, fun b hb => by have := hfr9 b hb; omega, hF9, fun h => absurd rfl h, fun _ => ⟨by rw [hcs, hcp], rfl⟩⟩
                       rw [show (q : Int) + lenF ((r.drop 7).take m) = (q : Int) + 7 + m by unfold lenF; rw [hxl, if_neg (by omega)]; omega, show decide ((32768 : Int) ≤ n) = decide (32768 ≤ n) by congr 1; simp; omega])
                ·
                  rw [if_neg (by omega), if_neg (by omega)] at hcp
                  obtain ⟨tc1, tc2⟩ := two_cut (r := r) (m := m) z3r
                  refine Sl.nil ?_
                  refine At.weak [(0, _), (1, _), (4, _), (5, _), (6, _), (7, _), (8, _), (9, _), (10, _), (11, _), (12, _), (22, _), (30, _), (46, _), (59, _), (61, _)] ⟨rfl, rfl, rfl, rfl, rfl, rfl, rfl, rfl, rfl, rfl, rfl, rfl, rfl, rfl, rfl, rfl, trivial⟩ ?_
                  refine At.go ?_
                  refine Sc.cond_f rfl ?_
                  refine Sc.skip ?_
                  refine At.go ?_
                  refine Sc.seq ?_
                  refine Sc.region ?_
                  refine Sl.call fn69 rfl (rrdnum_ok p 0 (r.drop 3) 4 w4 hP4 (by rw [List.length_drop]; omega)) rfl ?_
                  rintro _ w7 ⟨rfl, hP7, hf7⟩
                  rw [numE1_good (by decide) (by decide)] at hP7 ⊢
                  have hz7 := hf7.size
                  have hR7 := cutR_len 0 (r.drop 3) 4
                  rw [List.length_drop] at hR7
                  refine Sl.calm (Cm.assign rfl) rfl ?_
                  refine Sl.nil ?_
                  refine At.weak [(0, _), (1, _), (4, _), (5, _), (6, _), (7, _), (8, _), (9, _), (10, _), (11, _), (12, _), (13, _), (22, _), (30, _), (46, _), (59, _), (61, _)] ⟨rfl, rfl, rfl, rfl, rfl, rfl, rfl, rfl, rfl, rfl, rfl, rfl, rfl, rfl, rfl, rfl, rfl, trivial⟩ ?_
                  refine At.go ?_
                  refine Sc.seq ?_
                  refine Sc.region ?_
                  refine Sl.calm (Cm.move rfl) rfl ?_
                  refine Sl.call fn68 rfl (rrbyt_ok p _ _ m w7 hP7 (by omega)) rfl ?_
                  rintro _ w9 ⟨x9, xc9, rfl, ho9, hfr9, hP9, hf9a⟩
                  have hF9 : Foot nob W w9 := (hF4.trans_to hf7 (fun k hk => .inr (by have h : k = p := hk; omega))).trans_to hf9a (fun k hk => .inr (by have h : k = p := hk; omega))
                  refine Sl.calm (Cm.assign rfl) rfl ?_
                  refine Sl.nil ?_
                  refine At.weak [(0, _), (1, _), (4, _), (5, _), (6, _), (7, _), (8, _), (9, _), (10, _), (11, _), (12, _), (13, _), (14, _), (22, _), (30, _), (46, _), (59, _), (61, _)] ⟨rfl, rfl, rfl, rfl, rfl, rfl, rfl, rfl, rfl, rfl, rfl, rfl, rfl, rfl, rfl, rfl, rfl, rfl, trivial⟩ ?_
                  refine At.go ?_
                  refine Sc.seq ?_
                  refine Sc.seq ?_
                  refine Sc.region ?_
                  refine Sl.calm (Cm.field fld121_1 rfl) rfl ?_
                  have hP9o := hP9
                  obtain ⟨ra9, rc9, hobj9, hrv9, hrap9⟩ := hP9o
                  refine Sl.calm (Cm.ld sca45 rfl (cellF hobj9 rfl)) rfl ?_
                  refine Sl.fork (Cm.neq rfl rfl) rfl (fun h69 => ?_) (fun h69 => ?_)
                  ·
                    have hsh := tc1.1 h69
                    rw [if_pos hsh] at hcp
                    have hno : cutS im (q : Int) = none := by rw [hcs, hcp]
                    have hf9 := hF9
                    refine Sl.nil ?_
                    refine At.weak [(0, _), (1, _), (4, _), (5, _), (6, _), (7, _), (8, _), (9, _), (10, _), (11, _), (12, _), (13, _), (14, _), (22, _), (30, _), (46, _), (59, _), (61, _), (69, _)] ⟨rfl, rfl, rfl, rfl, rfl, rfl, rfl, rfl, rfl, rfl, rfl, rfl, rfl, rfl, rfl, rfl, rfl, rfl, rfl, trivial⟩ ?_
                    refine At.go ?_
                    refine Sc.cond_t rfl ?_
                    refine Sc.seq ?_
                    refine Sc.region ?_
                    refine Sl.calm (Cm.assign rfl) rfl ?_
                    refine Sl.calm (Cm.assign rfl) rfl ?_
                    refine Sl.calm (Cm.assign rfl) rfl ?_
                    refine Sl.calm (Cm.assign rfl) rfl ?_
                    refine Sl.calm (Cm.assign rfl) rfl ?_
                    refine Sl.nil ?_
                    refine At.go ?_
                    refine Sc.ret ?_
                    refine At.then_ret ?_
                    refine At.ret5 rfl rfl rfl rfl rfl rfl ?_
                    first
                      | exact ⟨_, rfl, rc_none hno hf9⟩
                      | exact ⟨_, rfl, none, 0, [], 0, false, _, 0, rfl, Own.nil, Fr.none, hF4, fun h => absurd rfl h, fun _ => ⟨by rw [hcs, hcp], rfl⟩⟩
                      | (refine ⟨_, rfl, x9, xc9, (r.drop 7).take m, valB ((r.drop 3).take 4), decide (32768 ≤ n), _, 0, ?_, ho9, fun b hb => by have := hfr9 b hb; omega, hF9, fun h => absurd rfl h, fun _ => ⟨by rw [hcs, hcp], rfl⟩⟩
                         rw [show (q : Int) + lenF ((r.drop 7).take m) = (q : Int) + 7 + m by unfold lenF; rw [hxl, if_neg (by omega)]; omega, show decide ((32768 : Int) ≤ n) = decide (32768 ≤ n) by congr 1; simp; omega])
                  ·
                    have hsh : ¬ r.length < 7 + m := fun h => h69 (tc1.2 h)
                    rw [if_neg hsh] at hcp
                    obtain ⟨c1, c2⟩ := tc2 hsh
                    rw [c2] at ho9
                    rw [c1, c2]
                    have hxl : ((r.drop 7).take m).length = m := by rw [List.length_take, List.length_drop]; omega
                    refine Sl.nil ?_
                    refine At.weak [(0, _), (1, _), (4, _), (5, _), (6, _), (7, _), (8, _), (9, _), (10, _), (11, _), (12, _), (13, _), (14, _), (22, _), (30, _), (46, _), (59, _), (61, _), (69, _)] ⟨rfl, rfl, rfl, rfl, rfl, rfl, rfl, rfl, rfl, rfl, rfl, rfl, rfl, rfl, rfl, rfl, rfl, rfl, rfl, trivial⟩ ?_
                    refine At.go ?_
                    refine Sc.cond_f rfl ?_
                    refine Sc.skip ?_
                    refine At.go ?_
                    refine Sc.seq ?_
                    refine Sc.region ?_
                    refine Sl.calm (Cm.move rfl) rfl ?_
                    refine Sl.calm (Cm.move rfl) rfl ?_
                    refine Sl.calm (Cm.move rfl) rfl ?_
                    refine Sl.calm (Cm.move rfl) rfl ?_
                    refine Sl.calm (Cm.add64 rfl rfl (by omega)) rfl ?_
                    refine Sl.calm (Cm.move rfl) rfl ?_
                    refine Sl.calm (Cm.add64 rfl rfl (by omega)) rfl ?_
                    refine Sl.calm (Cm.assign rfl) rfl ?_
                    refine Sl.calm (Cm.assign rfl) rfl ?_
                    refine Sl.calm (Cm.assign rfl) rfl ?_
                    refine Sl.calm (Cm.assign rfl) rfl ?_
                    refine Sl.calm (Cm.assign rfl) rfl ?_
                    refine Sl.nil ?_
                    refine At.weak [(0, _), (1, _), (4, _), (5, _), (6, _), (7, _), (8, _), (9, _), (10, _), (11, _), (12, _), (13, _), (14, _), (22, _), (30, _), (46, _), (59, _), (61, _), (69, _)] ⟨rfl, rfl, rfl, rfl, rfl, rfl, rfl, rfl, rfl, rfl, rfl, rfl, rfl, rfl, rfl, rfl, rfl, rfl, rfl, trivial⟩ ?_
                    refine At.go ?_
                    refine Sc.ret ?_
                    refine At.ret5 rfl rfl rfl rfl rfl rfl ?_
                    first
                      | exact ⟨_, rfl, rc_none hno hf9⟩
                      | exact ⟨_, rfl, none, 0, [], 0, false, _, 0, rfl, Own.nil, Fr.none, hF4, fun h => absurd rfl h, fun _ => ⟨by rw [hcs, hcp], rfl⟩⟩
                      | (refine ⟨_, rfl, x9, xc9, (r.drop 7).take m, valB ((r.drop 3).take 4), decide (32768 ≤ n), _, 0, ?_, ho9, fun b hb => by have := hfr9 b hb; omega, hF9, fun h => absurd rfl h, fun _ => ⟨by rw [hcs, hcp], rfl⟩⟩
                         rw [show (q : Int) + lenF ((r.drop 7).take m) = (q : Int) + 7 + m by unfold lenF; rw [hxl, if_neg (by omega)]; omega, show decide ((32768 : Int) ≤ n) = decide (32768 ≤ n) by congr 1; simp; omega])
            ·
              refine Sl.want rfl rfl (Cm.move rfl) rfl ?_
              refine Sl.skip rfl rfl rfl rfl ?_
              refine Sl.want rfl rfl (Cm.pick_f rfl rfl) rfl ?_
              refine Sl.calm (Cm.pick_f rfl rfl) rfl ?_
              refine Sl.nil ?_
              refine At.weak [(0, _), (1, _), (4, _), (5, _), (6, _), (7, _), (8, _), (9, _), (10, _), (11, _), (12, _), (22, _), (30, _), (46, _), (59, _)] ⟨rfl, rfl, rfl, rfl, rfl, rfl, rfl, rfl, rfl, rfl, rfl, rfl, rfl, rfl, rfl, trivial⟩ ?_
              refine At.go ?_
              refine Sc.cond_f rfl ?_
              refine Sc.skip ?_
              refine At.go ?_
              refine Sc.seq ?_
              refine Sc.seq ?_
              refine Sc.region ?_
              refine Sl.calm (Cm.move rfl) rfl ?_
              refine Sl.fork (Cm.eql rfl rfl) rfl (fun h61 => ?_) (fun h61 => ?_)
              ·
                rw [if_neg (by omega), if_pos (by omega)] at hcp
                refine Sl.nil ?_
                refine At.weak [(0, _), (1, _), (4, _), (5, _), (6, _), (7, _), (8, _), (9, _), (10, _), (11, _), (12, _), (22, _), (30, _), (46, _), (59, _), (61, _)] ⟨rfl, rfl, rfl, rfl, rfl, rfl, rfl, rfl, rfl, rfl, rfl, rfl, rfl, rfl, rfl, rfl, trivial⟩ ?_
                refine At.go ?_
                refine Sc.cond_t rfl ?_
                refine Sc.seq ?_
                refine Sc.region ?_
                refine Sl.calm (Cm.move rfl) rfl ?_
                refine Sl.calm (Cm.add64 rfl rfl (by omega)) rfl ?_
                refine Sl.calm (Cm.assign rfl) rfl ?_
                refine Sl.calm (Cm.assign rfl) rfl ?_
                refine Sl.calm (Cm.assign rfl) rfl ?_
                refine Sl.calm (Cm.assign rfl) rfl ?_
                refine Sl.calm (Cm.assign rfl) rfl ?_
                refine Sl.nil ?_
                refine At.weak [(0, _), (1, _), (4, _), (5, _), (6, _), (7, _), (8, _), (9, _), (10, _), (11, _), (12, _), (22, _), (30, _), (46, _), (59, _), (61, _)] ⟨rfl, rfl, rfl, rfl, rfl, rfl, rfl, rfl, rfl, rfl, rfl, rfl, rfl, rfl, rfl, rfl, trivial⟩ ?_
                refine At.go ?_
                refine Sc.ret ?_
                refine At.then_ret ?_
                refine At.ret5 rfl rfl rfl rfl rfl rfl ?_
                first
                  | exact ⟨_, rfl, rc_none hno hf9⟩
                  | exact ⟨_, rfl, none, 0, [], 0, false, _, 0, rfl, Own.nil, Fr.none, hF4, fun h => absurd rfl h, fun _ => ⟨by rw [hcs, hcp], rfl⟩⟩
                  | (refine ⟨_, rfl, x9, xc9, (r.drop 7).take m, valB ((r.drop 3).take 4), decide (32768 ≤ n), _, 0, ?_, ho9, fun b hb => by have := hfr9 b hb; omega, hF9, fun h => absurd rfl h, fun _ => ⟨by rw [hcs, hcp], rfl⟩⟩
                     rw [show (q : Int) + lenF ((r.drop 7).take m) = (q : Int) + 7 + m by unfold lenF; rw [hxl, if_neg (by omega)]; omega, show decide ((32768 : Int) ≤ n) = decide (32768 ≤ n) by congr 1; simp; omega])
              ·
                rw [if_neg (by omega), if_neg (by omega)] at hcp
                obtain ⟨tc1, tc2⟩ := two_cut (r := r) (m := m) z3r
                refine Sl.nil ?_
                refine At.weak [(0, _), (1, _), (4, _), (5, _), (6, _), (7, _), (8, _), (9, _), (10, _), (11, _), (12, _), (22, _), (30, _), (46, _), (59, _), (61, _)] ⟨rfl, rfl, rfl, rfl, rfl, rfl, rfl, rfl, rfl, rfl, rfl, rfl, rfl, rfl, rfl, rfl, trivial⟩ ?_
                refine At.go ?_
                refine Sc.cond_f rfl ?_
                refine Sc.skip ?_
                refine At.go ?_
                refine Sc.seq ?_
                refine Sc.region ?_
                refine Sl.call fn69 rfl (rrdnum_ok p 0 (r.drop 3) 4 w4 hP4 (by rw [List.length_drop]; omega)) rfl ?_
                rintro _ w7 ⟨rfl, hP7, hf7⟩
                rw [numE1_good (by decide) (by decide)] at hP7 ⊢
                have hz7 := hf7.size
                have hR7 := cutR_len 0 (r.drop 3) 4
                rw [List.length_drop] at hR7
                refine Sl.calm (Cm.assign rfl) rfl ?_
                refine Sl.nil ?_
                refine At.weak [(0, _), (1, _), (4, _), (5, _), (6, _), (7, _), (8, _), (9, _), (10, _), (11, _), (12, _), (13, _), (22, _), (30, _), (46, _), (59, _), (61, _)] ⟨rfl, rfl, rfl, rfl, rfl, rfl, rfl, rfl, rfl, rfl, rfl, rfl, rfl, rfl, rfl, rfl, rfl, trivial⟩ ?_
                refine At.go ?_
                refine Sc.seq ?_
                refine Sc.region ?_
                refine Sl.calm (Cm.move rfl) rfl ?_
                refine Sl.call fn68 rfl (rrbyt_ok p _ _ m w7 hP7 (by omega)) rfl ?_
                rintro _ w9 ⟨x9, xc9, rfl, ho9, hfr9, hP9, hf9a⟩
                have hF9 : Foot nob W w9 := (hF4.trans_to hf7 (fun k hk => .inr (by have h : k = p := hk; omega))).trans_to hf9a (fun k hk => .inr (by have h : k = p := hk; omega))
                refine Sl.calm (Cm.assign rfl) rfl ?_
                refine Sl.nil ?_
                refine At.weak [(0, _), (1, _), (4, _), (5, _), (6, _), (7, _), (8, _), (9, _), (10, _), (11, _), (12, _), (13, _), (14, _), (22, _), (30, _), (46, _), (59, _), (61, _)] ⟨rfl, rfl, rfl, rfl, rfl, rfl, rfl, rfl, rfl, rfl, rfl, rfl, rfl, rfl, rfl, rfl, rfl, rfl, trivial⟩ ?_
                refine At.go ?_
                refine Sc.seq ?_
                refine Sc.seq ?_
                refine Sc.region ?_
                refine Sl.calm (Cm.field fld121_1 rfl) rfl ?_
                have hP9o := hP9
                obtain ⟨ra9, rc9, hobj9, hrv9, hrap9⟩ := hP9o
                refine Sl.calm (Cm.ld sca45 rfl (cellF hobj9 rfl)) rfl ?_
                refine Sl.fork (Cm.neq rfl rfl) rfl (fun h69 => ?_) (fun h69 => ?_)
                ·
                  have hsh := tc1.1 h69
                  rw [if_pos hsh] at hcp
                  have hno : cutS im (q : Int) = none := by rw [hcs, hcp]
                  have hf9 := hF9
                  refine Sl.nil ?_
                  refine At.weak [(0, _), (1, _), (4, _), (5, _), (6, _), (7, _), (8, _), (9, _), (10, _), (11, _), (12, _), (13, _), (14, _), (22, _), (30, _), (46, _), (59, _), (61, _), (69, _)] ⟨rfl, rfl, rfl, rfl, rfl, rfl, rfl, rfl, rfl, rfl, rfl, rfl, rfl, rfl, rfl, rfl, rfl, rfl, rfl, trivial⟩ ?_
                  refine At.go ?_
                  refine Sc.cond_t rfl ?_
                  refine Sc.seq ?_
                  refine Sc.region ?_
                  refine Sl.calm (Cm.assign rfl) rfl ?_
                  refine Sl.calm (Cm.assign rfl) rfl ?_
                  refine Sl.calm (Cm.assign rfl) rfl ?_
                  refine Sl.calm (Cm.assign rfl) rfl ?_
                  refine Sl.calm (Cm.assign rfl) rfl ?_
                  refine Sl.nil ?_
                  refine At.go ?_
                  refine Sc.ret ?_
                  refine At.then_ret ?_
                  refine At.ret5 rfl rfl rfl rfl rfl rfl ?_
                  first
                    | exact ⟨_, rfl, rc_none hno hf9⟩
                    | exact ⟨_, rfl, none, 0, [], 0, false, _, 0, rfl, Own.nil, Fr.none, hF4, fun h => absurd rfl h, fun _ => ⟨by rw [hcs, hcp], rfl⟩⟩
                    | (refine ⟨_, rfl, x9, xc9, (r.drop 7).take m, valB ((r.drop 3).take 4), decide (32768 ≤ n), _, 0, ?_, ho9, fun b hb => by have := hfr9 b hb; omega, hF9, fun h => absurd rfl h, fun _ => ⟨by rw [hcs, hcp], rfl⟩⟩
                       rw [show (q : Int) + lenF ((r.drop 7).take m) = (q : Int) + 7 + m by unfold lenF; rw [hxl, if_neg (by omega)]; omega, show decide ((32768 : Int) ≤ n) = decide (32768 ≤ n) by congr 1; simp; omega])
                ·
                  have hsh : ¬ r.length < 7 + m := fun h => h69 (tc1.2 h)
                  rw [if_neg hsh] at hcp
                  obtain ⟨c1, c2⟩ := tc2 hsh
                  rw [c2] at ho9
                  rw [c1, c2]
                  have hxl : ((r.drop 7).take m).length = m := by rw [List.length_take, List.length_drop]; omega
                  refine Sl.nil ?_
                  refine At.weak [(0, _), (1, _), (4, _), (5, _), (6, _), (7, _), (8, _), (9, _), (10, _), (11, _), (12, _), (13, _), (14, _), (22, _), (30, _), (46, _), (59, _), (61, _), (69, _)] ⟨rfl, rfl, rfl, rfl, rfl, rfl, rfl, rfl, rfl, rfl, rfl, rfl, rfl, rfl, rfl, rfl, rfl, rfl, rfl, trivial⟩ ?_
                  refine At.go ?_
                  refine Sc.cond_f rfl ?_
                  refine Sc.skip ?_
                  refine At.go ?_
                  refine Sc.seq ?_
                  refine Sc.region ?_
                  refine Sl.calm (Cm.move rfl) rfl ?_
                  refine Sl.calm (Cm.move rfl) rfl ?_
                  refine Sl.calm (Cm.move rfl) rfl ?_
                  refine Sl.calm (Cm.move rfl) rfl ?_
                  refine Sl.calm (Cm.add64 rfl rfl (by omega)) rfl ?_
                  refine Sl.calm (Cm.move rfl) rfl ?_
                  refine Sl.calm (Cm.add64 rfl rfl (by omega)) rfl ?_
                  refine Sl.calm (Cm.assign rfl) rfl ?_
                  refine Sl.calm (Cm.assign rfl) rfl ?_
                  refine Sl.calm (Cm.assign rfl) rfl ?_
                  refine Sl.calm (Cm.assign rfl) rfl ?_
                  refine Sl.calm (Cm.assign rfl) rfl ?_
                  refine Sl.nil ?_
                  refine At.weak [(0, _), (1, _), (4, _), (5, _), (6, _), (7, _), (8, _), (9, _), (10, _), (11, _), (12, _), (13, _), (14, _), (22, _), (30, _), (46, _), (59, _), (61, _), (69, _)] ⟨rfl, rfl, rfl, rfl, rfl, rfl, rfl, rfl, rfl, rfl, rfl, rfl, rfl, rfl, rfl, rfl, rfl, rfl, rfl, trivial⟩ ?_
                  refine At.go ?_
                  refine Sc.ret ?_
                  refine At.ret5 rfl rfl rfl rfl rfl rfl ?_
                  first
                    | exact ⟨_, rfl, rc_none hno hf9⟩
                    | exact ⟨_, rfl, none, 0, [], 0, false, _, 0, rfl, Own.nil, Fr.none, hF4, fun h => absurd rfl h, fun _ => ⟨by rw [hcs, hcp], rfl⟩⟩
                    | (refine ⟨_, rfl, x9, xc9, (r.drop 7).take m, valB ((r.drop 3).take 4), decide (32768 ≤ n), _, 0, ?_, ho9, fun b hb => by have := hfr9 b hb; omega, hF9, fun h => absurd rfl h, fun _ => ⟨by rw [hcs, hcp], rfl⟩⟩
                       rw [show (q : Int) + lenF ((r.drop 7).take m) = (q : Int) + 7 + m by unfold lenF; rw [hxl, if_neg (by omega)]; omega, show decide ((32768 : Int) ≤ n) = decide (32768 ≤ n) by congr 1; simp; omega])
end Go.Proofs.YtpnfjfbfgaiolaaDoor
