/- data: Read, the reference's. No condition beyond the bounds that each states. -/
import Derived.Test.YtpnfjfbfgaiolaaDoorDaRk
namespace Go.Proofs.YtpnfjfbfgaiolaaDoor
open Go Go.RowKit
set_option linter.unusedVariables false

theorem take_one {Y : List UInt8} {k : Nat} (h : k < Y.length) : Y.take (k + 1) = Y.take k ++ [Y.getD k 0] := by
  rw [List.take_succ_eq_append_getElem h, List.getD, List.getElem?_eq_getElem h]; rfl
theorem drop_getD (B : List UInt8) (d k : Nat) : (B.drop d).getD k 0 = B.getD (d + k) 0 := by simp [List.getD, List.getElem?_drop]
set_option maxHeartbeats 8000000 in
theorem rdread_ok (io : Option Addr) (ic : Nat) (im : List UInt8) (start size off n : Int) (W : World) (hv : Vw b8 W.heap io ic im) (him : im.length ≤ 1099511627776) (hst : start ≤ 9223372036854775807) (hbo : off ≤ 9223372036854775807) (hbn : n ≤ 9223372036854775807) :
    Calls Tryd.prog 18 [.slice io im.length ic, .int .i64 start, .int .i64 size, .int .i64 off, .int .i64 n].toArray W (Ret (DrP W (readD im start size off n))) := by
  refine calls_of_sc 117 [(0, _), (1, _), (2, _), (3, _), (4, _)] Tryd.func18 rfl rfl rfl (enter_slots ⟨rfl, rfl, rfl, rfl, rfl, trivial⟩) ?_
  refine Sc.seq ?_
  refine Sc.region ?_
  refine Sl.calm (Cm.assign rfl) rfl ?_
  refine Sl.calm (Cm.assign rfl) rfl ?_
  refine Sl.nil ?_
  refine At.go ?_
  refine Sc.seq ?_
  refine Sc.seq ?_
  refine Sc.region ?_
  refine Sl.calm (Cm.move rfl) rfl ?_
  refine Sl.fork (Cm.lss rfl rfl) rfl (fun h23 => ?_) (fun h23 => ?_)
  ·
    have hR := readD_bad (im := im) (start := start) (size := size) (off := off) (n := n) (.inl h23)
    refine Sl.calm (Cm.move rfl) rfl ?_
    refine Sl.skip rfl rfl rfl rfl ?_
    refine Sl.skip rfl rfl rfl rfl ?_
    refine Sl.calm (Cm.pick_t rfl rfl) rfl ?_
    refine Sl.calm (Cm.move rfl) rfl ?_
    refine Sl.skip rfl rfl rfl rfl ?_
    refine Sl.skip rfl rfl rfl rfl ?_
    refine Sl.calm (Cm.pick_t rfl rfl) rfl ?_
    refine Sl.calm (Cm.move rfl) rfl ?_
    refine Sl.skip rfl rfl rfl rfl ?_
    refine Sl.skip rfl rfl rfl rfl ?_
    refine Sl.calm (Cm.pick_t rfl rfl) rfl ?_
    refine Sl.nil ?_
    refine At.weak [(0, _), (1, _), (2, _), (3, _), (4, _), (10, _), (11, _), (35, _)] ⟨rfl, rfl, rfl, rfl, rfl, rfl, rfl, rfl, trivial⟩ ?_
    refine At.go ?_
    refine Sc.cond_t rfl ?_
    refine Sc.seq ?_
    refine Sc.region ?_
    refine Sl.calm (Cm.assign rfl) rfl ?_
    refine Sl.calm (Cm.assign rfl) rfl ?_
    refine Sl.nil ?_
    refine At.go ?_
    refine Sc.ret ?_
    refine At.then_ret ?_
    refine At.ret2 rfl rfl rfl ?_
    rw [hR]
    exact ⟨_, rfl, none, 0, rfl, Own.nil, Fr.none, Foot.refl _ _⟩
  ·
    refine Sl.calm (Cm.move rfl) rfl ?_
    refine Sl.want rfl rfl (Cm.move rfl) rfl ?_
    refine Sl.forkWant rfl rfl (Cm.lss rfl rfl) rfl (fun h26 => ?_) (fun h26 => ?_)
    ·
      have hR := readD_bad (im := im) (start := start) (size := size) (off := off) (n := n) (.inr (.inl h26))
      refine Sl.calm (Cm.pick_f rfl rfl) rfl ?_
      refine Sl.calm (Cm.move rfl) rfl ?_
      refine Sl.skip rfl rfl rfl rfl ?_
      refine Sl.skip rfl rfl rfl rfl ?_
      refine Sl.calm (Cm.pick_t rfl rfl) rfl ?_
      refine Sl.calm (Cm.move rfl) rfl ?_
      refine Sl.skip rfl rfl rfl rfl ?_
      refine Sl.skip rfl rfl rfl rfl ?_
      refine Sl.calm (Cm.pick_t rfl rfl) rfl ?_
      refine Sl.nil ?_
      refine At.weak [(0, _), (1, _), (2, _), (3, _), (4, _), (10, _), (11, _), (35, _)] ⟨rfl, rfl, rfl, rfl, rfl, rfl, rfl, rfl, trivial⟩ ?_
      refine At.go ?_
      refine Sc.cond_t rfl ?_
      refine Sc.seq ?_
      refine Sc.region ?_
      refine Sl.calm (Cm.assign rfl) rfl ?_
      refine Sl.calm (Cm.assign rfl) rfl ?_
      refine Sl.nil ?_
      refine At.go ?_
      refine Sc.ret ?_
      refine At.then_ret ?_
      refine At.ret2 rfl rfl rfl ?_
      rw [hR]
      exact ⟨_, rfl, none, 0, rfl, Own.nil, Fr.none, Foot.refl _ _⟩
    ·
      refine Sl.calm (Cm.pick_f rfl rfl) rfl ?_
      refine Sl.calm (Cm.move rfl) rfl ?_
      refine Sl.want rfl rfl (Cm.move rfl) rfl ?_
      refine Sl.forkWant rfl rfl (Cm.lss rfl rfl) rfl (fun h30 => ?_) (fun h30 => ?_)
      ·
        have hR := readD_bad (im := im) (start := start) (size := size) (off := off) (n := n) (.inr (.inr (.inl h30)))
        refine Sl.calm (Cm.pick_f rfl rfl) rfl ?_
        refine Sl.calm (Cm.move rfl) rfl ?_
        refine Sl.skip rfl rfl rfl rfl ?_
        refine Sl.skip rfl rfl rfl rfl ?_
        refine Sl.calm (Cm.pick_t rfl rfl) rfl ?_
        refine Sl.nil ?_
        refine At.weak [(0, _), (1, _), (2, _), (3, _), (4, _), (10, _), (11, _), (35, _)] ⟨rfl, rfl, rfl, rfl, rfl, rfl, rfl, rfl, trivial⟩ ?_
        refine At.go ?_
        refine Sc.cond_t rfl ?_
        refine Sc.seq ?_
        refine Sc.region ?_
        refine Sl.calm (Cm.assign rfl) rfl ?_
        refine Sl.calm (Cm.assign rfl) rfl ?_
        refine Sl.nil ?_
        refine At.go ?_
        refine Sc.ret ?_
        refine At.then_ret ?_
        refine At.ret2 rfl rfl rfl ?_
        rw [hR]
        exact ⟨_, rfl, none, 0, rfl, Own.nil, Fr.none, Foot.refl _ _⟩
      ·
        refine Sl.calm (Cm.pick_f rfl rfl) rfl ?_
        refine Sl.calm (Cm.move rfl) rfl ?_
        refine Sl.want rfl rfl (Cm.move rfl) rfl ?_
        refine Sl.forkWant rfl rfl (Cm.gtr rfl rfl) rfl (fun h34 => ?_) (fun h34 => ?_)
        ·
          have hR := readD_bad (im := im) (start := start) (size := size) (off := off) (n := n) (.inr (.inr (.inr (show (4096 : Int) < size from h34))))
          refine Sl.calm (Cm.pick_f rfl rfl) rfl ?_
          refine Sl.nil ?_
          refine At.weak [(0, _), (1, _), (2, _), (3, _), (4, _), (10, _), (11, _), (35, _)] ⟨rfl, rfl, rfl, rfl, rfl, rfl, rfl, rfl, trivial⟩ ?_
          refine At.go ?_
          refine Sc.cond_t rfl ?_
          refine Sc.seq ?_
          refine Sc.region ?_
          refine Sl.calm (Cm.assign rfl) rfl ?_
          refine Sl.calm (Cm.assign rfl) rfl ?_
          refine Sl.nil ?_
          refine At.go ?_
          refine Sc.ret ?_
          refine At.then_ret ?_
          refine At.ret2 rfl rfl rfl ?_
          rw [hR]
          exact ⟨_, rfl, none, 0, rfl, Own.nil, Fr.none, Foot.refl _ _⟩
        ·
          obtain ⟨S, rfl⟩ := Int.eq_ofNat_of_zero_le (show 0 ≤ size by omega)
          obtain ⟨O, rfl⟩ := Int.eq_ofNat_of_zero_le (show 0 ≤ off by omega)
          obtain ⟨n, rfl⟩ := Int.eq_ofNat_of_zero_le (show 0 ≤ n by omega)
          obtain ⟨N, hN⟩ : ∃ N, N = S / 128 := ⟨_, rfl⟩
          refine Sl.calm (Cm.pick_f rfl rfl) rfl ?_
          refine Sl.nil ?_
          refine At.weak [(0, _), (1, _), (2, _), (3, _), (4, _), (10, _), (11, _), (35, _)] ⟨rfl, rfl, rfl, rfl, rfl, rfl, rfl, rfl, trivial⟩ ?_
          refine At.go ?_
          refine Sc.cond_f rfl ?_
          refine Sc.skip ?_
          refine At.go ?_
          refine Sc.seq ?_
          refine Sc.region ?_
          refine Sl.calm (Cm.move rfl) rfl ?_
          refine Sl.calm (Cm.ofEq (u := .int .i64 (N : Int)) (Cm.quo64 rfl rfl (by omega) (by decide)) (by congr 1; omega)) rfl ?_
          refine Sl.calm (Cm.assign rfl) rfl ?_
          refine Sl.nil ?_
          refine At.weak [(0, _), (1, _), (2, _), (3, _), (4, _), (10, _), (11, _), (12, _), (35, _)] ⟨rfl, rfl, rfl, rfl, rfl, rfl, rfl, rfl, rfl, trivial⟩ ?_
          refine At.go ?_
          refine Sc.seq ?_
          refine Sc.seq ?_
          refine Sc.region ?_
          refine Sl.calm (Cm.move rfl) rfl ?_
          refine Sl.calm (Cm.move rfl) rfl ?_
          refine Sl.calm (Cm.ofEq (u := .int .i64 ((N * 128 : Nat) : Int)) (Cm.mul64 rfl rfl (by omega)) (by congr 1)) rfl ?_
          refine Sl.fork (Cm.geq rfl rfl) rfl (fun h41 => ?_) (fun h41 => ?_)
          ·
            have hR := readD_nil (im := im) (start := start) (size := S) (off := O) (n := n) (by omega) (by omega)
            refine Sl.nil ?_
            refine At.weak [(0, _), (1, _), (2, _), (3, _), (4, _), (10, _), (11, _), (12, _), (35, _), (41, _)] ⟨rfl, rfl, rfl, rfl, rfl, rfl, rfl, rfl, rfl, rfl, trivial⟩ ?_
            refine At.go ?_
            refine Sc.cond_t rfl ?_
            refine Sc.seq ?_
            refine Sc.region ?_
            refine Sl.calm (Cm.assign rfl) rfl ?_
            refine Sl.calm (Cm.assign rfl) rfl ?_
            refine Sl.nil ?_
            refine At.go ?_
            refine Sc.ret ?_
            refine At.then_ret ?_
            refine At.ret2 rfl rfl rfl ?_
            rw [hR]
            exact ⟨_, rfl, none, 0, rfl, Own.nil, Fr.none, Foot.refl _ _⟩
          ·
            have hR := readD_go (im := im) (start := start) (size := S) (off := O) (n := n) (by omega) (by omega)
            rw [← hN] at hR
            refine Sl.nil ?_
            refine At.weak [(0, _), (1, _), (2, _), (3, _), (4, _), (10, _), (11, _), (12, _), (35, _), (41, _)] ⟨rfl, rfl, rfl, rfl, rfl, rfl, rfl, rfl, rfl, rfl, trivial⟩ ?_
            refine At.go ?_
            refine Sc.cond_f rfl ?_
            refine Sc.skip ?_
            refine At.go ?_
            refine Sc.seq ?_
            refine Sc.region ?_
            refine Sl.lit0 b8 sl23 rfl ?_
            intro w1 ho1 hs1 hf1
            refine Sl.calm (Cm.assign rfl) rfl ?_
            refine Sl.nil ?_
            refine At.weak [(0, _), (1, _), (2, _), (3, _), (4, _), (10, _), (11, _), (12, _), (13, _), (35, _), (41, _)] ⟨rfl, rfl, rfl, rfl, rfl, rfl, rfl, rfl, rfl, rfl, rfl, trivial⟩ ?_
            refine At.go ?_
            refine Sc.seq ?_
            refine Sc.region ?_
            refine Sl.calm (Cm.move rfl) rfl ?_
            refine Sl.calm (Cm.assign rfl) rfl ?_
            refine Sl.nil ?_
            refine At.weak [(0, _), (1, _), (2, _), (3, _), (4, _), (10, _), (11, _), (12, _), (13, _), (14, _), (35, _), (41, _)] ⟨rfl, rfl, rfl, rfl, rfl, rfl, rfl, rfl, rfl, rfl, rfl, rfl, trivial⟩ ?_
            refine At.go ?_
            refine Sc.seq ?_
            refine Sc.seq ?_
            refine Sc.region ?_
            refine Sl.calm (Cm.assign rfl) rfl ?_
            refine Sl.nil ?_
            refine At.go ?_
            refine Sc.block ?_
            refine Sc.loop (β := Nat × Int × List UInt8 × (Option Addr × Nat)) (fun ⟨i, a, out, ⟨oo, oc⟩⟩ => [(0, .slice io im.length ic), (3, .int .i64 (O : Nat)), (4, .int .i64 (n : Nat)), (12, .int .i64 (N : Nat)), (13, .slice oo out.length oc), (14, .int .i64 a), (15, .int .i64 i)]) (fun ⟨i, a, out, ⟨oo, oc⟩⟩ w => i ≤ N ∧ a ≤ 9223372036854775807 ∧ rdGo im O n (N - i) i a out = readD im start S O n ∧ out.length ≤ 128 * i ∧ Own b8 5 w.heap oo oc out ∧ Fr W.heap.size oo ∧ Foot nob W w) (fun ⟨i, a, out, ⟨oo, oc⟩⟩ => N - i) ⟨0, start, [], ⟨some ⟨W.heap.size, 0, none⟩, 0⟩⟩ ⟨rfl, rfl, rfl, rfl, rfl, rfl, rfl, trivial⟩ ⟨Nat.zero_le _, hst, hR.symm, Nat.zero_le _, ho1, (fun a ha => by cases ha; exact Nat.le_refl _), hf1⟩ ?_
            rintro ⟨i, a, out, ⟨oo, oc⟩⟩ w2 ⟨hi, ha, hgo, hol, hoo, hfro, hF2⟩
            refine Sc.seq ?_
            refine Sc.seq ?_
            refine Sc.region ?_
            refine Sl.calm (Cm.move rfl) rfl ?_
            refine Sl.calm (Cm.move rfl) rfl ?_
            refine Sl.fork (Cm.lss rfl rfl) rfl (fun h46 => ?_) (fun h46 => ?_)
            ·
              have hiN : i < N := by omega
              obtain ⟨k, hk⟩ : ∃ k, N - i = k + 1 := ⟨N - i - 1, by omega⟩
              rw [hk] at hgo
              refine Sl.calm (Cm.move rfl) rfl ?_
              refine Sl.want rfl rfl (Cm.move rfl) rfl ?_
              refine Sl.want rfl rfl (Cm.len sl23 rfl) rfl ?_
              refine Sl.want rfl rfl (Cm.move rfl) rfl ?_
              refine Sl.forkWant rfl rfl (Cm.lss rfl rfl) rfl (fun h51 => ?_) (fun h51 => ?_)
              ·
                have hon : out.length < n := by omega
                refine Sl.calm (Cm.pick_t rfl rfl) rfl ?_
                refine Sl.nil ?_
                refine At.weak [(0, _), (3, _), (4, _), (12, _), (13, _), (14, _), (15, _), (52, _)] ⟨rfl, rfl, rfl, rfl, rfl, rfl, rfl, rfl, trivial⟩ ?_
                refine At.go ?_
                refine Sc.cond_t rfl ?_
                refine Sc.skip ?_
                refine At.go ?_
                refine Sc.seq ?_
                refine Sc.block ?_
                refine Sc.seq ?_
                refine Sc.seq ?_
                refine Sc.region ?_
                refine Sl.calm (Cm.move rfl) rfl ?_
                refine Sl.calm (Cm.move rfl) rfl ?_
                refine Sl.calm (Cm.add64 rfl rfl (by omega)) rfl ?_
                refine Sl.calm (Cm.mul64 rfl rfl (by omega)) rfl ?_
                refine Sl.fork (Cm.geq rfl rfl) rfl (fun h59 => ?_) (fun h59 => ?_)
                ·
                  have h56 : i * 128 + 128 ≤ O := by omega
                  refine Sl.nil ?_
                  refine At.weak [(0, _), (3, _), (4, _), (12, _), (13, _), (14, _), (15, _), (52, _), (59, _)] ⟨rfl, rfl, rfl, rfl, rfl, rfl, rfl, rfl, rfl, trivial⟩ ?_
                  refine At.go ?_
                  refine Sc.cond_t rfl ?_
                  refine Sc.seq ?_
                  refine Sc.region ?_
                  refine Sl.calm (Cm.move rfl) rfl ?_
                  refine Sl.calm (Cm.move rfl) rfl ?_
                  refine Sl.call fn30 rfl (rfskip_ok io ic im a w2 (hv.grow hF2) him (by omega)) rfl ?_
                  rintro _ w3 ⟨rfl, hf3⟩
                  have hbd := skipS_bd im a
                  refine Sl.calm (Cm.move rfl) rfl ?_
                  refine Sl.calm (Cm.extract rfl rfl) rfl ?_
                  refine Sl.calm (Cm.extract rfl rfl) rfl ?_
                  refine Sl.calm (Cm.assign rfl) rfl ?_
                  refine Sl.calm (Cm.assign rfl) rfl ?_
                  refine Sl.nil ?_
                  refine At.weak [(0, _), (3, _), (4, _), (12, _), (13, _), (14, _), (15, _), (16, _), (17, _), (52, _), (59, _)] ⟨rfl, rfl, rfl, rfl, rfl, rfl, rfl, rfl, rfl, rfl, rfl, trivial⟩ ?_
                  refine At.go ?_
                  refine Sc.seq ?_
                  refine Sc.seq ?_
                  refine Sc.region ?_
                  refine Sl.calm (Cm.move rfl) rfl ?_
                  refine Sl.fork (Cm.neq rfl rfl) rfl (fun h67 => ?_) (fun h67 => ?_)
                  ·
                    rw [rdGo_sbad hon h56 h67] at hgo
                    refine Sl.nil ?_
                    refine At.weak [(0, _), (3, _), (4, _), (12, _), (13, _), (14, _), (15, _), (16, _), (17, _), (52, _), (59, _), (67, _)] ⟨rfl, rfl, rfl, rfl, rfl, rfl, rfl, rfl, rfl, rfl, rfl, rfl, trivial⟩ ?_
                    refine At.go ?_
                    refine Sc.cond_t rfl ?_
                    refine Sc.seq ?_
                    refine Sc.region ?_
                    refine Sl.calm (Cm.assign rfl) rfl ?_
                    refine Sl.calm (Cm.assign rfl) rfl ?_
                    refine Sl.nil ?_
                    refine At.go ?_
                    refine Sc.ret ?_
                    refine At.then_ret ?_
                    refine At.then_ret ?_
                    refine At.block_ret ?_
                    refine At.then_ret ?_
                    refine At.then_ret ?_
                    refine At.block_ret ?_
                    refine At.then_ret ?_
                    refine At.ret2 rfl rfl rfl ?_
                    rw [← hgo]
                    exact ⟨_, rfl, none, 0, rfl, Own.nil, Fr.none, hF2.trans hf3⟩
                  ·
                    rw [rdGo_skip hon h56 h67] at hgo
                    refine Sl.nil ?_
                    refine At.weak [(0, _), (3, _), (4, _), (12, _), (13, _), (14, _), (15, _), (16, _), (17, _), (52, _), (59, _), (67, _)] ⟨rfl, rfl, rfl, rfl, rfl, rfl, rfl, rfl, rfl, rfl, rfl, rfl, trivial⟩ ?_
                    refine At.go ?_
                    refine Sc.cond_f rfl ?_
                    refine Sc.skip ?_
                    refine At.go ?_
                    refine Sc.seq ?_
                    refine Sc.region ?_
                    refine Sl.calm (Cm.move rfl) rfl ?_
                    refine Sl.calm (Cm.assign rfl) rfl ?_
                    refine Sl.nil ?_
                    refine At.weak [(0, _), (3, _), (4, _), (12, _), (13, _), (14, _), (15, _), (16, _), (17, _), (52, _), (59, _), (67, _)] ⟨rfl, rfl, rfl, rfl, rfl, rfl, rfl, rfl, rfl, rfl, rfl, rfl, trivial⟩ ?_
                    refine At.go ?_
                    refine Sc.exit ?_
                    refine At.then_exit ?_
                    refine At.block_hit ?_
                    refine At.go ?_
                    refine Sc.region ?_
                    refine Sl.calm (Cm.move rfl) rfl ?_
                    refine Sl.calm (Cm.add64 rfl rfl (by omega)) rfl ?_
                    refine Sl.calm (Cm.assign rfl) rfl ?_
                    refine Sl.nil ?_
                    have hk2 : k = N - (i + 1) := by omega
                    rw [hk2] at hgo
                    exact At.again ⟨i + 1, (skipS im a).1, out, ⟨oo, oc⟩⟩ ⟨rfl, rfl, rfl, rfl, rfl, rfl, rfl, trivial⟩ ⟨by omega, by omega, hgo, by omega, hoo.grow hf3, hfro, hF2.trans hf3⟩ (by show N - (i + 1) < N - i; omega)
                ·
                  have h56 : ¬ i * 128 + 128 ≤ O := by omega
                  refine Sl.nil ?_
                  refine At.weak [(0, _), (3, _), (4, _), (12, _), (13, _), (14, _), (15, _), (52, _), (59, _)] ⟨rfl, rfl, rfl, rfl, rfl, rfl, rfl, rfl, rfl, trivial⟩ ?_
                  refine At.go ?_
                  refine Sc.cond_f rfl ?_
                  refine Sc.skip ?_
                  refine At.go ?_
                  refine Sc.seq ?_
                  refine Sc.region ?_
                  refine Sl.calm (Cm.move rfl) rfl ?_
                  refine Sl.calm (Cm.move rfl) rfl ?_
                  refine Sl.call fn31 rfl (rftake_ok io ic im a w2 (hv.grow hF2) him (by omega)) rfl ?_
                  rintro _ w3 ⟨o3, c3, rfl, ho3, hfr3, hf3⟩
                  have hbd := takeS_bd im a
                  obtain ⟨T, hT⟩ : ∃ T, T = takeS im a := ⟨_, rfl⟩
                  rw [← hT] at ho3 hbd ⊢
                  have hz3 := hf3.size
                  have hz2 := hF2.size
                  refine Sl.calm (Cm.move rfl) rfl ?_
                  refine Sl.calm (Cm.extract rfl rfl) rfl ?_
                  refine Sl.calm (Cm.extract rfl rfl) rfl ?_
                  refine Sl.calm (Cm.extract rfl rfl) rfl ?_
                  refine Sl.calm (Cm.assign rfl) rfl ?_
                  refine Sl.calm (Cm.assign rfl) rfl ?_
                  refine Sl.calm (Cm.assign rfl) rfl ?_
                  refine Sl.nil ?_
                  refine At.weak [(0, _), (3, _), (4, _), (12, _), (13, _), (14, _), (15, _), (18, _), (19, _), (20, _), (52, _), (59, _)] ⟨rfl, rfl, rfl, rfl, rfl, rfl, rfl, rfl, rfl, rfl, rfl, rfl, trivial⟩ ?_
                  refine At.go ?_
                  refine Sc.seq ?_
                  refine Sc.seq ?_
                  refine Sc.region ?_
                  refine Sl.calm (Cm.move rfl) rfl ?_
                  refine Sl.fork (Cm.neq rfl rfl) rfl (fun h77 => ?_) (fun h77 => ?_)
                  ·
                    rw [rdGo_bad hon h56 (.inl (by rw [← hT]; exact h77))] at hgo
                    refine Sl.calm (Cm.move rfl) rfl ?_
                    refine Sl.skip rfl rfl rfl rfl ?_
                    refine Sl.skip rfl rfl rfl rfl ?_
                    refine Sl.skip rfl rfl rfl rfl ?_
                    refine Sl.skip rfl rfl rfl rfl ?_
                    refine Sl.skip rfl rfl rfl rfl ?_
                    refine Sl.skip rfl rfl rfl rfl ?_
                    refine Sl.skip rfl rfl rfl rfl ?_
                    refine Sl.skip rfl rfl rfl rfl ?_
                    refine Sl.calm (Cm.pick_t rfl rfl) rfl ?_
                    refine Sl.nil ?_
                    refine At.weak [(0, _), (3, _), (4, _), (12, _), (13, _), (14, _), (15, _), (18, _), (19, _), (20, _), (52, _), (59, _), (87, _)] ⟨rfl, rfl, rfl, rfl, rfl, rfl, rfl, rfl, rfl, rfl, rfl, rfl, rfl, trivial⟩ ?_
                    refine At.go ?_
                    refine Sc.cond_t rfl ?_
                    refine Sc.seq ?_
                    refine Sc.region ?_
                    refine Sl.calm (Cm.assign rfl) rfl ?_
                    refine Sl.calm (Cm.assign rfl) rfl ?_
                    refine Sl.nil ?_
                    refine At.go ?_
                    refine Sc.ret ?_
                    refine At.then_ret ?_
                    refine At.block_ret ?_
                    refine At.then_ret ?_
                    refine At.then_ret ?_
                    refine At.block_ret ?_
                    refine At.then_ret ?_
                    refine At.ret2 rfl rfl rfl ?_
                    rw [← hgo]
                    exact ⟨_, rfl, none, 0, rfl, Own.nil, Fr.none, hF2.trans hf3⟩
                  ·
                    refine Sl.calm (Cm.move rfl) rfl ?_
                    refine Sl.want rfl rfl (Cm.move rfl) rfl ?_
                    refine Sl.want rfl rfl (Cm.len sl23 rfl) rfl ?_
                    refine Sl.forkWant rfl rfl (Cm.neq rfl rfl) rfl (fun h81 => ?_) (fun h81 => ?_)
                    ·
                      refine Sl.want rfl rfl (Cm.move rfl) rfl ?_
                      refine Sl.want rfl rfl (Cm.move rfl) rfl ?_
                      refine Sl.want rfl rfl (Cm.len sl23 rfl) rfl ?_
                      refine Sl.forkWant rfl rfl (Cm.neq rfl rfl) rfl (fun h85 => ?_) (fun h85 => ?_)
                      ·
                        rw [rdGo_bad hon h56 (.inr ⟨by rw [← hT]; omega, by rw [← hT]; omega⟩)] at hgo
                        refine Sl.want rfl rfl (Cm.pick_t rfl rfl) rfl ?_
                        refine Sl.calm (Cm.pick_f rfl rfl) rfl ?_
                        refine Sl.nil ?_
                        refine At.weak [(0, _), (3, _), (4, _), (12, _), (13, _), (14, _), (15, _), (18, _), (19, _), (20, _), (52, _), (59, _), (87, _)] ⟨rfl, rfl, rfl, rfl, rfl, rfl, rfl, rfl, rfl, rfl, rfl, rfl, rfl, trivial⟩ ?_
                        refine At.go ?_
                        refine Sc.cond_t rfl ?_
                        refine Sc.seq ?_
                        refine Sc.region ?_
                        refine Sl.calm (Cm.assign rfl) rfl ?_
                        refine Sl.calm (Cm.assign rfl) rfl ?_
                        refine Sl.nil ?_
                        refine At.go ?_
                        refine Sc.ret ?_
                        refine At.then_ret ?_
                        refine At.block_ret ?_
                        refine At.then_ret ?_
                        refine At.then_ret ?_
                        refine At.block_ret ?_
                        refine At.then_ret ?_
                        refine At.ret2 rfl rfl rfl ?_
                        rw [← hgo]
                        exact ⟨_, rfl, none, 0, rfl, Own.nil, Fr.none, hF2.trans hf3⟩
                      ·
                        have hgood : ¬ (T.1.length ≠ 0 ∧ T.1.length ≠ 128) := by omega
                        rw [rdGo_take hon h56 (by rw [← hT]; rintro (h | h); exact h77 h; exact hgood h), ← hT] at hgo
                        have hBl := blkD_len hgood
                        obtain ⟨B, hB⟩ : ∃ B, B = blkD T.1 := ⟨_, rfl⟩
                        rw [← hB] at hgo hBl
                        refine Sl.want rfl rfl (Cm.pick_t rfl rfl) rfl ?_
                        refine Sl.calm (Cm.pick_f rfl rfl) rfl ?_
                        refine Sl.nil ?_
                        refine At.weak [(0, _), (3, _), (4, _), (12, _), (13, _), (14, _), (15, _), (18, _), (19, _), (20, _), (52, _), (59, _), (87, _)] ⟨rfl, rfl, rfl, rfl, rfl, rfl, rfl, rfl, rfl, rfl, rfl, rfl, rfl, trivial⟩ ?_
                        refine At.go ?_
                        refine Sc.cond_f rfl ?_
                        refine Sc.skip ?_
                        refine At.go ?_
                        refine Sc.cut (β := Option Addr × Nat) (fun ⟨bo, bc⟩ => [(0, .slice io im.length ic), (3, .int .i64 (O : Nat)), (4, .int .i64 (n : Nat)), (12, .int .i64 (N : Nat)), (13, .slice oo out.length oc), (15, .int .i64 i), (18, .slice bo B.length bc), (19, .int .i64 T.2.1)]) (fun ⟨bo, bc⟩ w => Vw b8 w.heap bo bc B ∧ (∀ k, blk bo k → w2.heap.size ≤ k ∧ k < w.heap.size) ∧ Foot nob w3 w) ?_ ?_
                        ·
                          refine Sc.seq ?_
                          refine Sc.region ?_
                          refine Sl.calm (Cm.move rfl) rfl ?_
                          refine Sl.calm (Cm.len sl23 rfl) rfl ?_
                          refine Sl.fork (Cm.eql rfl rfl) rfl (fun h90 => ?_) (fun h90 => ?_)
                          ·
                            have hBz : B = List.replicate 128 0 := by rw [hB]; exact if_pos (by omega)
                            refine Sl.nil ?_
                            refine At.weak [(0, _), (3, _), (4, _), (12, _), (13, _), (14, _), (15, _), (18, _), (19, _), (20, _), (52, _), (59, _), (87, _), (90, _)] ⟨rfl, rfl, rfl, rfl, rfl, rfl, rfl, rfl, rfl, rfl, rfl, rfl, rfl, rfl, trivial⟩ ?_
                            refine At.go ?_
                            refine Sc.cond_t rfl ?_
                            refine Sc.region ?_
                            refine Sl.make b8 (0 : UInt8) sl23 z5 rfl rfl rfl (by decide) (by decide) (by decide) (by decide) rfl ?_
                            intro w4 ho4 hs4 hf4
                            refine Sl.calm (Cm.assign rfl) rfl ?_
                            refine Sl.nil ?_
                            exact At.cut ⟨some ⟨w3.heap.size, 0, none⟩, 128⟩ ⟨rfl, rfl, rfl, rfl, rfl, rfl, (by rw [hBl]; rfl), rfl, trivial⟩ ⟨by rw [hBz]; exact ho4.vw, (fun k ⟨a, ha, e⟩ => by cases ha; have e : w3.heap.size = k := e; exact ⟨by omega, by omega⟩), hf4⟩
                          ·
                            have hBz : B = T.1 := by rw [hB]; exact if_neg (by omega)
                            refine Sl.nil ?_
                            refine At.weak [(0, _), (3, _), (4, _), (12, _), (13, _), (14, _), (15, _), (18, _), (19, _), (20, _), (52, _), (59, _), (87, _), (90, _)] ⟨rfl, rfl, rfl, rfl, rfl, rfl, rfl, rfl, rfl, rfl, rfl, rfl, rfl, rfl, trivial⟩ ?_
                            refine At.go ?_
                            refine Sc.cond_f rfl ?_
                            refine Sc.skip ?_
                            exact At.cut ⟨o3, c3⟩ ⟨rfl, rfl, rfl, rfl, rfl, rfl, (by rw [hBz]; rfl), rfl, trivial⟩ ⟨by rw [hBz]; exact ho3.vw, (fun k ⟨a, ha, e⟩ => by have := hfr3 a ha; have := ho3.lt a ha; exact ⟨by omega, by omega⟩), Foot.refl _ _⟩
                        ·
                          rintro ⟨bo, bc⟩ w5 ⟨hbv, hbb, hf35⟩
                          obtain ⟨d, hd⟩ : ∃ d, d = O - i * 128 := ⟨_, rfl⟩
                          rw [← hd] at hgo
                          have hdl : (B.drop d).length = 128 - d := by rw [List.length_drop, hBl]
                          have hF5 := (hF2.trans hf3).trans hf35
                          have hoo5 := (hoo.grow hf3).grow hf35
                          have hlo := hoo.lt
                          have hz5 := hf35.size
                          refine Sc.seq ?_
                          refine Sc.seq ?_
                          refine Sc.region ?_
                          refine Sl.calm (Cm.assign rfl) rfl ?_
                          refine Sl.nil ?_
                          refine At.go ?_
                          refine Sc.block ?_
                          refine Sc.loop (β := Nat × (Option Addr × Nat)) (fun ⟨j, ⟨o6, c6⟩⟩ => [(0, .slice io im.length ic), (3, .int .i64 (O : Nat)), (4, .int .i64 (n : Nat)), (12, .int .i64 (N : Nat)), (13, .slice o6 (out ++ (B.drop d).take (min (n - out.length) (j - d))).length c6), (15, .int .i64 i), (18, .slice bo B.length bc), (19, .int .i64 T.2.1), (21, .int .i64 j)]) (fun ⟨j, ⟨o6, c6⟩⟩ w => j ≤ 128 ∧ Vw b8 w.heap bo bc B ∧ Own b8 5 w.heap o6 c6 (out ++ (B.drop d).take (min (n - out.length) (j - d))) ∧ (∀ a, o6 = some a → oo = some a ∨ w5.heap.size ≤ a.block) ∧ Fr W.heap.size o6 ∧ w5.heap.size ≤ w.heap.size ∧ Foot nob W w) (fun ⟨j, ⟨o6, c6⟩⟩ => 128 - j) ⟨0, ⟨oo, oc⟩⟩ ⟨rfl, rfl, rfl, rfl, (by rw [Nat.zero_sub, Nat.min_zero, List.take_zero, List.append_nil]; rfl), rfl, rfl, rfl, rfl, trivial⟩ ⟨Nat.zero_le _, hbv, by rw [Nat.zero_sub, Nat.min_zero, List.take_zero, List.append_nil]; exact hoo5, (fun a ha => .inl ha), hfro, Nat.le_refl _, hF5⟩ ?_
                          rintro ⟨j, ⟨o6, c6⟩⟩ w6 ⟨hj, hbv6, hoo6, hr6, hfr6, hzz, hF6⟩
                          have hol6 : (out ++ (B.drop d).take (min (n - out.length) (j - d))).length = out.length + min (n - out.length) (j - d) := by rw [List.length_append, List.length_take, hdl]; omega
                          refine Sc.seq ?_
                          refine Sc.seq ?_
                          refine Sc.region ?_
                          refine Sl.calm (Cm.move rfl) rfl ?_
                          refine Sl.fork (Cm.lss rfl rfl) rfl (fun h93 => ?_) (fun h93 => ?_)
                          ·
                            refine Sl.calm (Cm.move rfl) rfl ?_
                            refine Sl.want rfl rfl (Cm.move rfl) rfl ?_
                            refine Sl.want rfl rfl (Cm.len sl23 rfl) rfl ?_
                            refine Sl.want rfl rfl (Cm.move rfl) rfl ?_
                            refine Sl.forkWant rfl rfl (Cm.lss rfl rfl) rfl (fun h98 => ?_) (fun h98 => ?_)
                            ·
                              have hlt : j - d < n - out.length := by omega
                              have hj128 : j < 128 := by omega
                              refine Sl.calm (Cm.pick_t rfl rfl) rfl ?_
                              refine Sl.nil ?_
                              refine At.weak [(0, _), (3, _), (4, _), (12, _), (13, _), (15, _), (18, _), (19, _), (21, _), (99, _)] ⟨rfl, rfl, rfl, rfl, rfl, rfl, rfl, rfl, rfl, rfl, trivial⟩ ?_
                              refine At.go ?_
                              refine Sc.cond_t rfl ?_
                              refine Sc.skip ?_
                              refine At.go ?_
                              refine Sc.seq ?_
                              refine Sc.block ?_
                              refine Sc.seq ?_
                              refine Sc.region ?_
                              refine Sl.calm (Cm.move rfl) rfl ?_
                              refine Sl.calm (Cm.mul64 rfl rfl (by omega)) rfl ?_
                              refine Sl.calm (Cm.move rfl) rfl ?_
                              refine Sl.calm (Cm.add64 rfl rfl (by omega)) rfl ?_
                              refine Sl.calm (Cm.move rfl) rfl ?_
                              refine Sl.fork (Cm.geq rfl rfl) rfl (fun h107 => ?_) (fun h107 => ?_)
                              ·
                                have hdj : d ≤ j := by omega
                                have hstep : (B.drop d).take (min (n - out.length) (j + 1 - d)) = (B.drop d).take (min (n - out.length) (j - d)) ++ [B.getD j 0] := by
                                  rw [Nat.min_eq_right (by omega), Nat.min_eq_right (by omega), show j + 1 - d = (j - d) + 1 by omega, take_one (by omega), drop_getD, show d + (j - d) = j by omega]
                                refine Sl.nil ?_
                                refine At.weak [(0, _), (3, _), (4, _), (12, _), (13, _), (15, _), (18, _), (19, _), (21, _), (99, _), (107, _)] ⟨rfl, rfl, rfl, rfl, rfl, rfl, rfl, rfl, rfl, rfl, rfl, trivial⟩ ?_
                                refine At.go ?_
                                refine Sc.cond_t rfl ?_
                                refine Sc.region ?_
                                refine Sl.calm (Cm.move rfl) rfl ?_
                                refine Sl.calm (Cm.move rfl) rfl ?_
                                refine Sl.calm (Cm.move rfl) rfl ?_
                                refine Sl.calm (Cm.indexAddr1 sl23 rfl rfl hbv6.non (by omega)) rfl ?_
                                refine Sl.calm (Cm.ld sca5 rfl (hbv6.gz 0 j rfl (by omega))) rfl ?_
                                refine Sl.lit1 (enc := b8) (u := B.getD j 0) sl23 (b8_one _) rfl rfl ?_
                                intro w7 ho7 hs7 hf7
                                refine Sl.append b8_one sl23 rfl rfl (hoo6.grow hf7) ho7.vw (by simp only [List.length_singleton]; omega) (by simp only [List.length_singleton]; unfold maxLen; omega) rfl ?_
                                intro o8 c8 w8 ho8 hf8 hr8 hn8
                                have hz7 := hf7.size
                                have hz8 := hf8.size
                                refine Sl.calm (Cm.assign rfl) rfl ?_
                                refine Sl.nil ?_
                                refine At.block_normal ?_
                                refine At.weak [(0, _), (3, _), (4, _), (12, _), (13, _), (15, _), (18, _), (19, _), (21, _), (99, _), (107, _)] ⟨rfl, rfl, rfl, rfl, rfl, rfl, rfl, rfl, rfl, rfl, rfl, trivial⟩ ?_
                                refine At.go ?_
                                refine Sc.region ?_
                                refine Sl.calm (Cm.move rfl) rfl ?_
                                refine Sl.calm (Cm.add64 rfl rfl (by omega)) rfl ?_
                                refine Sl.calm (Cm.assign rfl) rfl ?_
                                refine Sl.nil ?_
                                refine At.again ⟨j + 1, ⟨o8, c8⟩⟩ ⟨rfl, rfl, rfl, rfl, (by rw [hstep, ← List.append_assoc]; rfl), rfl, rfl, rfl, rfl, trivial⟩ ⟨by omega, (hbv6.grow hf7).keep hf8 (fun a ha ⟨c, hc, e⟩ => ?_), by rw [hstep, ← List.append_assoc]; exact ho8, (fun a ha => ?_), fr_next hfr6 hr8 (by have := hF6.size; omega), by omega, (hF6.trans hf7).trans_to hf8 (fun k ⟨a, ha, e⟩ => .inr (by have := hfr6 a ha; omega))⟩ (by show 128 - (j + 1) < 128 - j; omega)
                                · have h1 := hbb a.block ⟨a, ha, rfl⟩
                                  rcases hr6 c hc with h | h
                                  · have := hlo c h; omega
                                  · omega
                                · rcases hr8 a ha with h | h
                                  · exact hr6 a h
                                  · exact .inr (by omega)
                              ·
                                have hstep : (B.drop d).take (min (n - out.length) (j + 1 - d)) = (B.drop d).take (min (n - out.length) (j - d)) := by rw [show j + 1 - d = j - d by omega]
                                refine Sl.nil ?_
                                refine At.weak [(0, _), (3, _), (4, _), (12, _), (13, _), (15, _), (18, _), (19, _), (21, _), (99, _), (107, _)] ⟨rfl, rfl, rfl, rfl, rfl, rfl, rfl, rfl, rfl, rfl, rfl, trivial⟩ ?_
                                refine At.go ?_
                                refine Sc.cond_f rfl ?_
                                refine Sc.skip ?_
                                refine At.block_normal ?_
                                refine At.go ?_
                                refine Sc.region ?_
                                refine Sl.calm (Cm.move rfl) rfl ?_
                                refine Sl.calm (Cm.add64 rfl rfl (by omega)) rfl ?_
                                refine Sl.calm (Cm.assign rfl) rfl ?_
                                refine Sl.nil ?_
                                exact At.again ⟨j + 1, ⟨o6, c6⟩⟩ ⟨rfl, rfl, rfl, rfl, (by rw [hstep]; rfl), rfl, rfl, rfl, rfl, trivial⟩ ⟨by omega, hbv6, by rw [hstep]; exact hoo6, hr6, hfr6, hzz, hF6⟩ (by show 128 - (j + 1) < 128 - j; omega)
                            ·
                              have hfin : (B.drop d).take (min (n - out.length) (j - d)) = (B.drop d).take (n - out.length) := by rw [Nat.min_eq_left (by omega)]
                              refine Sl.calm (Cm.pick_t rfl rfl) rfl ?_
                              refine Sl.nil ?_
                              refine At.weak [(0, _), (3, _), (4, _), (12, _), (13, _), (15, _), (18, _), (19, _), (21, _), (99, _)] ⟨rfl, rfl, rfl, rfl, rfl, rfl, rfl, rfl, rfl, rfl, trivial⟩ ?_
                              refine At.go ?_
                              refine Sc.cond_f rfl ?_
                              refine Sc.exit ?_
                              refine At.then_exit ?_
                              refine At.then_exit ?_
                              refine At.block_hit ?_
                              refine At.go ?_
                              refine Sc.region ?_
                              refine Sl.calm (Cm.move rfl) rfl ?_
                              refine Sl.calm (Cm.assign rfl) rfl ?_
                              refine Sl.nil ?_
                              refine At.block_normal ?_
                              refine At.weak [(0, _), (3, _), (4, _), (12, _), (13, _), (14, _), (15, _), (18, _), (19, _), (21, _), (99, _)] ⟨rfl, rfl, rfl, rfl, rfl, rfl, rfl, rfl, rfl, rfl, rfl, trivial⟩ ?_
                              refine At.go ?_
                              refine Sc.region ?_
                              refine Sl.calm (Cm.move rfl) rfl ?_
                              refine Sl.calm (Cm.add64 rfl rfl (by omega)) rfl ?_
                              refine Sl.calm (Cm.assign rfl) rfl ?_
                              refine Sl.nil ?_
                              have hk2 : k = N - (i + 1) := by omega
                              rw [hk2, ← hfin] at hgo
                              exact At.again ⟨i + 1, T.2.1, out ++ (B.drop d).take (min (n - out.length) (j - d)), ⟨o6, c6⟩⟩ ⟨rfl, rfl, rfl, rfl, rfl, rfl, rfl, trivial⟩ ⟨by omega, by omega, hgo, by rw [List.length_append, List.length_take]; omega, hoo6, hfr6, hF6⟩ (by show N - (i + 1) < N - i; omega)
                          ·
                            have hfin : (B.drop d).take (min (n - out.length) (j - d)) = (B.drop d).take (n - out.length) := by
                              by_cases h : n - out.length ≤ j - d
                              · rw [Nat.min_eq_left h]
                              · rw [List.take_of_length_le (by omega), List.take_of_length_le (by omega)]
                            refine Sl.calm (Cm.move rfl) rfl ?_
                            refine Sl.skip rfl rfl rfl rfl ?_
                            refine Sl.skip rfl rfl rfl rfl ?_
                            refine Sl.skip rfl rfl rfl rfl ?_
                            refine Sl.skip rfl rfl rfl rfl ?_
                            refine Sl.calm (Cm.pick_f rfl rfl) rfl ?_
                            refine Sl.nil ?_
                            refine At.weak [(0, _), (3, _), (4, _), (12, _), (13, _), (15, _), (18, _), (19, _), (21, _), (99, _)] ⟨rfl, rfl, rfl, rfl, rfl, rfl, rfl, rfl, rfl, rfl, trivial⟩ ?_
                            refine At.go ?_
                            refine Sc.cond_f rfl ?_
                            refine Sc.exit ?_
                            refine At.then_exit ?_
                            refine At.then_exit ?_
                            refine At.block_hit ?_
                            refine At.go ?_
                            refine Sc.region ?_
                            refine Sl.calm (Cm.move rfl) rfl ?_
                            refine Sl.calm (Cm.assign rfl) rfl ?_
                            refine Sl.nil ?_
                            refine At.block_normal ?_
                            refine At.weak [(0, _), (3, _), (4, _), (12, _), (13, _), (14, _), (15, _), (18, _), (19, _), (21, _), (99, _)] ⟨rfl, rfl, rfl, rfl, rfl, rfl, rfl, rfl, rfl, rfl, rfl, trivial⟩ ?_
                            refine At.go ?_
                            refine Sc.region ?_
                            refine Sl.calm (Cm.move rfl) rfl ?_
                            refine Sl.calm (Cm.add64 rfl rfl (by omega)) rfl ?_
                            refine Sl.calm (Cm.assign rfl) rfl ?_
                            refine Sl.nil ?_
                            have hk2 : k = N - (i + 1) := by omega
                            rw [hk2, ← hfin] at hgo
                            exact At.again ⟨i + 1, T.2.1, out ++ (B.drop d).take (min (n - out.length) (j - d)), ⟨o6, c6⟩⟩ ⟨rfl, rfl, rfl, rfl, rfl, rfl, rfl, trivial⟩ ⟨by omega, by omega, hgo, by rw [List.length_append, List.length_take]; omega, hoo6, hfr6, hF6⟩ (by show N - (i + 1) < N - i; omega)
                    ·
                      have hgood : ¬ (T.1.length ≠ 0 ∧ T.1.length ≠ 128) := by omega
                      rw [rdGo_take hon h56 (by rw [← hT]; rintro (h | h); exact h77 h; exact hgood h), ← hT] at hgo
                      have hBl := blkD_len hgood
                      obtain ⟨B, hB⟩ : ∃ B, B = blkD T.1 := ⟨_, rfl⟩
                      rw [← hB] at hgo hBl
                      refine Sl.want rfl rfl (Cm.move rfl) rfl ?_
                      refine Sl.skip rfl rfl rfl rfl ?_
                      refine Sl.skip rfl rfl rfl rfl ?_
                      refine Sl.skip rfl rfl rfl rfl ?_
                      refine Sl.want rfl rfl (Cm.pick_f rfl rfl) rfl ?_
                      refine Sl.calm (Cm.pick_f rfl rfl) rfl ?_
                      refine Sl.nil ?_
                      refine At.weak [(0, _), (3, _), (4, _), (12, _), (13, _), (14, _), (15, _), (18, _), (19, _), (20, _), (52, _), (59, _), (87, _)] ⟨rfl, rfl, rfl, rfl, rfl, rfl, rfl, rfl, rfl, rfl, rfl, rfl, rfl, trivial⟩ ?_
                      refine At.go ?_
                      refine Sc.cond_f rfl ?_
                      refine Sc.skip ?_
                      refine At.go ?_
                      refine Sc.cut (β := Option Addr × Nat) (fun ⟨bo, bc⟩ => [(0, .slice io im.length ic), (3, .int .i64 (O : Nat)), (4, .int .i64 (n : Nat)), (12, .int .i64 (N : Nat)), (13, .slice oo out.length oc), (15, .int .i64 i), (18, .slice bo B.length bc), (19, .int .i64 T.2.1)]) (fun ⟨bo, bc⟩ w => Vw b8 w.heap bo bc B ∧ (∀ k, blk bo k → w2.heap.size ≤ k ∧ k < w.heap.size) ∧ Foot nob w3 w) ?_ ?_
                      ·
                        refine Sc.seq ?_
                        refine Sc.region ?_
                        refine Sl.calm (Cm.move rfl) rfl ?_
                        refine Sl.calm (Cm.len sl23 rfl) rfl ?_
                        refine Sl.fork (Cm.eql rfl rfl) rfl (fun h90 => ?_) (fun h90 => ?_)
                        ·
                          have hBz : B = List.replicate 128 0 := by rw [hB]; exact if_pos (by omega)
                          refine Sl.nil ?_
                          refine At.weak [(0, _), (3, _), (4, _), (12, _), (13, _), (14, _), (15, _), (18, _), (19, _), (20, _), (52, _), (59, _), (87, _), (90, _)] ⟨rfl, rfl, rfl, rfl, rfl, rfl, rfl, rfl, rfl, rfl, rfl, rfl, rfl, rfl, trivial⟩ ?_
                          refine At.go ?_
                          refine Sc.cond_t rfl ?_
                          refine Sc.region ?_
                          refine Sl.make b8 (0 : UInt8) sl23 z5 rfl rfl rfl (by decide) (by decide) (by decide) (by decide) rfl ?_
                          intro w4 ho4 hs4 hf4
                          refine Sl.calm (Cm.assign rfl) rfl ?_
                          refine Sl.nil ?_
                          exact At.cut ⟨some ⟨w3.heap.size, 0, none⟩, 128⟩ ⟨rfl, rfl, rfl, rfl, rfl, rfl, (by rw [hBl]; rfl), rfl, trivial⟩ ⟨by rw [hBz]; exact ho4.vw, (fun k ⟨a, ha, e⟩ => by cases ha; have e : w3.heap.size = k := e; exact ⟨by omega, by omega⟩), hf4⟩
                        ·
                          have hBz : B = T.1 := by rw [hB]; exact if_neg (by omega)
                          refine Sl.nil ?_
                          refine At.weak [(0, _), (3, _), (4, _), (12, _), (13, _), (14, _), (15, _), (18, _), (19, _), (20, _), (52, _), (59, _), (87, _), (90, _)] ⟨rfl, rfl, rfl, rfl, rfl, rfl, rfl, rfl, rfl, rfl, rfl, rfl, rfl, rfl, trivial⟩ ?_
                          refine At.go ?_
                          refine Sc.cond_f rfl ?_
                          refine Sc.skip ?_
                          exact At.cut ⟨o3, c3⟩ ⟨rfl, rfl, rfl, rfl, rfl, rfl, (by rw [hBz]; rfl), rfl, trivial⟩ ⟨by rw [hBz]; exact ho3.vw, (fun k ⟨a, ha, e⟩ => by have := hfr3 a ha; have := ho3.lt a ha; exact ⟨by omega, by omega⟩), Foot.refl _ _⟩
                      ·
                        rintro ⟨bo, bc⟩ w5 ⟨hbv, hbb, hf35⟩
                        obtain ⟨d, hd⟩ : ∃ d, d = O - i * 128 := ⟨_, rfl⟩
                        rw [← hd] at hgo
                        have hdl : (B.drop d).length = 128 - d := by rw [List.length_drop, hBl]
                        have hF5 := (hF2.trans hf3).trans hf35
                        have hoo5 := (hoo.grow hf3).grow hf35
                        have hlo := hoo.lt
                        have hz5 := hf35.size
                        refine Sc.seq ?_
                        refine Sc.seq ?_
                        refine Sc.region ?_
                        refine Sl.calm (Cm.assign rfl) rfl ?_
                        refine Sl.nil ?_
                        refine At.go ?_
                        refine Sc.block ?_
                        refine Sc.loop (β := Nat × (Option Addr × Nat)) (fun ⟨j, ⟨o6, c6⟩⟩ => [(0, .slice io im.length ic), (3, .int .i64 (O : Nat)), (4, .int .i64 (n : Nat)), (12, .int .i64 (N : Nat)), (13, .slice o6 (out ++ (B.drop d).take (min (n - out.length) (j - d))).length c6), (15, .int .i64 i), (18, .slice bo B.length bc), (19, .int .i64 T.2.1), (21, .int .i64 j)]) (fun ⟨j, ⟨o6, c6⟩⟩ w => j ≤ 128 ∧ Vw b8 w.heap bo bc B ∧ Own b8 5 w.heap o6 c6 (out ++ (B.drop d).take (min (n - out.length) (j - d))) ∧ (∀ a, o6 = some a → oo = some a ∨ w5.heap.size ≤ a.block) ∧ Fr W.heap.size o6 ∧ w5.heap.size ≤ w.heap.size ∧ Foot nob W w) (fun ⟨j, ⟨o6, c6⟩⟩ => 128 - j) ⟨0, ⟨oo, oc⟩⟩ ⟨rfl, rfl, rfl, rfl, (by rw [Nat.zero_sub, Nat.min_zero, List.take_zero, List.append_nil]; rfl), rfl, rfl, rfl, rfl, trivial⟩ ⟨Nat.zero_le _, hbv, by rw [Nat.zero_sub, Nat.min_zero, List.take_zero, List.append_nil]; exact hoo5, (fun a ha => .inl ha), hfro, Nat.le_refl _, hF5⟩ ?_
                        rintro ⟨j, ⟨o6, c6⟩⟩ w6 ⟨hj, hbv6, hoo6, hr6, hfr6, hzz, hF6⟩
                        have hol6 : (out ++ (B.drop d).take (min (n - out.length) (j - d))).length = out.length + min (n - out.length) (j - d) := by rw [List.length_append, List.length_take, hdl]; omega
                        refine Sc.seq ?_
                        refine Sc.seq ?_
                        refine Sc.region ?_
                        refine Sl.calm (Cm.move rfl) rfl ?_
                        refine Sl.fork (Cm.lss rfl rfl) rfl (fun h93 => ?_) (fun h93 => ?_)
                        ·
                          refine Sl.calm (Cm.move rfl) rfl ?_
                          refine Sl.want rfl rfl (Cm.move rfl) rfl ?_
                          refine Sl.want rfl rfl (Cm.len sl23 rfl) rfl ?_
                          refine Sl.want rfl rfl (Cm.move rfl) rfl ?_
                          refine Sl.forkWant rfl rfl (Cm.lss rfl rfl) rfl (fun h98 => ?_) (fun h98 => ?_)
                          ·
                            have hlt : j - d < n - out.length := by omega
                            have hj128 : j < 128 := by omega
                            refine Sl.calm (Cm.pick_t rfl rfl) rfl ?_
                            refine Sl.nil ?_
                            refine At.weak [(0, _), (3, _), (4, _), (12, _), (13, _), (15, _), (18, _), (19, _), (21, _), (99, _)] ⟨rfl, rfl, rfl, rfl, rfl, rfl, rfl, rfl, rfl, rfl, trivial⟩ ?_
                            refine At.go ?_
                            refine Sc.cond_t rfl ?_
                            refine Sc.skip ?_
                            refine At.go ?_
                            refine Sc.seq ?_
                            refine Sc.block ?_
                            refine Sc.seq ?_
                            refine Sc.region ?_
                            refine Sl.calm (Cm.move rfl) rfl ?_
                            refine Sl.calm (Cm.mul64 rfl rfl (by omega)) rfl ?_
                            refine Sl.calm (Cm.move rfl) rfl ?_
                            refine Sl.calm (Cm.add64 rfl rfl (by omega)) rfl ?_
                            refine Sl.calm (Cm.move rfl) rfl ?_
                            refine Sl.fork (Cm.geq rfl rfl) rfl (fun h107 => ?_) (fun h107 => ?_)
                            ·
                              have hdj : d ≤ j := by omega
                              have hstep : (B.drop d).take (min (n - out.length) (j + 1 - d)) = (B.drop d).take (min (n - out.length) (j - d)) ++ [B.getD j 0] := by
                                rw [Nat.min_eq_right (by omega), Nat.min_eq_right (by omega), show j + 1 - d = (j - d) + 1 by omega, take_one (by omega), drop_getD, show d + (j - d) = j by omega]
                              refine Sl.nil ?_
                              refine At.weak [(0, _), (3, _), (4, _), (12, _), (13, _), (15, _), (18, _), (19, _), (21, _), (99, _), (107, _)] ⟨rfl, rfl, rfl, rfl, rfl, rfl, rfl, rfl, rfl, rfl, rfl, trivial⟩ ?_
                              refine At.go ?_
                              refine Sc.cond_t rfl ?_
                              refine Sc.region ?_
                              refine Sl.calm (Cm.move rfl) rfl ?_
                              refine Sl.calm (Cm.move rfl) rfl ?_
                              refine Sl.calm (Cm.move rfl) rfl ?_
                              refine Sl.calm (Cm.indexAddr1 sl23 rfl rfl hbv6.non (by omega)) rfl ?_
                              refine Sl.calm (Cm.ld sca5 rfl (hbv6.gz 0 j rfl (by omega))) rfl ?_
                              refine Sl.lit1 (enc := b8) (u := B.getD j 0) sl23 (b8_one _) rfl rfl ?_
                              intro w7 ho7 hs7 hf7
                              refine Sl.append b8_one sl23 rfl rfl (hoo6.grow hf7) ho7.vw (by simp only [List.length_singleton]; omega) (by simp only [List.length_singleton]; unfold maxLen; omega) rfl ?_
                              intro o8 c8 w8 ho8 hf8 hr8 hn8
                              have hz7 := hf7.size
                              have hz8 := hf8.size
                              refine Sl.calm (Cm.assign rfl) rfl ?_
                              refine Sl.nil ?_
                              refine At.block_normal ?_
                              refine At.weak [(0, _), (3, _), (4, _), (12, _), (13, _), (15, _), (18, _), (19, _), (21, _), (99, _), (107, _)] ⟨rfl, rfl, rfl, rfl, rfl, rfl, rfl, rfl, rfl, rfl, rfl, trivial⟩ ?_
                              refine At.go ?_
                              refine Sc.region ?_
                              refine Sl.calm (Cm.move rfl) rfl ?_
                              refine Sl.calm (Cm.add64 rfl rfl (by omega)) rfl ?_
                              refine Sl.calm (Cm.assign rfl) rfl ?_
                              refine Sl.nil ?_
                              refine At.again ⟨j + 1, ⟨o8, c8⟩⟩ ⟨rfl, rfl, rfl, rfl, (by rw [hstep, ← List.append_assoc]; rfl), rfl, rfl, rfl, rfl, trivial⟩ ⟨by omega, (hbv6.grow hf7).keep hf8 (fun a ha ⟨c, hc, e⟩ => ?_), by rw [hstep, ← List.append_assoc]; exact ho8, (fun a ha => ?_), fr_next hfr6 hr8 (by have := hF6.size; omega), by omega, (hF6.trans hf7).trans_to hf8 (fun k ⟨a, ha, e⟩ => .inr (by have := hfr6 a ha; omega))⟩ (by show 128 - (j + 1) < 128 - j; omega)
                              · have h1 := hbb a.block ⟨a, ha, rfl⟩
                                rcases hr6 c hc with h | h
                                · have := hlo c h; omega
                                · omega
                              · rcases hr8 a ha with h | h
                                · exact hr6 a h
                                · exact .inr (by omega)
                            ·
                              have hstep : (B.drop d).take (min (n - out.length) (j + 1 - d)) = (B.drop d).take (min (n - out.length) (j - d)) := by rw [show j + 1 - d = j - d by omega]
                              refine Sl.nil ?_
                              refine At.weak [(0, _), (3, _), (4, _), (12, _), (13, _), (15, _), (18, _), (19, _), (21, _), (99, _), (107, _)] ⟨rfl, rfl, rfl, rfl, rfl, rfl, rfl, rfl, rfl, rfl, rfl, trivial⟩ ?_
                              refine At.go ?_
                              refine Sc.cond_f rfl ?_
                              refine Sc.skip ?_
                              refine At.block_normal ?_
                              refine At.go ?_
                              refine Sc.region ?_
                              refine Sl.calm (Cm.move rfl) rfl ?_
                              refine Sl.calm (Cm.add64 rfl rfl (by omega)) rfl ?_
                              refine Sl.calm (Cm.assign rfl) rfl ?_
                              refine Sl.nil ?_
                              exact At.again ⟨j + 1, ⟨o6, c6⟩⟩ ⟨rfl, rfl, rfl, rfl, (by rw [hstep]; rfl), rfl, rfl, rfl, rfl, trivial⟩ ⟨by omega, hbv6, by rw [hstep]; exact hoo6, hr6, hfr6, hzz, hF6⟩ (by show 128 - (j + 1) < 128 - j; omega)
                          ·
                            have hfin : (B.drop d).take (min (n - out.length) (j - d)) = (B.drop d).take (n - out.length) := by rw [Nat.min_eq_left (by omega)]
                            refine Sl.calm (Cm.pick_t rfl rfl) rfl ?_
                            refine Sl.nil ?_
                            refine At.weak [(0, _), (3, _), (4, _), (12, _), (13, _), (15, _), (18, _), (19, _), (21, _), (99, _)] ⟨rfl, rfl, rfl, rfl, rfl, rfl, rfl, rfl, rfl, rfl, trivial⟩ ?_
                            refine At.go ?_
                            refine Sc.cond_f rfl ?_
                            refine Sc.exit ?_
                            refine At.then_exit ?_
                            refine At.then_exit ?_
                            refine At.block_hit ?_
                            refine At.go ?_
                            refine Sc.region ?_
                            refine Sl.calm (Cm.move rfl) rfl ?_
                            refine Sl.calm (Cm.assign rfl) rfl ?_
                            refine Sl.nil ?_
                            refine At.block_normal ?_
                            refine At.weak [(0, _), (3, _), (4, _), (12, _), (13, _), (14, _), (15, _), (18, _), (19, _), (21, _), (99, _)] ⟨rfl, rfl, rfl, rfl, rfl, rfl, rfl, rfl, rfl, rfl, rfl, trivial⟩ ?_
                            refine At.go ?_
                            refine Sc.region ?_
                            refine Sl.calm (Cm.move rfl) rfl ?_
                            refine Sl.calm (Cm.add64 rfl rfl (by omega)) rfl ?_
                            refine Sl.calm (Cm.assign rfl) rfl ?_
                            refine Sl.nil ?_
                            have hk2 : k = N - (i + 1) := by omega
                            rw [hk2, ← hfin] at hgo
                            exact At.again ⟨i + 1, T.2.1, out ++ (B.drop d).take (min (n - out.length) (j - d)), ⟨o6, c6⟩⟩ ⟨rfl, rfl, rfl, rfl, rfl, rfl, rfl, trivial⟩ ⟨by omega, by omega, hgo, by rw [List.length_append, List.length_take]; omega, hoo6, hfr6, hF6⟩ (by show N - (i + 1) < N - i; omega)
                        ·
                          have hfin : (B.drop d).take (min (n - out.length) (j - d)) = (B.drop d).take (n - out.length) := by
                            by_cases h : n - out.length ≤ j - d
                            · rw [Nat.min_eq_left h]
                            · rw [List.take_of_length_le (by omega), List.take_of_length_le (by omega)]
                          refine Sl.calm (Cm.move rfl) rfl ?_
                          refine Sl.skip rfl rfl rfl rfl ?_
                          refine Sl.skip rfl rfl rfl rfl ?_
                          refine Sl.skip rfl rfl rfl rfl ?_
                          refine Sl.skip rfl rfl rfl rfl ?_
                          refine Sl.calm (Cm.pick_f rfl rfl) rfl ?_
                          refine Sl.nil ?_
                          refine At.weak [(0, _), (3, _), (4, _), (12, _), (13, _), (15, _), (18, _), (19, _), (21, _), (99, _)] ⟨rfl, rfl, rfl, rfl, rfl, rfl, rfl, rfl, rfl, rfl, trivial⟩ ?_
                          refine At.go ?_
                          refine Sc.cond_f rfl ?_
                          refine Sc.exit ?_
                          refine At.then_exit ?_
                          refine At.then_exit ?_
                          refine At.block_hit ?_
                          refine At.go ?_
                          refine Sc.region ?_
                          refine Sl.calm (Cm.move rfl) rfl ?_
                          refine Sl.calm (Cm.assign rfl) rfl ?_
                          refine Sl.nil ?_
                          refine At.block_normal ?_
                          refine At.weak [(0, _), (3, _), (4, _), (12, _), (13, _), (14, _), (15, _), (18, _), (19, _), (21, _), (99, _)] ⟨rfl, rfl, rfl, rfl, rfl, rfl, rfl, rfl, rfl, rfl, rfl, trivial⟩ ?_
                          refine At.go ?_
                          refine Sc.region ?_
                          refine Sl.calm (Cm.move rfl) rfl ?_
                          refine Sl.calm (Cm.add64 rfl rfl (by omega)) rfl ?_
                          refine Sl.calm (Cm.assign rfl) rfl ?_
                          refine Sl.nil ?_
                          have hk2 : k = N - (i + 1) := by omega
                          rw [hk2, ← hfin] at hgo
                          exact At.again ⟨i + 1, T.2.1, out ++ (B.drop d).take (min (n - out.length) (j - d)), ⟨o6, c6⟩⟩ ⟨rfl, rfl, rfl, rfl, rfl, rfl, rfl, trivial⟩ ⟨by omega, by omega, hgo, by rw [List.length_append, List.length_take]; omega, hoo6, hfr6, hF6⟩ (by show N - (i + 1) < N - i; omega)
              ·
                rw [rdGo_end (by omega)] at hgo
                refine Sl.calm (Cm.pick_t rfl rfl) rfl ?_
                refine Sl.nil ?_
                refine At.weak [(0, _), (3, _), (4, _), (12, _), (13, _), (14, _), (15, _), (52, _)] ⟨rfl, rfl, rfl, rfl, rfl, rfl, rfl, rfl, trivial⟩ ?_
                refine At.go ?_
                refine Sc.cond_f rfl ?_
                refine Sc.exit ?_
                refine At.then_exit ?_
                refine At.then_exit ?_
                refine At.block_hit ?_
                refine At.go ?_
                refine Sc.seq ?_
                refine Sc.region ?_
                refine Sl.calm (Cm.move rfl) rfl ?_
                refine Sl.calm (Cm.assign rfl) rfl ?_
                refine Sl.calm (Cm.assign rfl) rfl ?_
                refine Sl.nil ?_
                refine At.weak [(0, _), (3, _), (4, _), (10, _), (11, _), (12, _), (13, _), (14, _), (15, _), (52, _)] ⟨rfl, rfl, rfl, rfl, rfl, rfl, rfl, rfl, rfl, rfl, trivial⟩ ?_
                refine At.go ?_
                refine Sc.ret ?_
                refine At.ret2 rfl rfl rfl ?_
                rw [← hgo]
                exact ⟨_, rfl, oo, oc, rfl, hoo, hfro, hF2⟩
            ·
              have hend : rdGo im O n (N - i) i a out = (out, 0) := by rw [show N - i = 0 by omega]; rfl
              rw [hend] at hgo
              refine Sl.calm (Cm.move rfl) rfl ?_
              refine Sl.skip rfl rfl rfl rfl ?_
              refine Sl.skip rfl rfl rfl rfl ?_
              refine Sl.skip rfl rfl rfl rfl ?_
              refine Sl.skip rfl rfl rfl rfl ?_
              refine Sl.calm (Cm.pick_f rfl rfl) rfl ?_
              refine Sl.nil ?_
              refine At.weak [(0, _), (3, _), (4, _), (12, _), (13, _), (14, _), (15, _), (52, _)] ⟨rfl, rfl, rfl, rfl, rfl, rfl, rfl, rfl, trivial⟩ ?_
              refine At.go ?_
              refine Sc.cond_f rfl ?_
              refine Sc.exit ?_
              refine At.then_exit ?_
              refine At.then_exit ?_
              refine At.block_hit ?_
              refine At.go ?_
              refine Sc.seq ?_
              refine Sc.region ?_
              refine Sl.calm (Cm.move rfl) rfl ?_
              refine Sl.calm (Cm.assign rfl) rfl ?_
              refine Sl.calm (Cm.assign rfl) rfl ?_
              refine Sl.nil ?_
              refine At.weak [(0, _), (3, _), (4, _), (10, _), (11, _), (12, _), (13, _), (14, _), (15, _), (52, _)] ⟨rfl, rfl, rfl, rfl, rfl, rfl, rfl, rfl, rfl, rfl, trivial⟩ ?_
              refine At.go ?_
              refine Sc.ret ?_
              refine At.ret2 rfl rfl rfl ?_
              rw [← hgo]
              exact ⟨_, rfl, oo, oc, rfl, hoo, hfro, hF2⟩
end Go.Proofs.YtpnfjfbfgaiolaaDoor
