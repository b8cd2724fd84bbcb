/- data: any blocks of any image. No condition beyond the bounds that each states. -/
import Derived.Test.YtpnfjfbfgaiolaaDoorDaIk
import Derived.Test.YtpnfjfbfgaiolaaDoorDaSk
import Derived.Test.YtpnfjfbfgaiolaaDoorLiftEk
namespace Go.Proofs.YtpnfjfbfgaiolaaDoor
open Go Go.RowKit
set_option linter.unusedVariables false

theorem askN_one (k : Nat) (F : Nat → Int) : ∀ v ∈ askN k F, v.oneCell' = true := by
  intro v hv
  obtain ⟨i, _, rfl⟩ := List.mem_map.1 hv
  rfl
theorem askN_len (k : Nat) (F : Nat → Int) : (askN k F).length = k := by simp [askN]
set_option maxHeartbeats 8000000 in
theorem dataReads_ok (io : Option Addr) (ic : Nat) (im0 : List UInt8) (lo : Option Addr) (lc : Nat) (L : List (Nat → Int)) (W : World) (hv0 : Vw b8 W.heap io ic im0) (hl0 : VwM 5 (askN 5) W.heap lo lc L) (hlb : ∀ x ∈ L, ∀ i, -9223372036854775808 ≤ x i ∧ x i ≤ 9223372036854775807) :
    Calls Tryd.prog 6 [.slice io im0.length ic, .slice lo L.length lc].toArray W (Ret fun v w' => v = .bool true ∧ Foot nob W w') := by
  obtain ⟨im, him⟩ : ∃ b, b = im0.take 3000 := ⟨_, rfl⟩
  have himl : im.length ≤ 3000 := by rw [him, List.length_take]; omega
  have hv : Vw b8 W.heap io ic im := by rw [him]; exact hv0.take 3000
  have hle := hv0.le
  have hll := hl0.len63
  refine calls_of_sc 111 [(0, _), (1, _)] Tryd.func6 rfl rfl rfl (enter_slots ⟨rfl, rfl, trivial⟩) ?_
  refine Sc.seq ?_
  refine Sc.region ?_
  refine Sl.calm (Cm.assign rfl) rfl ?_
  refine Sl.nil ?_
  refine At.go ?_
  refine Sc.seq ?_
  refine Sc.region ?_
  refine Sl.call fn8 rfl (shown12_ok W) rfl ?_
  rintro _ w1 ⟨rfl, hf1⟩
  refine Sl.calm (Cm.assign rfl) rfl ?_
  refine Sl.nil ?_
  refine At.weak [(0, _), (1, _), (4, _), (5, _)] ⟨rfl, rfl, rfl, rfl, trivial⟩ ?_
  refine At.go ?_
  refine Sc.cut (β := Unit) (fun _u => [(0, .slice io im.length ic), (1, .slice lo L.length lc), (5, .bool true)]) (fun _u w => w = w1) ?_ ?_
  ·
    refine Sc.seq ?_
    refine Sc.region ?_
    refine Sl.calm (Cm.move rfl) rfl ?_
    refine Sl.calm (Cm.len sl23 rfl) rfl ?_
    refine Sl.fork (Cm.gtr rfl rfl) rfl (fun h20 => ?_) (fun h20 => ?_)
    ·
      refine Sl.nil ?_
      refine At.weak [(0, _), (1, _), (4, _), (5, _), (20, _)] ⟨rfl, rfl, rfl, rfl, rfl, trivial⟩ ?_
      refine At.go ?_
      refine Sc.cond_t rfl ?_
      refine Sc.region ?_
      refine Sl.calm (Cm.move rfl) rfl ?_
      refine Sl.calm (Cm.ofEq (u := .slice io im.length ic) (Cm.sliceH sl23 rfl rfl (by omega)) (by rw [cutAo_zero, him, List.length_take, Nat.min_eq_left (by omega)]; rfl)) rfl ?_
      refine Sl.calm (Cm.assign rfl) rfl ?_
      refine Sl.nil ?_
      exact At.cut () ⟨rfl, rfl, rfl, trivial⟩ rfl
    ·
      refine Sl.nil ?_
      refine At.weak [(0, _), (1, _), (4, _), (5, _), (20, _)] ⟨rfl, rfl, rfl, rfl, rfl, trivial⟩ ?_
      refine At.go ?_
      refine Sc.cond_f rfl ?_
      refine Sc.skip ?_
      exact At.cut () ⟨(by rw [him, List.take_of_length_le (by omega)]; rfl), rfl, rfl, trivial⟩ rfl
  ·
    rintro _ wq hwq
    obtain rfl : w1 = wq := hwq.symm
    refine Sc.seq ?_
    refine Sc.region ?_
    refine Sl.call fn10 rfl (crcnew_ok w1) rfl ?_
    rintro _ w3 ⟨rfl, hf3⟩
    refine Sl.allocC zc28 rfl ?_
    intro w4 hg4 hs4 hf4
    refine Sl.storeAll (vs := tab) aggTab rfl rfl tab_one hg4 (by rw [tab_len, List.length_replicate]) ?_
    intro w5 hg5 hs5 hf5
    obtain ⟨p, hp⟩ : ∃ p, p = w3.heap.size := ⟨_, rfl⟩
    have hF5 : Foot nob W w5 := ((hf1.trans hf3).trans hf4).trans_to hf5 (fun k hk => .inr (by have h : k = w3.heap.size := hk; have := (hf1.trans hf3).size; omega))
    rw [← hp] at hg5 ⊢
    have ht5 : TbV w5.heap p := hg5
    refine Sl.nil ?_
    refine At.weak [(0, _), (1, _), (5, _), (6, _)] ⟨rfl, rfl, rfl, rfl, trivial⟩ ?_
    refine At.go ?_
    refine Sc.seq ?_
    refine Sc.seq ?_
    refine Sc.region ?_
    refine Sl.calm (Cm.assign rfl) rfl ?_
    refine Sl.nil ?_
    refine At.go ?_
    refine Sc.block ?_
    refine Sc.loop (β := Nat) (fun i => [(0, .slice io im.length ic), (1, .slice lo L.length lc), (5, .bool true), (6, .pointer (some ⟨p, 0, none⟩)), (7, .int .i64 i)]) (fun i w => i ≤ 15 ∧ Foot nob w5 w) (fun i => 15 - i) 0 ⟨rfl, rfl, rfl, rfl, rfl, trivial⟩ ⟨Nat.zero_le _, Foot.refl _ _⟩ ?_
    rintro i w6 ⟨hi, hF6⟩
    refine Sc.seq ?_
    refine Sc.seq ?_
    refine Sc.region ?_
    refine Sl.calm (Cm.move rfl) rfl ?_
    refine Sl.calm (Cm.move rfl) rfl ?_
    refine Sl.calm (Cm.len sl49 rfl) rfl ?_
    refine Sl.fork (Cm.lss rfl rfl) rfl (fun h27 => ?_) (fun h27 => ?_)
    ·
      have hiL : i < L.length := by omega
      obtain ⟨x, hx⟩ : ∃ x, L[i]? = some x := ⟨_, List.getElem?_eq_getElem hiL⟩
      have hxb := hlb x (List.mem_of_getElem? hx)
      have hl6 := hl0.keep (hF5.trans hF6) (fun _ _ => id)
      have hv6 := hv.grow (hF5.trans hF6)
      have ht6 := hF6.obj ht5 id
      refine Sl.calm (Cm.move rfl) rfl ?_
      refine Sl.want rfl rfl (Cm.move rfl) rfl ?_
      refine Sl.forkWant rfl rfl (Cm.lss rfl rfl) rfl (fun h30 => ?_) (fun h30 => ?_)
      ·
        refine Sl.calm (Cm.pick_t rfl rfl) rfl ?_
        refine Sl.nil ?_
        refine At.weak [(0, _), (1, _), (5, _), (6, _), (7, _), (31, _)] ⟨rfl, rfl, rfl, rfl, rfl, rfl, trivial⟩ ?_
        refine At.go ?_
        refine Sc.cond_t rfl ?_
        refine Sc.skip ?_
        refine At.go ?_
        refine Sc.seq ?_
        refine Sc.block ?_
        refine Sc.seq ?_
        refine Sc.region ?_
        refine Sl.calm (Cm.move rfl) rfl ?_
        refine Sl.calm (Cm.move rfl) rfl ?_
        refine Sl.calm (Cm.indexAddr sl49 rfl rfl hl6.non (by omega)) rfl ?_
        refine Sl.calm (Cm.ldM (cs := askN 5 x) agg51 rfl (fun j v hj => hl6.rowZ i rfl hx j v hj)) rfl ?_
        refine Sl.allocC zc51 rfl ?_
        intro w7 hg7 hs7 hf7
        obtain ⟨q, hq⟩ : ∃ q, q = w6.heap.size := ⟨_, rfl⟩
        rw [← hq] at hg7 ⊢
        have hq6 : w6.heap.size ≤ q := Nat.le_of_eq hq.symm
        refine Sl.storeAll (vs := askN 5 x) agg51 rfl rfl (askN_one 5 x) hg7 rfl ?_
        intro w8 hg8 hs8 hf8
        have hF68 : Foot nob w6 w8 := hf7.trans_to hf8 (fun k e => .inr (by have e : k = q := e; omega))
        have hv8 := hv6.grow hF68
        have ht8 := hF68.obj ht6 id
        refine Sl.nil ?_
        refine At.weak [(0, _), (1, _), (5, _), (6, _), (7, _), (8, _), (31, _)] ⟨rfl, rfl, rfl, rfl, rfl, rfl, rfl, trivial⟩ ?_
        refine At.go ?_
        refine Sc.seq ?_
        refine Sc.draw 17 (fun H => H[q]? = some (.cells (askN 5 x).toArray 51 (0, 0))) [0, 2, 11] [1, 3, 4, 5, 6, 7, 8, 9, 10, 0, 2, 11, 12, 13, 14, 15, 16] mixed (by kernel_rfl) (hg8) ?_
        refine Sx.calm rfl rfl (Cm.move rfl) rfl ?_
        refine Sx.calm rfl rfl (Cm.field fld51_0 rfl) rfl ?_
        refine Sx.calm rfl rfl (Cm.load sca3 rfl (fun H hH => cellF hH rfl)) rfl ?_
        refine Sx.calm rfl rfl (Cm.field fld51_1 rfl) rfl ?_
        refine Sx.calm rfl rfl (Cm.load sca3 rfl (fun H hH => cellF hH rfl)) rfl ?_
        refine Sx.calm rfl rfl (Cm.field fld51_2 rfl) rfl ?_
        refine Sx.calm rfl rfl (Cm.load sca3 rfl (fun H hH => cellF hH rfl)) rfl ?_
        refine Sx.calm rfl rfl (Cm.field fld51_3 rfl) rfl ?_
        refine Sx.calm rfl rfl (Cm.load sca3 rfl (fun H hH => cellF hH rfl)) rfl ?_
        refine Sx.eff rfl rfl (Sl.lit0 b8 sl23 rfl ?_)
        intro w9 ho9 hs9 hf9
        have hf9 := hf9.undraw
        refine Sx.on (by exact hf9.obj hg8 id) ?_
        refine Sx.eff rfl rfl (Sl.append b8_one sl23 rfl rfl ho9 (hv8.grow hf9) (by simp only [List.length_nil]; omega) (by simp only [List.length_nil]; unfold maxLen; omega) rfl ?_)
        intro o10 c10 w10 ho10 hf10 hr10 hn10
        rw [List.nil_append] at ho10 ⊢
        have hF810 : Foot nob w8 w10 := hf9.trans_to hf10 (fr_at _).step
        refine Sx.on (by exact hF810.obj hg8 id) ?_
        refine Sx.eff rfl rfl (Sl.call fn17 rfl (dread_ok p o10 c10 im (x 0) (x 1) (x 2) (x 3) w10 (hF810.obj ht8 id) ho10.vw (by omega) (hxb 0).2 (hxb 2).2 (hxb 3).2) rfl ?_)
        rintro _ w11 ⟨o11, c11, rfl, ho11, hfr11, hf11⟩
        refine Sx.on (by exact hf11.obj (hF810.obj hg8 id) id) ?_
        have hF811 := hF810.trans hf11
        have hg11 := hF811.obj hg8 id
        have hv11 := hv8.grow hF811
        obtain ⟨R, hR⟩ : ∃ R, R = readD im (x 0) (x 1) (x 2) (x 3) := ⟨_, rfl⟩
        obtain ⟨K, hK⟩ : ∃ K, K = walkD im (x 0) (x 1) (x 4) := ⟨_, rfl⟩
        rw [← hR] at ho11 ⊢
        refine Sx.calm rfl rfl (Cm.move rfl) rfl ?_
        refine Sx.calm rfl rfl (Cm.extract rfl rfl) rfl ?_
        refine Sx.calm rfl rfl (Cm.extract rfl rfl) rfl ?_
        refine Sx.calm rfl rfl (Cm.assign rfl) rfl ?_
        refine Sx.calm rfl rfl (Cm.assign rfl) rfl ?_
        refine Sx.nil ?_
        refine At.weak [(0, _), (1, _), (5, _), (6, _), (7, _), (8, _), (9, _), (10, _), (31, _)] ⟨rfl, rfl, rfl, rfl, rfl, rfl, rfl, rfl, rfl, trivial⟩ ?_
        refine At.go ?_
        refine Sc.seq ?_
        refine Sc.region ?_
        refine Sl.calm (Cm.move rfl) rfl ?_
        refine Sl.calm (Cm.field fld51_0 rfl) rfl ?_
        refine Sl.calm (Cm.ld sca3 rfl (cellF hg11 rfl)) rfl ?_
        refine Sl.calm (Cm.field fld51_1 rfl) rfl ?_
        refine Sl.calm (Cm.ld sca3 rfl (cellF hg11 rfl)) rfl ?_
        refine Sl.calm (Cm.field fld51_2 rfl) rfl ?_
        refine Sl.calm (Cm.ld sca3 rfl (cellF hg11 rfl)) rfl ?_
        refine Sl.calm (Cm.field fld51_3 rfl) rfl ?_
        refine Sl.calm (Cm.ld sca3 rfl (cellF hg11 rfl)) rfl ?_
        refine Sl.call fn18 rfl (rdread_ok io ic im (x 0) (x 1) (x 2) (x 3) w11 hv11 (by omega) (hxb 0).2 (hxb 2).2 (hxb 3).2) rfl ?_
        rw [← hR]
        rintro _ w12 ⟨o12, c12, rfl, ho12, hfr12, hf12⟩
        have hg12 := hf12.obj hg11 id
        have hv12 := hv11.grow hf12
        refine Sl.calm (Cm.move rfl) rfl ?_
        refine Sl.calm (Cm.extract rfl rfl) rfl ?_
        refine Sl.calm (Cm.extract rfl rfl) rfl ?_
        refine Sl.calm (Cm.assign rfl) rfl ?_
        refine Sl.calm (Cm.assign rfl) rfl ?_
        refine Sl.nil ?_
        refine At.weak [(0, _), (1, _), (5, _), (6, _), (7, _), (8, _), (9, _), (10, _), (11, _), (12, _), (31, _)] ⟨rfl, rfl, rfl, rfl, rfl, rfl, rfl, rfl, rfl, rfl, rfl, trivial⟩ ?_
        refine At.go ?_
        refine Sc.seq ?_
        refine Sc.draw 15 (fun H => H[q]? = some (.cells (askN 5 x).toArray 51 (0, 0))) [0, 2, 9] [1, 3, 4, 5, 6, 7, 8, 0, 2, 9, 10, 11, 12, 13, 14] mixed (by kernel_rfl) (hg12) ?_
        refine Sx.calm rfl rfl (Cm.move rfl) rfl ?_
        refine Sx.calm rfl rfl (Cm.field fld51_0 rfl) rfl ?_
        refine Sx.calm rfl rfl (Cm.load sca3 rfl (fun H hH => cellF hH rfl)) rfl ?_
        refine Sx.calm rfl rfl (Cm.field fld51_1 rfl) rfl ?_
        refine Sx.calm rfl rfl (Cm.load sca3 rfl (fun H hH => cellF hH rfl)) rfl ?_
        refine Sx.calm rfl rfl (Cm.field fld51_4 rfl) rfl ?_
        refine Sx.calm rfl rfl (Cm.load sca3 rfl (fun H hH => cellF hH rfl)) rfl ?_
        refine Sx.eff rfl rfl (Sl.lit0 b8 sl23 rfl ?_)
        intro w13 ho13 hs13 hf13
        have hf13 := hf13.undraw
        refine Sx.on (by exact hf13.obj hg12 id) ?_
        refine Sx.eff rfl rfl (Sl.append b8_one sl23 rfl rfl ho13 (hv12.grow hf13) (by simp only [List.length_nil]; omega) (by simp only [List.length_nil]; unfold maxLen; omega) rfl ?_)
        intro o14 c14 w14 ho14 hf14 hr14 hn14
        rw [List.nil_append] at ho14 ⊢
        have hF1214 : Foot nob w12 w14 := hf13.trans_to hf14 (fr_at _).step
        refine Sx.on (by exact hF1214.obj hg12 id) ?_
        refine Sx.eff rfl rfl (Sl.call fn19 rfl (dwalk_ok o14 c14 im (x 0) (x 1) (x 4) w14 ho14.vw (by omega) (hxb 0).2) rfl ?_)
        rw [← hK]
        rintro _ w15 ⟨rfl, hf15⟩
        refine Sx.on (by exact hf15.obj (hF1214.obj hg12 id) id) ?_
        have hF1215 := hF1214.trans hf15
        have hg15 := hF1215.obj hg12 id
        have hv15 := hv12.grow hF1215
        refine Sx.calm rfl rfl (Cm.move rfl) rfl ?_
        refine Sx.calm rfl rfl (Cm.extract rfl rfl) rfl ?_
        refine Sx.calm rfl rfl (Cm.extract rfl rfl) rfl ?_
        refine Sx.calm rfl rfl (Cm.assign rfl) rfl ?_
        refine Sx.calm rfl rfl (Cm.assign rfl) rfl ?_
        refine Sx.nil ?_
        refine At.weak [(0, _), (1, _), (5, _), (6, _), (7, _), (8, _), (9, _), (10, _), (11, _), (12, _), (13, _), (14, _), (31, _)] ⟨rfl, rfl, rfl, rfl, rfl, rfl, rfl, rfl, rfl, rfl, rfl, rfl, rfl, trivial⟩ ?_
        refine At.go ?_
        refine Sc.seq ?_
        refine Sc.region ?_
        refine Sl.calm (Cm.move rfl) rfl ?_
        refine Sl.calm (Cm.field fld51_0 rfl) rfl ?_
        refine Sl.calm (Cm.ld sca3 rfl (cellF hg15 rfl)) rfl ?_
        refine Sl.calm (Cm.field fld51_1 rfl) rfl ?_
        refine Sl.calm (Cm.ld sca3 rfl (cellF hg15 rfl)) rfl ?_
        refine Sl.calm (Cm.field fld51_4 rfl) rfl ?_
        refine Sl.calm (Cm.ld sca3 rfl (cellF hg15 rfl)) rfl ?_
        refine Sl.call fn20 rfl (rdwalk_ok io ic im (x 0) (x 1) (x 4) w15 hv15 (by omega) (hxb 0).2) rfl ?_
        rw [← hK]
        rintro _ w16 ⟨rfl, hf16⟩
        have hF1216 := hF1215.trans hf16
        have hF616 := ((hF68.trans hF811).trans hf12).trans hF1216
        refine Sl.calm (Cm.move rfl) rfl ?_
        refine Sl.calm (Cm.extract rfl rfl) rfl ?_
        refine Sl.calm (Cm.extract rfl rfl) rfl ?_
        refine Sl.calm (Cm.assign rfl) rfl ?_
        refine Sl.calm (Cm.assign rfl) rfl ?_
        refine Sl.nil ?_
        refine At.weak [(0, _), (1, _), (5, _), (6, _), (7, _), (8, _), (9, _), (10, _), (11, _), (12, _), (13, _), (14, _), (15, _), (16, _), (31, _)] ⟨rfl, rfl, rfl, rfl, rfl, rfl, rfl, rfl, rfl, rfl, rfl, rfl, rfl, rfl, rfl, trivial⟩ ?_
        refine At.go ?_
        refine Sc.seq ?_
        refine Sc.region ?_
        refine Sl.calm (Cm.move rfl) rfl ?_
        refine Sl.calm (Cm.strIn sl23 ty5 ty9 rfl ((ho11.grow hf12).grow hF1216).vw) rfl ?_
        refine Sl.calm (Cm.move rfl) rfl ?_
        refine Sl.calm (Cm.strIn sl23 ty5 ty9 rfl (ho12.grow hF1216).vw) rfl ?_
        refine Sl.calm (Cm.no (Cm.neqBs rfl rfl) (fun h => h rfl)) rfl ?_
        refine Sl.calm (Cm.move rfl) rfl ?_
        refine Sl.want rfl rfl (Cm.move rfl) rfl ?_
        refine Sl.want rfl rfl (Cm.move rfl) rfl ?_
        refine Sl.want rfl rfl (Cm.no (Cm.neq rfl rfl) (fun h => h rfl)) rfl ?_
        refine Sl.calm (Cm.pick_f rfl rfl) rfl ?_
        refine Sl.calm (Cm.move rfl) rfl ?_
        refine Sl.want rfl rfl (Cm.move rfl) rfl ?_
        refine Sl.want rfl rfl (Cm.move rfl) rfl ?_
        refine Sl.want rfl rfl (Cm.no (Cm.neq rfl rfl) (fun h => h rfl)) rfl ?_
        refine Sl.calm (Cm.pick_f rfl rfl) rfl ?_
        refine Sl.calm (Cm.move rfl) rfl ?_
        refine Sl.want rfl rfl (Cm.move rfl) rfl ?_
        refine Sl.want rfl rfl (Cm.move rfl) rfl ?_
        refine Sl.want rfl rfl (Cm.no (Cm.neq rfl rfl) (fun h => h rfl)) rfl ?_
        refine Sl.calm (Cm.pick_f rfl rfl) rfl ?_
        refine Sl.nil ?_
        refine At.weak [(0, _), (1, _), (5, _), (6, _), (7, _), (8, _), (9, _), (10, _), (11, _), (12, _), (13, _), (14, _), (15, _), (16, _), (31, _), (109, _)] ⟨rfl, rfl, rfl, rfl, rfl, rfl, rfl, rfl, rfl, rfl, rfl, rfl, rfl, rfl, rfl, rfl, trivial⟩ ?_
        refine At.go ?_
        refine Sc.cond_f rfl ?_
        refine Sc.skip ?_
        refine At.block_normal ?_
        refine At.go ?_
        refine Sc.region ?_
        refine Sl.calm (Cm.move rfl) rfl ?_
        refine Sl.calm (Cm.add64 rfl rfl (by omega)) rfl ?_
        refine Sl.calm (Cm.assign rfl) rfl ?_
        refine Sl.nil ?_
        exact At.again (i + 1) ⟨rfl, rfl, rfl, rfl, rfl, trivial⟩ ⟨by omega, hF6.trans hF616⟩ (by show 15 - (i + 1) < 15 - i; omega)
      ·
        refine Sl.calm (Cm.pick_t rfl rfl) rfl ?_
        refine Sl.nil ?_
        refine At.weak [(0, _), (1, _), (5, _), (6, _), (7, _), (31, _)] ⟨rfl, rfl, rfl, rfl, rfl, rfl, trivial⟩ ?_
        refine At.go ?_
        refine Sc.cond_f rfl ?_
        refine Sc.exit ?_
        refine At.then_exit ?_
        refine At.then_exit ?_
        refine At.block_hit ?_
        refine At.go ?_
        refine Sc.seq ?_
        refine Sc.region ?_
        refine Sl.calm (Cm.move rfl) rfl ?_
        refine Sl.calm (Cm.assign rfl) rfl ?_
        refine Sl.nil ?_
        refine At.weak [(0, _), (1, _), (4, _), (5, _), (6, _), (7, _), (31, _)] ⟨rfl, rfl, rfl, rfl, rfl, rfl, rfl, trivial⟩ ?_
        refine At.go ?_
        refine Sc.ret ?_
        refine At.ret1 rfl rfl ?_
        exact ⟨_, rfl, rfl, hF5.trans hF6⟩
    ·
      refine Sl.calm (Cm.move rfl) rfl ?_
      refine Sl.skip rfl rfl rfl rfl ?_
      refine Sl.skip rfl rfl rfl rfl ?_
      refine Sl.calm (Cm.pick_f rfl rfl) rfl ?_
      refine Sl.nil ?_
      refine At.weak [(0, _), (1, _), (5, _), (6, _), (7, _), (31, _)] ⟨rfl, rfl, rfl, rfl, rfl, rfl, trivial⟩ ?_
      refine At.go ?_
      refine Sc.cond_f rfl ?_
      refine Sc.exit ?_
      refine At.then_exit ?_
      refine At.then_exit ?_
      refine At.block_hit ?_
      refine At.go ?_
      refine Sc.seq ?_
      refine Sc.region ?_
      refine Sl.calm (Cm.move rfl) rfl ?_
      refine Sl.calm (Cm.assign rfl) rfl ?_
      refine Sl.nil ?_
      refine At.weak [(0, _), (1, _), (4, _), (5, _), (6, _), (7, _), (31, _)] ⟨rfl, rfl, rfl, rfl, rfl, rfl, rfl, trivial⟩ ?_
      refine At.go ?_
      refine Sc.ret ?_
      refine At.ret1 rfl rfl ?_
      exact ⟨_, rfl, rfl, hF5.trans hF6⟩
end Go.Proofs.YtpnfjfbfgaiolaaDoor
