/- meta: the law on images of any kind. No condition beyond the bounds that each states. -/
import Derived.Test.YtlpfahmkjgompaaMtI
namespace Go.Proofs.Ytlpfahmkjgompaa
open Go Go.RowKit
set_option linter.unusedVariables false

theorem arrI2 : ArrT Try.prog 60 3 2 1 := ⟨by kernel_rfl, by kernel_rfl⟩
theorem tmod_b (n : Int) : n.tmod 1000 ≤ 999 := by
  have h1 := Int.tmod_lt_of_pos n (show (0 : Int) < 1000 by decide)
  omega
def bd2 (x : Int × Int) : Prop := (-9223372036854775808 ≤ x.1 ∧ x.1 ≤ 9223372036854775807) ∧ (-9223372036854775808 ≤ x.2 ∧ x.2 ≤ 9223372036854775807)
set_option maxHeartbeats 4000000 in
theorem metaReads_ok (io : Option Addr) (ic : Nat) (im0 : List UInt8) (fr to : Int) (lo : Option Addr) (lc : Nat) (L : List (Int × Int)) (W : World) (hv0 : Vw b8 W.heap io ic im0) (hl0 : VwM 2 ask2V W.heap lo lc L) (hlb : ∀ x ∈ L, bd2 x) :
    Calls Try.prog 12 [.slice io im0.length ic, .agg #[.int .i64 fr, .int .i64 to], .slice lo L.length lc].toArray W (Ret fun v w' => v = .bool true ∧ Foot nob W w') := by
  obtain ⟨im, him⟩ : ∃ b, b = im0.take 3000 := ⟨_, rfl⟩
  have himl : im.length ≤ 3000 := by rw [him, List.length_take]; omega
  have hv : Vw b8 W.heap io ic im := by rw [him]; exact hv0.take 3000
  have hle := hv0.le
  have hll := hl0.len63
  refine calls_of_sc 136 [(0, _), (1, _), (2, _)] Try.func12 rfl rfl rfl (enter_slots ⟨rfl, rfl, rfl, trivial⟩) ?_
  refine Sc.seq ?_
  refine Sc.region ?_
  refine Sl.box rfl rfl ?_
  intro w0 hg0 hs0 hf0
  obtain ⟨q, hq⟩ : ∃ q, q = W.heap.size := ⟨_, rfl⟩
  rw [← hq] at hg0 ⊢
  refine Sl.calm (Cm.assign rfl) rfl ?_
  refine Sl.nil ?_
  refine At.go ?_
  refine Sc.seq ?_
  refine Sc.region ?_
  refine Sl.call fn23 rfl (shown05_ok w0) rfl ?_
  rintro _ w1 ⟨rfl, hf1⟩
  have hF1 := hf0.trans hf1
  refine Sl.calm (Cm.assign rfl) rfl ?_
  refine Sl.nil ?_
  refine At.weak [(0, _), (1, _), (2, _), (4, _), (6, _), (7, _)] ⟨rfl, rfl, rfl, rfl, rfl, rfl, trivial⟩ ?_
  refine At.go ?_
  refine Sc.cut (β := Unit) (fun _u => [(0, .slice io im.length ic), (2, .slice lo L.length lc), (4, .pointer (some ⟨q, 0, none⟩)), (7, .bool true)]) (fun _u w => w = w1) ?_ ?_
  ·
    refine Sc.seq ?_
    refine Sc.region ?_
    refine Sl.calm (Cm.move rfl) rfl ?_
    refine Sl.calm (Cm.len sl22 rfl) rfl ?_
    refine Sl.fork (Cm.gtr rfl rfl) rfl (fun h26 => ?_) (fun h26 => ?_)
    ·
      refine Sl.nil ?_
      refine At.weak [(0, _), (1, _), (2, _), (4, _), (6, _), (7, _), (26, _)] ⟨rfl, rfl, rfl, rfl, rfl, rfl, rfl, trivial⟩ ?_
      refine At.go ?_
      refine Sc.cond_t rfl ?_
      refine Sc.region ?_
      refine Sl.calm (Cm.move rfl) rfl ?_
      refine Sl.calm (Cm.sliceH sl22 rfl rfl (by omega)) rfl ?_
      refine Sl.calm (Cm.assign rfl) rfl ?_
      refine Sl.nil ?_
      refine At.cut () ⟨by rw [him]; exact cutN5 (n := 3000) (by omega) 1, rfl, rfl, rfl, trivial⟩ rfl
    ·
      refine Sl.nil ?_
      refine At.weak [(0, _), (1, _), (2, _), (4, _), (6, _), (7, _), (26, _)] ⟨rfl, rfl, rfl, rfl, rfl, rfl, rfl, trivial⟩ ?_
      refine At.go ?_
      refine Sc.cond_f rfl ?_
      refine Sc.skip ?_
      refine At.cut () ⟨by rw [him]; exact nocutN5 (n := 3000) (by omega), rfl, rfl, rfl, trivial⟩ rfl
  ·
    rintro _ wq hwq
    subst wq
    refine Sc.seq ?_
    refine Sc.region ?_
    refine Sl.call fn16 rfl (crcnew_ok w1) rfl ?_
    rintro _ w3 ⟨rfl, hf3⟩
    refine Sl.allocC zc27 rfl ?_
    intro w4 hg4 hs4 hf4
    refine Sl.storeAll (vs := tab) aggTab rfl rfl tab_one hg4 (by rw [tab_len, List.length_replicate]) ?_
    intro w5 hg5 hs5 hf5
    obtain ⟨p, hp⟩ : ∃ p, p = w3.heap.size := ⟨_, rfl⟩
    have hF5 : Foot nob W w5 := ((hF1.trans hf3).trans hf4).trans_to hf5 (fun k hk => .inr (by have h : k = w3.heap.size := hk; have := (hF1.trans hf3).size; omega))
    rw [← hp] at hg5 ⊢
    have ht5 : TbV w5.heap p := hg5
    have hq5 : w5.heap[q]? = some (.cells #[.int .i64 fr, .int .i64 to] 60 (0, 0)) := by
      have h1 := (hf1.trans (hf3.trans hf4)).obj hg0 id
      refine hf5.obj h1 (fun e => ?_)
      have h2 : q = w3.heap.size := e
      have := (hF1.trans hf3).size; have := hf1.trans hf3 |>.size; omega
    refine Sl.nil ?_
    refine At.weak [(0, _), (2, _), (4, _), (7, _), (8, _)] ⟨rfl, rfl, rfl, rfl, rfl, trivial⟩ ?_
    refine At.go ?_
    refine Sc.seq ?_
    refine Sc.draw 9 (fun H => H[q]? = some (.cells #[.int .i64 fr, .int .i64 to] 60 (0, 0))) [0, 2, 7] [1, 3, 4, 5, 6, 0, 2, 7, 8] mixed (by kernel_rfl) (hq5) ?_
    refine Sx.calm rfl rfl (Cm.move rfl) rfl ?_
    refine Sx.calm rfl rfl (Cm.ofEq (u := .pointer (some ⟨q, 0, none⟩)) (Cm.indexArr arrI2 rfl rfl (by omega)) (by rw [Addr.add_lit]; rfl)) rfl ?_
    refine Sx.calm rfl rfl (Cm.load sca3 rfl (fun H hH => cellF0 hH rfl)) rfl ?_
    refine Sx.calm rfl rfl (Cm.ofEq (u := .pointer (some ⟨q, 1, none⟩)) (Cm.indexArr arrI2 rfl rfl (by omega)) (by rw [Addr.add_lit]; rfl)) rfl ?_
    refine Sx.calm rfl rfl (Cm.load sca3 rfl (fun H hH => cellF0 hH rfl)) rfl ?_
    refine Sx.eff rfl rfl (Sl.lit0 b8 sl22 rfl ?_)
    intro w6 ho6 hs6 hf6
    have hf6 := hf6.undraw
    refine Sx.on (by exact hf6.obj hq5 id) ?_
    refine Sx.eff rfl rfl (Sl.append b8_one sl22 rfl rfl ho6 ((hv.grow hF5).grow hf6) (by simp only [List.length_nil]; omega) (by simp only [List.length_nil]; unfold maxLen; omega) rfl ?_)
    intro o7 c7 w7 ho7 hf7 hr7 hn7
    rw [List.nil_append] at ho7 ⊢
    have hF57 : Foot nob w5 w7 := hf6.trans_to hf7 (fun k ⟨a, ha, hk⟩ => .inr (by cases ha; have h : w5.heap.size = k := hk; omega))
    have hq7 := hF57.obj hq5 id
    refine Sx.on (by exact hq7) ?_
    refine Sx.eff rfl rfl (Sl.call fn30 rfl (mopenA_ok p o7 c7 im fr to w7 (hF57.obj ht5 id) ho7.vw (by omega)) rfl ?_)
    rintro _ w8 ⟨h, rfl, hh, hR8, hf8⟩
    refine Sx.on (by exact hf8.obj hq7 id) ?_
    have hF8 := (hF5.trans hF57).trans hf8
    have hq8 := hf8.obj hq7 id
    have hz8 := hf8.size
    refine Sx.calm rfl rfl (Cm.assign rfl) rfl ?_
    refine Sx.nil ?_
    refine At.weak [(0, _), (2, _), (4, _), (7, _), (8, _), (9, _)] ⟨rfl, rfl, rfl, rfl, rfl, rfl, trivial⟩ ?_
    refine At.go ?_
    refine Sc.seq ?_
    refine Sc.region ?_
    refine Sl.calm (Cm.move rfl) rfl ?_
    refine Sl.calm (Cm.ofEq (u := .pointer (some ⟨q, 0, none⟩)) (Cm.indexArr arrI2 rfl rfl (by omega)) (by rw [Addr.add_lit]; rfl)) rfl ?_
    refine Sl.calm (Cm.ld sca3 rfl (cellF0 hq8 rfl)) rfl ?_
    refine Sl.calm (Cm.ofEq (u := .pointer (some ⟨q, 1, none⟩)) (Cm.indexArr arrI2 rfl rfl (by omega)) (by rw [Addr.add_lit]; rfl)) rfl ?_
    refine Sl.calm (Cm.ld sca3 rfl (cellF0 hq8 rfl)) rfl ?_
    refine Sl.calm (Cm.build (cs := #[.slice io im.length ic, .int .i64 fr, .int .i64 to]) plc64 zc64 rfl (by kernel_rfl)) rfl ?_
    refine Sl.box rfl rfl ?_
    intro w9 hg9 hs9 hf9
    obtain ⟨y, hy⟩ : ∃ y, y = w8.heap.size := ⟨_, rfl⟩
    rw [← hy] at hg9 ⊢
    have hF9 := hF8.trans hf9
    have hY9 : RrV w9.heap y io ic im fr to := ⟨hg9, hv.grow hF9⟩
    have hR9 := hR8.grow hf9
    have hz9 := hf9.size
    refine Sl.calm (Cm.assign rfl) rfl ?_
    refine Sl.nil ?_
    refine At.weak [(0, _), (2, _), (4, _), (7, _), (8, _), (9, _), (10, _)] ⟨rfl, rfl, rfl, rfl, rfl, rfl, rfl, trivial⟩ ?_
    refine At.go ?_
    refine Sc.seq ?_
    refine Sc.seq ?_
    refine Sc.region ?_
    refine Sl.calm (Cm.move rfl) rfl ?_
    refine Sl.calm (Cm.not rfl) rfl ?_
    refine Sl.calm (Cm.move rfl) rfl ?_
    refine Sl.want rfl rfl (Cm.move rfl) rfl ?_
    refine Sl.want rfl rfl (Cm.eqlPtrNil ptr55 rfl rfl) rfl ?_
    refine Sl.calm (Cm.pick_f rfl rfl) rfl ?_
    refine Sl.nil ?_
    refine At.weak [(0, _), (2, _), (4, _), (7, _), (8, _), (9, _), (10, _), (50, _)] ⟨rfl, rfl, rfl, rfl, rfl, rfl, rfl, rfl, trivial⟩ ?_
    refine At.go ?_
    refine Sc.cond_f rfl ?_
    refine Sc.skip ?_
    refine At.go ?_
    refine Sc.seq ?_
    refine Sc.seq ?_
    refine Sc.region ?_
    refine Sl.calm (Cm.assign rfl) rfl ?_
    refine Sl.nil ?_
    refine At.go ?_
    refine Sc.block ?_
    refine Sc.loop (β := Nat × (Nat → Prop)) (fun ⟨i, R⟩ => [(2, .slice lo L.length lc), (9, .pointer (some ⟨h, 0, none⟩)), (10, .pointer (some ⟨y, 0, none⟩)), (11, .int .i64 i)]) (fun ⟨i, R⟩ w => i ≤ 20 ∧ MrO R w.heap h p im fr to ∧ (∀ k, R k → w7.heap.size ≤ k ∧ k < w.heap.size) ∧ ¬ R y ∧ RrV w.heap y io ic im fr to ∧ Foot nob w7 w) (fun ⟨i, R⟩ => 20 - i) ⟨0, fun k => w7.heap.size ≤ k ∧ k < w8.heap.size⟩ ⟨rfl, rfl, rfl, rfl, trivial⟩ ⟨Nat.zero_le _, hR9, (fun k hk => ⟨hk.1, by have := hk.2; omega⟩), (fun hk => by have := hk.2; omega), hY9, hf8.trans hf9⟩ ?_
    rintro ⟨i, R⟩ w10 ⟨hi, hR10, hRd, hyR, hY10, hF710⟩
    refine Sc.seq ?_
    refine Sc.seq ?_
    refine Sc.region ?_
    refine Sl.calm (Cm.move rfl) rfl ?_
    refine Sl.calm (Cm.move rfl) rfl ?_
    refine Sl.calm (Cm.len sl61 rfl) rfl ?_
    refine Sl.fork (Cm.lss rfl rfl) rfl (fun h54 => ?_) (fun h54 => ?_)
    ·
      have hiL : i < L.length := by omega
      obtain ⟨x, hx⟩ : ∃ x, L[i]? = some x := ⟨_, List.getElem?_eq_getElem hiL⟩
      obtain ⟨b1, b2⟩ := hlb x (List.mem_of_getElem? hx)
      have hl10 := hl0.keep ((hF5.trans hF57).trans hF710) (fun _ _ => id)
      refine Sl.calm (Cm.move rfl) rfl ?_
      refine Sl.want rfl rfl (Cm.move rfl) rfl ?_
      refine Sl.forkWant rfl rfl (Cm.lss rfl rfl) rfl (fun h57 => ?_) (fun h57 => ?_)
      ·
        refine Sl.calm (Cm.pick_t rfl rfl) rfl ?_
        refine Sl.nil ?_
        refine At.weak [(2, _), (9, _), (10, _), (11, _), (58, _)] ⟨rfl, rfl, rfl, rfl, rfl, trivial⟩ ?_
        refine At.go ?_
        refine Sc.cond_t rfl ?_
        refine Sc.skip ?_
        refine At.go ?_
        refine Sc.seq ?_
        refine Sc.block ?_
        refine Sc.seq ?_
        refine Sc.region ?_
        refine Sl.calm (Cm.move rfl) rfl ?_
        refine Sl.calm (Cm.move rfl) rfl ?_
        refine Sl.calm (Cm.indexAddr sl61 rfl rfl hl10.non (by omega)) rfl ?_
        refine Sl.calm (Cm.field fld66_1 rfl) rfl ?_
        refine Sl.calm (Cm.ld sca3 rfl (hl10.rowZ i rfl hx 1 _ rfl)) rfl ?_
        refine Sl.calm (Cm.remW rfl rfl (by decide)) rfl ?_
        obtain ⟨n, hn⟩ : ∃ n : Int, n = x.2.tmod 1000 := ⟨_, rfl⟩
        have hnb := tmod_b x.2
        rw [← hn] at hnb
        rw [← hn]
        obtain ⟨r, hr⟩ : ∃ r, r = readS im fr to x.1 n := ⟨_, rfl⟩
        obtain ⟨s, hs⟩ : ∃ s, s = nextS im fr to x.1 := ⟨_, rfl⟩
        refine Sl.calm (Cm.assign rfl) rfl ?_
        refine Sl.nil ?_
        refine At.weak [(2, _), (9, _), (10, _), (11, _), (12, _), (58, _)] ⟨rfl, rfl, rfl, rfl, rfl, rfl, trivial⟩ ?_
        refine At.go ?_
        refine Sc.seq ?_
        refine Sc.region ?_
        refine Sl.calm (Cm.move rfl) rfl ?_
        refine Sl.calm (Cm.move rfl) rfl ?_
        refine Sl.calm (Cm.move rfl) rfl ?_
        refine Sl.calm (Cm.indexAddr sl61 rfl rfl hl10.non (by omega)) rfl ?_
        refine Sl.calm (Cm.field fld66_0 rfl) rfl ?_
        refine Sl.calm (Cm.ld sca3 rfl (hl10.rowZ i rfl hx 0 _ rfl)) rfl ?_
        refine Sl.calm (Cm.move rfl) rfl ?_
        refine Sl.call fn31 rfl (mreadA_ok R h p im fr to x.1 n w10 hR10 (by omega) b1 (by omega)) rfl ?_
        rw [← hr]
        rintro _ w11 ⟨o11, c11, rfl, ho11, hfr11, hR11, hF11⟩
        have hz11 := hF11.size
        have hF811 : Foot nob w7 w11 := hF710.trans_to hF11 (fun k hk => .inr (hRd k hk).1)
        have hY11 : RrV w11.heap y io ic im fr to := ⟨hF11.obj hY10.1 hyR, hv.grow ((hF5.trans hF57).trans hF811)⟩
        have hl11 := hl0.keep ((hF5.trans hF57).trans hF811) (fun _ _ => id)
        refine Sl.calm (Cm.move rfl) rfl ?_
        refine Sl.calm (Cm.extract rfl rfl) rfl ?_
        refine Sl.calm (Cm.extract rfl rfl) rfl ?_
        refine Sl.calm (Cm.extract rfl rfl) rfl ?_
        refine Sl.calm (Cm.assign rfl) rfl ?_
        refine Sl.calm (Cm.assign rfl) rfl ?_
        refine Sl.calm (Cm.assign rfl) rfl ?_
        refine Sl.nil ?_
        refine At.weak [(2, _), (9, _), (10, _), (11, _), (12, _), (13, _), (14, _), (15, _), (58, _)] ⟨rfl, rfl, rfl, rfl, rfl, rfl, rfl, rfl, rfl, trivial⟩ ?_
        refine At.go ?_
        refine Sc.seq ?_
        refine Sc.region ?_
        refine Sl.calm (Cm.move rfl) rfl ?_
        refine Sl.calm (Cm.move rfl) rfl ?_
        refine Sl.calm (Cm.move rfl) rfl ?_
        refine Sl.calm (Cm.indexAddr sl61 rfl rfl hl11.non (by omega)) rfl ?_
        refine Sl.calm (Cm.field fld66_0 rfl) rfl ?_
        refine Sl.calm (Cm.ld sca3 rfl (hl11.rowZ i rfl hx 0 _ rfl)) rfl ?_
        refine Sl.calm (Cm.move rfl) rfl ?_
        refine Sl.call fn32 rfl (rmread_ok y io ic im fr to x.1 n w11 hY11 (by omega) b1 (by omega)) rfl ?_
        rw [← hr]
        rintro _ w12 ⟨o12, c12, rfl, ho12, hfr12, hf12⟩
        have hR12 := hR11.grow hf12
        have hY12 := hY11.grow hf12
        have hl12 := hl11.keep hf12 (fun _ _ => id)
        refine Sl.calm (Cm.move rfl) rfl ?_
        refine Sl.calm (Cm.extract rfl rfl) rfl ?_
        refine Sl.calm (Cm.extract rfl rfl) rfl ?_
        refine Sl.calm (Cm.extract rfl rfl) rfl ?_
        refine Sl.calm (Cm.assign rfl) rfl ?_
        refine Sl.calm (Cm.assign rfl) rfl ?_
        refine Sl.calm (Cm.assign rfl) rfl ?_
        refine Sl.nil ?_
        refine At.weak [(2, _), (9, _), (10, _), (11, _), (12, _), (13, _), (14, _), (15, _), (16, _), (17, _), (18, _), (58, _)] ⟨rfl, rfl, rfl, rfl, rfl, rfl, rfl, rfl, rfl, rfl, rfl, rfl, trivial⟩ ?_
        refine At.go ?_
        refine Sc.seq ?_
        refine Sc.region ?_
        refine Sl.calm (Cm.move rfl) rfl ?_
        refine Sl.calm (Cm.move rfl) rfl ?_
        refine Sl.calm (Cm.move rfl) rfl ?_
        refine Sl.calm (Cm.indexAddr sl61 rfl rfl hl12.non (by omega)) rfl ?_
        refine Sl.calm (Cm.field fld66_0 rfl) rfl ?_
        refine Sl.calm (Cm.ld sca3 rfl (hl12.rowZ i rfl hx 0 _ rfl)) rfl ?_
        refine Sl.call fn33 rfl (mnext_ok _ h p im fr to x.1 w12 hR12 (by omega) b1) rfl ?_
        rw [← hs]
        rintro _ w13 ⟨rfl, hf13⟩
        have hl13 := hl12.keep hf13 (fun _ _ => id)
        refine Sl.calm (Cm.move rfl) rfl ?_
        refine Sl.calm (Cm.extract rfl rfl) rfl ?_
        refine Sl.calm (Cm.extract rfl rfl) rfl ?_
        refine Sl.calm (Cm.assign rfl) rfl ?_
        refine Sl.calm (Cm.assign rfl) rfl ?_
        refine Sl.nil ?_
        refine At.weak [(2, _), (9, _), (10, _), (11, _), (12, _), (13, _), (14, _), (15, _), (16, _), (17, _), (18, _), (19, _), (20, _), (58, _)] ⟨rfl, rfl, rfl, rfl, rfl, rfl, rfl, rfl, rfl, rfl, rfl, rfl, rfl, rfl, trivial⟩ ?_
        refine At.go ?_
        refine Sc.seq ?_
        refine Sc.region ?_
        refine Sl.calm (Cm.move rfl) rfl ?_
        refine Sl.calm (Cm.move rfl) rfl ?_
        refine Sl.calm (Cm.move rfl) rfl ?_
        refine Sl.calm (Cm.indexAddr sl61 rfl rfl hl13.non (by omega)) rfl ?_
        refine Sl.calm (Cm.field fld66_0 rfl) rfl ?_
        refine Sl.calm (Cm.ld sca3 rfl (hl13.rowZ i rfl hx 0 _ rfl)) rfl ?_
        refine Sl.call fn34 rfl (rmnext_ok y io ic im fr to x.1 w13 (hY12.grow hf13) (by omega) b1) rfl ?_
        rw [← hs]
        rintro _ w14 ⟨rfl, hf14⟩
        have hf1114 := (hf12.trans hf13).trans hf14
        refine Sl.calm (Cm.move rfl) rfl ?_
        refine Sl.calm (Cm.extract rfl rfl) rfl ?_
        refine Sl.calm (Cm.extract rfl rfl) rfl ?_
        refine Sl.calm (Cm.assign rfl) rfl ?_
        refine Sl.calm (Cm.assign rfl) rfl ?_
        refine Sl.nil ?_
        refine At.weak [(2, _), (9, _), (10, _), (11, _), (12, _), (13, _), (14, _), (15, _), (16, _), (17, _), (18, _), (19, _), (20, _), (21, _), (22, _), (58, _)] ⟨rfl, rfl, rfl, rfl, rfl, rfl, rfl, rfl, rfl, rfl, rfl, rfl, rfl, rfl, rfl, rfl, trivial⟩ ?_
        refine At.go ?_
        refine Sc.seq ?_
        refine Sc.region ?_
        refine Sl.calm (Cm.move rfl) rfl ?_
        refine Sl.calm (Cm.strIn sl22 ty5 ty9 rfl (ho11.grow hf1114).vw) rfl ?_
        refine Sl.calm (Cm.move rfl) rfl ?_
        refine Sl.calm (Cm.strIn sl22 ty5 ty9 rfl (ho12.grow (hf13.trans hf14)).vw) rfl ?_
        refine Sl.calm (Cm.no (Cm.neqBs rfl rfl) (fun h => h rfl)) rfl ?_
        refine Sl.calm (Cm.move rfl) rfl ?_
        refine Sl.want rfl rfl (Cm.move rfl) rfl ?_
        refine Sl.want rfl rfl (Cm.move rfl) rfl ?_
        refine Sl.want rfl rfl (Cm.no (Cm.neq rfl rfl) (fun h => h rfl)) rfl ?_
        refine Sl.calm (Cm.pick_f rfl rfl) rfl ?_
        refine Sl.calm (Cm.move rfl) rfl ?_
        refine Sl.want rfl rfl (Cm.move rfl) rfl ?_
        refine Sl.want rfl rfl (Cm.move rfl) rfl ?_
        refine Sl.want rfl rfl (Cm.no (Cm.neq rfl rfl) (fun h => h rfl)) rfl ?_
        refine Sl.calm (Cm.pick_f rfl rfl) rfl ?_
        refine Sl.calm (Cm.move rfl) rfl ?_
        refine Sl.want rfl rfl (Cm.move rfl) rfl ?_
        refine Sl.want rfl rfl (Cm.move rfl) rfl ?_
        refine Sl.want rfl rfl (Cm.no (Cm.neq rfl rfl) (fun h => h rfl)) rfl ?_
        refine Sl.calm (Cm.pick_f rfl rfl) rfl ?_
        refine Sl.calm (Cm.move rfl) rfl ?_
        refine Sl.want rfl rfl (Cm.move rfl) rfl ?_
        refine Sl.want rfl rfl (Cm.move rfl) rfl ?_
        refine Sl.want rfl rfl (Cm.no (Cm.neq rfl rfl) (fun h => h rfl)) rfl ?_
        refine Sl.calm (Cm.pick_f rfl rfl) rfl ?_
        refine Sl.nil ?_
        refine At.weak [(2, _), (9, _), (10, _), (11, _), (12, _), (13, _), (14, _), (15, _), (16, _), (17, _), (18, _), (19, _), (20, _), (21, _), (22, _), (58, _), (135, _)] ⟨rfl, rfl, rfl, rfl, rfl, rfl, rfl, rfl, rfl, rfl, rfl, rfl, rfl, rfl, rfl, rfl, rfl, trivial⟩ ?_
        refine At.go ?_
        refine Sc.cond_f rfl ?_
        refine Sc.skip ?_
        refine At.block_normal ?_
        refine At.go ?_
        refine Sc.region ?_
        refine Sl.calm (Cm.move rfl) rfl ?_
        refine Sl.calm (Cm.add64 rfl rfl (by omega)) rfl ?_
        refine Sl.calm (Cm.assign rfl) rfl ?_
        refine Sl.nil ?_
        have hf714 := hF811.trans hf1114
        have hz14 := hf1114.size
        have hyl := (Array.getElem?_eq_some_iff.1 hY10.1).1
        exact At.again ⟨i + 1, fun k => Nx R w10 w11 k ∧ ¬ blk o11 k⟩ ⟨rfl, rfl, rfl, rfl, trivial⟩ ⟨by omega, hR11.grow hf1114, (fun k hk => by rcases hk.1 with h2 | h2; have := hRd k h2; exact ⟨this.1, by omega⟩; have h3 := h2.1; have h4 := h2.2; have := hF710.size; exact ⟨by omega, by omega⟩), (fun hk => by rcases hk.1 with h2 | h2; exact hyR h2; have := h2.1; omega), (hY12.grow hf13).grow hf14, hf714⟩ (by show 20 - (i + 1) < 20 - i; omega)
      ·
        refine Sl.calm (Cm.pick_t rfl rfl) rfl ?_
        refine Sl.nil ?_
        refine At.weak [(2, _), (9, _), (10, _), (11, _), (58, _)] ⟨rfl, rfl, rfl, rfl, rfl, trivial⟩ ?_
        refine At.go ?_
        refine Sc.cond_f rfl ?_
        refine Sc.exit ?_
        refine At.then_exit ?_
        refine At.then_exit ?_
        refine At.block_hit ?_
        refine At.go ?_
        refine Sc.seq ?_
        refine Sc.region ?_
        refine Sl.calm (Cm.assign rfl) rfl ?_
        refine Sl.nil ?_
        refine At.go ?_
        refine Sc.ret ?_
        refine At.ret1 rfl rfl ?_
        exact ⟨_, rfl, rfl, (hF5.trans hF57).trans hF710⟩
    ·
      refine Sl.calm (Cm.move rfl) rfl ?_
      refine Sl.skip rfl rfl rfl rfl ?_
      refine Sl.skip rfl rfl rfl rfl ?_
      refine Sl.calm (Cm.pick_f rfl rfl) rfl ?_
      refine Sl.nil ?_
      refine At.weak [(2, _), (9, _), (10, _), (11, _), (58, _)] ⟨rfl, rfl, rfl, rfl, rfl, trivial⟩ ?_
      refine At.go ?_
      refine Sc.cond_f rfl ?_
      refine Sc.exit ?_
      refine At.then_exit ?_
      refine At.then_exit ?_
      refine At.block_hit ?_
      refine At.go ?_
      refine Sc.seq ?_
      refine Sc.region ?_
      refine Sl.calm (Cm.assign rfl) rfl ?_
      refine Sl.nil ?_
      refine At.go ?_
      refine Sc.ret ?_
      refine At.ret1 rfl rfl ?_
      exact ⟨_, rfl, rfl, (hF5.trans hF57).trans hF710⟩
end Go.Proofs.Ytlpfahmkjgompaa
