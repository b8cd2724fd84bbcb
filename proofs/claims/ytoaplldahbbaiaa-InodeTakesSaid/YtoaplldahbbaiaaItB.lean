/- inode: Take, the program's. No condition beyond the bounds that each states. -/
import Derived.Test.YtoaplldahbbaiaaItA
import Derived.Test.YtoaplldahbbaiaaGb
namespace Go.Proofs.Ytoaplldahbbaiaa
open Go Go.RowKit
set_option linter.unusedVariables false

def TkP (W : World) (b : List UInt8) : Value → World → Prop := fun v w' => v = .tuple #[.agg (inoC (tkF b) (tkT b)).toArray, .int .i64 (tkE b)] ∧ Foot nob W w'
theorem tk_yes {b : List UInt8} (h : TkOk b) : tkF b = gFn b ∧ tkT b = gT b ∧ tkE b = 0 := by unfold tkF tkT tkE; rw [if_pos h, if_pos h, if_pos h]; exact ⟨rfl, rfl, rfl⟩
theorem tk_no {b : List UInt8} (h : ¬ TkOk b) : tkF b = (fun _ => 0) ∧ tkT b = [] ∧ tkE b = 2 := by unfold tkF tkT tkE; rw [if_neg h, if_neg h, if_neg h]; exact ⟨rfl, rfl, rfl⟩
theorem gF_len (q : Rd × (Nat → Int)) (x : Fd) : (gF q x).1.2.length ≤ q.1.2.length := cutR_len _ _ _
theorem gSt_succ (b : List UInt8) (k : Nat) (h : k < (recL (gK b)).length) : gSt b (k + 1) = gF (gSt b k) ((recL (gK b)).getD k fd0) := by
  unfold gSt
  rw [fd_off h, List.foldl_append]; rfl
theorem gSt_len (b : List UInt8) : ∀ k, k ≤ (recL (gK b)).length → (gSt b k).1.2.length ≤ b.length
  | 0, _ => cutR_len _ _ _
  | k + 1, h => by rw [gSt_succ b k (by omega)]; exact Nat.le_trans (gF_len _ _) (gSt_len b k (by omega))
theorem gSt_end (b : List UInt8) : gSt b (recL (gK b)).length = gR b := by unfold gSt gR; rw [List.take_length]
theorem gSt_0 (b : List UInt8) : ∀ k, k ≤ (recL (gK b)).length → (gSt b k).2 0 = gK b
  | 0, _ => by show upd (fun _ => 0) 0 (gK b) 0 = _; simp [upd]
  | k + 1, h => by
    have hm := recL_at (k := gK b) (i := k) (by omega)
    have := (recL_off hm).1.2.2.1
    rw [gSt_succ b k (by omega)]
    show upd (gSt b k).2 _ _ 0 = _
    unfold upd
    rw [if_neg (by omega)]; exact gSt_0 b k (by omega)

theorem cutB_le (E : Int) (ys : List UInt8) (n : Int) : (cutB E ys n).length ≤ ys.length := by unfold cutB; split <;> simp; omega
theorem gT_len (b : List UInt8) : (gT b).length ≤ b.length := by
  unfold gT
  split
  · have h1 := gSt_len b _ (Nat.le_refl _)
    rw [gSt_end] at h1
    have h2 := tR_len (gR b).1.1 (gR b).1.2
    have h3 := cutB_le (tE (gR b).1.1 (gR b).1.2) (tR (gR b).1.1 (gR b).1.2) (tN (gR b).1.1 (gR b).1.2)
    unfold gTx; omega
  · simp

set_option maxHeartbeats 2000000 in
theorem take_ok (b : List UInt8) (ao0 : Option Addr) (c0 : Nat) (W : World) (hv : Vw b8 W.heap ao0 c0 b) (hb : b.length ≤ 1099511627776) :
    Calls Try.prog 25 [.slice ao0 b.length c0].toArray W (Ret (TkP W b)) := by
  refine calls_of_sc 48 [(0, _)] Try.func25 rfl rfl rfl (enter_slots ⟨rfl, trivial⟩) ?_
  refine Sc.seq ?_
  refine Sc.region ?_
  refine Sl.allocC zc33 rfl ?_
  intro w1 hg1 hs1 hf1
  have hg1 : w1.heap[W.heap.size]? = some (.cells (inoC (fun _ => 0) []).toArray 33 (0, 0)) := hg1
  refine Sl.calm (Cm.assign rfl) rfl ?_
  refine Sl.nil ?_
  refine At.go ?_
  refine Sc.seq ?_
  refine Sc.region ?_
  refine Sl.calm (Cm.move rfl) rfl ?_
  refine Sl.call fn54 rfl (rdnew_ok ao0 c0 b w1 (hv.grow hf1) (by omega)) rfl ?_
  rintro _ w2 ⟨p, rfl, hp1, hP2, hf2⟩
  have hlp := hP2.lt
  refine Sl.calm (Cm.assign rfl) rfl ?_
  refine Sl.nil ?_
  refine At.weak [(0, _), (2, _), (3, _), (4, _)] ⟨rfl, rfl, rfl, rfl, trivial⟩ ?_
  refine At.go ?_
  refine Sc.seq ?_
  refine Sc.region ?_
  refine Sl.calm (Cm.move rfl) rfl ?_
  refine Sl.call fn55 rfl (rdnum_ok p 0 b 1 w2 hP2 hb) rfl ?_
  rintro _ w3 ⟨rfl, hP3, hf3⟩
  have hP3 : RdL _ w3.heap p (g0 b).1.1 (g0 b).1.2 := hP3
  have hg3 := hf3.obj (hf2.obj hg1 id) (by omega)
  refine Sl.calm (Cm.build (cs := (inoC (g0 b).2 []).toArray) plc33 zc33 rfl (by kernel_rfl)) rfl ?_
  refine Sl.allocC zc33 rfl ?_
  intro w4 hg4 hs4 hf4
  refine Sl.storeAll (vs := inoC (g0 b).2 []) agg33 rfl rfl (by intro v hv; exact inoC_one _ _ v hv) hg4 rfl ?_
  intro w5 hg5 hs5 hf5
  have hz2 := hf2.size
  have hz3 := hf3.size
  have hF5 : Foot nob w3 w5 := hf4.trans_to hf5 (fun k hk => .inr (by have : k = w3.heap.size := hk; omega))
  have hP5 := hP3.grow hF5
  have hg5r := hF5.obj hg3 id
  have hz5 := hF5.size
  have hFW5 : Foot nob W w5 := (((hf1.trans hf2).any.trans hf3).fresh (fun k hk => by have : k = p := hk; omega)).trans hF5
  refine Sl.nil ?_
  refine At.weak [(0, _), (2, _), (3, _), (4, _), (5, _)] ⟨rfl, rfl, rfl, rfl, rfl, trivial⟩ ?_
  refine At.go ?_
  refine Sc.seq ?_
  refine Sc.seq ?_
  refine Sc.draw 7 (fun H => H[w3.heap.size]? = some (.cells (inoC (g0 b).2 []).toArray 33 (0, 0))) [0, 3, 4] [1, 2, 6, 0, 3, 4, 5] mixed (by kernel_rfl) (hg5) ?_
  refine Sx.calm rfl rfl (Cm.field fld33_0 rfl) rfl ?_
  refine Sx.calm rfl rfl (Cm.load sca3 rfl (fun H hH => cellF hH rfl)) rfl ?_
  refine Sx.calm rfl rfl (Cm.move rfl) rfl ?_
  refine Sx.eff rfl rfl (Sl.call fn52 rfl (common_ok _) rfl ?_)
  rintro _ w6 ⟨ao2, c2, rfl, ho2, hfr2, hf6⟩
  refine Sx.on (by exact hf6.obj hg5 id) ?_
  refine Sx.eff rfl rfl (Sl.call fn53 rfl (fields_ok (gK b) _) rfl ?_)
  rintro _ w7 ⟨ao3, c3, rfl, ho3, hfr3, hf7⟩
  refine Sx.on (by exact hf7.obj (hf6.obj hg5 id) id) ?_
  refine Sx.eff rfl rfl (Sl.appendM fdV_cells rfl sl94 rfl rfl (ho2.grow hf7) (ho3.vw fdV_cells) (by have := recL_len (gK b); unfold recL at this; rw [List.length_append] at this; omega) (by have := recL_len (gK b); unfold recL at this; rw [List.length_append] at this; unfold maxLen; omega) rfl ?_)
  intro ao4 c4 w8 ho4 hf8 hr4 hn4
  have hfr2 : Fr w5.heap.size ao2 := hfr2
  have hf6 := hf6.undraw
  have hz6 := hf6.size
  have hz7 := hf7.size
  have hF8 : Foot nob w5 w8 := (hf6.trans hf7).trans_to hf8 hfr2.step
  have hg8 := hF8.obj hg5 id
  have hz8 := hF8.size
  have hLlen := recL_len (gK b)
  refine Sx.on (by exact hg8) ?_
  refine Sx.calm rfl rfl (Cm.len sl94 rfl) rfl ?_
  refine Sx.nil ?_
  refine At.weak [(0, _), (2, _), (3, _), (4, _), (5, _), (17, _), (18, _), (19, _)] ⟨rfl, rfl, rfl, rfl, rfl, rfl, rfl, rfl, trivial⟩ ?_
  refine At.go ?_
  refine Sc.block ?_
  have hne4 : ∀ a, ao4 = some a → w5.heap.size ≤ a.block ∧ a.block < w8.heap.size := fun a ha => ⟨by rcases hr4 a ha with h | h; exact hfr2 a h; omega, ho4.lt a ha⟩
  refine Sc.loop (β := Nat) (fun k => [(2, .pointer (some ⟨W.heap.size, 0, none⟩)), (4, .pointer (some ⟨p, 0, none⟩)), (5, .pointer (some ⟨w3.heap.size, 0, none⟩)), (17, .slice ao4 (recL (gK b)).length c4), (18, .int .i64 (recL (gK b)).length), (19, .int .i64 k)]) (fun k w => k ≤ (recL (gK b)).length ∧ RdL (fun k => w1.heap.size ≤ k ∧ k < w2.heap.size) w.heap p (gSt b k).1.1 (gSt b k).1.2 ∧ w.heap[w3.heap.size]? = some (.cells (inoC (gSt b k).2 []).toArray 33 (0, 0)) ∧ VwM 3 fdV w.heap ao4 c4 (recL (gK b)) ∧ w.heap[W.heap.size]? = some (.cells (inoC (fun _ => 0) []).toArray 33 (0, 0)) ∧ w8.heap.size ≤ w.heap.size ∧ Foot nob W w) (fun k => (recL (gK b)).length - k) 0 ⟨rfl, rfl, rfl, rfl, rfl, rfl, trivial⟩ ⟨Nat.zero_le _, hP5.grow hF8, hg8, ho4.vw fdV_cells, hF8.obj hg5r id, Nat.le_refl _, hFW5.trans hF8⟩ ?_
  rintro k w9 ⟨hk, hP9, hq, hL, hr9, hlt9, hF9⟩
  refine Sc.seq ?_
  refine Sc.region ?_
  refine Sl.fork (Cm.lss rfl rfl) rfl (fun h20 => ?_) (fun h20 => ?_)
  ·
    refine Sl.nil ?_
    refine At.go ?_
    refine Sc.seq ?_
    refine Sc.cond_t rfl ?_
    refine Sc.skip ?_
    refine At.go ?_
    refine Sc.seq ?_
    refine Sc.block ?_
    refine Sc.seq ?_
    refine Sc.region ?_
    have hkL : k < (recL (gK b)).length := by omega
    have hrow := fd_row hL (k := k) rfl hkL
    have hmem := recL_at hkL
    obtain ⟨⟨hfn, ho10, ho0, hcall⟩, hb1, hb4, hm0, hmb⟩ := recL_off hmem
    obtain ⟨x, hx⟩ : ∃ x, x = (recL (gK b)).getD k fd0 := ⟨_, rfl⟩
    rw [← hx] at hrow hmem hfn ho10 ho0 hcall hb1 hb4 hm0
    refine Sl.calm (Cm.indexAddr sl94 rfl rfl hL.non (by omega)) rfl ?_
    refine Sl.calm (Cm.ldM (cs := fdV x) agg99 rfl hrow) rfl ?_
    refine Sl.allocC zc99 rfl ?_
    intro w10 hg10 hs10 hf10
    refine Sl.storeAll (vs := fdV x) agg99 rfl rfl (by simp [fdV, Value.oneCell']) hg10 rfl ?_
    intro w11 hg11 hs11 hf11
    have hF11 : Foot nob w9 w11 := hf10.trans_to hf11 (fun k hk => .inr (by have : k = w9.heap.size := hk; omega))
    have hq11 := hF11.obj hq id
    have hP11 := hP9.grow hF11
    have hz11 := hF11.size
    refine Sl.nil ?_
    refine At.weak [(2, _), (4, _), (5, _), (7, _), (17, _), (18, _), (19, _), (20, _)] ⟨rfl, rfl, rfl, rfl, rfl, rfl, rfl, rfl, trivial⟩ ?_
    refine At.go ?_
    refine Sc.draw 8 (fun H => H[w3.heap.size]? = some (.cells (inoC (gSt b k).2 []).toArray 33 (0, 0)) ∧ H[w9.heap.size]? = some (.cells (fdV x).toArray 99 (0, 0))) [2, 6, 8] [0, 1, 3, 4, 5, 2, 6, 7, 8] mixed (by kernel_rfl) (⟨hq11, hg11⟩) ?_
    refine Sx.calm rfl rfl (Cm.field fld99_0 rfl) rfl ?_
    refine Sx.calm rfl rfl (Cm.load sca97 rfl (fun H hH => cellF hH.2 rfl)) rfl ?_
    refine Sx.calm rfl rfl (Cm.move rfl) rfl ?_
    refine Sx.calm rfl rfl (Cm.field fld99_1 rfl) rfl ?_
    refine Sx.calm rfl rfl (Cm.load sca3 rfl (fun H hH => cellF hH.2 rfl)) rfl ?_
    refine Sx.eff rfl rfl (Sl.callV hfn rfl rfl (hcall w3.heap.size _) rfl ?_)
    rintro _ w12 ⟨rfl, hw12⟩
    subst w12
    refine Sx.on (by exact ⟨hq11, hg11⟩) ?_
    refine Sx.eff rfl rfl (Sl.call fn55 rfl (rdnum_ok p _ _ x.b _ (hP11.grow (Foot.refl _ _).undraw) (Nat.le_trans (gSt_len b k hk) hb)) rfl ?_)
    rintro _ w13 ⟨rfl, hP13, hf13⟩
    have hf13u := hf13.undraw
    have hq13 := hf13u.obj hq11 (by omega)
    refine Sx.on (by exact ⟨hf13.undraw.obj hq11 (by omega), hf13.undraw.obj hg11 (by omega)⟩) ?_
    refine Sx.calm rfl rfl (Cm.nilCheck rfl) rfl ?_
    refine Sx.eff rfl rfl (Sl.store sca3 rfl rfl rfl hq13 (by simp [inoC]; omega) ?_)
    intro w14 hg14 hs14 hf14
    refine Sx.last rfl ?_
    rw [inoC_set _ _ ho10] at hg14
    refine Sx.nil ?_
    refine At.block_normal ?_
    refine At.weak [(2, _), (4, _), (5, _), (7, _), (17, _), (18, _), (19, _), (20, _)] ⟨rfl, rfl, rfl, rfl, rfl, rfl, rfl, rfl, trivial⟩ ?_
    refine At.go ?_
    refine Sc.region ?_
    refine Sl.calm (Cm.add64 rfl rfl (by omega)) rfl ?_
    refine Sl.calm (Cm.move rfl) rfl ?_
    refine Sl.nil ?_
    refine At.again (k + 1) ⟨rfl, rfl, rfl, rfl, rfl, rfl, trivial⟩ ?_ (by show (recL (gK b)).length - (k + 1) < (recL (gK b)).length - k; omega)
    have hz13 := hf13u.size
    have hS := gSt_succ b k hkL
    rw [← hx] at hS
    refine ⟨by omega, ?_, ?_, ((hL.grow hF11).keep hf13u (fun a ha h => by have := hne4 a ha; have h2 : a.block = p := h; omega)).keep hf14 (fun a ha h => by have := hne4 a ha; have h2 : a.block = w3.heap.size := h; omega), hf14.obj (hf13u.obj (hF11.obj hr9 id) (by omega)) (by omega), by omega, ((hF9.trans hF11).trans_to hf13u (fun k hk => .inr (by have : k = p := hk; omega))).trans_to hf14 (fun k hk => .inr (by have : k = w3.heap.size := hk; omega))⟩
    · rw [hS]; exact hP13.keep hf14 (fun k hk h => by omega)
    · rw [hS]; exact hg14
  ·
    refine Sl.nil ?_
    refine At.go ?_
    refine Sc.seq ?_
    refine Sc.cond_f rfl ?_
    refine Sc.exit ?_
    refine At.then_exit ?_
    refine At.then_exit ?_
    refine At.block_hit ?_
    refine At.go ?_
    refine Sc.cut (β := Unit) (fun _u => [(2, .pointer (some ⟨W.heap.size, 0, none⟩)), (4, .pointer (some ⟨p, 0, none⟩)), (5, .pointer (some ⟨w3.heap.size, 0, none⟩))]) (fun _u w => RdL (fun k => w1.heap.size ≤ k ∧ k < w2.heap.size) w.heap p (gEnd b).1 (gEnd b).2 ∧ w.heap[w3.heap.size]? = some (.cells (inoC (gFn b) (gT b)).toArray 33 (0, 0)) ∧ w.heap[W.heap.size]? = some (.cells (inoC (fun _ => 0) []).toArray 33 (0, 0)) ∧ Foot nob W w) ?_ ?_
    ·
      refine Sc.seq ?_
      refine Sc.region ?_
      refine Sl.calm (Cm.field fld33_0 rfl) rfl ?_
      have hkk : k = (recL (gK b)).length := by omega
      subst hkk
      have e0 := gSt_0 b _ (Nat.le_refl _)
      rw [gSt_end] at hP9 hq e0
      refine Sl.calm (Cm.ld sca3 rfl (cellF hq rfl)) rfl ?_
      refine Sl.fork (Cm.eql rfl rfl) rfl (fun h34 => ?_) (fun h34 => ?_)
      ·
        have h3 : gK b = 3 := by omega
        have eE : gEnd b = gTxS (gR b).1 := by unfold gEnd; rw [if_pos h3]
        have eT : gT b = gTx (gR b).1 := by unfold gT; rw [if_pos h3]
        refine Sl.nil ?_
        refine At.weak [(2, _), (4, _), (5, _), (17, _), (18, _), (19, _), (20, _), (34, _)] ⟨rfl, rfl, rfl, rfl, rfl, rfl, rfl, rfl, trivial⟩ ?_
        refine At.go ?_
        refine Sc.cond_t rfl ?_
        refine Sc.region ?_
        refine Sl.calm (Cm.move rfl) rfl ?_
        refine Sl.call fn56 rfl (rdtext_ok p _ _ w9 hP9 (by have := gSt_len b _ (Nat.le_refl _); rw [gSt_end] at this; omega)) rfl ?_
        rintro _ w15 ⟨rfl, hP15, hf15⟩
        have hq15 := hf15.obj hq (by omega)
        refine Sl.calm (Cm.field fld33_10 rfl) rfl ?_
        refine Sl.store sca9 rfl rfl rfl hq15 rfl ?_
        intro w16 hg16 hs16 hf16
        have hg16 : w16.heap[w3.heap.size]? = some (.cells (inoC (gFn b) (gTx (gR b).1)).toArray 33 (0, 0)) := hg16
        have hr16 := hf16.obj (hf15.obj hr9 (by omega)) (fun h => by have h : W.heap.size = w3.heap.size := h; omega)
        have hP16 := hP15.keep hf16 (fun k hk h => by have h : k = w3.heap.size := h; omega)
        have hF16 := (hF9.trans_to hf15 (fun k hk => .inr (by have : k = p := hk; omega))).trans_to hf16 (fun k hk => .inr (by have : k = w3.heap.size := hk; omega))
        refine Sl.nil ?_
        refine At.cut () ⟨rfl, rfl, rfl, trivial⟩ ?_
        first
          | exact ⟨by rw [eE]; exact hP16, by rw [eT]; exact hg16, hr16, hF16⟩
          | exact ⟨by rw [eE]; exact hP9, by rw [eT]; exact hq, hr9, hF9⟩
      ·
        have h3 : ¬ gK b = 3 := by omega
        have eE : gEnd b = (gR b).1 := by unfold gEnd; rw [if_neg h3]
        have eT : gT b = [] := by unfold gT; rw [if_neg h3]
        refine Sl.nil ?_
        refine At.weak [(2, _), (4, _), (5, _), (17, _), (18, _), (19, _), (20, _), (34, _)] ⟨rfl, rfl, rfl, rfl, rfl, rfl, rfl, rfl, trivial⟩ ?_
        refine At.go ?_
        refine Sc.cond_f rfl ?_
        refine Sc.skip ?_
        refine At.cut () ⟨rfl, rfl, rfl, trivial⟩ ?_
        first
          | exact ⟨by rw [eE]; exact hP16, by rw [eT]; exact hg16, hr16, hF16⟩
          | exact ⟨by rw [eE]; exact hP9, by rw [eT]; exact hq, hr9, hF9⟩
    ·
      rintro _ w17 ⟨hP17, hq17, hr17, hF17⟩
      have hTl : (gT b).length ≤ maxLen := by have := gT_len b; unfold maxLen; omega
      refine Sc.seq ?_
      refine Sc.seq ?_
      refine Sc.region ?_
      refine Sl.calm (Cm.move rfl) rfl ?_
      refine Sl.call fn57 rfl (rdend_ok p _ _ w17 hP17) rfl ?_
      rintro _ w18 ⟨rfl, hf18⟩
      have hq18 := hf18.obj hq17 (by omega)
      have hr18 := hf18.obj hr17 (by omega)
      have hF18 := hF17.trans_to hf18 (fun k hk => .inr (by have : k = p := hk; omega))
      refine Sl.fork (Cm.neq rfl rfl) rfl (fun h40 => ?_) (fun h40 => ?_)
      ·
        have hno : ¬ TkOk b := fun h => h40 h.1
        have hf19 : Foot nob w18 w18 := Foot.refl _ _
        refine Sl.calm (Cm.move rfl) rfl ?_
        refine Sl.skip rfl rfl rfl rfl ?_
        refine Sl.skip rfl rfl rfl rfl ?_
        refine Sl.skip rfl rfl rfl rfl ?_
        refine Sl.calm (Cm.pick_t rfl rfl) rfl ?_
        refine Sl.nil ?_
        refine At.weak [(2, _), (4, _), (5, _), (45, _)] ⟨rfl, rfl, rfl, rfl, trivial⟩ ?_
        refine At.go ?_
        refine Sc.cond_t rfl ?_
        refine Sc.seq ?_
        refine Sc.region ?_
        refine Sl.calm (Cm.build (cs := (inoC (fun _ => 0) []).toArray) plc33 zc33 rfl (by kernel_rfl)) rfl ?_
        refine Sl.storeAll (vs := inoC (fun _ => 0) []) agg33 rfl rfl (by intro v hv; exact inoC_one _ _ v hv) (hf19.obj hr18 id) rfl ?_
        intro w20 hg20 hs20 hf20
        refine Sl.calm (Cm.assign rfl) rfl ?_
        refine Sl.nil ?_
        refine At.weak [(2, _), (3, _), (4, _), (5, _), (45, _)] ⟨rfl, rfl, rfl, rfl, rfl, trivial⟩ ?_
        refine At.go ?_
        refine Sc.ret ?_
        refine At.then_ret ?_
        refine At.retC (cs := inoC (fun _ => 0) []) rfl agg33 rfl rfl (fun j v hj => cellF hg20 hj) ?_
        obtain ⟨e1, e2, e3⟩ := tk_no hno
        exact ⟨_, rfl, by rw [e1, e2, e3], (hF18.trans hf19).trans_to hf20 (fun k hk => .inr (by have : k = W.heap.size := hk; omega))⟩
      ·
        refine Sl.calm (Cm.move rfl) rfl ?_
        refine Sl.want rfl rfl (Cm.ldM (cs := inoC (gFn b) (gT b)) agg33 rfl (fun j v hj => cellF hq18 hj)) rfl ?_
        refine Sl.callWant rfl rfl fn23 rfl (may_ok (gFn b) (gT b) w18 hTl) rfl ?_
        rintro _ w19 ⟨rfl, hf19⟩
        refine Sl.forkWant rfl rfl (Cm.notB rfl) rfl (fun h44 => ?_) (fun h44 => ?_)
        ·
          have hno : ¬ TkOk b := fun h => of_decide_eq_false h44 h.2
          refine Sl.calm (Cm.pick_f rfl rfl) rfl ?_
          refine Sl.nil ?_
          refine At.weak [(2, _), (4, _), (5, _), (45, _)] ⟨rfl, rfl, rfl, rfl, trivial⟩ ?_
          refine At.go ?_
          refine Sc.cond_t rfl ?_
          refine Sc.seq ?_
          refine Sc.region ?_
          refine Sl.calm (Cm.build (cs := (inoC (fun _ => 0) []).toArray) plc33 zc33 rfl (by kernel_rfl)) rfl ?_
          refine Sl.storeAll (vs := inoC (fun _ => 0) []) agg33 rfl rfl (by intro v hv; exact inoC_one _ _ v hv) (hf19.obj hr18 id) rfl ?_
          intro w20 hg20 hs20 hf20
          refine Sl.calm (Cm.assign rfl) rfl ?_
          refine Sl.nil ?_
          refine At.weak [(2, _), (3, _), (4, _), (5, _), (45, _)] ⟨rfl, rfl, rfl, rfl, rfl, trivial⟩ ?_
          refine At.go ?_
          refine Sc.ret ?_
          refine At.then_ret ?_
          refine At.retC (cs := inoC (fun _ => 0) []) rfl agg33 rfl rfl (fun j v hj => cellF hg20 hj) ?_
          obtain ⟨e1, e2, e3⟩ := tk_no hno
          exact ⟨_, rfl, by rw [e1, e2, e3], (hF18.trans hf19).trans_to hf20 (fun k hk => .inr (by have : k = W.heap.size := hk; omega))⟩
        ·
          have hyes : TkOk b := ⟨Decidable.not_not.1 h40, Classical.byContradiction fun h => h44 (decide_eq_false h)⟩
          refine Sl.calm (Cm.pick_f rfl rfl) rfl ?_
          refine Sl.nil ?_
          refine At.weak [(2, _), (4, _), (5, _), (45, _)] ⟨rfl, rfl, rfl, rfl, trivial⟩ ?_
          refine At.go ?_
          refine Sc.cond_f rfl ?_
          refine Sc.skip ?_
          refine At.go ?_
          refine Sc.seq ?_
          refine Sc.region ?_
          refine Sl.calm (Cm.ldM (cs := inoC (gFn b) (gT b)) agg33 rfl (fun j v hj => cellF (hf19.obj hq18 id) hj)) rfl ?_
          refine Sl.storeAll (vs := inoC (gFn b) (gT b)) agg33 rfl rfl (by intro v hv; exact inoC_one _ _ v hv) (hf19.obj hr18 id) rfl ?_
          intro w20 hg20 hs20 hf20
          refine Sl.calm (Cm.assign rfl) rfl ?_
          refine Sl.nil ?_
          refine At.weak [(2, _), (3, _), (4, _), (5, _), (45, _)] ⟨rfl, rfl, rfl, rfl, rfl, trivial⟩ ?_
          refine At.go ?_
          refine Sc.ret ?_
          refine At.retC (cs := inoC (gFn b) (gT b)) rfl agg33 rfl rfl (fun j v hj => cellF hg20 hj) ?_
          obtain ⟨e1, e2, e3⟩ := tk_yes hyes
          exact ⟨_, rfl, by rw [e1, e2, e3], (hF18.trans hf19).trans_to hf20 (fun k hk => .inr (by have : k = W.heap.size := hk; omega))⟩
end Go.Proofs.Ytoaplldahbbaiaa
