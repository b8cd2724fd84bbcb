/- data: any files are laid down as the reference does. No condition beyond the bounds that each states. -/
import Derived.Test.YtpnfjfbfgaiolaaDoorDaI
namespace Go.Proofs.YtpnfjfbfgaiolaaDoor
open Go Go.RowKit
set_option linter.unusedVariables false

def enB (b : Bool) : Value := .bool b
theorem RyO.zero {H : Array Obj} {h f : Nat} (hg : H[h]? = some (.cells (rdC f none 0 0 none 0 0).toArray 42 (0, 0))) : RyO (· = h) H h f ⟨[], []⟩ :=
  ⟨none, 0, none, 0, [], hg, Own.nil, OwnM.nil, RunV.nil, (fun ⟨a, ha, _⟩ => by cases ha), (fun ⟨a, ha, _⟩ => by cases ha), Ap.none_left, rfl, (fun k ⟨a, ha, _⟩ => by cases ha), (fun k ⟨a, ha, _⟩ => by cases ha)⟩
theorem frmD_B (f : Nat) (s : DS) {b : List UInt8} (h : b.length ≤ 128) : (frmD f s b).1.B.length ≤ s.B.length + 135 ∧ (frmD f s b).1.m = s.m := by
  have := putS_len h
  unfold frmD
  simp only [List.length_append]
  exact ⟨by omega, trivial⟩
set_option maxHeartbeats 8000000 in
theorem dataAdds_ok (D0 : Nat → Prop) (z : Int) (ao : Option Addr) (cap : Nat) (hs : List Hd) (L : List (List UInt8)) (fo : Option Addr) (fc : Nat) (F : List Bool) (W : World) (hv : Vw hd W.heap ao cap hs) (hr : RowsV D0 W.heap hs L) (hD0 : ∀ k, D0 k → k < W.heap.size) (hvf : Vw enB W.heap fo fc F) (hz : -9223372036854775808 ≤ z ∧ z ≤ 9223372036854775807) :
    Calls Tryd.prog 4 [.int .i64 z, .slice ao hs.length cap, .slice fo F.length fc].toArray W (Ret fun v w' => v = .bool true ∧ Foot nob W w') := by
  obtain ⟨M, hM⟩ : ∃ M, M = rowsD L := ⟨_, rfl⟩
  have hMl : M.length ≤ 12 := by rw [hM]; exact rowsD_len L
  have hMs : ∀ b ∈ M, b.length ≤ 1500 := by rw [hM]; exact rowsD_small L
  have hm1 := Int.tmod_lt_of_pos z (show (0 : Int) < 1000 by decide)
  have hm2 := Int.lt_tmod_of_pos z (show (0 : Int) < 1000 by decide)
  have hfl := hvf.len63
  refine calls_of_sc 125 [(0, _), (1, _), (2, _)] Tryd.func4 rfl rfl rfl (enter_slots ⟨rfl, rfl, rfl, trivial⟩) ?_
  refine Sc.seq ?_
  refine Sc.region ?_
  refine Sl.calm (Cm.assign rfl) rfl ?_
  refine Sl.nil ?_
  refine At.go ?_
  refine Sc.seq ?_
  refine Sc.region ?_
  refine Sl.call fn8 rfl (shown12_ok W) rfl ?_
  rintro _ w1 ⟨rfl, hf1⟩
  refine Sl.calm (Cm.assign rfl) rfl ?_
  refine Sl.nil ?_
  refine At.weak [(0, _), (1, _), (2, _), (6, _), (7, _)] ⟨rfl, rfl, rfl, rfl, rfl, trivial⟩ ?_
  refine At.go ?_
  refine Sc.seq ?_
  refine Sc.region ?_
  refine Sl.calm (Cm.move rfl) rfl ?_
  refine Sl.call fn9 rfl (rows12_ok D0 ao cap hs L w1 (hv.grow hf1) (hr.keep hf1 (fun _ _ => id))) rfl ?_
  rintro _ w2 ⟨ro, rc, gs, rfl, hro2, hgs2, hrf2, hf2⟩
  rw [← hM] at hgs2
  have hgl := hgs2.1
  have hz1 := hf1.size
  have hz2 := hf2.size
  refine Sl.calm (Cm.assign rfl) rfl ?_
  refine Sl.nil ?_
  refine At.weak [(0, _), (1, _), (2, _), (6, _), (7, _)] ⟨rfl, rfl, rfl, rfl, rfl, trivial⟩ ?_
  refine At.go ?_
  refine Sc.seq ?_
  refine Sc.region ?_
  refine Sl.calm (Cm.move rfl) rfl ?_
  refine Sl.calm (Cm.remW rfl rfl (by decide)) rfl ?_
  refine Sl.calm (Cm.assign rfl) rfl ?_
  refine Sl.nil ?_
  refine At.weak [(0, _), (1, _), (2, _), (6, _), (7, _), (8, _)] ⟨rfl, rfl, rfl, rfl, rfl, rfl, trivial⟩ ?_
  refine At.go ?_
  refine Sc.cut (β := Nat) (fun f => [(1, .slice ro gs.length rc), (2, .slice fo F.length fc), (7, .bool true), (8, .int .i64 f)]) (fun f w => f ≤ 999 ∧ w = w2) ?_ ?_
  ·
    refine Sc.seq ?_
    refine Sc.region ?_
    refine Sl.calm (Cm.move rfl) rfl ?_
    refine Sl.fork (Cm.lss rfl rfl) rfl (fun h25 => ?_) (fun h25 => ?_)
    ·
      refine Sl.nil ?_
      refine At.weak [(0, _), (1, _), (2, _), (6, _), (7, _), (8, _), (25, _)] ⟨rfl, rfl, rfl, rfl, rfl, rfl, rfl, trivial⟩ ?_
      refine At.go ?_
      refine Sc.cond_t rfl ?_
      refine Sc.region ?_
      refine Sl.calm (Cm.move rfl) rfl ?_
      refine Sl.calm (Cm.neg64 rfl (by omega)) rfl ?_
      refine Sl.calm (Cm.assign rfl) rfl ?_
      refine Sl.nil ?_
      exact At.cut (z.tmod 1000).natAbs ⟨rfl, rfl, rfl, (by first | (show some (Value.int .i64 (-(z.tmod 1000))) = _; congr 2; omega) | (show some (Value.int .i64 (0 - z.tmod 1000)) = _; congr 2; omega)), trivial⟩ ⟨by omega, rfl⟩
    ·
      refine Sl.nil ?_
      refine At.weak [(0, _), (1, _), (2, _), (6, _), (7, _), (8, _), (25, _)] ⟨rfl, rfl, rfl, rfl, rfl, rfl, rfl, trivial⟩ ?_
      refine At.go ?_
      refine Sc.cond_f rfl ?_
      refine Sc.skip ?_
      exact At.cut (z.tmod 1000).natAbs ⟨rfl, rfl, rfl, (by show some (Value.int .i64 (z.tmod 1000)) = _; congr 2; omega), trivial⟩ ⟨by omega, rfl⟩
  ·
    rintro f wq ⟨hf999, hwq⟩
    obtain rfl : w2 = wq := hwq.symm
    refine Sc.seq ?_
    refine Sc.region ?_
    refine Sl.call fn10 rfl (crcnew_ok w2) rfl ?_
    rintro _ w3 ⟨rfl, hf3⟩
    refine Sl.allocC zc28 rfl ?_
    intro w4 hg4 hs4 hf4
    refine Sl.storeAll (vs := tab) aggTab rfl rfl tab_one hg4 (by rw [tab_len, List.length_replicate]) ?_
    intro w5 hg5 hs5 hf5
    obtain ⟨p, hp⟩ : ∃ p, p = w3.heap.size := ⟨_, rfl⟩
    have hF25 : Foot nob w2 w5 := (hf3.trans hf4).trans_to hf5 (fun k hk => .inr (by have h : k = w3.heap.size := hk; have := hf3.size; omega))
    rw [← hp] at hg5 ⊢
    have ht5 : TbV w5.heap p := hg5
    have hF5 := (hf1.trans hf2).trans hF25
    have hpl := (Array.getElem?_eq_some_iff.1 ht5).1
    have hvf5 := hvf.grow hF5
    refine Sl.nil ?_
    refine At.weak [(1, _), (2, _), (7, _), (8, _), (9, _)] ⟨rfl, rfl, rfl, rfl, rfl, trivial⟩ ?_
    refine At.go ?_
    refine Sc.seq ?_
    refine Sc.region ?_
    refine Sl.calm (Cm.move rfl) rfl ?_
    refine Sl.call fn11 rfl (dnewT_ok p f w5 ht5) rfl ?_
    rintro _ w6 ⟨rfl, hM6, hf6⟩
    obtain ⟨g, hg⟩ : ∃ g, g = w5.heap.size + 1 := ⟨_, rfl⟩
    rw [← hg]
    rw [← hg] at hM6
    have hz6 := hf6.size
    refine Sl.calm (Cm.assign rfl) rfl ?_
    refine Sl.nil ?_
    refine At.weak [(1, _), (2, _), (7, _), (8, _), (9, _), (10, _)] ⟨rfl, rfl, rfl, rfl, rfl, rfl, trivial⟩ ?_
    refine At.go ?_
    refine Sc.seq ?_
    refine Sc.region ?_
    refine Sl.calm (Cm.move rfl) rfl ?_
    refine Sl.calm (Cm.build (cs := #[.int .i64 f, .slice none 0 0, .slice none 0 0]) plc42 zc42 rfl (by kernel_rfl)) rfl ?_
    refine Sl.box rfl rfl ?_
    intro w7 hg7 hs7 hf7
    obtain ⟨h, hh⟩ : ∃ h, h = w6.heap.size := ⟨_, rfl⟩
    rw [← hh] at hg7 ⊢
    have hR7 := RyO.zero hg7
    have hF57 := hf6.trans hf7
    refine Sl.calm (Cm.assign rfl) rfl ?_
    refine Sl.nil ?_
    refine At.weak [(1, _), (2, _), (7, _), (8, _), (9, _), (10, _), (11, _)] ⟨rfl, rfl, rfl, rfl, rfl, rfl, rfl, trivial⟩ ?_
    refine At.go ?_
    refine Sc.seq ?_
    refine Sc.seq ?_
    refine Sc.region ?_
    refine Sl.calm (Cm.move rfl) rfl ?_
    refine Sl.calm (Cm.not rfl) rfl ?_
    refine Sl.calm (Cm.move rfl) rfl ?_
    refine Sl.want rfl rfl (Cm.move rfl) rfl ?_
    refine Sl.want rfl rfl (Cm.eqlPtrNil ptr30 rfl rfl) rfl ?_
    refine Sl.calm (Cm.pick_f rfl rfl) rfl ?_
    refine Sl.nil ?_
    refine At.weak [(1, _), (2, _), (7, _), (8, _), (9, _), (10, _), (11, _), (39, _)] ⟨rfl, rfl, rfl, rfl, rfl, rfl, rfl, rfl, trivial⟩ ?_
    refine At.go ?_
    refine Sc.cond_f rfl ?_
    refine Sc.skip ?_
    refine At.go ?_
    refine Sc.seq ?_
    refine Sc.seq ?_
    refine Sc.region ?_
    refine Sl.calm (Cm.assign rfl) rfl ?_
    refine Sl.nil ?_
    refine At.go ?_
    refine Sc.block ?_
    refine Sc.loop (β := Nat × DS × (Nat → Prop) × (Nat → Prop)) (fun ⟨i, s, A, B⟩ => [(1, .slice ro gs.length rc), (2, .slice fo F.length fc), (10, .pointer (some ⟨g, 0, none⟩)), (11, .pointer (some ⟨h, 0, none⟩)), (12, .int .i64 i)]) (fun ⟨i, s, A, B⟩ w => i ≤ M.length ∧ DwO A w.heap g p f s ∧ RyO B w.heap h f s ∧ (∀ k, A k → w5.heap.size ≤ k ∧ k < w.heap.size) ∧ (∀ k, B k → w5.heap.size ≤ k ∧ k < w.heap.size) ∧ (∀ k, A k → ¬ B k) ∧ s.B.length ≤ 2000 * i ∧ s.m.length ≤ i ∧ Foot nob w5 w) (fun ⟨i, s, A, B⟩ => M.length - i) ⟨0, ⟨[], []⟩, (fun k => w5.heap.size ≤ k ∧ k < w6.heap.size), (· = h)⟩ ⟨rfl, rfl, rfl, rfl, rfl, trivial⟩ ⟨Nat.zero_le _, hM6.grow hf7, hR7, (fun k hk => ⟨hk.1, by have := hk.2; omega⟩), (fun k e => by have e : k = h := e; exact ⟨by omega, by omega⟩), (fun k hk e => by have e : k = h := e; have := hk.2; omega), Nat.le_refl _, Nat.le_refl _, hF57⟩ ?_
    rintro ⟨i, s, A, B⟩ w8 ⟨hi, hM8, hR8, hA, hB, hAB, hsB, hsm, hF8⟩
    refine Sc.seq ?_
    refine Sc.seq ?_
    refine Sc.region ?_
    refine Sl.calm (Cm.move rfl) rfl ?_
    refine Sl.calm (Cm.move rfl) rfl ?_
    refine Sl.calm (Cm.len sl22 rfl) rfl ?_
    refine Sl.fork (Cm.lss rfl rfl) rfl (fun h43 => ?_) (fun h43 => ?_)
    ·
      have hiM : i < M.length := by omega
      obtain ⟨x, hx, hxn, hxv, hxD⟩ := hgs2.at hiM
      have hxl := hMs (M.getD i []) (by rw [List.getD, List.getElem?_eq_getElem hiM]; exact List.getElem_mem _)
      have hhd : hd x = .slice x.a (M.getD i []).length x.c := by unfold hd; rw [hxn]
      have hcl0 := hro2.vw.get i x hx
      rw [hhd] at hcl0
      obtain ⟨b, hb⟩ : ∃ b, b = M.getD i [] := ⟨_, rfl⟩
      rw [← hb] at hxl hcl0 hxv hhd
      have hz8 := hF8.size
      have hxv8 := (hxv.grow hF25).grow hF8
      have hc8 : cellH w8.heap (adr ro i) = some (.slice x.a b.length x.c) := cellH_keep (cellH_keep hcl0 hF25 id) hF8 id
      refine Sl.nil ?_
      refine At.weak [(1, _), (2, _), (10, _), (11, _), (12, _), (43, _)] ⟨rfl, rfl, rfl, rfl, rfl, rfl, trivial⟩ ?_
      refine At.go ?_
      refine Sc.cond_t rfl ?_
      refine Sc.skip ?_
      refine At.go ?_
      refine Sc.seq ?_
      refine Sc.block ?_
      refine Sc.seq ?_
      refine Sc.region ?_
      refine Sl.lit0 b8 sl23 rfl ?_
      intro w9 ho9 hs9 hf9
      refine Sl.calm (Cm.move rfl) rfl ?_
      refine Sl.calm (Cm.move rfl) rfl ?_
      refine Sl.calm (Cm.indexAddr1 sl22 rfl rfl hro2.vw.non (by omega)) rfl ?_
      refine Sl.calm (Cm.ld sca23 rfl (by rw [Int.toNat_natCast]; exact cellH_keep hc8 hf9 id)) rfl ?_
      refine Sl.append b8_one sl23 rfl rfl ho9 (hxv8.grow hf9) (by simp only [List.length_nil]; omega) (by simp only [List.length_nil]; unfold maxLen; omega) rfl ?_
      intro o10 c10 w10 ho10 hf10 hr10 hn10
      rw [List.nil_append] at ho10 ⊢
      have hF810 : Foot nob w8 w10 := hf9.trans_to hf10 (fr_at _).step
      have hfr10 : Fr w8.heap.size o10 := fr_next (fr_at _) hr10 hf9.size
      have hF10 := hF8.trans hF810
      have hz10 := hF810.size
      have hl10 := ho10.lt
      have hle10 := ho10.vw.le
      refine Sl.calm (Cm.assign rfl) rfl ?_
      refine Sl.nil ?_
      refine At.weak [(1, _), (2, _), (10, _), (11, _), (12, _), (13, _), (43, _)] ⟨rfl, rfl, rfl, rfl, rfl, rfl, rfl, trivial⟩ ?_
      refine At.go ?_
      refine Sc.cut (β := DS × (Nat → Prop) × (Nat → Prop)) (fun ⟨s2, A2, B2⟩ => [(1, .slice ro gs.length rc), (2, .slice fo F.length fc), (10, .pointer (some ⟨g, 0, none⟩)), (11, .pointer (some ⟨h, 0, none⟩)), (12, .int .i64 i)]) (fun ⟨s2, A2, B2⟩ w => DwO A2 w.heap g p f s2 ∧ RyO B2 w.heap h f s2 ∧ (∀ k, A2 k → w5.heap.size ≤ k ∧ k < w.heap.size) ∧ (∀ k, B2 k → w5.heap.size ≤ k ∧ k < w.heap.size) ∧ (∀ k, A2 k → ¬ B2 k) ∧ s2.B.length ≤ 2000 * (i + 1) ∧ s2.m.length ≤ i + 1 ∧ Foot nob w5 w) ?_ ?_
      ·
        refine Sc.seq ?_
        refine Sc.region ?_
        refine Sl.calm (Cm.move rfl) rfl ?_
        refine Sl.calm (Cm.move rfl) rfl ?_
        refine Sl.calm (Cm.len sl38 rfl) rfl ?_
        refine Sl.fork (Cm.lss rfl rfl) rfl (fun h55 => ?_) (fun h55 => ?_)
        ·
          refine Sl.calm (Cm.move rfl) rfl ?_
          refine Sl.want rfl rfl (Cm.move rfl) rfl ?_
          refine Sl.want rfl rfl (Cm.move rfl) rfl ?_
          refine Sl.want rfl rfl (Cm.indexAddr1 sl38 rfl rfl hvf5.non (by omega)) rfl ?_
          refine Sl.forkWant rfl rfl (Cm.ofBool (Cm.ld sca4 rfl ((hvf5.grow hF10).gz false i rfl (by omega)))) rfl (fun h60 => ?_) (fun h60 => ?_)
          ·
            refine Sl.calm (Cm.pick_t rfl rfl) rfl ?_
            refine Sl.calm (Cm.move rfl) rfl ?_
            refine Sl.want rfl rfl (Cm.move rfl) rfl ?_
            refine Sl.want rfl rfl (Cm.len sl23 rfl) rfl ?_
            refine Sl.forkWant rfl rfl (Cm.gtr rfl rfl) rfl (fun h65 => ?_) (fun h65 => ?_)
            ·
              refine Sl.calm (Cm.pick_t rfl rfl) rfl ?_
              refine Sl.nil ?_
              refine At.weak [(1, _), (2, _), (10, _), (11, _), (12, _), (13, _), (43, _), (66, _)] ⟨rfl, rfl, rfl, rfl, rfl, rfl, rfl, rfl, trivial⟩ ?_
              refine At.go ?_
              refine Sc.cond_t rfl ?_
              refine Sc.seq ?_
              refine Sc.region ?_
              refine Sl.calm (Cm.move rfl) rfl ?_
              refine Sl.calm (Cm.move rfl) rfl ?_
              refine Sl.calm (Cm.len sl23 rfl) rfl ?_
              refine Sl.calm (Cm.ofEq (u := .int .i64 ((b.take 128).length : Nat)) (Cm.min2 rfl rfl) (by rw [List.length_take]; congr 1; omega)) rfl ?_
              refine Sl.calm (Cm.ofEq (u := .slice o10 (b.take 128).length c10) (Cm.sliceH sl23 rfl rfl (by rw [List.length_take]; omega)) (by rw [cutAo_zero]; rfl)) rfl ?_
              have ht128 : (b.take 128).length ≤ 128 := by rw [List.length_take]; omega
              refine Sl.calm (Cm.assign rfl) rfl ?_
              refine Sl.nil ?_
              refine At.weak [(1, _), (2, _), (10, _), (11, _), (12, _), (13, _), (14, _), (43, _), (66, _)] ⟨rfl, rfl, rfl, rfl, rfl, rfl, rfl, rfl, rfl, trivial⟩ ?_
              refine At.go ?_
              refine Sc.seq ?_
              refine Sc.region ?_
              refine Sl.calm (Cm.move rfl) rfl ?_
              refine Sl.calm (Cm.move rfl) rfl ?_
              refine Sl.call fn14 rfl (dframeT_ok A g p f s o10 c10 (b.take 128) w10 (hM8.grow hF810) (ho10.vw.take 128) (by omega) (by omega) ht128) rfl ?_
              rintro _ w11 ⟨rfl, hM11, hF11⟩
              have hz11 := hF11.size
              have hR11 := (hR8.keep hF810 (fun _ _ _ => id)).keep hF11 (fun k _ hb ha => hAB k ha hb)
              have hF811 : Foot nob w5 w11 := hF10.trans_to hF11 (fun k hk => .inr (hA k hk).1)
              have ho11 := ho10.keep hF11 (fun a ha e => by have := hfr10 a ha; have := (hA _ e).2; omega)
              refine Sl.calm (Cm.move rfl) rfl ?_
              refine Sl.lit0 b8 sl23 rfl ?_
              intro w12 ho12 hs12 hf12
              refine Sl.calm (Cm.move rfl) rfl ?_
              refine Sl.append b8_one sl23 rfl rfl ho12 ((ho11.vw.take 128).grow hf12) (by simp only [List.length_nil]; omega) (by simp only [List.length_nil]; unfold maxLen; omega) rfl ?_
              intro o13 c13 w13 ho13 hf13 hr13 hn13
              rw [List.nil_append] at ho13 ⊢
              have hF1113 : Foot nob w11 w13 := hf12.trans_to hf13 (fr_at _).step
              have hz13 := hF1113.size
              have hfs := frmD_B f s ht128
              refine Sl.call fn15 rfl (rdframeT_ok B h f s o13 c13 (b.take 128) w13 (hR11.keep hF1113 (fun _ _ _ => id)) ho13.vw (by omega) (by omega) ht128) rfl ?_
              rintro _ w14 ⟨rfl, hR14, hF14⟩
              have hz14 := hF14.size
              have hM14 := (hM11.grow hF1113).keep hF14 (fun k hk hb => by rcases hk with h1 | h1; exact hAB k h1 hb; have := h1.1; have := (hB k hb).2; omega) (fun hb => by have := (hB p hb).1; omega)
              have hF814 : Foot nob w5 w14 := (hF811.trans hF1113).trans_to hF14 (fun k hk => .inr (hB k hk).1)
              refine Sl.calm (Cm.no (Cm.neq rfl rfl) (fun h => h rfl)) rfl ?_
              refine Sl.nil ?_
              refine At.weak [(1, _), (2, _), (10, _), (11, _), (12, _), (13, _), (14, _), (43, _), (66, _), (80, _)] ⟨rfl, rfl, rfl, rfl, rfl, rfl, rfl, rfl, rfl, rfl, trivial⟩ ?_
              refine At.go ?_
              refine Sc.cond_f rfl ?_
              refine Sc.skip ?_
              refine At.cut ⟨(frmD f s (b.take 128)).1, Nx A w10 w11, Nx B w13 w14⟩ ⟨rfl, rfl, rfl, rfl, rfl, trivial⟩ ⟨hM14, hR14, (fun k hk => ?_), (fun k hk => ?_), (fun k hk hb => ?_), by omega, by rw [hfs.2]; omega, hF814⟩
              · rcases hk with h1 | h1
                · have := hA k h1; exact ⟨this.1, by show k < w14.heap.size; omega⟩
                · have h2 := h1.1; have h3 := h1.2; have := hF10.size; exact ⟨by omega, by show k < w14.heap.size; omega⟩
              · rcases hk with h1 | h1
                · have := hB k h1; exact ⟨this.1, by show k < w14.heap.size; omega⟩
                · have h2 := h1.1; have h3 := h1.2; have := hF10.size; exact ⟨by omega, by show k < w14.heap.size; omega⟩
              · rcases hk with h1 | h1
                · rcases hb with h2 | h2
                  · exact hAB k h1 h2
                  · have := hA k h1; have := h2.1; omega
                · rcases hb with h2 | h2
                  · have := hB k h2; have := h1.1; omega
                  · have := h1.2; have := h2.1; omega
            ·
              refine Sl.calm (Cm.pick_t rfl rfl) rfl ?_
              refine Sl.nil ?_
              refine At.weak [(1, _), (2, _), (10, _), (11, _), (12, _), (13, _), (43, _), (66, _)] ⟨rfl, rfl, rfl, rfl, rfl, rfl, rfl, rfl, trivial⟩ ?_
              refine At.go ?_
              refine Sc.cond_f rfl ?_
              refine Sc.seq ?_
              refine Sc.region ?_
              refine Sl.calm (Cm.move rfl) rfl ?_
              refine Sl.calm (Cm.move rfl) rfl ?_
              refine Sl.call fn12 rfl (daddT_ok A g p f s o10 c10 b w10 (hM8.grow hF810) ho10.vw (by omega) (by omega) (by omega)) rfl ?_
              rintro _ w11 ⟨o11, c11, rfl, ho11, hfr11, hM11, hF11⟩
              have hz11 := hF11.size
              have hR11 := (hR8.keep hF810 (fun _ _ _ => id)).keep hF11 (fun k _ hb ha => hAB k ha hb)
              have hF811 : Foot nob w5 w11 := hF10.trans_to hF11 (fun k hk => .inr (hA k hk).1)
              have ho1011 := ho10.keep hF11 (fun a ha e => by have := hfr10 a ha; have := (hA _ e).2; omega)
              have has := addD_B f s b
              have hru := runD_le b
              refine Sl.calm (Cm.move rfl) rfl ?_
              refine Sl.calm (Cm.extract rfl rfl) rfl ?_
              refine Sl.calm (Cm.extract rfl rfl) rfl ?_
              refine Sl.calm (Cm.assign rfl) rfl ?_
              refine Sl.calm (Cm.assign rfl) rfl ?_
              refine Sl.nil ?_
              refine At.weak [(1, _), (2, _), (10, _), (11, _), (12, _), (13, _), (15, _), (16, _), (43, _), (66, _)] ⟨rfl, rfl, rfl, rfl, rfl, rfl, rfl, rfl, rfl, rfl, trivial⟩ ?_
              refine At.go ?_
              refine Sc.seq ?_
              refine Sc.region ?_
              refine Sl.calm (Cm.move rfl) rfl ?_
              refine Sl.calm (Cm.move rfl) rfl ?_
              refine Sl.calm (Cm.move rfl) rfl ?_
              refine Sl.calm (Cm.indexAddr1 sl22 rfl rfl hro2.vw.non (by omega)) rfl ?_
              refine Sl.calm (Cm.ld sca23 rfl (by rw [Int.toNat_natCast]; exact cellH_keep (cellH_keep hcl0 hF25 id) hF811 id)) rfl ?_
              refine Sl.call fn16 rfl (rdaddT_ok B h f s x.a x.c b w11 hR11 ((hxv.grow hF25).grow hF811) (by omega) (by omega) (by omega) (by omega)) rfl ?_
              rintro _ w14 ⟨o14, c14, rfl, ho14, hfr14, hR14, hF14⟩
              have hz14 := hF14.size
              have hM14 := hM11.keep hF14 (fun k hk hb => by rcases hk.1 with h1 | h1; exact hAB k h1 hb; have := h1.1; have := (hB k hb).2; omega) (fun hb => by have := (hB p hb).1; omega)
              have hF814 : Foot nob w5 w14 := hF811.trans_to hF14 (fun k hk => .inr (hB k hk).1)
              have ho1114 := ho11.keep hF14 (fun a ha e => by have := hfr11 a ha; have := (hB _ e).2; omega)
              have ho1014 := ho1011.keep hF14 (fun a ha e => by have := hfr10 a ha; have := (hB _ e).2; omega)
              refine Sl.calm (Cm.move rfl) rfl ?_
              refine Sl.calm (Cm.extract rfl rfl) rfl ?_
              refine Sl.calm (Cm.extract rfl rfl) rfl ?_
              refine Sl.calm (Cm.assign rfl) rfl ?_
              refine Sl.calm (Cm.assign rfl) rfl ?_
              refine Sl.nil ?_
              refine At.weak [(1, _), (2, _), (10, _), (11, _), (12, _), (13, _), (15, _), (16, _), (17, _), (18, _), (43, _), (66, _)] ⟨rfl, rfl, rfl, rfl, rfl, rfl, rfl, rfl, rfl, rfl, rfl, rfl, trivial⟩ ?_
              refine At.go ?_
              refine Sc.seq ?_
              refine Sc.draw 20 (fun H => Vw b8 H o11 c11 (tailD b) ∧ Vw b8 H o14 c14 (tailD b) ∧ Vw b8 H o10 c10 b ∧ cellH H (adr ro i) = some (.slice x.a b.length x.c) ∧ Vw b8 H x.a x.c b) [] [0, 1, 2, 3, 4, 5, 6, 7, 8, 9, 10, 11, 12, 13, 14, 15, 16, 17, 18, 19] mixed (by kernel_rfl) (⟨ho1114.vw, ho14.vw, ho1014.vw, cellH_keep (cellH_keep hcl0 hF25 id) hF814 id, (hxv.grow hF25).grow hF814⟩) ?_
              refine Sx.calm rfl rfl (Cm.move rfl) rfl ?_
              refine Sx.calm rfl rfl (Cm.move rfl) rfl ?_
              refine Sx.calm rfl rfl (Cm.no (Cm.neq rfl rfl) (fun h => h rfl)) rfl ?_
              refine Sx.calm rfl rfl (Cm.move rfl) rfl ?_
              refine Sx.want rfl rfl rfl rfl (Cm.move rfl) rfl ?_
              refine Sx.want rfl rfl rfl rfl (Cm.str sl23 ty5 ty9 rfl (fun H hH => hH.1)) rfl ?_
              refine Sx.want rfl rfl rfl rfl (Cm.move rfl) rfl ?_
              refine Sx.want rfl rfl rfl rfl (Cm.str sl23 ty5 ty9 rfl (fun H hH => hH.2.1)) rfl ?_
              refine Sx.want rfl rfl rfl rfl (Cm.no (Cm.neqBs rfl rfl) (fun h => h rfl)) rfl ?_
              refine Sx.calm rfl rfl (Cm.pick_f rfl rfl) rfl ?_
              refine Sx.calm rfl rfl (Cm.move rfl) rfl ?_
              refine Sx.want rfl rfl rfl rfl (Cm.move rfl) rfl ?_
              refine Sx.want rfl rfl rfl rfl (Cm.str sl23 ty5 ty9 rfl (fun H hH => hH.2.2.1)) rfl ?_
              refine Sx.want rfl rfl rfl rfl (Cm.move rfl) rfl ?_
              refine Sx.want rfl rfl rfl rfl (Cm.move rfl) rfl ?_
              refine Sx.want rfl rfl rfl rfl (Cm.indexAddr1 sl22 rfl rfl hro2.vw.non (by omega)) rfl ?_
              refine Sx.want rfl rfl rfl rfl (Cm.load sca23 rfl (fun H hH => by rw [Int.toNat_natCast]; exact hH.2.2.2.1)) rfl ?_
              refine Sx.want rfl rfl rfl rfl (Cm.str sl23 ty5 ty9 rfl (fun H hH => hH.2.2.2.2)) rfl ?_
              refine Sx.want rfl rfl rfl rfl (Cm.no (Cm.neqBs rfl rfl) (fun h => h rfl)) rfl ?_
              refine Sx.calm rfl rfl (Cm.pick_f rfl rfl) rfl ?_
              refine Sx.nil ?_
              refine At.weak [(1, _), (2, _), (10, _), (11, _), (12, _), (13, _), (15, _), (16, _), (17, _), (18, _), (43, _), (66, _), (115, _)] ⟨rfl, rfl, rfl, rfl, rfl, rfl, rfl, rfl, rfl, rfl, rfl, rfl, rfl, trivial⟩ ?_
              refine At.go ?_
              refine Sc.cond_f rfl ?_
              refine Sc.skip ?_
              refine At.cut ⟨(addD f s b).1, (fun k => Nx A w10 w11 k ∧ ¬ blk o11 k), (fun k => Nx B w11 w14 k ∧ ¬ blk o14 k)⟩ ⟨rfl, rfl, rfl, rfl, rfl, trivial⟩ ⟨hM14, hR14, (fun k hk => ?_), (fun k hk => ?_), (fun k hk hb => ?_), by omega, by omega, hF814.draws 1⟩
              all_goals have hk0 := hk
              all_goals have hk := hk0.1
              · rcases hk with h1 | h1
                · have := hA k h1; exact ⟨this.1, by show k < w14.heap.size; omega⟩
                · have h2 := h1.1; have h3 := h1.2; have := hF10.size; exact ⟨by omega, by show k < w14.heap.size; omega⟩
              · rcases hk with h1 | h1
                · have := hB k h1; exact ⟨this.1, by show k < w14.heap.size; omega⟩
                · have h2 := h1.1; have h3 := h1.2; have := hF10.size; exact ⟨by omega, by show k < w14.heap.size; omega⟩
              · rcases hk with h1 | h1
                · rcases hb.1 with h2 | h2
                  · exact hAB k h1 h2
                  · have := hA k h1; have := h2.1; omega
                · rcases hb.1 with h2 | h2
                  · have := hB k h2; have := h1.1; omega
                  · have := h1.2; have := h2.1; omega
          ·
            refine Sl.calm (Cm.pick_t rfl rfl) rfl ?_
            refine Sl.calm (Cm.move rfl) rfl ?_
            refine Sl.skip rfl rfl rfl rfl ?_
            refine Sl.skip rfl rfl rfl rfl ?_
            refine Sl.skip rfl rfl rfl rfl ?_
            refine Sl.calm (Cm.pick_f rfl rfl) rfl ?_
            refine Sl.nil ?_
            refine At.weak [(1, _), (2, _), (10, _), (11, _), (12, _), (13, _), (43, _), (66, _)] ⟨rfl, rfl, rfl, rfl, rfl, rfl, rfl, rfl, trivial⟩ ?_
            refine At.go ?_
            refine Sc.cond_f rfl ?_
            refine Sc.seq ?_
            refine Sc.region ?_
            refine Sl.calm (Cm.move rfl) rfl ?_
            refine Sl.calm (Cm.move rfl) rfl ?_
            refine Sl.call fn12 rfl (daddT_ok A g p f s o10 c10 b w10 (hM8.grow hF810) ho10.vw (by omega) (by omega) (by omega)) rfl ?_
            rintro _ w11 ⟨o11, c11, rfl, ho11, hfr11, hM11, hF11⟩
            have hz11 := hF11.size
            have hR11 := (hR8.keep hF810 (fun _ _ _ => id)).keep hF11 (fun k _ hb ha => hAB k ha hb)
            have hF811 : Foot nob w5 w11 := hF10.trans_to hF11 (fun k hk => .inr (hA k hk).1)
            have ho1011 := ho10.keep hF11 (fun a ha e => by have := hfr10 a ha; have := (hA _ e).2; omega)
            have has := addD_B f s b
            have hru := runD_le b
            refine Sl.calm (Cm.move rfl) rfl ?_
            refine Sl.calm (Cm.extract rfl rfl) rfl ?_
            refine Sl.calm (Cm.extract rfl rfl) rfl ?_
            refine Sl.calm (Cm.assign rfl) rfl ?_
            refine Sl.calm (Cm.assign rfl) rfl ?_
            refine Sl.nil ?_
            refine At.weak [(1, _), (2, _), (10, _), (11, _), (12, _), (13, _), (15, _), (16, _), (43, _), (66, _)] ⟨rfl, rfl, rfl, rfl, rfl, rfl, rfl, rfl, rfl, rfl, trivial⟩ ?_
            refine At.go ?_
            refine Sc.seq ?_
            refine Sc.region ?_
            refine Sl.calm (Cm.move rfl) rfl ?_
            refine Sl.calm (Cm.move rfl) rfl ?_
            refine Sl.calm (Cm.move rfl) rfl ?_
            refine Sl.calm (Cm.indexAddr1 sl22 rfl rfl hro2.vw.non (by omega)) rfl ?_
            refine Sl.calm (Cm.ld sca23 rfl (by rw [Int.toNat_natCast]; exact cellH_keep (cellH_keep hcl0 hF25 id) hF811 id)) rfl ?_
            refine Sl.call fn16 rfl (rdaddT_ok B h f s x.a x.c b w11 hR11 ((hxv.grow hF25).grow hF811) (by omega) (by omega) (by omega) (by omega)) rfl ?_
            rintro _ w14 ⟨o14, c14, rfl, ho14, hfr14, hR14, hF14⟩
            have hz14 := hF14.size
            have hM14 := hM11.keep hF14 (fun k hk hb => by rcases hk.1 with h1 | h1; exact hAB k h1 hb; have := h1.1; have := (hB k hb).2; omega) (fun hb => by have := (hB p hb).1; omega)
            have hF814 : Foot nob w5 w14 := hF811.trans_to hF14 (fun k hk => .inr (hB k hk).1)
            have ho1114 := ho11.keep hF14 (fun a ha e => by have := hfr11 a ha; have := (hB _ e).2; omega)
            have ho1014 := ho1011.keep hF14 (fun a ha e => by have := hfr10 a ha; have := (hB _ e).2; omega)
            refine Sl.calm (Cm.move rfl) rfl ?_
            refine Sl.calm (Cm.extract rfl rfl) rfl ?_
            refine Sl.calm (Cm.extract rfl rfl) rfl ?_
            refine Sl.calm (Cm.assign rfl) rfl ?_
            refine Sl.calm (Cm.assign rfl) rfl ?_
            refine Sl.nil ?_
            refine At.weak [(1, _), (2, _), (10, _), (11, _), (12, _), (13, _), (15, _), (16, _), (17, _), (18, _), (43, _), (66, _)] ⟨rfl, rfl, rfl, rfl, rfl, rfl, rfl, rfl, rfl, rfl, rfl, rfl, trivial⟩ ?_
            refine At.go ?_
            refine Sc.seq ?_
            refine Sc.draw 20 (fun H => Vw b8 H o11 c11 (tailD b) ∧ Vw b8 H o14 c14 (tailD b) ∧ Vw b8 H o10 c10 b ∧ cellH H (adr ro i) = some (.slice x.a b.length x.c) ∧ Vw b8 H x.a x.c b) [] [0, 1, 2, 3, 4, 5, 6, 7, 8, 9, 10, 11, 12, 13, 14, 15, 16, 17, 18, 19] mixed (by kernel_rfl) (⟨ho1114.vw, ho14.vw, ho1014.vw, cellH_keep (cellH_keep hcl0 hF25 id) hF814 id, (hxv.grow hF25).grow hF814⟩) ?_
            refine Sx.calm rfl rfl (Cm.move rfl) rfl ?_
            refine Sx.calm rfl rfl (Cm.move rfl) rfl ?_
            refine Sx.calm rfl rfl (Cm.no (Cm.neq rfl rfl) (fun h => h rfl)) rfl ?_
            refine Sx.calm rfl rfl (Cm.move rfl) rfl ?_
            refine Sx.want rfl rfl rfl rfl (Cm.move rfl) rfl ?_
            refine Sx.want rfl rfl rfl rfl (Cm.str sl23 ty5 ty9 rfl (fun H hH => hH.1)) rfl ?_
            refine Sx.want rfl rfl rfl rfl (Cm.move rfl) rfl ?_
            refine Sx.want rfl rfl rfl rfl (Cm.str sl23 ty5 ty9 rfl (fun H hH => hH.2.1)) rfl ?_
            refine Sx.want rfl rfl rfl rfl (Cm.no (Cm.neqBs rfl rfl) (fun h => h rfl)) rfl ?_
            refine Sx.calm rfl rfl (Cm.pick_f rfl rfl) rfl ?_
            refine Sx.calm rfl rfl (Cm.move rfl) rfl ?_
            refine Sx.want rfl rfl rfl rfl (Cm.move rfl) rfl ?_
            refine Sx.want rfl rfl rfl rfl (Cm.str sl23 ty5 ty9 rfl (fun H hH => hH.2.2.1)) rfl ?_
            refine Sx.want rfl rfl rfl rfl (Cm.move rfl) rfl ?_
            refine Sx.want rfl rfl rfl rfl (Cm.move rfl) rfl ?_
            refine Sx.want rfl rfl rfl rfl (Cm.indexAddr1 sl22 rfl rfl hro2.vw.non (by omega)) rfl ?_
            refine Sx.want rfl rfl rfl rfl (Cm.load sca23 rfl (fun H hH => by rw [Int.toNat_natCast]; exact hH.2.2.2.1)) rfl ?_
            refine Sx.want rfl rfl rfl rfl (Cm.str sl23 ty5 ty9 rfl (fun H hH => hH.2.2.2.2)) rfl ?_
            refine Sx.want rfl rfl rfl rfl (Cm.no (Cm.neqBs rfl rfl) (fun h => h rfl)) rfl ?_
            refine Sx.calm rfl rfl (Cm.pick_f rfl rfl) rfl ?_
            refine Sx.nil ?_
            refine At.weak [(1, _), (2, _), (10, _), (11, _), (12, _), (13, _), (15, _), (16, _), (17, _), (18, _), (43, _), (66, _), (115, _)] ⟨rfl, rfl, rfl, rfl, rfl, rfl, rfl, rfl, rfl, rfl, rfl, rfl, rfl, trivial⟩ ?_
            refine At.go ?_
            refine Sc.cond_f rfl ?_
            refine Sc.skip ?_
            refine At.cut ⟨(addD f s b).1, (fun k => Nx A w10 w11 k ∧ ¬ blk o11 k), (fun k => Nx B w11 w14 k ∧ ¬ blk o14 k)⟩ ⟨rfl, rfl, rfl, rfl, rfl, trivial⟩ ⟨hM14, hR14, (fun k hk => ?_), (fun k hk => ?_), (fun k hk hb => ?_), by omega, by omega, hF814.draws 1⟩
            all_goals have hk0 := hk
            all_goals have hk := hk0.1
            · rcases hk with h1 | h1
              · have := hA k h1; exact ⟨this.1, by show k < w14.heap.size; omega⟩
              · have h2 := h1.1; have h3 := h1.2; have := hF10.size; exact ⟨by omega, by show k < w14.heap.size; omega⟩
            · rcases hk with h1 | h1
              · have := hB k h1; exact ⟨this.1, by show k < w14.heap.size; omega⟩
              · have h2 := h1.1; have h3 := h1.2; have := hF10.size; exact ⟨by omega, by show k < w14.heap.size; omega⟩
            · rcases hk with h1 | h1
              · rcases hb.1 with h2 | h2
                · exact hAB k h1 h2
                · have := hA k h1; have := h2.1; omega
              · rcases hb.1 with h2 | h2
                · have := hB k h2; have := h1.1; omega
                · have := h1.2; have := h2.1; omega
        ·
          refine Sl.calm (Cm.move rfl) rfl ?_
          refine Sl.skip rfl rfl rfl rfl ?_
          refine Sl.skip rfl rfl rfl rfl ?_
          refine Sl.skip rfl rfl rfl rfl ?_
          refine Sl.skip rfl rfl rfl rfl ?_
          refine Sl.calm (Cm.pick_f rfl rfl) rfl ?_
          refine Sl.calm (Cm.move rfl) rfl ?_
          refine Sl.skip rfl rfl rfl rfl ?_
          refine Sl.skip rfl rfl rfl rfl ?_
          refine Sl.skip rfl rfl rfl rfl ?_
          refine Sl.calm (Cm.pick_f rfl rfl) rfl ?_
          refine Sl.nil ?_
          refine At.weak [(1, _), (2, _), (10, _), (11, _), (12, _), (13, _), (43, _), (66, _)] ⟨rfl, rfl, rfl, rfl, rfl, rfl, rfl, rfl, trivial⟩ ?_
          refine At.go ?_
          refine Sc.cond_f rfl ?_
          refine Sc.seq ?_
          refine Sc.region ?_
          refine Sl.calm (Cm.move rfl) rfl ?_
          refine Sl.calm (Cm.move rfl) rfl ?_
          refine Sl.call fn12 rfl (daddT_ok A g p f s o10 c10 b w10 (hM8.grow hF810) ho10.vw (by omega) (by omega) (by omega)) rfl ?_
          rintro _ w11 ⟨o11, c11, rfl, ho11, hfr11, hM11, hF11⟩
          have hz11 := hF11.size
          have hR11 := (hR8.keep hF810 (fun _ _ _ => id)).keep hF11 (fun k _ hb ha => hAB k ha hb)
          have hF811 : Foot nob w5 w11 := hF10.trans_to hF11 (fun k hk => .inr (hA k hk).1)
          have ho1011 := ho10.keep hF11 (fun a ha e => by have := hfr10 a ha; have := (hA _ e).2; omega)
          have has := addD_B f s b
          have hru := runD_le b
          refine Sl.calm (Cm.move rfl) rfl ?_
          refine Sl.calm (Cm.extract rfl rfl) rfl ?_
          refine Sl.calm (Cm.extract rfl rfl) rfl ?_
          refine Sl.calm (Cm.assign rfl) rfl ?_
          refine Sl.calm (Cm.assign rfl) rfl ?_
          refine Sl.nil ?_
          refine At.weak [(1, _), (2, _), (10, _), (11, _), (12, _), (13, _), (15, _), (16, _), (43, _), (66, _)] ⟨rfl, rfl, rfl, rfl, rfl, rfl, rfl, rfl, rfl, rfl, trivial⟩ ?_
          refine At.go ?_
          refine Sc.seq ?_
          refine Sc.region ?_
          refine Sl.calm (Cm.move rfl) rfl ?_
          refine Sl.calm (Cm.move rfl) rfl ?_
          refine Sl.calm (Cm.move rfl) rfl ?_
          refine Sl.calm (Cm.indexAddr1 sl22 rfl rfl hro2.vw.non (by omega)) rfl ?_
          refine Sl.calm (Cm.ld sca23 rfl (by rw [Int.toNat_natCast]; exact cellH_keep (cellH_keep hcl0 hF25 id) hF811 id)) rfl ?_
          refine Sl.call fn16 rfl (rdaddT_ok B h f s x.a x.c b w11 hR11 ((hxv.grow hF25).grow hF811) (by omega) (by omega) (by omega) (by omega)) rfl ?_
          rintro _ w14 ⟨o14, c14, rfl, ho14, hfr14, hR14, hF14⟩
          have hz14 := hF14.size
          have hM14 := hM11.keep hF14 (fun k hk hb => by rcases hk.1 with h1 | h1; exact hAB k h1 hb; have := h1.1; have := (hB k hb).2; omega) (fun hb => by have := (hB p hb).1; omega)
          have hF814 : Foot nob w5 w14 := hF811.trans_to hF14 (fun k hk => .inr (hB k hk).1)
          have ho1114 := ho11.keep hF14 (fun a ha e => by have := hfr11 a ha; have := (hB _ e).2; omega)
          have ho1014 := ho1011.keep hF14 (fun a ha e => by have := hfr10 a ha; have := (hB _ e).2; omega)
          refine Sl.calm (Cm.move rfl) rfl ?_
          refine Sl.calm (Cm.extract rfl rfl) rfl ?_
          refine Sl.calm (Cm.extract rfl rfl) rfl ?_
          refine Sl.calm (Cm.assign rfl) rfl ?_
          refine Sl.calm (Cm.assign rfl) rfl ?_
          refine Sl.nil ?_
          refine At.weak [(1, _), (2, _), (10, _), (11, _), (12, _), (13, _), (15, _), (16, _), (17, _), (18, _), (43, _), (66, _)] ⟨rfl, rfl, rfl, rfl, rfl, rfl, rfl, rfl, rfl, rfl, rfl, rfl, trivial⟩ ?_
          refine At.go ?_
          refine Sc.seq ?_
          refine Sc.draw 20 (fun H => Vw b8 H o11 c11 (tailD b) ∧ Vw b8 H o14 c14 (tailD b) ∧ Vw b8 H o10 c10 b ∧ cellH H (adr ro i) = some (.slice x.a b.length x.c) ∧ Vw b8 H x.a x.c b) [] [0, 1, 2, 3, 4, 5, 6, 7, 8, 9, 10, 11, 12, 13, 14, 15, 16, 17, 18, 19] mixed (by kernel_rfl) (⟨ho1114.vw, ho14.vw, ho1014.vw, cellH_keep (cellH_keep hcl0 hF25 id) hF814 id, (hxv.grow hF25).grow hF814⟩) ?_
          refine Sx.calm rfl rfl (Cm.move rfl) rfl ?_
          refine Sx.calm rfl rfl (Cm.move rfl) rfl ?_
          refine Sx.calm rfl rfl (Cm.no (Cm.neq rfl rfl) (fun h => h rfl)) rfl ?_
          refine Sx.calm rfl rfl (Cm.move rfl) rfl ?_
          refine Sx.want rfl rfl rfl rfl (Cm.move rfl) rfl ?_
          refine Sx.want rfl rfl rfl rfl (Cm.str sl23 ty5 ty9 rfl (fun H hH => hH.1)) rfl ?_
          refine Sx.want rfl rfl rfl rfl (Cm.move rfl) rfl ?_
          refine Sx.want rfl rfl rfl rfl (Cm.str sl23 ty5 ty9 rfl (fun H hH => hH.2.1)) rfl ?_
          refine Sx.want rfl rfl rfl rfl (Cm.no (Cm.neqBs rfl rfl) (fun h => h rfl)) rfl ?_
          refine Sx.calm rfl rfl (Cm.pick_f rfl rfl) rfl ?_
          refine Sx.calm rfl rfl (Cm.move rfl) rfl ?_
          refine Sx.want rfl rfl rfl rfl (Cm.move rfl) rfl ?_
          refine Sx.want rfl rfl rfl rfl (Cm.str sl23 ty5 ty9 rfl (fun H hH => hH.2.2.1)) rfl ?_
          refine Sx.want rfl rfl rfl rfl (Cm.move rfl) rfl ?_
          refine Sx.want rfl rfl rfl rfl (Cm.move rfl) rfl ?_
          refine Sx.want rfl rfl rfl rfl (Cm.indexAddr1 sl22 rfl rfl hro2.vw.non (by omega)) rfl ?_
          refine Sx.want rfl rfl rfl rfl (Cm.load sca23 rfl (fun H hH => by rw [Int.toNat_natCast]; exact hH.2.2.2.1)) rfl ?_
          refine Sx.want rfl rfl rfl rfl (Cm.str sl23 ty5 ty9 rfl (fun H hH => hH.2.2.2.2)) rfl ?_
          refine Sx.want rfl rfl rfl rfl (Cm.no (Cm.neqBs rfl rfl) (fun h => h rfl)) rfl ?_
          refine Sx.calm rfl rfl (Cm.pick_f rfl rfl) rfl ?_
          refine Sx.nil ?_
          refine At.weak [(1, _), (2, _), (10, _), (11, _), (12, _), (13, _), (15, _), (16, _), (17, _), (18, _), (43, _), (66, _), (115, _)] ⟨rfl, rfl, rfl, rfl, rfl, rfl, rfl, rfl, rfl, rfl, rfl, rfl, rfl, trivial⟩ ?_
          refine At.go ?_
          refine Sc.cond_f rfl ?_
          refine Sc.skip ?_
          refine At.cut ⟨(addD f s b).1, (fun k => Nx A w10 w11 k ∧ ¬ blk o11 k), (fun k => Nx B w11 w14 k ∧ ¬ blk o14 k)⟩ ⟨rfl, rfl, rfl, rfl, rfl, trivial⟩ ⟨hM14, hR14, (fun k hk => ?_), (fun k hk => ?_), (fun k hk hb => ?_), by omega, by omega, hF814.draws 1⟩
          all_goals have hk0 := hk
          all_goals have hk := hk0.1
          · rcases hk with h1 | h1
            · have := hA k h1; exact ⟨this.1, by show k < w14.heap.size; omega⟩
            · have h2 := h1.1; have h3 := h1.2; have := hF10.size; exact ⟨by omega, by show k < w14.heap.size; omega⟩
          · rcases hk with h1 | h1
            · have := hB k h1; exact ⟨this.1, by show k < w14.heap.size; omega⟩
            · have h2 := h1.1; have h3 := h1.2; have := hF10.size; exact ⟨by omega, by show k < w14.heap.size; omega⟩
          · rcases hk with h1 | h1
            · rcases hb.1 with h2 | h2
              · exact hAB k h1 h2
              · have := hA k h1; have := h2.1; omega
            · rcases hb.1 with h2 | h2
              · have := hB k h2; have := h1.1; omega
              · have := h1.2; have := h2.1; omega
      ·
        rintro ⟨s2, A2, B2⟩ w15 ⟨hM15, hR15, hA15, hB15, hAB15, hs15, hm15, hF15⟩
        obtain ⟨yo, yc, ro1, rc1, ys1, yg, y1, _⟩ := id hR15
        refine Sc.seq ?_
        refine Sc.draw 9 (fun H => H[h]? = some (.cells (rdC f yo s2.B.length yc ro1 ys1.length rc1).toArray 42 (0, 0)) ∧ Vw b8 H yo yc s2.B) [1] [0, 3, 4, 5, 6, 7, 1, 2, 8] mixed (by kernel_rfl) (⟨yg, y1.vw⟩) ?_
        refine Sx.calm rfl rfl (Cm.move rfl) rfl ?_
        refine Sx.calm rfl rfl (Cm.move rfl) rfl ?_
        refine Sx.calm rfl rfl (Cm.nilCheck rfl) rfl ?_
        refine Sx.calm rfl rfl (Cm.field fld42_1 rfl) rfl ?_
        refine Sx.calm rfl rfl (Cm.load sca23 rfl (fun H hH => cellF hH.1 rfl)) rfl ?_
        refine Sx.calm rfl rfl (Cm.str sl23 ty5 ty9 rfl (fun H hH => hH.2)) rfl ?_
        refine Sx.eff rfl rfl (Sl.call fn13 rfl (ddone_ok _ g p f s2 _ (hM15.grow (Foot.ofDraws 1)) (by omega)) rfl ?_)
        rintro _ w16 ⟨o16, c16, rfl, ho16, hfr16, hf16⟩
        have hf16 := hf16.undraw
        refine Sx.add (fun H => Vw b8 H o16 c16 s2.B) (by exact ⟨hf16.obj yg id, y1.vw.grow hf16⟩) (by exact ho16.vw) ?_
        refine Sx.calm rfl rfl (Cm.str sl23 ty5 ty9 rfl (fun H hH => hH.2)) rfl ?_
        refine Sx.calm rfl rfl (Cm.no (Cm.neqBs rfl rfl) (fun h => h rfl)) rfl ?_
        refine Sx.nil ?_
        refine At.weak [(1, _), (2, _), (10, _), (11, _), (12, _), (124, _)] ⟨rfl, rfl, rfl, rfl, rfl, rfl, trivial⟩ ?_
        refine At.go ?_
        refine Sc.cond_f rfl ?_
        refine Sc.skip ?_
        refine At.block_normal ?_
        refine At.go ?_
        refine Sc.region ?_
        refine Sl.calm (Cm.move rfl) rfl ?_
        refine Sl.calm (Cm.add64 rfl rfl (by omega)) rfl ?_
        refine Sl.calm (Cm.assign rfl) rfl ?_
        refine Sl.nil ?_
        have hz16 := hf16.size
        exact At.again ⟨i + 1, s2, A2, B2⟩ ⟨rfl, rfl, rfl, rfl, rfl, trivial⟩ ⟨by omega, hM15.grow hf16, hR15.keep hf16 (fun _ _ _ => id), (fun k hk => ⟨(hA15 k hk).1, by have := (hA15 k hk).2; omega⟩), (fun k hk => ⟨(hB15 k hk).1, by have := (hB15 k hk).2; omega⟩), hAB15, hs15, hm15, hF15.trans hf16⟩ (by show M.length - (i + 1) < M.length - i; omega)
    ·
      refine Sl.nil ?_
      refine At.weak [(1, _), (2, _), (10, _), (11, _), (12, _), (43, _)] ⟨rfl, rfl, rfl, rfl, rfl, rfl, trivial⟩ ?_
      refine At.go ?_
      refine Sc.cond_f rfl ?_
      refine Sc.exit ?_
      refine At.then_exit ?_
      refine At.then_exit ?_
      refine At.block_hit ?_
      refine At.go ?_
      refine Sc.seq ?_
      refine Sc.region ?_
      refine Sl.calm (Cm.assign rfl) rfl ?_
      refine Sl.nil ?_
      refine At.go ?_
      refine Sc.ret ?_
      refine At.ret1 rfl rfl ?_
      exact ⟨_, rfl, rfl, hF5.trans hF8⟩
end Go.Proofs.YtpnfjfbfgaiolaaDoor
