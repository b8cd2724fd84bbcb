/- inode: the law on records that are read. No condition beyond the bounds that each states. -/
import Derived.Test.YtoaplldahbbaiaaIrBk
namespace Go.Proofs.Ytoaplldahbbaiaa
open Go Go.RowKit
set_option linter.unusedVariables false

theorem cutNc {α : Type} {ao : Option Addr} {c n : Nat} {b : List α} (h : (n : Int) < (b.length : Int)) (s : Nat) : some (Value.slice (cutAo ao c 0 s) n c) = some (.slice ao (b.take n).length c) := by
  rw [cutAo_zero, List.length_take, Nat.min_eq_left (by omega)]
theorem nocutNc {α : Type} {ao : Option Addr} {c n : Nat} {b : List α} (h : ¬ (n : Int) < (b.length : Int)) : some (Value.slice ao b.length c) = some (.slice ao (b.take n).length c) := by
  rw [List.take_of_length_le (by omega)]
def bd1 (z : Int) : Prop := -9223372036854775808 ≤ z ∧ z ≤ 9223372036854775807
theorem bd1_at {L : List Int} (h : ∀ x ∈ L, bd1 x) {i : Nat} (hi : i < L.length) : bd1 (L.getD i 0) := h _ (by rw [List.getD, List.getElem?_eq_getElem hi]; exact List.getElem_mem _)
set_option maxHeartbeats 4000000 in
theorem inodeReads_ok (io : Option Addr) (ic : Nat) (im0 : List UInt8) (lo : Option Addr) (lc : Nat) (L : List Int) (W : World) (hv0 : Vw b8 W.heap io ic im0) (hl0 : Vw i64 W.heap lo lc L) (hlb : ∀ x ∈ L, bd1 x) :
    Calls Try.prog 9 [.slice io im0.length ic, .slice lo L.length lc].toArray W (Ret fun v w' => v = .bool true ∧ Foot nob W w') := by
  obtain ⟨im, him⟩ : ∃ b, b = im0.take 3000 := ⟨_, rfl⟩
  have himl : im.length ≤ 3000 := by rw [him, List.length_take]; omega
  have hv : Vw b8 W.heap io ic im := by rw [him]; exact hv0.take 3000
  have hle := hv0.le
  have hll := hl0.len63
  refine calls_of_sc 83 [(0, _), (1, _)] Try.func9 rfl rfl rfl (enter_slots ⟨rfl, rfl, trivial⟩) ?_
  refine Sc.seq ?_
  refine Sc.region ?_
  refine Sl.calm (Cm.assign rfl) rfl ?_
  refine Sl.nil ?_
  refine At.go ?_
  refine Sc.seq ?_
  refine Sc.region ?_
  refine Sl.call fn20 rfl (shown09_ok W) rfl ?_
  rintro _ w1 ⟨rfl, hf1⟩
  refine Sl.calm (Cm.assign rfl) rfl ?_
  refine Sl.nil ?_
  refine At.weak [(0, _), (1, _), (4, _), (5, _)] ⟨rfl, rfl, rfl, rfl, trivial⟩ ?_
  refine At.go ?_
  refine Sc.cut (β := Unit) (fun _u => [(0, .slice io im.length ic), (1, .slice lo L.length lc), (5, .bool true)]) (fun _u w => w = w1) ?_ ?_
  ·
    refine Sc.seq ?_
    refine Sc.region ?_
    refine Sl.calm (Cm.move rfl) rfl ?_
    refine Sl.calm (Cm.len sl25 rfl) rfl ?_
    refine Sl.fork (Cm.gtr rfl rfl) rfl (fun h19 => ?_) (fun h19 => ?_)
    ·
      refine Sl.nil ?_
      refine At.weak [(0, _), (1, _), (4, _), (5, _), (19, _)] ⟨rfl, rfl, rfl, rfl, rfl, trivial⟩ ?_
      refine At.go ?_
      refine Sc.cond_t rfl ?_
      refine Sc.region ?_
      refine Sl.calm (Cm.move rfl) rfl ?_
      refine Sl.calm (Cm.sliceH sl25 rfl rfl (by omega)) rfl ?_
      refine Sl.calm (Cm.assign rfl) rfl ?_
      refine Sl.nil ?_
      refine At.cut () ⟨by rw [him]; exact cutNc (n := 3000) (by omega) 1, rfl, rfl, trivial⟩ rfl
    ·
      refine Sl.nil ?_
      refine At.weak [(0, _), (1, _), (4, _), (5, _), (19, _)] ⟨rfl, rfl, rfl, rfl, rfl, trivial⟩ ?_
      refine At.go ?_
      refine Sc.cond_f rfl ?_
      refine Sc.skip ?_
      refine At.cut () ⟨by rw [him]; exact nocutNc (n := 3000) (by omega), rfl, rfl, trivial⟩ rfl
  ·
    rintro _ wq hwq
    subst wq
    refine Sc.seq ?_
    refine Sc.region ?_
    refine Sl.call fn27 rfl (crcnew_ok w1) rfl ?_
    rintro _ w3 ⟨rfl, hf3⟩
    refine Sl.allocC zc42 rfl ?_
    intro w4 hg4 hs4 hf4
    refine Sl.storeAll (vs := tab) aggTab rfl rfl tab_one hg4 (by rw [tab_len, List.length_replicate]) ?_
    intro w5 hg5 hs5 hf5
    obtain ⟨p, hp⟩ : ∃ p, p = w3.heap.size := ⟨_, rfl⟩
    have hF5 : Foot nob W w5 := ((hf1.trans hf3).trans hf4).trans_to hf5 (fun k hk => .inr (by have h : k = w3.heap.size := hk; have := (hf1.trans hf3).size; omega))
    rw [← hp] at hg5 ⊢
    have ht5 : TbV w5.heap p := hg5
    refine Sl.nil ?_
    refine At.weak [(0, _), (1, _), (5, _), (6, _)] ⟨rfl, rfl, rfl, rfl, trivial⟩ ?_
    refine At.go ?_
    refine Sc.seq ?_
    refine Sc.region ?_
    refine Sl.lit0 b8 sl25 rfl ?_
    intro w6 ho6 hs6 hf6
    refine Sl.calm (Cm.move rfl) rfl ?_
    refine Sl.append b8_one sl25 rfl rfl ho6 ((hv.grow hF5).grow hf6) (by simp only [List.length_nil]; omega) (by simp only [List.length_nil]; unfold maxLen; omega) rfl ?_
    intro o7 c7 w7 ho7 hf7 hr7 hn7
    rw [List.nil_append] at ho7 ⊢
    have hF57 : Foot nob w5 w7 := hf6.trans_to hf7 (fun k ⟨a, ha, hk⟩ => .inr (by cases ha; have h : w5.heap.size = k := hk; omega))
    refine Sl.calm (Cm.move rfl) rfl ?_
    refine Sl.calm (Cm.len sl25 rfl) rfl ?_
    refine Sl.call fn28 rfl (mopenA_ok p o7 c7 im 0 im.length w7 (hF57.obj ht5 id) ho7.vw (by omega)) rfl ?_
    rintro _ w8 ⟨h, rfl, hh, hR8, hf8⟩
    have hF8 := (hF5.trans hF57).trans hf8
    have hz8 := hf8.size
    refine Sl.calm (Cm.assign rfl) rfl ?_
    refine Sl.nil ?_
    refine At.weak [(0, _), (1, _), (5, _), (6, _), (7, _)] ⟨rfl, rfl, rfl, rfl, rfl, trivial⟩ ?_
    refine At.go ?_
    refine Sc.seq ?_
    refine Sc.region ?_
    refine Sl.calm (Cm.move rfl) rfl ?_
    refine Sl.calm (Cm.move rfl) rfl ?_
    refine Sl.calm (Cm.len sl25 rfl) rfl ?_
    refine Sl.calm (Cm.build (cs := #[.slice io im.length ic, .int .i64 0, .int .i64 im.length]) plc49 zc49 rfl (by kernel_rfl)) rfl ?_
    refine Sl.box rfl rfl ?_
    intro w9 hg9 hs9 hf9
    obtain ⟨y, hy⟩ : ∃ y, y = w8.heap.size := ⟨_, rfl⟩
    rw [← hy] at hg9 ⊢
    have hF9 := hF8.trans hf9
    have hY9 : RrV w9.heap y io ic im 0 im.length := ⟨hg9, hv.grow hF9⟩
    have hR9 := hR8.grow hf9
    have hz9 := hf9.size
    refine Sl.calm (Cm.assign rfl) rfl ?_
    refine Sl.nil ?_
    refine At.weak [(0, _), (1, _), (5, _), (6, _), (7, _), (8, _)] ⟨rfl, rfl, rfl, rfl, rfl, rfl, trivial⟩ ?_
    refine At.go ?_
    refine Sc.seq ?_
    refine Sc.seq ?_
    refine Sc.region ?_
    refine Sl.calm (Cm.move rfl) rfl ?_
    refine Sl.calm (Cm.not rfl) rfl ?_
    refine Sl.calm (Cm.move rfl) rfl ?_
    refine Sl.want rfl rfl (Cm.move rfl) rfl ?_
    refine Sl.want rfl rfl (Cm.eqlPtrNil ptr44 rfl rfl) rfl ?_
    refine Sl.calm (Cm.pick_f rfl rfl) rfl ?_
    refine Sl.nil ?_
    refine At.weak [(0, _), (1, _), (5, _), (6, _), (7, _), (8, _), (39, _)] ⟨rfl, rfl, rfl, rfl, rfl, rfl, rfl, trivial⟩ ?_
    refine At.go ?_
    refine Sc.cond_f rfl ?_
    refine Sc.skip ?_
    refine At.go ?_
    refine Sc.seq ?_
    refine Sc.seq ?_
    refine Sc.region ?_
    refine Sl.calm (Cm.assign rfl) rfl ?_
    refine Sl.nil ?_
    refine At.go ?_
    refine Sc.block ?_
    refine Sc.loop (β := Nat × (Nat → Prop)) (fun ⟨i, R⟩ => [(1, .slice lo L.length lc), (7, .pointer (some ⟨h, 0, none⟩)), (8, .pointer (some ⟨y, 0, none⟩)), (9, .int .i64 i)]) (fun ⟨i, R⟩ w => i ≤ 20 ∧ MrO R w.heap h p im 0 im.length ∧ (∀ k, R k → w7.heap.size ≤ k ∧ k < w.heap.size) ∧ ¬ R y ∧ RrV w.heap y io ic im 0 im.length ∧ Foot nob w7 w) (fun ⟨i, R⟩ => 20 - i) ⟨0, fun k => w7.heap.size ≤ k ∧ k < w8.heap.size⟩ ⟨rfl, rfl, rfl, rfl, trivial⟩ ⟨Nat.zero_le _, hR9, (fun k hk => ⟨hk.1, by have := hk.2; omega⟩), (fun hk => by have := hk.2; omega), hY9, hf8.trans hf9⟩ ?_
    rintro ⟨i, R⟩ w10 ⟨hi, hR10, hRd, hyR, hY10, hF710⟩
    refine Sc.seq ?_
    refine Sc.seq ?_
    refine Sc.region ?_
    refine Sl.calm (Cm.move rfl) rfl ?_
    refine Sl.calm (Cm.move rfl) rfl ?_
    refine Sl.calm (Cm.len sl22 rfl) rfl ?_
    refine Sl.fork (Cm.lss rfl rfl) rfl (fun h43 => ?_) (fun h43 => ?_)
    ·
      have hiL : i < L.length := by omega
      have hl10 := hl0.grow ((hF5.trans hF57).trans hF710)
      obtain ⟨x, hx⟩ : ∃ x, x = L.getD i 0 := ⟨_, rfl⟩
      have hxb := bd1_at hlb hiL
      rw [← hx] at hxb
      obtain ⟨I, hI⟩ : ∃ I, I = inoR im 0 im.length x := ⟨_, rfl⟩
      refine Sl.calm (Cm.move rfl) rfl ?_
      refine Sl.want rfl rfl (Cm.move rfl) rfl ?_
      refine Sl.forkWant rfl rfl (Cm.lss rfl rfl) rfl (fun h46 => ?_) (fun h46 => ?_)
      ·
        refine Sl.calm (Cm.pick_t rfl rfl) rfl ?_
        refine Sl.nil ?_
        refine At.weak [(1, _), (7, _), (8, _), (9, _), (47, _)] ⟨rfl, rfl, rfl, rfl, rfl, trivial⟩ ?_
        refine At.go ?_
        refine Sc.cond_t rfl ?_
        refine Sc.skip ?_
        refine At.go ?_
        refine Sc.seq ?_
        refine Sc.block ?_
        refine Sc.seq ?_
        refine Sc.region ?_
        refine Sl.calm (Cm.move rfl) rfl ?_
        refine Sl.calm (Cm.move rfl) rfl ?_
        refine Sl.calm (Cm.move rfl) rfl ?_
        refine Sl.calm (Cm.indexAddr1 sl22 rfl rfl hl10.non (by omega)) rfl ?_
        refine Sl.calm (Cm.ld sca3 rfl (hl10.gz 0 i rfl hiL)) rfl ?_
        refine Sl.call fn35 rfl (by rw [← hx]; exact iread_ok R h p im 0 im.length x w10 hR10 (fun k hk => (hRd k hk).2) (by omega) hxb) rfl ?_
        rw [← hI]
        rintro _ w11 ⟨rfl, hR11, hF11⟩
        have hz11 := hF11.size
        have hF811 : Foot nob w7 w11 := hF710.trans_to hF11 (fun k hk => .inr (hRd k hk).1)
        have hY11 : RrV w11.heap y io ic im 0 im.length := ⟨hF11.obj hY10.1 hyR, hv.grow ((hF5.trans hF57).trans hF811)⟩
        refine Sl.calm (Cm.move rfl) rfl ?_
        refine Sl.calm (Cm.extract rfl rfl) rfl ?_
        refine Sl.calm (Cm.extract rfl rfl) rfl ?_
        refine Sl.calm (Cm.extract rfl rfl) rfl ?_
        refine Sl.allocC zc33 rfl ?_
        intro w12 hg12 hs12 hf12
        refine Sl.storeAll (vs := inoC I.1.1 I.1.2) agg33 rfl rfl (by intro v hv; exact inoC_one _ _ v hv) hg12 rfl ?_
        intro w13 hg13 hs13 hf13
        have hf1113 : Foot nob w11 w13 := hf12.trans_to hf13 (fun k hk => .inr (by have h : k = w11.heap.size := hk; omega))
        have hl13 := hl0.grow ((hF5.trans hF57).trans (hF811.trans hf1113))
        refine Sl.calm (Cm.assign rfl) rfl ?_
        refine Sl.calm (Cm.assign rfl) rfl ?_
        refine Sl.nil ?_
        refine At.weak [(1, _), (7, _), (8, _), (9, _), (10, _), (11, _), (12, _), (47, _)] ⟨rfl, rfl, rfl, rfl, rfl, rfl, rfl, rfl, trivial⟩ ?_
        refine At.go ?_
        refine Sc.seq ?_
        refine Sc.region ?_
        refine Sl.calm (Cm.move rfl) rfl ?_
        refine Sl.calm (Cm.move rfl) rfl ?_
        refine Sl.calm (Cm.move rfl) rfl ?_
        refine Sl.calm (Cm.indexAddr1 sl22 rfl rfl hl13.non (by omega)) rfl ?_
        refine Sl.calm (Cm.ld sca3 rfl (hl13.gz 0 i rfl hiL)) rfl ?_
        refine Sl.call fn36 rfl (by rw [← hx]; exact riread_ok y io ic im 0 im.length x w13 (hY11.grow hf1113) (by omega) hxb) rfl ?_
        rw [← hI]
        rintro _ w14 ⟨rfl, hf14⟩
        have hg14 := hf14.obj hg13 id
        have hz14 := hf14.size
        refine Sl.calm (Cm.move rfl) rfl ?_
        refine Sl.calm (Cm.extract rfl rfl) rfl ?_
        refine Sl.calm (Cm.extract rfl rfl) rfl ?_
        refine Sl.calm (Cm.extract rfl rfl) rfl ?_
        refine Sl.allocC zc33 rfl ?_
        intro w15 hg15 hs15 hf15
        refine Sl.storeAll (vs := inoC I.1.1 I.1.2) agg33 rfl rfl (by intro v hv; exact inoC_one _ _ v hv) hg15 rfl ?_
        intro w16 hg16 hs16 hf16
        have hf1416 : Foot nob w14 w16 := hf15.trans_to hf16 (fun k hk => .inr (by have h : k = w14.heap.size := hk; omega))
        have hg16a := hf1416.obj hg14 id
        have hf1116 := (hf1113.trans hf14).trans hf1416
        refine Sl.calm (Cm.assign rfl) rfl ?_
        refine Sl.calm (Cm.assign rfl) rfl ?_
        refine Sl.nil ?_
        refine At.weak [(1, _), (7, _), (8, _), (9, _), (10, _), (11, _), (12, _), (13, _), (14, _), (15, _), (47, _)] ⟨rfl, rfl, rfl, rfl, rfl, rfl, rfl, rfl, rfl, rfl, rfl, trivial⟩ ?_
        refine At.go ?_
        refine Sc.seq ?_
        refine Sc.region ?_
        refine Sl.calm (Cm.ldM (cs := inoC I.1.1 I.1.2) agg33 rfl (fun j v hj => cellF hg16a hj)) rfl ?_
        refine Sl.calm (Cm.ldM (cs := inoC I.1.1 I.1.2) agg33 rfl (fun j v hj => cellF hg16 hj)) rfl ?_
        refine Sl.calm (Cm.no (Cm.neqIno rfl rfl) (fun h => h ⟨fun _ _ => rfl, rfl⟩)) rfl ?_
        refine Sl.calm (Cm.move rfl) rfl ?_
        refine Sl.want rfl rfl (Cm.move rfl) rfl ?_
        refine Sl.want rfl rfl (Cm.move rfl) rfl ?_
        refine Sl.want rfl rfl (Cm.no (Cm.neq rfl rfl) (fun h => h rfl)) rfl ?_
        refine Sl.calm (Cm.pick_f rfl rfl) rfl ?_
        refine Sl.calm (Cm.move rfl) rfl ?_
        refine Sl.want rfl rfl (Cm.move rfl) rfl ?_
        refine Sl.want rfl rfl (Cm.move rfl) rfl ?_
        refine Sl.want rfl rfl (Cm.no (Cm.neq rfl rfl) (fun h => h rfl)) rfl ?_
        refine Sl.calm (Cm.pick_f rfl rfl) rfl ?_
        refine Sl.nil ?_
        refine At.weak [(1, _), (7, _), (8, _), (9, _), (10, _), (11, _), (12, _), (13, _), (14, _), (15, _), (47, _), (82, _)] ⟨rfl, rfl, rfl, rfl, rfl, rfl, rfl, rfl, rfl, rfl, rfl, rfl, trivial⟩ ?_
        refine At.go ?_
        refine Sc.cond_f rfl ?_
        refine Sc.skip ?_
        refine At.block_normal ?_
        refine At.go ?_
        refine Sc.region ?_
        refine Sl.calm (Cm.move rfl) rfl ?_
        refine Sl.calm (Cm.add64 rfl rfl (by omega)) rfl ?_
        refine Sl.calm (Cm.assign rfl) rfl ?_
        refine Sl.nil ?_
        have hf716 := hF811.trans hf1116
        have hz16 := hf1116.size
        have hyl := (Array.getElem?_eq_some_iff.1 hY10.1).1
        exact At.again ⟨i + 1, Nx R w10 w11⟩ ⟨rfl, rfl, rfl, rfl, trivial⟩ ⟨by omega, hR11.grow hf1116, (fun k hk => by rcases hk with h2 | h2; have := hRd k h2; exact ⟨this.1, by omega⟩; have h3 := h2.1; have h4 := h2.2; have := hF710.size; exact ⟨by omega, by omega⟩), (fun hk => by rcases hk with h2 | h2; exact hyR h2; have := h2.1; omega), ((hY11.grow hf1113).grow hf14).grow hf1416, hf716⟩ (by show 20 - (i + 1) < 20 - i; omega)
      ·
        refine Sl.calm (Cm.pick_t rfl rfl) rfl ?_
        refine Sl.nil ?_
        refine At.weak [(1, _), (7, _), (8, _), (9, _), (47, _)] ⟨rfl, rfl, rfl, rfl, rfl, trivial⟩ ?_
        refine At.go ?_
        refine Sc.cond_f rfl ?_
        refine Sc.exit ?_
        refine At.then_exit ?_
        refine At.then_exit ?_
        refine At.block_hit ?_
        refine At.go ?_
        refine Sc.seq ?_
        refine Sc.region ?_
        refine Sl.calm (Cm.assign rfl) rfl ?_
        refine Sl.nil ?_
        refine At.go ?_
        refine Sc.ret ?_
        refine At.ret1 rfl rfl ?_
        exact ⟨_, rfl, rfl, (hF5.trans hF57).trans hF710⟩
    ·
      refine Sl.calm (Cm.move rfl) rfl ?_
      refine Sl.skip rfl rfl rfl rfl ?_
      refine Sl.skip rfl rfl rfl rfl ?_
      refine Sl.calm (Cm.pick_f rfl rfl) rfl ?_
      refine Sl.nil ?_
      refine At.weak [(1, _), (7, _), (8, _), (9, _), (47, _)] ⟨rfl, rfl, rfl, rfl, rfl, trivial⟩ ?_
      refine At.go ?_
      refine Sc.cond_f rfl ?_
      refine Sc.exit ?_
      refine At.then_exit ?_
      refine At.then_exit ?_
      refine At.block_hit ?_
      refine At.go ?_
      refine Sc.seq ?_
      refine Sc.region ?_
      refine Sl.calm (Cm.assign rfl) rfl ?_
      refine Sl.nil ?_
      refine At.go ?_
      refine Sc.ret ?_
      refine At.ret1 rfl rfl ?_
      exact ⟨_, rfl, rfl, (hF5.trans hF57).trans hF710⟩
end Go.Proofs.Ytoaplldahbbaiaa
