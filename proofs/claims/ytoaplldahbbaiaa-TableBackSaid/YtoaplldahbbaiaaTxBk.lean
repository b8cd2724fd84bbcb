/- table: TakeXattrs, the program's. No condition beyond the bounds that each states. -/
import Derived.Test.YtoaplldahbbaiaaTxAk
import Derived.Test.YtoaplldahbbaiaaCkAk
import Derived.Test.YtoaplldahbbaiaaBxk
namespace Go.Proofs.Ytoaplldahbbaiaa
open Go Go.RowKit
set_option linter.unusedVariables false

def hdT : Hd := ⟨none, 0, 0⟩
def pairF (l : List (List UInt8)) (hs : List Hd) (i : Nat) : List UInt8 × Hd := (l.getD (2 * i) [], hs.getD (2 * i + 1) hdT)
theorem pair_data {D : Nat → Prop} {H : Array Obj} {hs : List Hd} {l : List (List UInt8)} (h : RowsV D H hs l) (h255 : ∀ x ∈ l, x.length ≤ 255) (i : Nat) (x : List UInt8 × Hd) (y : Xa)
    (hx : ((List.range (l.length / 2)).map (pairF l hs))[i]? = some x) (hy : (pairsL l)[i]? = some y) : x.1 = y.1 ∧ x.2.n = y.2.length ∧ Vw b8 H x.2.a x.2.c y.2 ∧ y.1.length ≤ maxLen := by
  have hi : i < l.length / 2 := by have := (List.getElem?_eq_some_iff.1 hy).1; rwa [pairsL_len] at this
  rw [pairsL_at hi] at hy
  simp [hi] at hx
  cases hy
  subst hx
  obtain ⟨z, hz, h1, h2, h3⟩ := h.at (i := 2 * i + 1) (by omega)
  have e : (pairF l hs i).2 = z := by unfold pairF; simp [List.getD, hz]
  have hm : l.getD (2 * i) [] ∈ l := by rw [List.getD, List.getElem?_eq_getElem (by omega)]; exact List.getElem_mem _
  rw [e]
  exact ⟨rfl, h1, h2, Nat.le_trans (h255 _ hm) (by unfold maxLen; decide)⟩
theorem XaV.nil {H : Array Obj} : XaV H none 0 [] := ⟨[], VwM.nil 0 (Nat.zero_le _), rfl, by simp⟩
set_option maxHeartbeats 4000000 in
theorem txattrs_ok (A : Nat → Prop) (g p : Nat) (im : List UInt8) (fr to ref : Int) (W : World) (hM : MrO A W.heap g p im fr to) (hA : ∀ k, A k → k < W.heap.size) (him : im.length ≤ 1073741824) (href : bdT ref) :
    Calls Try.prog 31 [.pointer (some ⟨g, 0, none⟩), .int .i64 ref].toArray W (Ret fun v w' => ∃ o c,
      v = .tuple #[.slice o (rtXs im fr to ref).1.length c, .int .i64 (rtXs im fr to ref).2] ∧ XaV w'.heap o c (rtXs im fr to ref).1 ∧ MrO (Nx A W w') w'.heap g p im fr to ∧ Foot A W w') := by
  obtain ⟨ht, hp⟩ := hM.tab
  have hpl : p < W.heap.size := (Array.getElem?_eq_some_iff.1 ht).1
  obtain ⟨R, hR⟩ : ∃ R, R = readS im fr to ref 1 := ⟨_, rfl⟩
  refine calls_of_scM 64 [(0, _), (1, _)] Try.func31 rfl rfl rfl (enter_slots ⟨rfl, rfl, trivial⟩) ?_
  refine Sc.seq ?_
  refine Sc.region ?_
  refine Sl.calm (Cm.assign rfl) rfl ?_
  refine Sl.calm (Cm.assign rfl) rfl ?_
  refine Sl.nil ?_
  refine At.go ?_
  refine Sc.seq ?_
  refine Sc.region ?_
  refine Sl.calm (Cm.move rfl) rfl ?_
  refine Sl.calm (Cm.move rfl) rfl ?_
  refine Sl.call fn61 rfl (mreadA_ok A g p im fr to ref 1 W hM (by omega) href (by decide)) rfl ?_
  rw [← hR]
  rintro _ w1 ⟨o1, c1, rfl, ho1, hfr1, hM1, hF1⟩
  have hz1 := hF1.size
  have hA1 : ∀ k, (Nx A W w1 k ∧ ¬ blk o1 k) → k < w1.heap.size := fun k hk => hk.1.elim (fun h => by have := hA k h; omega) (fun h => h.2)
  have hM1x : MrO (Nx A W w1) w1.heap g p im fr to := hM1.mono (fun k hk => hk.1) (fun h => h.elim hp (fun h => by omega))
  refine Sl.calm (Cm.move rfl) rfl ?_
  refine Sl.calm (Cm.extract rfl rfl) rfl ?_
  refine Sl.calm (Cm.extract rfl rfl) rfl ?_
  refine Sl.calm (Cm.extract rfl rfl) rfl ?_
  refine Sl.calm (Cm.assign rfl) rfl ?_
  refine Sl.calm (Cm.assign rfl) rfl ?_
  refine Sl.calm (Cm.assign rfl) rfl ?_
  refine Sl.nil ?_
  refine At.weak [(0, _), (1, _), (4, _), (5, _), (6, _), (7, _), (8, _)] ⟨rfl, rfl, rfl, rfl, rfl, rfl, rfl, trivial⟩ ?_
  refine At.go ?_
  refine Sc.seq ?_
  refine Sc.seq ?_
  refine Sc.region ?_
  refine Sl.calm (Cm.move rfl) rfl ?_
  refine Sl.fork (Cm.neq rfl rfl) rfl (fun h20 => ?_) (fun h20 => ?_)
  ·
    have e : rtXs im fr to ref = ([], 2) := rtXs_bad (.inl (by rw [← hR]; exact h20))
    refine Sl.calm (Cm.move rfl) rfl ?_
    refine Sl.skip rfl rfl rfl rfl ?_
    refine Sl.skip rfl rfl rfl rfl ?_
    refine Sl.skip rfl rfl rfl rfl ?_
    refine Sl.skip rfl rfl rfl rfl ?_
    refine Sl.calm (Cm.pick_t rfl rfl) rfl ?_
    refine Sl.calm (Cm.move rfl) rfl ?_
    refine Sl.skip rfl rfl rfl rfl ?_
    refine Sl.skip rfl rfl rfl rfl ?_
    refine Sl.skip rfl rfl rfl rfl ?_
    refine Sl.skip rfl rfl rfl rfl ?_
    refine Sl.calm (Cm.pick_t rfl rfl) rfl ?_
    refine Sl.nil ?_
    refine At.weak [(0, _), (1, _), (4, _), (5, _), (6, _), (7, _), (8, _), (32, _)] ⟨rfl, rfl, rfl, rfl, rfl, rfl, rfl, rfl, trivial⟩ ?_
    refine At.go ?_
    refine Sc.cond_t rfl ?_
    refine Sc.seq ?_
    refine Sc.region ?_
    refine Sl.calm (Cm.assign rfl) rfl ?_
    refine Sl.calm (Cm.assign rfl) rfl ?_
    refine Sl.nil ?_
    refine At.go ?_
    refine Sc.ret ?_
    refine At.then_ret ?_
    refine At.ret2M rfl rfl rfl ?_
    exact ⟨_, rfl, none, 0, by rw [e]; rfl, by rw [e]; exact XaV.nil, hM1x, hF1⟩
  ·
    have e20 : R.2.2 = 0 := Decidable.not_not.1 h20
    have hl1 : (R.1.length : Int) = 1 := by have := e20; rw [hR] at this ⊢; exact (readS_ok this).2.2.2.1
    have hu := UInt8.toNat_lt (R.1.getD 0 0)
    obtain ⟨n, hn⟩ : ∃ n, n = (R.1.getD 0 0).toNat := ⟨_, rfl⟩
    have hRb : bdT R.2.1 := by rw [hR]; exact readS_bd href him
    refine Sl.calm (Cm.move rfl) rfl ?_
    refine Sl.want rfl rfl (Cm.move rfl) rfl ?_
    refine Sl.want rfl rfl (Cm.indexAddr1 sl25 rfl rfl ho1.vw.non (by omega)) rfl ?_
    refine Sl.want rfl rfl (Cm.ld sca5 rfl (ho1.vw.gz 0 0 rfl (by omega))) rfl ?_
    refine Sl.forkWant rfl rfl (Cm.eql rfl rfl) rfl (fun h25 => ?_) (fun h25 => ?_)
    ·
      have h25 : ((R.1.getD 0 0).toNat : Int) = 0 := h25
      have e : rtXs im fr to ref = ([], 2) := rtXs_bad (.inr (.inl (by rw [← hR]; omega)))
      refine Sl.calm (Cm.pick_f rfl rfl) rfl ?_
      refine Sl.calm (Cm.move rfl) rfl ?_
      refine Sl.skip rfl rfl rfl rfl ?_
      refine Sl.skip rfl rfl rfl rfl ?_
      refine Sl.skip rfl rfl rfl rfl ?_
      refine Sl.skip rfl rfl rfl rfl ?_
      refine Sl.calm (Cm.pick_t rfl rfl) rfl ?_
      refine Sl.nil ?_
      refine At.weak [(0, _), (1, _), (4, _), (5, _), (6, _), (7, _), (8, _), (32, _)] ⟨rfl, rfl, rfl, rfl, rfl, rfl, rfl, rfl, trivial⟩ ?_
      refine At.go ?_
      refine Sc.cond_t rfl ?_
      refine Sc.seq ?_
      refine Sc.region ?_
      refine Sl.calm (Cm.assign rfl) rfl ?_
      refine Sl.calm (Cm.assign rfl) rfl ?_
      refine Sl.nil ?_
      refine At.go ?_
      refine Sc.ret ?_
      refine At.then_ret ?_
      refine At.ret2M rfl rfl rfl ?_
      exact ⟨_, rfl, none, 0, by rw [e]; rfl, by rw [e]; exact XaV.nil, hM1x, hF1⟩
    ·
      have h25 : ¬ ((R.1.getD 0 0).toNat : Int) = 0 := h25
      refine Sl.calm (Cm.pick_f rfl rfl) rfl ?_
      refine Sl.calm (Cm.move rfl) rfl ?_
      refine Sl.want rfl rfl (Cm.move rfl) rfl ?_
      refine Sl.want rfl rfl (Cm.indexAddr1 sl25 rfl rfl ho1.vw.non (by omega)) rfl ?_
      refine Sl.want rfl rfl (Cm.ld sca5 rfl (ho1.vw.gz 0 0 rfl (by omega))) rfl ?_
      refine Sl.forkWant rfl rfl (Cm.gtr rfl rfl) rfl (fun h31 => ?_) (fun h31 => ?_)
      ·
        have h31 : (8 : Int) < ((R.1.getD 0 0).toNat : Int) := h31
        have e : rtXs im fr to ref = ([], 2) := rtXs_bad (.inr (.inr (by rw [← hR]; omega)))
        refine Sl.calm (Cm.pick_f rfl rfl) rfl ?_
        refine Sl.nil ?_
        refine At.weak [(0, _), (1, _), (4, _), (5, _), (6, _), (7, _), (8, _), (32, _)] ⟨rfl, rfl, rfl, rfl, rfl, rfl, rfl, rfl, trivial⟩ ?_
        refine At.go ?_
        refine Sc.cond_t rfl ?_
        refine Sc.seq ?_
        refine Sc.region ?_
        refine Sl.calm (Cm.assign rfl) rfl ?_
        refine Sl.calm (Cm.assign rfl) rfl ?_
        refine Sl.nil ?_
        refine At.go ?_
        refine Sc.ret ?_
        refine At.then_ret ?_
        refine At.ret2M rfl rfl rfl ?_
        exact ⟨_, rfl, none, 0, by rw [e]; rfl, by rw [e]; exact XaV.nil, hM1x, hF1⟩
      ·
        have h31 : ¬ (8 : Int) < ((R.1.getD 0 0).toNat : Int) := h31
        have hgood : ¬ ((readS im fr to ref 1).2.2 ≠ 0 ∨ ((readS im fr to ref 1).1.getD 0 0).toNat = 0 ∨ 8 < ((readS im fr to ref 1).1.getD 0 0).toNat) := by rw [← hR]; rintro (h | h | h); exact h e20; omega; omega
        refine Sl.calm (Cm.pick_f rfl rfl) rfl ?_
        refine Sl.nil ?_
        refine At.weak [(0, _), (1, _), (4, _), (5, _), (6, _), (7, _), (8, _), (32, _)] ⟨rfl, rfl, rfl, rfl, rfl, rfl, rfl, rfl, trivial⟩ ?_
        refine At.go ?_
        refine Sc.cond_f rfl ?_
        refine Sc.skip ?_
        refine At.go ?_
        refine Sc.seq ?_
        refine Sc.region ?_
        refine Sl.calm (Cm.move rfl) rfl ?_
        refine Sl.calm (Cm.move rfl) rfl ?_
        refine Sl.calm (Cm.move rfl) rfl ?_
        refine Sl.calm (Cm.indexAddr1 sl25 rfl rfl ho1.vw.non (by omega)) rfl ?_
        refine Sl.calm (Cm.ld sca5 rfl (ho1.vw.gz 0 0 rfl (by omega))) rfl ?_
        refine Sl.calm (Cm.convI_in (n := (n : Int)) is5 ty3 rfl (by rw [hn]; exact u8_i64T _)) rfl ?_
        refine Sl.calm (Cm.ofEq (u := .int .i64 ((2 * n : Nat) : Int)) (Cm.mul64 rfl rfl (by omega)) (by congr 1)) rfl ?_
        refine Sl.call fn63 rfl (texts_ok (fun k => Nx A W w1 k ∧ ¬ blk o1 k) g p im fr to R.2.1 (2 * n) w1 hM1 hA1 him hRb (by omega)) rfl ?_
        rintro _ w2 ⟨o2, c2, hs, l, ee, rfl, hE, hfr2, hM2, hF2⟩
        have hz2 := hF2.size
        have hFW2 : Foot A W w2 := hF1.trans_to hF2 (fun k hk => hk.1.imp id (fun h => h.1))
        have hB2 : ∀ k, Nx (fun k => Nx A W w1 k ∧ ¬ blk o1 k) w1 w2 k → A k ∨ (W.heap.size ≤ k ∧ k < w2.heap.size) := fun k hk => hk.elim (fun h => h.1.imp id (fun h => ⟨h.1, by omega⟩)) (fun h => .inr ⟨by omega, h.2⟩)
        refine Sl.calm (Cm.move rfl) rfl ?_
        refine Sl.calm (Cm.extract rfl rfl) rfl ?_
        refine Sl.calm (Cm.extract rfl rfl) rfl ?_
        refine Sl.calm (Cm.assign rfl) rfl ?_
        refine Sl.calm (Cm.assign rfl) rfl ?_
        refine Sl.nil ?_
        refine At.weak [(0, _), (1, _), (4, _), (5, _), (6, _), (7, _), (8, _), (9, _), (32, _)] ⟨rfl, rfl, rfl, rfl, rfl, rfl, rfl, rfl, rfl, trivial⟩ ?_
        refine At.go ?_
        refine Sc.seq ?_
        refine Sc.seq ?_
        refine Sc.region ?_
        refine Sl.calm (Cm.move rfl) rfl ?_
        refine Sl.fork (Cm.neq rfl rfl) rfl (fun h45 => ?_) (fun h45 => ?_)
        ·
          have hnone := (hE.resolve_right (fun h => h45 h.1)).1
          have e : rtXs im fr to ref = ([], 2) := rtXs_none hgood (by rw [← hR, ← hn]; exact hnone)
          refine Sl.nil ?_
          refine At.weak [(0, _), (1, _), (4, _), (5, _), (6, _), (7, _), (8, _), (9, _), (32, _), (45, _)] ⟨rfl, rfl, rfl, rfl, rfl, rfl, rfl, rfl, rfl, rfl, trivial⟩ ?_
          refine At.go ?_
          refine Sc.cond_t rfl ?_
          refine Sc.seq ?_
          refine Sc.region ?_
          refine Sl.calm (Cm.assign rfl) rfl ?_
          refine Sl.calm (Cm.assign rfl) rfl ?_
          refine Sl.nil ?_
          refine At.go ?_
          refine Sc.ret ?_
          refine At.then_ret ?_
          refine At.ret2M rfl rfl rfl ?_
          exact ⟨_, rfl, none, 0, by rw [e]; rfl, by rw [e]; exact XaV.nil, hM2.mono hB2 (fun h => h.elim hp (fun h => by omega)), hFW2⟩
        ·
          have e45 : ee = 0 := Decidable.not_not.1 h45
          obtain ⟨_, ⟨r, hr⟩, h255, ho2, hrw2⟩ := hE.resolve_left (fun h => h.2 e45)
          have hll := rtTL_len _ _ _ _ hr
          have hhl := hrw2.1
          refine Sl.nil ?_
          refine At.weak [(0, _), (1, _), (4, _), (5, _), (6, _), (7, _), (8, _), (9, _), (32, _), (45, _)] ⟨rfl, rfl, rfl, rfl, rfl, rfl, rfl, rfl, rfl, rfl, trivial⟩ ?_
          refine At.go ?_
          refine Sc.cond_f rfl ?_
          refine Sc.skip ?_
          refine At.go ?_
          refine Sc.seq ?_
          refine Sc.region ?_
          refine Sl.allocC zc23 rfl ?_
          intro w3 hg3 hs3 hf3
          obtain ⟨bx, hbx⟩ : ∃ bx, bx = w2.heap.size := ⟨_, rfl⟩
          rw [← hbx] at hg3 ⊢
          refine Sl.nil ?_
          refine At.go ?_
          refine Sc.seq ?_
          refine Sc.seq ?_
          refine Sc.region ?_
          refine Sl.calm (Cm.move rfl) rfl ?_
          refine Sl.call fn64 rfl (chunk_ok o2 c2 l.length 2 w3 (by decide)) rfl ?_
          rintro _ w4 ⟨rfl, hsb4, hnb4, hz4, hf4⟩
          have hg4 : w4.heap[bx]? = some (.cells [Value.slice none ([] : List (Fin (ckN l.length 2))).length 0].toArray 23 (0, 0)) := hf4.obj hg3 id
          have hf24 := hf3.trans hf4
          have ho4 := ho2.grow hf24
          have hrw4 := hrw2.keep hf24 (fun _ _ => id)
          have hm : ckN l.length 2 = n := by unfold ckN; omega
          have hm2 : l.length / 2 = n := by omega
          refine Sl.nil ?_
          refine At.weak [(0, _), (1, _), (4, _), (5, _), (6, _), (7, _), (8, _), (9, _), (10, _), (32, _), (45, _), (47, _)] ⟨rfl, rfl, rfl, rfl, rfl, rfl, rfl, rfl, rfl, rfl, rfl, rfl, trivial⟩ ?_
          refine At.go ?_
          refine Sc.block ?_
          refine Sc.range (α := Fin (ckN l.length 2)) (f := 47) (p := 48) (q := 11) (gf := 93) (lb := (ckA w3.heap.size (w3.heap.size + 1)).toArray) (enc := fun i => ckV o2 l.length 2 i.1) (M := ckN l.length 2) rfl fn93 (chunk_it w3.heap.size (w3.heap.size + 1) o2 c2 l.length 2 w4 hsb4 hnb4 (by decide) (by decide) (by have := ho2.vw.le; omega) (by omega)) KpB.trans (fun W1 l1 _ _ hl1 _ _ _ => ⟨World.putObj_heap_other (by omega), World.putObj_heap_other (by omega)⟩) (Below.refl _ _) rfl rfl (BxI 2 encX 82 23 bx w4 (fun i => pairF l hs i.1)) BxI.own ⟨none, 0, hg4, OwnM.nil, Fr.none, Foot.refl _ _⟩ ?_ ?_
          ·
            rintro lp pre x w ⟨oo, oc, hbw, hoo, hfro, hFw⟩ hlt
            have hxn : x.1 < n := by have := x.2; omega
            have hpl2 : (pre.map (fun i => pairF l hs i.1)).length = pre.length := List.length_map _
            have ho4w := ho4.keep hFw (fun a ha e => by have e : a.block = bx := e; have := ho2.lt a ha; omega)
            have hrww := hrw4.keep hFw (fun k hk e => by have e : k = bx := e; have := hk.2; omega)
            obtain ⟨y0, hy0, hy0n, hy0v, hy0D⟩ := hrww.at (i := 2 * x.1) (by omega)
            obtain ⟨y1, hy1, hy1n, hy1v, _⟩ := hrww.at (i := 2 * x.1 + 1) (by omega)
            obtain ⟨s, hse⟩ : ∃ s, s = l.getD (2 * x.1) [] := ⟨_, rfl⟩
            rw [← hse] at hy0n hy0v hy0D
            have hfx : pairF l hs x.1 = (s, y1) := by unfold pairF; rw [← hse]; simp [List.getD, hy1]
            obtain ⟨co, hco⟩ : ∃ co, co = cutAo o2 (x.1 * 2 + 2) (x.1 * 2) 1 := ⟨_, rfl⟩
            have hke : ckE l.length 2 x.1 = 2 := by unfold ckE; omega
            have hck : ckV o2 l.length 2 x.1 = .slice co 2 2 := by unfold ckV; rw [hke, ← hco]
            rw [hck]
            have hcv := ho4w.vw.cut (l := x.1 * 2) (h := x.1 * 2 + 2) (m := x.1 * 2 + 2) (by omega) (by omega) (by have := ho2.vw.le; omega) (by have := ho2.vw.le; omega)
            rw [← hco, Nat.add_sub_cancel_left] at hcv
            have hcl : ((hs.drop (x.1 * 2)).take 2).length = 2 := by rw [List.length_take, List.length_drop]; omega
            have hnon : (2 : Nat) ≠ 0 → co ≠ none := fun _ => hcv.non (by rw [hcl]; decide)
            have hc0 : cellH w.heap (adr co 0) = some (.slice y0.a s.length y0.c) := by
              have h := hcv.get 0 y0 (by rw [List.getElem?_take, if_pos (by decide), List.getElem?_drop, show x.1 * 2 + 0 = 2 * x.1 by omega]; exact hy0)
              unfold hd at h
              rwa [hy0n] at h
            have hc1 : cellH w.heap (adr co 1) = some (hd y1) := hcv.get 1 y1 (by rw [List.getElem?_take, if_pos (by decide), List.getElem?_drop, show x.1 * 2 + 1 = 2 * x.1 + 1 by omega]; exact hy1)
            have hcb : ∀ i, (adr co i).block < w4.heap.size := fun i => by
              obtain ⟨a0, ha0⟩ := Option.ne_none_iff_exists'.1 (hnon (by decide))
              have ha0 : co = some a0 := ha0
              have hb : blk co a0.block := ⟨a0, ha0, rfl⟩
              rw [hco] at hb
              obtain ⟨a1, ha1, hb1⟩ := blk_cut hb
              have := ho4.lt a1 ha1
              rw [ha0, adr_block]; omega
            rw [← hpl2] at hbw
            refine Rc.block ?_
            refine Rc.draw 11 (fun H => H[bx]? = some (.cells [Value.slice oo (pre.map (fun i => pairF l hs i.1)).length oc].toArray 23 (0, 0)) ∧ cellH H (adr co 0) = some (.slice y0.a s.length y0.c) ∧ cellH H (adr co 1) = some (hd y1) ∧ Vw b8 H y0.a y0.c s) [9, 10, 11] [0, 1, 2, 3, 4, 5, 6, 7, 8, 9, 10, 11] mixed (by kernel_rfl) rfl (⟨hbw, hc0, hc1, hy0v⟩) ?_
            refine Sx.calm rfl rfl (Cm.load sca23 rfl (fun H hH => cellF0 hH.1 rfl)) rfl ?_
            refine Sx.calm rfl rfl (Cm.move rfl) rfl ?_
            refine Sx.calm rfl rfl (Cm.indexAddr1 sl114 rfl rfl hnon (by omega)) rfl ?_
            refine Sx.calm rfl rfl (Cm.load sca25 rfl (fun H hH => hH.2.1)) rfl ?_
            refine Sx.calm rfl rfl (Cm.str sl25 ty5 ty9 rfl (fun H hH => hH.2.2.2)) rfl ?_
            refine Sx.calm rfl rfl (Cm.move rfl) rfl ?_
            refine Sx.calm rfl rfl (Cm.indexAddr1 sl114 rfl rfl hnon (by omega)) rfl ?_
            refine Sx.calm rfl rfl (Cm.load sca25 rfl (fun H hH => hH.2.2.1)) rfl ?_
            refine Sx.calm rfl rfl (Cm.build (cs := #[.string (bs s), hd y1]) plc82 zc82 rfl (by kernel_rfl)) rfl ?_
            refine Sx.eff rfl rfl (Sl.litG sl23 (cs := [.string (bs s), hd y1].toArray) zc82 rfl rfl rfl (by kernel_rfl) rfl ?_)
            intro v1 hv1 hvs1 hvf1
            have hdz : (w.drewN 1).heap.size = w.heap.size := rfl
            have hvf1 := hvf1.undraw
            have hvo1 : OwnM 2 encX 82 v1.heap (some ⟨w.heap.size, 0, none⟩) 1 [(s, y1)] := ownM_new (xs := [(s, y1)]) encX_cells hv1 (by show 1 ≤ maxLen; decide)
            refine Sx.on (by exact ⟨hvf1.obj hbw id, cellH_keep hc0 hvf1 id, cellH_keep hc1 hvf1 id, hy0v.grow hvf1⟩) ?_
            refine Sx.eff rfl rfl (Sl.appendM encX_cells rfl sl23 rfl rfl (hoo.grow hvf1) (hvo1.vw encX_cells) (by simp only [List.length_singleton, List.length_map]; omega) (by simp only [List.length_singleton, List.length_map]; unfold maxLen; omega) rfl ?_)
            intro o7 c7 v2 ho7 hvf2 hr7 hn7
            have hnb : ∀ k, k < w4.heap.size → ¬ blk oo k := fun k hk ⟨a, ha, e⟩ => by have := hfro a ha; omega
            refine Sx.on (by exact ⟨hvf2.obj (hvf1.obj hbw id) (hnb bx (by omega)), cellH_keep (cellH_keep hc0 hvf1 id) hvf2 (hnb _ (hcb _)), cellH_keep (cellH_keep hc1 hvf1 id) hvf2 (hnb _ (hcb _)), (hy0v.grow hvf1).keep' hvf2 (fun hne a ha => hnb _ (by have := (hy0D hne a.block ⟨a, ha, rfl⟩).2; omega))⟩) ?_
            refine Sx.eff rfl rfl (Sl.store sca23 rfl rfl rfl (hvf2.obj (hvf1.obj hbw id) (hnb bx (by omega))) rfl ?_)
            intro v3 hg3b hs3b hvf3
            refine Sx.last rfl ?_
            have hFv : Foot (fun k => k = bx ∨ blk oo k) w v3 := (hvf1.any.trans_to hvf2 (fun k hk => .inl (.inr hk))).trans_to hvf3 (fun k hk => .inl (.inl hk))
            have ho73 := ho7.keep hvf3 (fun a ha e => by rcases hr7 a ha with h | h; have := hfro a h; have e : a.block = bx := e; omega; have e : a.block = bx := e; have := hvf1.size; have := hFw.size; omega)
            refine Sx.nil ?_
            refine At.block_normal ?_
            refine At.roundEnd ⟨keeps_of hFv (fun k hk _ => ?_), ⟨hFv.same _ (by have := hFw.size; omega) ?_, hFv.same _ (by have := hFw.size; omega) ?_⟩, ⟨o7, c7, ?_, ?_, fr_next hfro hr7 (by have := hFw.size; have := hvf1.size; omega), (hFw.trans_to hFv (fun k hk => hk.imp id (fun ⟨a, ha, e⟩ => by have := hfro a ha; omega)))⟩⟩
            · rcases hk with rfl | ⟨a, ha, rfl⟩
              · exact ⟨_, _, _, hbw⟩
              · obtain ⟨cur, h⟩ := hoo.cells ha; exact ⟨_, _, _, h⟩
            · rintro (h | ⟨a, ha, e⟩)
              · omega
              · have := hfro a ha; omega
            · rintro (h | ⟨a, ha, e⟩)
              · omega
              · have := hfro a ha; omega
            · have e : (pre ++ [x]).length = (pre.map (fun i => pairF l hs i.1) ++ [(s, y1)]).length := by simp
              rw [e]; exact hg3b
            · rw [List.map_append, List.map_singleton, hfx]; exact ho73
          ·
            intro D xs w5 hD hS ⟨oo, oc, hb5, ho5, hfro, hF5⟩ hK
            have hS : xs.map (·.1) = List.range (ckN l.length 2) := hS
            have hmap : xs.map (fun i => pairF l hs i.1) = (List.range (l.length / 2)).map (pairF l hs) := by rw [hm2, ← hm, ← hS, List.map_map]; rfl
            have hxl : xs.length = (pairsL l).length := by have := congrArg List.length hS; simp at this; rw [pairsL_len]; omega
            rw [hmap] at ho5
            rw [hxl] at hb5
            have hrw5 := hrw4.keep hF5 (fun k hk e => by have e : k = bx := e; have := hk.2; omega)
            have hX5 : XaV w5.heap oo oc (pairsL l) := ⟨_, ho5.vw encX_cells, by rw [List.length_map, List.length_range, pairsL_len], fun i x y hx hy => pair_data hrw5 h255 i x y hx hy⟩
            refine At.block_normal ?_
            refine At.go ?_
            refine Sc.seq ?_
            refine Sc.seq ?_
            refine Sc.region ?_
            refine Sl.calm (Cm.ld sca23 rfl (cellF0 hb5 rfl)) rfl ?_
            refine Sl.call fn19 rfl (mayX_ok oo oc (pairsL l) w5 hX5) rfl ?_
            rintro _ w6 ⟨rfl, hf6⟩
            have hK6 := hf6.obj hK id
            have hz6 := hf6.size
            have hz5 := hF5.size
            have hMf : ∀ wf, Foot (· = D) w6 wf → MrO (Nx A W wf) wf.heap g p im fr to ∧ Foot A W wf := fun wf hfD => ⟨((((hM2.grow hf24).keep hF5 (fun k hk e => by have e : k = bx := e; rcases hk with h | h; have := hA1 k h; omega; have := h.2; omega) (fun e => by have e : p = bx := e; omega)).grow hf6).keep hfD (fun k hk e => by have e : k = D := e; rcases hk with h | h; have := hA1 k h; omega; have := h.2; omega) (fun e => by have e : p = D := e; omega)).mono (fun k hk => (hB2 k hk).imp id (fun h => ⟨h.1, by have := hfD.size; omega⟩)) (fun h => h.elim hp (fun h => by omega)), ((hFW2.trans hf24.any).trans_to hF5 (fun k e => .inr (by have e : k = bx := e; omega)) |>.trans hf6.any).trans_to hfD (fun k e => .inr (by have e : k = D := e; omega))⟩
            refine Sl.fork (Cm.notB rfl) rfl (fun h62 => ?_) (fun h62 => ?_)
            ·
              have hno : ¬ mayX (pairsL l) := of_decide_eq_false h62
              have e : rtXs im fr to ref = ([], 2) := rtXs_not hgood (by rw [← hR, ← hn]; exact hr) hno
              refine Sl.nil ?_
              refine At.weak [(0, _), (1, _), (4, _), (5, _), (6, _), (7, _), (8, _), (9, _), (10, _), (32, _), (45, _), (47, _), (62, _)] ⟨rfl, rfl, rfl, rfl, rfl, rfl, rfl, rfl, rfl, rfl, rfl, rfl, rfl, trivial⟩ ?_
              refine At.go ?_
              refine Sc.cond_t rfl ?_
              refine Sc.seq ?_
              refine Sc.region ?_
              refine Sl.calm (Cm.assign rfl) rfl ?_
              refine Sl.calm (Cm.assign rfl) rfl ?_
              refine Sl.nil ?_
              refine At.go ?_
              refine Sc.ret ?_
              refine At.then_ret ?_
              refine At.ret2D rfl rfl rfl hK6 ?_
              intro wf _ hfD
              obtain ⟨m1, m2⟩ := hMf wf hfD
              exact ⟨_, rfl, none, 0, by rw [e]; rfl, by rw [e]; exact XaV.nil, m1, m2⟩
            ·
              have hyes : mayX (pairsL l) := Classical.byContradiction fun h => h62 (decide_eq_false h)
              have e : rtXs im fr to ref = (pairsL l, 0) := rtXs_may hgood (by rw [← hR, ← hn]; exact hr) hyes
              refine Sl.nil ?_
              refine At.weak [(0, _), (1, _), (4, _), (5, _), (6, _), (7, _), (8, _), (9, _), (10, _), (32, _), (45, _), (47, _), (62, _)] ⟨rfl, rfl, rfl, rfl, rfl, rfl, rfl, rfl, rfl, rfl, rfl, rfl, rfl, trivial⟩ ?_
              refine At.go ?_
              refine Sc.cond_f rfl ?_
              refine Sc.skip ?_
              refine At.go ?_
              refine Sc.seq ?_
              refine Sc.region ?_
              refine Sl.calm (Cm.ld sca23 rfl (cellF0 (hf6.obj hb5 id) rfl)) rfl ?_
              refine Sl.calm (Cm.assign rfl) rfl ?_
              refine Sl.calm (Cm.assign rfl) rfl ?_
              refine Sl.nil ?_
              refine At.weak [(0, _), (1, _), (4, _), (5, _), (6, _), (7, _), (8, _), (9, _), (10, _), (32, _), (45, _), (47, _), (62, _)] ⟨rfl, rfl, rfl, rfl, rfl, rfl, rfl, rfl, rfl, rfl, rfl, rfl, rfl, trivial⟩ ?_
              refine At.go ?_
              refine Sc.ret ?_
              refine At.ret2D rfl rfl rfl hK6 ?_
              intro wf _ hfD
              obtain ⟨m1, m2⟩ := hMf wf hfD
              have ho6 := ho5.grow hf6
              have hX : XaV wf.heap oo oc (pairsL l) := ⟨_, (ho6.keep hfD (fun a ha e => by obtain ⟨cur, h⟩ := ho6.cells ha; have e : a.block = D := e; rw [e, hK6] at h; cases h)).vw encX_cells, by rw [List.length_map, List.length_range, pairsL_len], fun i x y hx hy => pair_data ((hrw5.keep hf6 (fun _ _ => id)).keep hfD (fun k hk e => by have e : k = D := e; have := hk.2; omega)) h255 i x y hx hy⟩
              exact ⟨_, rfl, oo, oc, by rw [e], by rw [e]; exact hX, m1, m2⟩
end Go.Proofs.Ytoaplldahbbaiaa
