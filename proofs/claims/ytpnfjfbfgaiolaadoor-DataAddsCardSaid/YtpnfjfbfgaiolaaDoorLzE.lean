/- lz: matches: the program's and the reference's. No condition beyond the bounds that each states. -/
import Derived.Test.YtpnfjfbfgaiolaaDoorLzD
namespace Go.Proofs.YtpnfjfbfgaiolaaDoor
open Go Go.RowKit
set_option linter.unusedVariables false

def foldR (b : List UInt8) (a : Nat) (L : List Nat) : Nat × Nat := L.reverse.foldl (stp b a) (0, 0)
theorem foldR_cons (b : List UInt8) (a i : Nat) (L : List Nat) : foldR b a (i :: L) = stp b a (foldR b a L) i := by
  unfold foldR; rw [List.reverse_cons, List.foldl_append]; rfl
theorem drop_at {L : List Nat} {j : Nat} (h : j < L.length) : L.drop j = L.getD j 0 :: L.drop (j + 1) := by
  rw [List.drop_eq_getElem_cons h, List.getD, List.getElem?_eq_getElem h]; rfl
theorem drewN_add (W : World) (n k : Nat) : (W.drewN n).drewN k = W.drewN (n + k) := by simp [World.drewN, Nat.add_assoc]
theorem nVw {H : Array Obj} {ao : Option Addr} {c : Nat} {L : List Nat} (h : Own nV 3 H ao c L) : Vw nV H ao c L := h.vw

set_option maxHeartbeats 1000000 in
theorem match_ok (D : Nat → Prop) (g : Nat) (ao : Option Addr) (cap : Nat) (b : List UInt8) (lo a : Nat) (W : World) (hv : Vw b8 W.heap ao cap b) (hc : ChM D W.heap g b lo a) (hlo : lo ≤ a - 256) (ha : a ≤ b.length) (hb : b.length ≤ 1073741824) :
    Calls Tryd.prog 59 [.map (some g), .slice ao b.length cap, .int .i64 a].toArray W (Ret fun v w' => v = .tuple [.int .i64 (mt b a).1, .int .i64 (mt b a).2].toArray ∧ ∃ n, w' = W.drewN n) := by
  obtain ⟨m, A, C, hC⟩ := hc
  refine calls_of_sc 60 [(0, _), (1, _), (2, _)] Tryd.func59 rfl rfl rfl (enter_slots ⟨rfl, rfl, rfl, trivial⟩) ?_
  refine Sc.seq ?_
  refine Sc.region ?_
  refine Sl.calm (Cm.assign rfl) rfl ?_
  refine Sl.calm (Cm.assign rfl) rfl ?_
  refine Sl.nil ?_
  refine At.go ?_
  refine Sc.seq ?_
  refine Sc.seq ?_
  refine Sc.region ?_
  refine Sl.calm (Cm.move rfl) rfl ?_
  refine Sl.fork (Cm.lss rfl rfl) rfl (fun h12 => ?_) (fun h12 => ?_)
  ·
    exact absurd h12 (by omega)
  ·
    refine Sl.calm (Cm.move rfl) rfl ?_
    refine Sl.want rfl rfl (Cm.move rfl) rfl ?_
    refine Sl.want rfl rfl (Cm.add64 rfl rfl (by omega)) rfl ?_
    refine Sl.want rfl rfl (Cm.move rfl) rfl ?_
    refine Sl.want rfl rfl (Cm.len sl23 rfl) rfl ?_
    refine Sl.forkWant rfl rfl (Cm.gtr rfl rfl) rfl (fun h18 => ?_) (fun h18 => ?_)
    ·
      have e : mt b a = (0, 0) := mt_short (by omega)
      refine Sl.calm (Cm.pick_f rfl rfl) rfl ?_
      refine Sl.nil ?_
      refine At.weak [(0, _), (1, _), (2, _), (6, _), (7, _), (19, _)] ⟨rfl, rfl, rfl, rfl, rfl, rfl, trivial⟩ ?_
      refine At.go ?_
      refine Sc.cond_t rfl ?_
      refine Sc.seq ?_
      refine Sc.region ?_
      refine Sl.calm (Cm.assign rfl) rfl ?_
      refine Sl.calm (Cm.assign rfl) rfl ?_
      refine Sl.nil ?_
      refine At.go ?_
      refine Sc.ret ?_
      refine At.then_ret ?_
      refine At.ret2 rfl rfl rfl ?_
      first
        | (rw [e]; exact ⟨_, rfl, rfl, 0, rfl⟩)
        | (have hj1 : j = 0 := by omega
           subst hj1
           rw [List.drop_zero] at hall ⊢
           have e2 : L.filter (fun i => decide (a - i ≤ 256)) = L := List.filter_eq_self.2 (fun i hi => by simpa using hall i hi)
           rw [e2] at hmp
           rw [hmp]
           exact ⟨_, rfl, rfl, n, rfl⟩)
        | (have e2 := sorted_cut hLs hj.1 (a := a) (by rw [← hp]; omega) (by rw [show j - 1 + 1 = j by omega]; exact hall)
           rw [show j - 1 + 1 = j by omega] at e2
           rw [e2] at hmp
           rw [hmp, hs]
           exact ⟨_, rfl, rfl, n, rfl⟩)
    ·
      have hmp := mt_pos (b := b) (lo := lo) (a := a) (by omega) hlo
      obtain ⟨L, hL⟩ : ∃ L, L = posL b lo a (st3 b a) := ⟨_, rfl⟩
      have hLs : L.Pairwise (· < ·) := by rw [hL]; exact posL_sorted b lo a _
      have hLm : ∀ i ∈ L, i < a := fun i hi => by rw [hL] at hi; exact (posL_mem.1 hi).2.1
      have hLl : L.length ≤ a - lo := by rw [hL]; exact posL_len b lo a _
      have hLo := nVw (hC.own (st3 b a))
      have hLv := hC.val (st3 b a)
      rw [← hL] at hmp hLo hLv
      obtain ⟨la, hla⟩ : ∃ x, x = A (st3 b a) := ⟨_, rfl⟩
      obtain ⟨lc, hlc⟩ : ∃ x, x = C (st3 b a) := ⟨_, rfl⟩
      rw [← hla, ← hlc] at hLo hLv
      refine Sl.calm (Cm.pick_f rfl rfl) rfl ?_
      refine Sl.nil ?_
      refine At.weak [(0, _), (1, _), (2, _), (6, _), (7, _), (19, _)] ⟨rfl, rfl, rfl, rfl, rfl, rfl, trivial⟩ ?_
      refine At.go ?_
      refine Sc.cond_f rfl ?_
      refine Sc.skip ?_
      refine At.go ?_
      refine Sc.seq ?_
      refine Sc.region ?_
      refine Sl.calm (Cm.move rfl) rfl ?_
      refine Sl.calm (Cm.move rfl) rfl ?_
      refine Sl.calm (Cm.move rfl) rfl ?_
      refine Sl.calm (Cm.sliceL sl23 rfl rfl (by omega)) rfl ?_
      refine Sl.calm (Cm.arrPtr Tryd.underlying126 rfl (hv.non (by omega)) (by omega) (by have := hv.le; omega)) rfl ?_
      refine Sl.calm (Cm.ldM (cs := cs3 (st3 b a)) agg126 rfl (cells3 hv (by omega))) rfl ?_
      refine Sl.calm (Cm.ofEq (u := .slice la L.length lc) (Cm.lookup mp3 key3 rfl rfl (fun _ e => by rw [e]; exact hC.map)) hLv) rfl ?_
      refine Sl.calm (Cm.assign rfl) rfl ?_
      refine Sl.nil ?_
      refine At.weak [(0, _), (1, _), (2, _), (6, _), (7, _), (8, _), (19, _)] ⟨rfl, rfl, rfl, rfl, rfl, rfl, rfl, trivial⟩ ?_
      refine At.go ?_
      refine Sc.seq ?_
      refine Sc.seq ?_
      refine Sc.region ?_
      refine Sl.calm (Cm.move rfl) rfl ?_
      refine Sl.calm (Cm.len sl33 rfl) rfl ?_
      refine Sl.calm (Cm.sub64 rfl rfl (by omega)) rfl ?_
      refine Sl.calm (Cm.assign rfl) rfl ?_
      refine Sl.nil ?_
      refine At.weak [(0, _), (1, _), (2, _), (6, _), (7, _), (8, _), (9, _), (19, _)] ⟨rfl, rfl, rfl, rfl, rfl, rfl, rfl, rfl, trivial⟩ ?_
      refine At.go ?_
      refine Sc.block ?_
      refine Sc.loop (β := Nat) (fun j => [(1, .slice ao b.length cap), (2, .int .i64 a), (6, .int .i64 (foldR b a (L.drop j)).1), (7, .int .i64 (foldR b a (L.drop j)).2), (8, .slice la L.length lc), (9, .int .i64 ((j : Int) - 1))]) (fun j w => j ≤ L.length ∧ (∀ i ∈ L.drop j, a - i ≤ 256) ∧ ∃ n, w = W.drewN n) (fun j => j) L.length ⟨rfl, rfl, (by rw [List.drop_length]; rfl), (by rw [List.drop_length]; rfl), rfl, rfl, trivial⟩ ⟨Nat.le_refl _, by rw [List.drop_length]; simp, 0, rfl⟩ ?_
      rintro j _ ⟨hj0, hall, n, rfl⟩
      refine Sc.seq ?_
      refine Sc.seq ?_
      refine Sc.region ?_
      refine Sl.calm (Cm.move rfl) rfl ?_
      refine Sl.fork (Cm.geq rfl rfl) rfl (fun h31 => ?_) (fun h31 => ?_)
      ·
        have hj : j - 1 < L.length ∧ 0 < j := by omega
        have hget : L.getD (j - 1) 0 < a := hLm _ (by rw [List.getD, List.getElem?_eq_getElem hj.1]; exact List.getElem_mem hj.1)
        have hdr := drop_at hj.1
        rw [show j - 1 + 1 = j by omega] at hdr
        obtain ⟨p, hp⟩ : ∃ p, p = L.getD (j - 1) 0 := ⟨_, rfl⟩
        rw [← hp] at hget hdr
        obtain ⟨s, hs⟩ : ∃ s, s = foldR b a (L.drop j) := ⟨_, rfl⟩
        have hs2 : foldR b a (L.drop (j - 1)) = stp b a s p := by rw [hdr, foldR_cons, hs]
        rw [← hs]
        refine Sl.nil ?_
        refine At.weak [(1, _), (2, _), (6, _), (7, _), (8, _), (9, _), (31, _)] ⟨rfl, rfl, rfl, rfl, rfl, rfl, rfl, trivial⟩ ?_
        refine At.go ?_
        refine Sc.cond_t rfl ?_
        refine Sc.skip ?_
        refine At.go ?_
        refine Sc.seq ?_
        refine Sc.block ?_
        refine Sc.seq ?_
        refine Sc.seq ?_
        refine Sc.region ?_
        refine Sl.calm (Cm.move rfl) rfl ?_
        refine Sl.calm (Cm.move rfl) rfl ?_
        refine Sl.calm (Cm.move rfl) rfl ?_
        refine Sl.calm (Cm.indexAddr1 sl33 rfl rfl hLo.non (by omega)) rfl ?_
        refine Sl.calm (Cm.ofEq (u := .int .i64 (p : Nat)) (Cm.ld sca3 rfl (hLo.gz 0 (j - 1) (by omega) (by omega))) (by rw [← hp]; rfl)) rfl ?_
        refine Sl.calm (Cm.sub64 rfl rfl (by omega)) rfl ?_
        refine Sl.fork (Cm.gtr rfl rfl) rfl (fun h40 => ?_) (fun h40 => ?_)
        ·
          refine Sl.nil ?_
          refine At.weak [(1, _), (2, _), (6, _), (7, _), (8, _), (9, _), (31, _), (40, _)] ⟨rfl, rfl, rfl, rfl, rfl, rfl, rfl, rfl, trivial⟩ ?_
          refine At.go ?_
          refine Sc.cond_t rfl ?_
          refine Sc.exit ?_
          refine At.then_exit ?_
          refine At.block_miss rfl ?_
          refine At.then_exit ?_
          refine At.then_exit ?_
          refine At.block_hit ?_
          refine At.go ?_
          refine Sc.seq ?_
          refine Sc.region ?_
          refine Sl.calm (Cm.move rfl) rfl ?_
          refine Sl.calm (Cm.move rfl) rfl ?_
          refine Sl.calm (Cm.assign rfl) rfl ?_
          refine Sl.calm (Cm.assign rfl) rfl ?_
          refine Sl.nil ?_
          refine At.weak [(1, _), (2, _), (6, _), (7, _), (8, _), (9, _), (31, _), (40, _)] ⟨rfl, rfl, rfl, rfl, rfl, rfl, rfl, rfl, trivial⟩ ?_
          refine At.go ?_
          refine Sc.ret ?_
          refine At.ret2 rfl rfl rfl ?_
          first
            | (rw [e]; exact ⟨_, rfl, rfl, 0, rfl⟩)
            | (have hj1 : j = 0 := by omega
               subst hj1
               rw [List.drop_zero] at hall ⊢
               have e2 : L.filter (fun i => decide (a - i ≤ 256)) = L := List.filter_eq_self.2 (fun i hi => by simpa using hall i hi)
               rw [e2] at hmp
               rw [hmp]
               exact ⟨_, rfl, rfl, n, rfl⟩)
            | (have e2 := sorted_cut hLs hj.1 (a := a) (by rw [← hp]; omega) (by rw [show j - 1 + 1 = j by omega]; exact hall)
               rw [show j - 1 + 1 = j by omega] at e2
               rw [e2] at hmp
               rw [hmp, hs]
               exact ⟨_, rfl, rfl, n, rfl⟩)
        ·
          refine Sl.nil ?_
          refine At.weak [(1, _), (2, _), (6, _), (7, _), (8, _), (9, _), (31, _), (40, _)] ⟨rfl, rfl, rfl, rfl, rfl, rfl, rfl, rfl, trivial⟩ ?_
          refine At.go ?_
          refine Sc.cond_f rfl ?_
          refine Sc.skip ?_
          refine At.go ?_
          refine Sc.seq ?_
          refine Sc.region ?_
          refine Sl.calm (Cm.move rfl) rfl ?_
          refine Sl.calm (Cm.move rfl) rfl ?_
          refine Sl.calm (Cm.move rfl) rfl ?_
          refine Sl.calm (Cm.move rfl) rfl ?_
          refine Sl.calm (Cm.indexAddr1 sl33 rfl rfl hLo.non (by omega)) rfl ?_
          refine Sl.calm (Cm.ofEq (u := .int .i64 (p : Nat)) (Cm.ld sca3 rfl (hLo.gz 0 (j - 1) (by omega) (by omega))) (by rw [← hp]; rfl)) rfl ?_
          refine Sl.call fn73 rfl (like_ok ao cap b a p _ hv ha hget hb) rfl ?_
          rintro _ _ ⟨rfl, n2, rfl⟩
          refine Sl.calm (Cm.assign rfl) rfl ?_
          refine Sl.nil ?_
          refine At.weak [(1, _), (2, _), (6, _), (7, _), (8, _), (9, _), (10, _), (31, _), (40, _)] ⟨rfl, rfl, rfl, rfl, rfl, rfl, rfl, rfl, rfl, trivial⟩ ?_
          refine At.go ?_
          refine Sc.seq ?_
          refine Sc.region ?_
          refine Sl.calm (Cm.move rfl) rfl ?_
          refine Sl.calm (Cm.move rfl) rfl ?_
          refine Sl.fork (Cm.gtr rfl rfl) rfl (fun h50 => ?_) (fun h50 => ?_)
          ·
            have hst : stp b a s p = (lik b a p, a - p) := by unfold stp; rw [if_pos (by omega)]
            refine Sl.nil ?_
            refine At.weak [(1, _), (2, _), (6, _), (7, _), (8, _), (9, _), (10, _), (31, _), (40, _), (50, _)] ⟨rfl, rfl, rfl, rfl, rfl, rfl, rfl, rfl, rfl, rfl, trivial⟩ ?_
            refine At.go ?_
            refine Sc.cond_t rfl ?_
            refine Sc.quiet 9 [0, 1, 2, 3, 4, 5, 6, 7, 8] mixed (by kernel_rfl) ?_
            refine Sx.calm rfl rfl (Cm.move rfl) rfl ?_
            refine Sx.calm rfl rfl (Cm.move rfl) rfl ?_
            refine Sx.calm rfl rfl (Cm.move rfl) rfl ?_
            refine Sx.calm rfl rfl (Cm.move rfl) rfl ?_
            refine Sx.calm rfl rfl (Cm.indexAddr1 sl33 rfl rfl hLo.non (by omega)) rfl ?_
            refine Sx.calm rfl rfl (Cm.ofEq (u := .int .i64 (p : Nat)) (Cm.ld sca3 rfl (hLo.gz 0 (j - 1) (by omega) (by omega))) (by rw [← hp]; rfl)) rfl ?_
            refine Sx.calm rfl rfl (Cm.sub64 rfl rfl (by omega)) rfl ?_
            refine Sx.calm rfl rfl (Cm.assign rfl) rfl ?_
            refine Sx.calm rfl rfl (Cm.assign rfl) rfl ?_
            refine Sx.nil ?_
            refine At.block_normal ?_
            refine At.weak [(1, _), (2, _), (6, _), (7, _), (8, _), (9, _), (10, _), (31, _), (40, _), (50, _)] ⟨rfl, rfl, rfl, rfl, rfl, rfl, rfl, rfl, rfl, rfl, trivial⟩ ?_
            refine At.go ?_
            refine Sc.region ?_
            refine Sl.calm (Cm.move rfl) rfl ?_
            refine Sl.calm (Cm.sub64 rfl rfl (by omega)) rfl ?_
            refine Sl.calm (Cm.assign rfl) rfl ?_
            refine Sl.nil ?_
            refine At.again (j - 1) ⟨rfl, rfl, ?_, ?_, rfl, ?_, trivial⟩ ⟨by omega, ?_, n + n2 + 1, by rw [drewN_add, drewN_add, Nat.add_assoc]⟩ (by show j - 1 < j; omega)
            · show some (Value.int .i64 _) = some (Value.int .i64 _); rw [hs2, hst]
            · show some (Value.int .i64 _) = some (Value.int .i64 _); rw [hs2, hst]; congr 2; omega
            · show some (Value.int .i64 _) = some (Value.int .i64 _); congr 2; omega
            · rw [hdr]; intro i hi; rcases List.mem_cons.1 hi with h | h; rw [h]; omega; exact hall i h
          ·
            have hst : stp b a s p = s := by unfold stp; rw [if_neg (by omega)]
            refine Sl.nil ?_
            refine At.weak [(1, _), (2, _), (6, _), (7, _), (8, _), (9, _), (10, _), (31, _), (40, _), (50, _)] ⟨rfl, rfl, rfl, rfl, rfl, rfl, rfl, rfl, rfl, rfl, trivial⟩ ?_
            refine At.go ?_
            refine Sc.cond_f rfl ?_
            refine Sc.skip ?_
            refine At.block_normal ?_
            refine At.go ?_
            refine Sc.region ?_
            refine Sl.calm (Cm.move rfl) rfl ?_
            refine Sl.calm (Cm.sub64 rfl rfl (by omega)) rfl ?_
            refine Sl.calm (Cm.assign rfl) rfl ?_
            refine Sl.nil ?_
            refine At.again (j - 1) ⟨rfl, rfl, ?_, ?_, rfl, ?_, trivial⟩ ⟨by omega, ?_, n + n2, drewN_add _ _ _⟩ (by show j - 1 < j; omega)
            · show some (Value.int .i64 _) = some (Value.int .i64 _); rw [hs2, hst]
            · show some (Value.int .i64 _) = some (Value.int .i64 _); rw [hs2, hst]
            · show some (Value.int .i64 _) = some (Value.int .i64 _); congr 2; omega
            · rw [hdr]; intro i hi; rcases List.mem_cons.1 hi with h | h; rw [h]; omega; exact hall i h
      ·
        refine Sl.nil ?_
        refine At.weak [(1, _), (2, _), (6, _), (7, _), (8, _), (9, _), (31, _)] ⟨rfl, rfl, rfl, rfl, rfl, rfl, rfl, trivial⟩ ?_
        refine At.go ?_
        refine Sc.cond_f rfl ?_
        refine Sc.exit ?_
        refine At.then_exit ?_
        refine At.then_exit ?_
        refine At.block_hit ?_
        refine At.go ?_
        refine Sc.seq ?_
        refine Sc.region ?_
        refine Sl.calm (Cm.move rfl) rfl ?_
        refine Sl.calm (Cm.move rfl) rfl ?_
        refine Sl.calm (Cm.assign rfl) rfl ?_
        refine Sl.calm (Cm.assign rfl) rfl ?_
        refine Sl.nil ?_
        refine At.weak [(1, _), (2, _), (6, _), (7, _), (8, _), (9, _), (31, _)] ⟨rfl, rfl, rfl, rfl, rfl, rfl, rfl, trivial⟩ ?_
        refine At.go ?_
        refine Sc.ret ?_
        refine At.ret2 rfl rfl rfl ?_
        first
          | (rw [e]; exact ⟨_, rfl, rfl, 0, rfl⟩)
          | (have hj1 : j = 0 := by omega
             subst hj1
             rw [List.drop_zero] at hall ⊢
             have e2 : L.filter (fun i => decide (a - i ≤ 256)) = L := List.filter_eq_self.2 (fun i hi => by simpa using hall i hi)
             rw [e2] at hmp
             rw [hmp]
             exact ⟨_, rfl, rfl, n, rfl⟩)
          | (have e2 := sorted_cut hLs hj.1 (a := a) (by rw [← hp]; omega) (by rw [show j - 1 + 1 = j by omega]; exact hall)
             rw [show j - 1 + 1 = j by omega] at e2
             rw [e2] at hmp
             rw [hmp, hs]
             exact ⟨_, rfl, rfl, n, rfl⟩)

def mtZ (b : List UInt8) (a : Int) : Nat × Nat := if a < 0 then (0, 0) else mt b a.toNat
theorem mtZ_none {b : List UInt8} {a : Int} (h : a < 0 ∨ b.length ≤ a) : mtZ b a = (0, 0) := by
  unfold mtZ
  split
  · rfl
  · exact mt_short (by omega)
set_option maxHeartbeats 1000000 in
theorem rmatch_ok (ao : Option Addr) (cap : Nat) (b : List UInt8) (a : Int) (W : World) (hv : Vw b8 W.heap ao cap b) (hb : b.length ≤ 1073741824) :
    Calls Tryd.prog 62 [.slice ao b.length cap, .int .i64 a].toArray W (Ret fun v w' => v = .tuple [.int .i64 (mtZ b a).1, .int .i64 (mtZ b a).2].toArray ∧ ∃ n, w' = W.drewN n) := by
  refine calls_of_sc 40 [(0, _), (1, _)] Tryd.func62 rfl rfl rfl (enter_slots ⟨rfl, rfl, trivial⟩) ?_
  refine Sc.seq ?_
  refine Sc.region ?_
  refine Sl.calm (Cm.assign rfl) rfl ?_
  refine Sl.calm (Cm.assign rfl) rfl ?_
  refine Sl.nil ?_
  refine At.go ?_
  refine Sc.seq ?_
  refine Sc.seq ?_
  refine Sc.region ?_
  refine Sl.calm (Cm.move rfl) rfl ?_
  refine Sl.fork (Cm.lss rfl rfl) rfl (fun h11 => ?_) (fun h11 => ?_)
  ·
    have e : mtZ b a = (0, 0) := mtZ_none (by omega)
    refine Sl.calm (Cm.move rfl) rfl ?_
    refine Sl.skip rfl rfl rfl rfl ?_
    refine Sl.skip rfl rfl rfl rfl ?_
    refine Sl.skip rfl rfl rfl rfl ?_
    refine Sl.skip rfl rfl rfl rfl ?_
    refine Sl.calm (Cm.pick_t rfl rfl) rfl ?_
    refine Sl.nil ?_
    refine At.weak [(0, _), (1, _), (4, _), (5, _), (17, _)] ⟨rfl, rfl, rfl, rfl, rfl, trivial⟩ ?_
    refine At.go ?_
    refine Sc.cond_t rfl ?_
    refine Sc.seq ?_
    refine Sc.region ?_
    refine Sl.calm (Cm.assign rfl) rfl ?_
    refine Sl.calm (Cm.assign rfl) rfl ?_
    refine Sl.nil ?_
    refine At.go ?_
    refine Sc.ret ?_
    refine At.then_ret ?_
    refine At.ret2 rfl rfl rfl ?_
    first
      | (rw [e]; exact ⟨_, rfl, rfl, 0, rfl⟩)
      | (have e3 : mt b q = (0, 0) := by unfold mt thr; rw [if_pos hqb, ← hj1, if_pos (by omega)]
         rw [e, e3]
         exact ⟨_, rfl, rfl, n, rfl⟩)
      | (have e3 : mt b q = bst b q j := by unfold mt thr; rw [if_pos hqb, ← hj1, if_neg (by omega)]
         rw [e, e3]
         exact ⟨_, rfl, rfl, n, rfl⟩)
  ·
    refine Sl.calm (Cm.move rfl) rfl ?_
    refine Sl.want rfl rfl (Cm.move rfl) rfl ?_
    refine Sl.want rfl rfl (Cm.move rfl) rfl ?_
    refine Sl.want rfl rfl (Cm.len sl23 rfl) rfl ?_
    refine Sl.forkWant rfl rfl (Cm.geq rfl rfl) rfl (fun h16 => ?_) (fun h16 => ?_)
    ·
      have e : mtZ b a = (0, 0) := mtZ_none (by omega)
      refine Sl.calm (Cm.pick_f rfl rfl) rfl ?_
      refine Sl.nil ?_
      refine At.weak [(0, _), (1, _), (4, _), (5, _), (17, _)] ⟨rfl, rfl, rfl, rfl, rfl, trivial⟩ ?_
      refine At.go ?_
      refine Sc.cond_t rfl ?_
      refine Sc.seq ?_
      refine Sc.region ?_
      refine Sl.calm (Cm.assign rfl) rfl ?_
      refine Sl.calm (Cm.assign rfl) rfl ?_
      refine Sl.nil ?_
      refine At.go ?_
      refine Sc.ret ?_
      refine At.then_ret ?_
      refine At.ret2 rfl rfl rfl ?_
      first
        | (rw [e]; exact ⟨_, rfl, rfl, 0, rfl⟩)
        | (have e3 : mt b q = (0, 0) := by unfold mt thr; rw [if_pos hqb, ← hj1, if_pos (by omega)]
           rw [e, e3]
           exact ⟨_, rfl, rfl, n, rfl⟩)
        | (have e3 : mt b q = bst b q j := by unfold mt thr; rw [if_pos hqb, ← hj1, if_neg (by omega)]
           rw [e, e3]
           exact ⟨_, rfl, rfl, n, rfl⟩)
    ·
      have e : mtZ b a = mt b a.toNat := by unfold mtZ; rw [if_neg (by omega)]
      obtain ⟨q, hq⟩ : ∃ q : Nat, a = q := ⟨a.toNat, by omega⟩
      rw [hq] at e ⊢
      have e2 : ((q : Nat) : Int).toNat = q := rfl
      rw [e2] at e
      have hqb : q < b.length := by omega
      refine Sl.calm (Cm.pick_f rfl rfl) rfl ?_
      refine Sl.nil ?_
      refine At.weak [(0, _), (1, _), (4, _), (5, _), (17, _)] ⟨rfl, rfl, rfl, rfl, rfl, trivial⟩ ?_
      refine At.go ?_
      refine Sc.cond_f rfl ?_
      refine Sc.skip ?_
      refine At.go ?_
      refine Sc.seq ?_
      refine Sc.region ?_
      refine Sl.calm (Cm.assign rfl) rfl ?_
      refine Sl.nil ?_
      refine At.go ?_
      refine Sc.seq ?_
      refine Sc.region ?_
      refine Sl.calm (Cm.assign rfl) rfl ?_
      refine Sl.nil ?_
      refine At.go ?_
      refine Sc.seq ?_
      refine Sc.seq ?_
      refine Sc.region ?_
      refine Sl.calm (Cm.assign rfl) rfl ?_
      refine Sl.nil ?_
      refine At.go ?_
      refine Sc.block ?_
      refine Sc.loop (β := Nat) (fun j => [(0, .slice ao b.length cap), (1, .int .i64 q), (6, .int .i64 (bst b q j).1), (7, .int .i64 (bst b q j).2), (8, .int .i64 ((j : Int) + 1))]) (fun j w => j ≤ min 256 q ∧ ∃ n, w = W.drewN n) (fun j => min 256 q - j) 0 ⟨rfl, rfl, rfl, rfl, rfl, trivial⟩ ⟨Nat.zero_le _, 0, rfl⟩ ?_
      rintro j _ ⟨hj0, n, rfl⟩
      refine Sc.seq ?_
      refine Sc.seq ?_
      refine Sc.region ?_
      refine Sl.calm (Cm.move rfl) rfl ?_
      refine Sl.fork (Cm.leq rfl rfl) rfl (fun h19 => ?_) (fun h19 => ?_)
      ·
        refine Sl.calm (Cm.move rfl) rfl ?_
        refine Sl.want rfl rfl (Cm.move rfl) rfl ?_
        refine Sl.want rfl rfl (Cm.move rfl) rfl ?_
        refine Sl.forkWant rfl rfl (Cm.leq rfl rfl) rfl (fun h23 => ?_) (fun h23 => ?_)
        ·
          refine Sl.calm (Cm.pick_t rfl rfl) rfl ?_
          refine Sl.nil ?_
          refine At.weak [(0, _), (1, _), (6, _), (7, _), (8, _), (24, _)] ⟨rfl, rfl, rfl, rfl, rfl, rfl, trivial⟩ ?_
          refine At.go ?_
          refine Sc.cond_t rfl ?_
          refine Sc.skip ?_
          refine At.go ?_
          refine Sc.seq ?_
          refine Sc.block ?_
          refine Sc.seq ?_
          refine Sc.region ?_
          refine Sl.calm (Cm.move rfl) rfl ?_
          refine Sl.calm (Cm.move rfl) rfl ?_
          refine Sl.calm (Cm.move rfl) rfl ?_
          rw [show ((j : Int) + 1) = ((j + 1 : Nat) : Int) by omega]
          refine Sl.call fn74 rfl (rlike_ok ao cap b q (j + 1) _ hv (by omega) (by omega) (by omega) hb) rfl ?_
          rintro _ _ ⟨rfl, n2, rfl⟩
          have hs2 := bst_succ b (a := q) (k := j) (by omega)
          refine Sl.calm (Cm.assign rfl) rfl ?_
          refine Sl.nil ?_
          refine At.weak [(0, _), (1, _), (6, _), (7, _), (8, _), (9, _), (24, _)] ⟨rfl, rfl, rfl, rfl, rfl, rfl, rfl, trivial⟩ ?_
          refine At.go ?_
          refine Sc.seq ?_
          refine Sc.region ?_
          refine Sl.calm (Cm.move rfl) rfl ?_
          refine Sl.calm (Cm.move rfl) rfl ?_
          refine Sl.fork (Cm.gtr rfl rfl) rfl (fun h33 => ?_) (fun h33 => ?_)
          ·
            have hst : bst b q (j + 1) = (lik b q (q - (j + 1)), j + 1) := by rw [hs2]; unfold stp; rw [if_pos (by omega), show q - (q - (j + 1)) = j + 1 by omega]
            refine Sl.nil ?_
            refine At.weak [(0, _), (1, _), (6, _), (7, _), (8, _), (9, _), (24, _), (33, _)] ⟨rfl, rfl, rfl, rfl, rfl, rfl, rfl, rfl, trivial⟩ ?_
            refine At.go ?_
            refine Sc.cond_t rfl ?_
            refine Sc.seq ?_
            refine Sc.region ?_
            refine Sl.calm (Cm.move rfl) rfl ?_
            refine Sl.calm (Cm.assign rfl) rfl ?_
            refine Sl.nil ?_
            refine At.weak [(0, _), (1, _), (6, _), (7, _), (8, _), (9, _), (24, _), (33, _)] ⟨rfl, rfl, rfl, rfl, rfl, rfl, rfl, rfl, trivial⟩ ?_
            refine At.go ?_
            refine Sc.region ?_
            refine Sl.calm (Cm.move rfl) rfl ?_
            refine Sl.calm (Cm.assign rfl) rfl ?_
            refine Sl.nil ?_
            refine At.block_normal ?_
            refine At.weak [(0, _), (1, _), (6, _), (7, _), (8, _), (9, _), (24, _), (33, _)] ⟨rfl, rfl, rfl, rfl, rfl, rfl, rfl, rfl, trivial⟩ ?_
            refine At.go ?_
            refine Sc.region ?_
            refine Sl.calm (Cm.move rfl) rfl ?_
            refine Sl.calm (Cm.add64 rfl rfl (by omega)) rfl ?_
            refine Sl.calm (Cm.assign rfl) rfl ?_
            refine Sl.nil ?_
            refine At.again (j + 1) ⟨rfl, rfl, ?_, ?_, rfl, trivial⟩ ⟨by omega, n + n2, drewN_add _ _ _⟩ (by show min 256 q - (j + 1) < min 256 q - j; omega)
            · show some (Value.int .i64 _) = some (Value.int .i64 _); rw [hst]
            · show some (Value.int .i64 _) = some (Value.int .i64 _); rw [hst]
          ·
            have hst : bst b q (j + 1) = bst b q j := by rw [hs2]; unfold stp; rw [if_neg (by omega)]
            refine Sl.nil ?_
            refine At.weak [(0, _), (1, _), (6, _), (7, _), (8, _), (9, _), (24, _), (33, _)] ⟨rfl, rfl, rfl, rfl, rfl, rfl, rfl, rfl, trivial⟩ ?_
            refine At.go ?_
            refine Sc.cond_f rfl ?_
            refine Sc.skip ?_
            refine At.block_normal ?_
            refine At.go ?_
            refine Sc.region ?_
            refine Sl.calm (Cm.move rfl) rfl ?_
            refine Sl.calm (Cm.add64 rfl rfl (by omega)) rfl ?_
            refine Sl.calm (Cm.assign rfl) rfl ?_
            refine Sl.nil ?_
            refine At.again (j + 1) ⟨rfl, rfl, ?_, ?_, rfl, trivial⟩ ⟨by omega, n + n2, drewN_add _ _ _⟩ (by show min 256 q - (j + 1) < min 256 q - j; omega)
            · show some (Value.int .i64 _) = some (Value.int .i64 _); rw [hst]
            · show some (Value.int .i64 _) = some (Value.int .i64 _); rw [hst]
        ·
          refine Sl.calm (Cm.pick_t rfl rfl) rfl ?_
          refine Sl.nil ?_
          refine At.weak [(0, _), (1, _), (6, _), (7, _), (8, _), (24, _)] ⟨rfl, rfl, rfl, rfl, rfl, rfl, trivial⟩ ?_
          refine At.go ?_
          refine Sc.cond_f rfl ?_
          refine Sc.exit ?_
          refine At.then_exit ?_
          refine At.then_exit ?_
          refine At.block_hit ?_
          refine At.go ?_
          refine Sc.seq ?_
          refine Sc.seq ?_
          refine Sc.region ?_
          refine Sl.calm (Cm.move rfl) rfl ?_
          have hj1 : j = min 256 q := by omega
          refine Sl.fork (Cm.lss rfl rfl) rfl (fun h37 => ?_) (fun h37 => ?_)
          ·
            refine Sl.nil ?_
            refine At.weak [(0, _), (1, _), (6, _), (7, _), (8, _), (24, _), (37, _)] ⟨rfl, rfl, rfl, rfl, rfl, rfl, rfl, trivial⟩ ?_
            refine At.go ?_
            refine Sc.cond_t rfl ?_
            refine Sc.seq ?_
            refine Sc.region ?_
            refine Sl.calm (Cm.assign rfl) rfl ?_
            refine Sl.calm (Cm.assign rfl) rfl ?_
            refine Sl.nil ?_
            refine At.go ?_
            refine Sc.ret ?_
            refine At.then_ret ?_
            refine At.ret2 rfl rfl rfl ?_
            first
              | (rw [e]; exact ⟨_, rfl, rfl, 0, rfl⟩)
              | (have e3 : mt b q = (0, 0) := by unfold mt thr; rw [if_pos hqb, ← hj1, if_pos (by omega)]
                 rw [e, e3]
                 exact ⟨_, rfl, rfl, n, rfl⟩)
              | (have e3 : mt b q = bst b q j := by unfold mt thr; rw [if_pos hqb, ← hj1, if_neg (by omega)]
                 rw [e, e3]
                 exact ⟨_, rfl, rfl, n, rfl⟩)
          ·
            refine Sl.nil ?_
            refine At.weak [(0, _), (1, _), (6, _), (7, _), (8, _), (24, _), (37, _)] ⟨rfl, rfl, rfl, rfl, rfl, rfl, rfl, trivial⟩ ?_
            refine At.go ?_
            refine Sc.cond_f rfl ?_
            refine Sc.skip ?_
            refine At.go ?_
            refine Sc.seq ?_
            refine Sc.region ?_
            refine Sl.calm (Cm.move rfl) rfl ?_
            refine Sl.calm (Cm.move rfl) rfl ?_
            refine Sl.calm (Cm.assign rfl) rfl ?_
            refine Sl.calm (Cm.assign rfl) rfl ?_
            refine Sl.nil ?_
            refine At.weak [(0, _), (1, _), (4, _), (5, _), (6, _), (7, _), (8, _), (24, _), (37, _)] ⟨rfl, rfl, rfl, rfl, rfl, rfl, rfl, rfl, rfl, trivial⟩ ?_
            refine At.go ?_
            refine Sc.ret ?_
            refine At.ret2 rfl rfl rfl ?_
            first
              | (rw [e]; exact ⟨_, rfl, rfl, 0, rfl⟩)
              | (have e3 : mt b q = (0, 0) := by unfold mt thr; rw [if_pos hqb, ← hj1, if_pos (by omega)]
                 rw [e, e3]
                 exact ⟨_, rfl, rfl, n, rfl⟩)
              | (have e3 : mt b q = bst b q j := by unfold mt thr; rw [if_pos hqb, ← hj1, if_neg (by omega)]
                 rw [e, e3]
                 exact ⟨_, rfl, rfl, n, rfl⟩)
      ·
        refine Sl.calm (Cm.move rfl) rfl ?_
        refine Sl.skip rfl rfl rfl rfl ?_
        refine Sl.skip rfl rfl rfl rfl ?_
        refine Sl.skip rfl rfl rfl rfl ?_
        refine Sl.calm (Cm.pick_f rfl rfl) rfl ?_
        refine Sl.nil ?_
        refine At.weak [(0, _), (1, _), (6, _), (7, _), (8, _), (24, _)] ⟨rfl, rfl, rfl, rfl, rfl, rfl, trivial⟩ ?_
        refine At.go ?_
        refine Sc.cond_f rfl ?_
        refine Sc.exit ?_
        refine At.then_exit ?_
        refine At.then_exit ?_
        refine At.block_hit ?_
        refine At.go ?_
        refine Sc.seq ?_
        refine Sc.seq ?_
        refine Sc.region ?_
        refine Sl.calm (Cm.move rfl) rfl ?_
        have hj1 : j = min 256 q := by omega
        refine Sl.fork (Cm.lss rfl rfl) rfl (fun h37 => ?_) (fun h37 => ?_)
        ·
          refine Sl.nil ?_
          refine At.weak [(0, _), (1, _), (6, _), (7, _), (8, _), (24, _), (37, _)] ⟨rfl, rfl, rfl, rfl, rfl, rfl, rfl, trivial⟩ ?_
          refine At.go ?_
          refine Sc.cond_t rfl ?_
          refine Sc.seq ?_
          refine Sc.region ?_
          refine Sl.calm (Cm.assign rfl) rfl ?_
          refine Sl.calm (Cm.assign rfl) rfl ?_
          refine Sl.nil ?_
          refine At.go ?_
          refine Sc.ret ?_
          refine At.then_ret ?_
          refine At.ret2 rfl rfl rfl ?_
          first
            | (rw [e]; exact ⟨_, rfl, rfl, 0, rfl⟩)
            | (have e3 : mt b q = (0, 0) := by unfold mt thr; rw [if_pos hqb, ← hj1, if_pos (by omega)]
               rw [e, e3]
               exact ⟨_, rfl, rfl, n, rfl⟩)
            | (have e3 : mt b q = bst b q j := by unfold mt thr; rw [if_pos hqb, ← hj1, if_neg (by omega)]
               rw [e, e3]
               exact ⟨_, rfl, rfl, n, rfl⟩)
        ·
          refine Sl.nil ?_
          refine At.weak [(0, _), (1, _), (6, _), (7, _), (8, _), (24, _), (37, _)] ⟨rfl, rfl, rfl, rfl, rfl, rfl, rfl, trivial⟩ ?_
          refine At.go ?_
          refine Sc.cond_f rfl ?_
          refine Sc.skip ?_
          refine At.go ?_
          refine Sc.seq ?_
          refine Sc.region ?_
          refine Sl.calm (Cm.move rfl) rfl ?_
          refine Sl.calm (Cm.move rfl) rfl ?_
          refine Sl.calm (Cm.assign rfl) rfl ?_
          refine Sl.calm (Cm.assign rfl) rfl ?_
          refine Sl.nil ?_
          refine At.weak [(0, _), (1, _), (4, _), (5, _), (6, _), (7, _), (8, _), (24, _), (37, _)] ⟨rfl, rfl, rfl, rfl, rfl, rfl, rfl, rfl, rfl, trivial⟩ ?_
          refine At.go ?_
          refine Sc.ret ?_
          refine At.ret2 rfl rfl rfl ?_
          first
            | (rw [e]; exact ⟨_, rfl, rfl, 0, rfl⟩)
            | (have e3 : mt b q = (0, 0) := by unfold mt thr; rw [if_pos hqb, ← hj1, if_pos (by omega)]
               rw [e, e3]
               exact ⟨_, rfl, rfl, n, rfl⟩)
            | (have e3 : mt b q = bst b q j := by unfold mt thr; rw [if_pos hqb, ← hj1, if_neg (by omega)]
               rw [e, e3]
               exact ⟨_, rfl, rfl, n, rfl⟩)
end Go.Proofs.YtpnfjfbfgaiolaaDoor
