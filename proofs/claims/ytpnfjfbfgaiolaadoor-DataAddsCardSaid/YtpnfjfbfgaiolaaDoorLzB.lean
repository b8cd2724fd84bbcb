/- lz: Unpack, the program's and the reference's. No condition beyond the bounds that each states. -/
import Derived.Test.YtpnfjfbfgaiolaaDoorLzA
namespace Go.Proofs.YtpnfjfbfgaiolaaDoor
open Go Go.RowKit
set_option linter.unusedVariables false

theorem cons_of {r : List UInt8} (h : 0 < r.length) : r = r.getD 0 0 :: r.drop 1 := by
  cases r with
  | nil => cases h
  | cons t r => rfl
theorem two_of {r : List UInt8} (h : 1 < r.length) : r = r.getD 0 0 :: r.getD 1 0 :: r.drop 2 := by
  match r, h with
  | t :: c :: r, _ => rfl
theorem up_small {most : Int} {r out : List UInt8} {t : Nat} (h0 : 0 < r.length) (ht : t = (r.getD 0 0).toNat) (h : t < 128) :
    up most r out = if r.length < t + 2 then ([], 2) else if most - out.length < t + 1 then ([], 3) else up most (r.drop (t + 2)) (out ++ (r.drop 1).take (t + 1)) := by
  conv => lhs; rw [cons_of (r := r) h0]
  rw [up_run (by omega), ← ht, List.length_drop, List.drop_drop]
  congr 1
  · simp; omega
  · rw [show 1 + (t + 1) = t + 2 by omega]
theorem up_great {most : Int} {r out : List UInt8} {t c : Nat} (h0 : 0 < r.length) (ht : t = (r.getD 0 0).toNat) (hc : c = (r.getD 1 0).toNat) (h : ¬ t < 128) :
    up most r out = if r.length < 2 then ([], 2) else if out.length < c + 1 then ([], 2) else if most - out.length < (t : Int) - 125 then ([], 3) else up most (r.drop 2) (cp out (c + 1) (t - 125)) := by
  by_cases h2 : r.length < 2
  · rw [if_pos h2]
    have e := cons_of h0
    have e2 : r.drop 1 = [] := List.eq_nil_of_length_eq_zero (by rw [List.length_drop]; omega)
    rw [e2] at e
    rw [e, up_copy0 (by omega)]
  · rw [if_neg h2]
    conv => lhs; rw [two_of (r := r) (by omega)]
    rw [up_copy (by omega), ← ht, ← hc]

set_option maxHeartbeats 2000000 in
theorem unpack_ok (ao : Option Addr) (cap : Nat) (b : List UInt8) (most : Int) (W : World) (hv : Vw b8 W.heap ao cap b) (hb : b.length ≤ 1073741824) (hm : most ≤ 9223372036854775807) :
    Calls Tryd.prog 49 [.slice ao b.length cap, .int .i64 most].toArray W (Ret (PutP W (upS b most))) := by
  refine calls_of_sc 87 [(0, _), (1, _)] Tryd.func49 rfl rfl rfl (enter_slots ⟨rfl, rfl, trivial⟩) ?_
  refine Sc.seq ?_
  refine Sc.region ?_
  refine Sl.calm (Cm.assign rfl) rfl ?_
  refine Sl.calm (Cm.assign rfl) rfl ?_
  refine Sl.nil ?_
  refine At.go ?_
  refine Sc.seq ?_
  refine Sc.seq ?_
  refine Sc.region ?_
  refine Sl.calm (Cm.move rfl) rfl ?_
  refine Sl.fork (Cm.lss rfl rfl) rfl (fun h13 => ?_) (fun h13 => ?_)
  ·
    have e : upS b most = ([], 1) := by unfold upS; rw [if_pos h13]
    refine Sl.nil ?_
    refine At.weak [(0, _), (1, _), (4, _), (5, _), (13, _)] ⟨rfl, rfl, rfl, rfl, rfl, trivial⟩ ?_
    refine At.go ?_
    refine Sc.cond_t rfl ?_
    refine Sc.seq ?_
    refine Sc.region ?_
    refine Sl.calm (Cm.assign rfl) rfl ?_
    refine Sl.calm (Cm.assign rfl) rfl ?_
    refine Sl.nil ?_
    refine At.go ?_
    refine Sc.ret ?_
    refine At.then_ret ?_
    refine At.ret2 rfl rfl rfl ?_
    first
      | (rw [e]; exact ⟨_, rfl, none, 0, rfl, Own.nil, Fr.none, Foot.refl _ _⟩)
      | (rw [e, ← hup, e2]; exact ⟨_, rfl, none, 0, rfl, Own.nil, Fr.none, hF1⟩)
      | (rw [e, ← hup, e3]; exact ⟨_, rfl, none, 0, rfl, Own.nil, Fr.none, hF1⟩)
      | (have hr0 : r = [] := List.eq_nil_of_length_eq_zero (by omega)
         subst hr0
         rw [up_nil] at hup
         rw [e, ← hup]
         exact ⟨_, rfl, o1, c2, rfl, ho1, hfr1, hF1⟩)
  ·
    have e : upS b most = up most b [] := by unfold upS; rw [if_neg h13]
    refine Sl.nil ?_
    refine At.weak [(0, _), (1, _), (4, _), (5, _), (13, _)] ⟨rfl, rfl, rfl, rfl, rfl, trivial⟩ ?_
    refine At.go ?_
    refine Sc.cond_f rfl ?_
    refine Sc.skip ?_
    refine At.go ?_
    refine Sc.seq ?_
    refine Sc.region ?_
    refine Sl.calm (Cm.assign rfl) rfl ?_
    refine Sl.nil ?_
    refine At.go ?_
    refine Sc.seq ?_
    refine Sc.block ?_
    refine Sc.loop (β := (List UInt8 × Option Addr × Nat) × (List UInt8 × Option Addr × Nat)) (fun ⟨⟨r, a1, c1⟩, ⟨out, o1, c2⟩⟩ => [(0, .slice a1 r.length c1), (1, .int .i64 most), (6, .slice o1 out.length c2)]) (fun ⟨⟨r, a1, c1⟩, ⟨out, o1, c2⟩⟩ w => up most r out = up most b [] ∧ Vw b8 W.heap a1 c1 r ∧ Own b8 5 w.heap o1 c2 out ∧ Fr W.heap.size o1 ∧ out.length + 65 * r.length ≤ 65 * b.length ∧ Foot nob W w) (fun ⟨⟨r, a1, c1⟩, ⟨out, o1, c2⟩⟩ => r.length) ⟨⟨b, ao, cap⟩, ⟨[], none, 0⟩⟩ ⟨rfl, rfl, rfl, trivial⟩ ⟨rfl, hv, Own.nil, Fr.none, by simp, Foot.refl _ _⟩ ?_
    rintro ⟨⟨r, a1, c1⟩, ⟨out, o1, c2⟩⟩ w1 ⟨hup, hvW, ho1, hfr1, hlen, hF1⟩
    have hv1 := hvW.grow hF1
    refine Sc.seq ?_
    refine Sc.seq ?_
    refine Sc.region ?_
    refine Sl.calm (Cm.move rfl) rfl ?_
    refine Sl.calm (Cm.len sl23 rfl) rfl ?_
    refine Sl.fork (Cm.gtr rfl rfl) rfl (fun h16 => ?_) (fun h16 => ?_)
    ·
      refine Sl.nil ?_
      refine At.weak [(0, _), (1, _), (6, _), (16, _)] ⟨rfl, rfl, rfl, rfl, trivial⟩ ?_
      refine At.go ?_
      refine Sc.cond_t rfl ?_
      refine Sc.skip ?_
      refine At.go ?_
      refine Sc.block ?_
      refine Sc.seq ?_
      refine Sc.region ?_
      refine Sl.calm (Cm.move rfl) rfl ?_
      refine Sl.calm (Cm.indexAddr1 sl23 rfl rfl hv1.non (by omega)) rfl ?_
      refine Sl.calm (Cm.ld sca5 rfl (hv1.gz 0 0 rfl (by omega))) rfl ?_
      obtain ⟨t, ht⟩ : ∃ t, t = (r.getD 0 0).toNat := ⟨_, rfl⟩
      have ht256 : t < 256 := by have := (r.getD 0 0).toNat_lt; omega
      refine Sl.calm (Cm.convI_in (n := (t : Int)) is5 ty3 rfl (by rw [← ht]; exact wrap64_id (by omega))) rfl ?_
      refine Sl.calm (Cm.assign rfl) rfl ?_
      refine Sl.nil ?_
      refine At.weak [(0, _), (1, _), (6, _), (7, _), (16, _)] ⟨rfl, rfl, rfl, rfl, rfl, trivial⟩ ?_
      refine At.go ?_
      refine Sc.seq ?_
      refine Sc.region ?_
      refine Sl.calm (Cm.move rfl) rfl ?_
      refine Sl.calm (Cm.ofEq (u := .slice (cutAo a1 c1 1 1) (r.drop 1).length (c1 - 1)) (Cm.sliceL sl23 rfl rfl (by omega)) (by rw [List.length_drop]; rfl)) rfl ?_
      have hle := hv1.le
      have hv2W : Vw b8 W.heap (cutAo a1 c1 1 1) (c1 - 1) (r.drop 1) := by have := hvW.cut (l := 1) (h := r.length) (m := c1) (by omega) (Nat.le_refl _) hle (Nat.le_refl _); rwa [List.take_of_length_le (by simp)] at this
      have hv2 := hv2W.grow hF1
      have hd1 : (r.drop 1).length = r.length - 1 := List.length_drop ..
      refine Sl.calm (Cm.assign rfl) rfl ?_
      refine Sl.nil ?_
      refine At.weak [(0, _), (1, _), (6, _), (7, _), (16, _)] ⟨rfl, rfl, rfl, rfl, rfl, trivial⟩ ?_
      refine At.go ?_
      refine Sc.seq ?_
      refine Sc.region ?_
      refine Sl.calm (Cm.move rfl) rfl ?_
      refine Sl.calm (Cm.add64 rfl rfl (by omega)) rfl ?_
      refine Sl.calm (Cm.move rfl) rfl ?_
      refine Sl.calm (Cm.add64 rfl rfl (by omega)) rfl ?_
      refine Sl.calm (Cm.assign rfl) rfl ?_
      refine Sl.calm (Cm.assign rfl) rfl ?_
      refine Sl.nil ?_
      refine At.weak [(0, _), (1, _), (6, _), (7, _), (8, _), (9, _), (16, _)] ⟨rfl, rfl, rfl, rfl, rfl, rfl, rfl, trivial⟩ ?_
      refine At.go ?_
      refine Sc.seq ?_
      refine Sc.seq ?_
      refine Sc.region ?_
      refine Sl.calm (Cm.move rfl) rfl ?_
      refine Sl.fork (Cm.geq rfl rfl) rfl (fun h28 => ?_) (fun h28 => ?_)
      ·
        have hgr := up_great (most := most) (out := out) (by omega) ht (c := (r.getD 1 0).toNat) rfl (by omega)
        refine Sl.nil ?_
        refine At.weak [(0, _), (1, _), (6, _), (7, _), (8, _), (9, _), (16, _), (28, _)] ⟨rfl, rfl, rfl, rfl, rfl, rfl, rfl, rfl, trivial⟩ ?_
        refine At.go ?_
        refine Sc.cond_t rfl ?_
        refine Sc.region ?_
        refine Sl.calm (Cm.move rfl) rfl ?_
        refine Sl.calm (Cm.sub64 rfl rfl (by omega)) rfl ?_
        refine Sl.calm (Cm.assign rfl) rfl ?_
        refine Sl.calm (Cm.assign rfl) rfl ?_
        refine Sl.nil ?_
        refine At.weak [(0, _), (1, _), (6, _), (7, _), (8, _), (9, _), (16, _), (28, _)] ⟨rfl, rfl, rfl, rfl, rfl, rfl, rfl, rfl, trivial⟩ ?_
        refine At.go ?_
        refine Sc.seq ?_
        refine Sc.seq ?_
        refine Sc.region ?_
        refine Sl.calm (Cm.move rfl) rfl ?_
        refine Sl.calm (Cm.len sl23 rfl) rfl ?_
        refine Sl.calm (Cm.move rfl) rfl ?_
        refine Sl.fork (Cm.lss rfl rfl) rfl (fun h34 => ?_) (fun h34 => ?_)
        ·
          have e2 : up most r out = ([], 2) := by rw [hgr, if_pos (by omega)]
          refine Sl.calm (Cm.move rfl) rfl ?_
          refine Sl.skip rfl rfl rfl rfl ?_
          refine Sl.skip rfl rfl rfl rfl ?_
          refine Sl.skip rfl rfl rfl rfl ?_
          refine Sl.skip rfl rfl rfl rfl ?_
          refine Sl.skip rfl rfl rfl rfl ?_
          refine Sl.skip rfl rfl rfl rfl ?_
          refine Sl.skip rfl rfl rfl rfl ?_
          refine Sl.skip rfl rfl rfl rfl ?_
          refine Sl.skip rfl rfl rfl rfl ?_
          refine Sl.skip rfl rfl rfl rfl ?_
          refine Sl.skip rfl rfl rfl rfl ?_
          refine Sl.calm (Cm.pick_t rfl rfl) rfl ?_
          refine Sl.nil ?_
          refine At.weak [(0, _), (1, _), (6, _), (7, _), (8, _), (9, _), (16, _), (28, _), (47, _)] ⟨rfl, rfl, rfl, rfl, rfl, rfl, rfl, rfl, rfl, trivial⟩ ?_
          refine At.go ?_
          refine Sc.cond_t rfl ?_
          refine Sc.seq ?_
          refine Sc.region ?_
          refine Sl.calm (Cm.assign rfl) rfl ?_
          refine Sl.calm (Cm.assign rfl) rfl ?_
          refine Sl.nil ?_
          refine At.go ?_
          refine Sc.ret ?_
          refine At.then_ret ?_
          refine At.block_ret ?_
          refine At.then_ret ?_
          refine At.block_ret ?_
          refine At.then_ret ?_
          refine At.ret2 rfl rfl rfl ?_
          first
            | (rw [e]; exact ⟨_, rfl, none, 0, rfl, Own.nil, Fr.none, Foot.refl _ _⟩)
            | (rw [e, ← hup, e2]; exact ⟨_, rfl, none, 0, rfl, Own.nil, Fr.none, hF1⟩)
            | (rw [e, ← hup, e3]; exact ⟨_, rfl, none, 0, rfl, Own.nil, Fr.none, hF1⟩)
            | (have hr0 : r = [] := List.eq_nil_of_length_eq_zero (by omega)
               subst hr0
               rw [up_nil] at hup
               rw [e, ← hup]
               exact ⟨_, rfl, o1, c2, rfl, ho1, hfr1, hF1⟩)
        ·
          refine Sl.calm (Cm.move rfl) rfl ?_
          refine Sl.want rfl rfl (Cm.move rfl) rfl ?_
          refine Sl.want rfl rfl (Cm.yes (Cm.geq rfl rfl) (by omega)) rfl ?_
          refine Sl.want rfl rfl (Cm.move rfl) rfl ?_
          refine Sl.want rfl rfl (Cm.move rfl) rfl ?_
          refine Sl.want rfl rfl (Cm.indexAddr1 sl23 rfl rfl hv2.non (by omega)) rfl ?_
          obtain ⟨c, hc⟩ : ∃ c, c = (r.getD 1 0).toNat := ⟨_, rfl⟩
          have hc256 : c < 256 := by have := (r.getD 1 0).toNat_lt; omega
          have hcd : (r.drop 1).getD 0 0 = r.getD 1 0 := by simp [List.getD]
          rw [← hc] at hgr
          refine Sl.want rfl rfl (Cm.ld sca5 rfl (hv2.gz 0 0 rfl (by omega))) rfl ?_
          refine Sl.want rfl rfl (Cm.convI_in (n := (c : Int)) is5 ty3 rfl (by rw [hcd, ← hc]; exact wrap64_id (by omega))) rfl ?_
          refine Sl.want rfl rfl (Cm.move rfl) rfl ?_
          refine Sl.want rfl rfl (Cm.len sl23 rfl) rfl ?_
          refine Sl.forkWant rfl rfl (Cm.geq rfl rfl) rfl (fun h45 => ?_) (fun h45 => ?_)
          ·
            have e2 : up most r out = ([], 2) := by rw [hgr, if_neg (by omega), if_pos (by omega)]
            refine Sl.want rfl rfl (Cm.pick_t rfl rfl) rfl ?_
            refine Sl.calm (Cm.pick_f rfl rfl) rfl ?_
            refine Sl.nil ?_
            refine At.weak [(0, _), (1, _), (6, _), (7, _), (8, _), (9, _), (16, _), (28, _), (47, _)] ⟨rfl, rfl, rfl, rfl, rfl, rfl, rfl, rfl, rfl, trivial⟩ ?_
            refine At.go ?_
            refine Sc.cond_t rfl ?_
            refine Sc.seq ?_
            refine Sc.region ?_
            refine Sl.calm (Cm.assign rfl) rfl ?_
            refine Sl.calm (Cm.assign rfl) rfl ?_
            refine Sl.nil ?_
            refine At.go ?_
            refine Sc.ret ?_
            refine At.then_ret ?_
            refine At.block_ret ?_
            refine At.then_ret ?_
            refine At.block_ret ?_
            refine At.then_ret ?_
            refine At.ret2 rfl rfl rfl ?_
            first
              | (rw [e]; exact ⟨_, rfl, none, 0, rfl, Own.nil, Fr.none, Foot.refl _ _⟩)
              | (rw [e, ← hup, e2]; exact ⟨_, rfl, none, 0, rfl, Own.nil, Fr.none, hF1⟩)
              | (rw [e, ← hup, e3]; exact ⟨_, rfl, none, 0, rfl, Own.nil, Fr.none, hF1⟩)
              | (have hr0 : r = [] := List.eq_nil_of_length_eq_zero (by omega)
                 subst hr0
                 rw [up_nil] at hup
                 rw [e, ← hup]
                 exact ⟨_, rfl, o1, c2, rfl, ho1, hfr1, hF1⟩)
          ·
            refine Sl.want rfl rfl (Cm.pick_t rfl rfl) rfl ?_
            refine Sl.calm (Cm.pick_f rfl rfl) rfl ?_
            refine Sl.nil ?_
            refine At.weak [(0, _), (1, _), (6, _), (7, _), (8, _), (9, _), (16, _), (28, _), (47, _)] ⟨rfl, rfl, rfl, rfl, rfl, rfl, rfl, rfl, rfl, trivial⟩ ?_
            refine At.go ?_
            refine Sc.cond_f rfl ?_
            refine Sc.skip ?_
            refine At.go ?_
            refine Sc.seq ?_
            refine Sc.seq ?_
            refine Sc.region ?_
            refine Sl.calm (Cm.move rfl) rfl ?_
            refine Sl.calm (Cm.move rfl) rfl ?_
            refine Sl.calm (Cm.move rfl) rfl ?_
            refine Sl.calm (Cm.len sl23 rfl) rfl ?_
            refine Sl.calm (Cm.sub64 rfl rfl (by omega)) rfl ?_
            refine Sl.fork (Cm.gtr rfl rfl) rfl (fun h53 => ?_) (fun h53 => ?_)
            ·
              have e3 : up most r out = ([], 3) := by rw [hgr, if_neg (by omega), if_neg (by omega), if_pos (by omega)]
              refine Sl.nil ?_
              refine At.weak [(0, _), (1, _), (6, _), (7, _), (8, _), (9, _), (16, _), (28, _), (47, _), (53, _)] ⟨rfl, rfl, rfl, rfl, rfl, rfl, rfl, rfl, rfl, rfl, trivial⟩ ?_
              refine At.go ?_
              refine Sc.cond_t rfl ?_
              refine Sc.seq ?_
              refine Sc.region ?_
              refine Sl.calm (Cm.assign rfl) rfl ?_
              refine Sl.calm (Cm.assign rfl) rfl ?_
              refine Sl.nil ?_
              refine At.go ?_
              refine Sc.ret ?_
              refine At.then_ret ?_
              refine At.block_ret ?_
              refine At.then_ret ?_
              refine At.block_ret ?_
              refine At.then_ret ?_
              refine At.ret2 rfl rfl rfl ?_
              first
                | (rw [e]; exact ⟨_, rfl, none, 0, rfl, Own.nil, Fr.none, Foot.refl _ _⟩)
                | (rw [e, ← hup, e2]; exact ⟨_, rfl, none, 0, rfl, Own.nil, Fr.none, hF1⟩)
                | (rw [e, ← hup, e3]; exact ⟨_, rfl, none, 0, rfl, Own.nil, Fr.none, hF1⟩)
                | (have hr0 : r = [] := List.eq_nil_of_length_eq_zero (by omega)
                   subst hr0
                   rw [up_nil] at hup
                   rw [e, ← hup]
                   exact ⟨_, rfl, o1, c2, rfl, ho1, hfr1, hF1⟩)
            ·
              have e4 : up most r out = up most (r.drop 2) (cp out (c + 1) (t - 125)) := by rw [hgr, if_neg (by omega), if_neg (by omega), if_neg (by omega)]
              refine Sl.nil ?_
              refine At.weak [(0, _), (1, _), (6, _), (7, _), (8, _), (9, _), (16, _), (28, _), (47, _), (53, _)] ⟨rfl, rfl, rfl, rfl, rfl, rfl, rfl, rfl, rfl, rfl, trivial⟩ ?_
              refine At.go ?_
              refine Sc.cond_f rfl ?_
              refine Sc.skip ?_
              refine At.go ?_
              refine Sc.seq ?_
              refine Sc.seq ?_
              refine Sc.region ?_
              refine Sl.calm (Cm.move rfl) rfl ?_
              refine Sl.calm (Cm.no (Cm.lss rfl rfl) (by omega)) rfl ?_
              refine Sl.nil ?_
              refine At.weak [(0, _), (1, _), (6, _), (7, _), (8, _), (9, _), (16, _), (28, _), (47, _), (53, _), (55, _)] ⟨rfl, rfl, rfl, rfl, rfl, rfl, rfl, rfl, rfl, rfl, rfl, trivial⟩ ?_
              refine At.go ?_
              refine Sc.cond_f rfl ?_
              refine Sc.seq ?_
              refine Sc.region ?_
              refine Sl.calm (Cm.move rfl) rfl ?_
              refine Sl.calm (Cm.len sl23 rfl) rfl ?_
              refine Sl.calm (Cm.move rfl) rfl ?_
              refine Sl.calm (Cm.indexAddr1 sl23 rfl rfl hv2.non (by omega)) rfl ?_
              refine Sl.calm (Cm.ld sca5 rfl (hv2.gz 0 0 rfl (by omega))) rfl ?_
              refine Sl.calm (Cm.convI_in (n := (c : Int)) is5 ty3 rfl (by rw [hcd, ← hc]; exact wrap64_id (by omega))) rfl ?_
              refine Sl.calm (Cm.sub64 rfl rfl (by omega)) rfl ?_
              refine Sl.calm (Cm.sub64 rfl rfl (by omega)) rfl ?_
              refine Sl.calm (Cm.assign rfl) rfl ?_
              refine Sl.nil ?_
              refine At.weak [(0, _), (1, _), (6, _), (7, _), (8, _), (9, _), (10, _), (16, _), (28, _), (47, _), (53, _), (55, _)] ⟨rfl, rfl, rfl, rfl, rfl, rfl, rfl, rfl, rfl, rfl, rfl, rfl, trivial⟩ ?_
              refine At.go ?_
              refine Sc.seq ?_
              refine Sc.region ?_
              refine Sl.calm (Cm.move rfl) rfl ?_
              refine Sl.calm (Cm.move rfl) rfl ?_
              refine Sl.nil ?_
              refine At.go ?_
              refine Sc.block ?_
              refine Sc.loop (β := Nat × Option Addr × Nat) (fun ⟨k, o2, c3⟩ => [(0, .slice (cutAo a1 c1 1 1) (r.drop 1).length (c1 - 1)), (1, .int .i64 most), (6, .slice o2 (cp out (c + 1) k).length c3), (9, .int .i64 1), (10, .int .i64 ((out.length : Int) - c - 1)), (28, .bool true), (69, .int .i64 ((t : Int) - 125)), (70, .int .i64 k)]) (fun ⟨k, o2, c3⟩ w => k ≤ t - 125 ∧ Own b8 5 w.heap o2 c3 (cp out (c + 1) k) ∧ Fr W.heap.size o2 ∧ Foot nob W w) (fun ⟨k, o2, c3⟩ => t - 125 - k) ⟨0, o1, c2⟩ ⟨rfl, rfl, rfl, rfl, rfl, rfl, rfl, rfl, trivial⟩ ⟨Nat.zero_le _, ho1, hfr1, hF1⟩ ?_
              rintro ⟨k, o2, c3⟩ w2 ⟨hk, ho2, hfr2, hF2⟩
              refine Sc.seq ?_
              refine Sc.region ?_
              refine Sl.fork (Cm.lss rfl rfl) rfl (fun h71 => ?_) (fun h71 => ?_)
              ·
                refine Sl.nil ?_
                refine At.go ?_
                refine Sc.seq ?_
                refine Sc.cond_t rfl ?_
                refine Sc.skip ?_
                refine At.go ?_
                refine Sc.seq ?_
                refine Sc.block ?_
                refine Sc.seq ?_
                refine Sc.region ?_
                refine Sl.calm (Cm.move rfl) rfl ?_
                refine Sl.calm (Cm.assign rfl) rfl ?_
                refine Sl.nil ?_
                refine At.weak [(0, _), (1, _), (6, _), (9, _), (10, _), (11, _), (28, _), (69, _), (70, _), (71, _)] ⟨rfl, rfl, rfl, rfl, rfl, rfl, rfl, rfl, rfl, rfl, trivial⟩ ?_
                refine At.go ?_
                refine Sc.region ?_
                refine Sl.calm (Cm.move rfl) rfl ?_
                refine Sl.calm (Cm.move rfl) rfl ?_
                refine Sl.calm (Cm.move rfl) rfl ?_
                refine Sl.calm (Cm.move rfl) rfl ?_
                have hcl := cp_len (c + 1) k out
                refine Sl.calm (Cm.add64 rfl rfl (by omega)) rfl ?_
                refine Sl.calm (Cm.indexAddr1 sl23 rfl rfl ho2.vw.non (by omega)) rfl ?_
                refine Sl.calm (Cm.ld sca5 rfl (ho2.vw.gz 0 (out.length - (c + 1) + k) (by omega) (by omega))) rfl ?_
                refine Sl.lit1 (enc := b8) (u := (cp out (c + 1) k).getD (out.length - (c + 1) + k) 0) sl23 rfl rfl rfl ?_
                intro w3 hol hsl hfl
                refine Sl.append b8_one sl23 rfl rfl (ho2.grow hfl) hol.vw (by simp only [List.length_singleton]; omega) (by simp only [List.length_singleton]; unfold maxLen; omega) rfl ?_
                intro o4 c4 w4 ho4 hf4 hr4 hn4
                have hz2 := hF2.size
                have hzl := hfl.size
                have hF4 : Foot nob W w4 := (hF2.trans hfl).trans_to hf4 hfr2.step
                have hfr4 : Fr W.heap.size o4 := fr_next hfr2 hr4 (by omega)
                have hsn : cp out (c + 1) k ++ [(cp out (c + 1) k).getD (out.length - (c + 1) + k) 0] = cp out (c + 1) (k + 1) := by rw [cp_snoc, hcl, show out.length + k - (c + 1) = out.length - (c + 1) + k by omega]
                rw [hsn] at ho4 ⊢
                refine Sl.calm (Cm.assign rfl) rfl ?_
                refine Sl.nil ?_
                refine At.block_normal ?_
                refine At.weak [(0, _), (1, _), (6, _), (9, _), (10, _), (11, _), (28, _), (69, _), (70, _), (71, _)] ⟨rfl, rfl, rfl, rfl, rfl, rfl, rfl, rfl, rfl, rfl, trivial⟩ ?_
                refine At.go ?_
                refine Sc.region ?_
                refine Sl.calm (Cm.add64 rfl rfl (by omega)) rfl ?_
                refine Sl.calm (Cm.move rfl) rfl ?_
                refine Sl.nil ?_
                exact At.again ⟨k + 1, o4, c4⟩ ⟨rfl, rfl, rfl, rfl, rfl, rfl, rfl, rfl, trivial⟩ ⟨by omega, ho4, hfr4, hF4⟩ (by show t - 125 - (k + 1) < t - 125 - k; omega)
              ·
                refine Sl.nil ?_
                refine At.go ?_
                refine Sc.seq ?_
                refine Sc.cond_f rfl ?_
                refine Sc.exit ?_
                refine At.then_exit ?_
                refine At.then_exit ?_
                refine At.block_hit ?_
                refine At.go ?_
                refine Sc.region ?_
                refine Sl.calm (Cm.move rfl) rfl ?_
                refine Sl.calm (Cm.move rfl) rfl ?_
                refine Sl.calm (Cm.ofEq (u := .slice (cutAo (cutAo a1 c1 1 1) (c1 - 1) 1 1) (r.drop 2).length (c1 - 1 - 1)) (Cm.sliceL sl23 rfl rfl (by omega)) (by rw [List.length_drop, List.length_drop, show r.length - 1 - (1 : Int).toNat = r.length - 2 by omega]; rfl)) rfl ?_
                refine Sl.calm (Cm.assign rfl) rfl ?_
                refine Sl.nil ?_
                refine At.block_normal ?_
                have hkk : k = t - 125 := by omega
                have hcl := cp_len (c + 1) k out
                have hv3 : Vw b8 W.heap (cutAo (cutAo a1 c1 1 1) (c1 - 1) 1 1) (c1 - 1 - 1) (r.drop 2) := by have := hv2W.cut (l := 1) (h := (r.drop 1).length) (m := c1 - 1) (by omega) (Nat.le_refl _) (by omega) (Nat.le_refl _); rwa [List.take_of_length_le (by rw [List.length_drop]; exact Nat.le_refl _), List.drop_drop] at this
                refine At.again ⟨⟨r.drop 2, cutAo (cutAo a1 c1 1 1) (c1 - 1) 1 1, c1 - 1 - 1⟩, ⟨cp out (c + 1) k, o2, c3⟩⟩ ⟨rfl, rfl, rfl, trivial⟩ ⟨by rw [hkk, ← e4]; exact hup, hv3, ho2, hfr2, by rw [hcl, List.length_drop]; omega, hF2⟩ (by show (r.drop 2).length < r.length; rw [List.length_drop]; omega)
      ·
        have hsm := up_small (most := most) (out := out) (by omega) ht (by omega)
        refine Sl.nil ?_
        refine At.weak [(0, _), (1, _), (6, _), (7, _), (8, _), (9, _), (16, _), (28, _)] ⟨rfl, rfl, rfl, rfl, rfl, rfl, rfl, rfl, trivial⟩ ?_
        refine At.go ?_
        refine Sc.cond_f rfl ?_
        refine Sc.skip ?_
        refine At.go ?_
        refine Sc.seq ?_
        refine Sc.seq ?_
        refine Sc.region ?_
        refine Sl.calm (Cm.move rfl) rfl ?_
        refine Sl.calm (Cm.len sl23 rfl) rfl ?_
        refine Sl.calm (Cm.move rfl) rfl ?_
        refine Sl.fork (Cm.lss rfl rfl) rfl (fun h34 => ?_) (fun h34 => ?_)
        ·
          have e2 : up most r out = ([], 2) := by rw [hsm, if_pos (by omega)]
          refine Sl.calm (Cm.move rfl) rfl ?_
          refine Sl.skip rfl rfl rfl rfl ?_
          refine Sl.skip rfl rfl rfl rfl ?_
          refine Sl.skip rfl rfl rfl rfl ?_
          refine Sl.skip rfl rfl rfl rfl ?_
          refine Sl.skip rfl rfl rfl rfl ?_
          refine Sl.skip rfl rfl rfl rfl ?_
          refine Sl.skip rfl rfl rfl rfl ?_
          refine Sl.skip rfl rfl rfl rfl ?_
          refine Sl.skip rfl rfl rfl rfl ?_
          refine Sl.skip rfl rfl rfl rfl ?_
          refine Sl.skip rfl rfl rfl rfl ?_
          refine Sl.calm (Cm.pick_t rfl rfl) rfl ?_
          refine Sl.nil ?_
          refine At.weak [(0, _), (1, _), (6, _), (7, _), (8, _), (9, _), (16, _), (28, _), (47, _)] ⟨rfl, rfl, rfl, rfl, rfl, rfl, rfl, rfl, rfl, trivial⟩ ?_
          refine At.go ?_
          refine Sc.cond_t rfl ?_
          refine Sc.seq ?_
          refine Sc.region ?_
          refine Sl.calm (Cm.assign rfl) rfl ?_
          refine Sl.calm (Cm.assign rfl) rfl ?_
          refine Sl.nil ?_
          refine At.go ?_
          refine Sc.ret ?_
          refine At.then_ret ?_
          refine At.block_ret ?_
          refine At.then_ret ?_
          refine At.block_ret ?_
          refine At.then_ret ?_
          refine At.ret2 rfl rfl rfl ?_
          first
            | (rw [e]; exact ⟨_, rfl, none, 0, rfl, Own.nil, Fr.none, Foot.refl _ _⟩)
            | (rw [e, ← hup, e2]; exact ⟨_, rfl, none, 0, rfl, Own.nil, Fr.none, hF1⟩)
            | (rw [e, ← hup, e3]; exact ⟨_, rfl, none, 0, rfl, Own.nil, Fr.none, hF1⟩)
            | (have hr0 : r = [] := List.eq_nil_of_length_eq_zero (by omega)
               subst hr0
               rw [up_nil] at hup
               rw [e, ← hup]
               exact ⟨_, rfl, o1, c2, rfl, ho1, hfr1, hF1⟩)
        ·
          refine Sl.calm (Cm.move rfl) rfl ?_
          refine Sl.want rfl rfl (Cm.move rfl) rfl ?_
          refine Sl.want rfl rfl (Cm.no (Cm.geq rfl rfl) (by omega)) rfl ?_
          refine Sl.want rfl rfl (Cm.move rfl) rfl ?_
          refine Sl.skip rfl rfl rfl rfl ?_
          refine Sl.skip rfl rfl rfl rfl ?_
          refine Sl.skip rfl rfl rfl rfl ?_
          refine Sl.skip rfl rfl rfl rfl ?_
          refine Sl.skip rfl rfl rfl rfl ?_
          refine Sl.skip rfl rfl rfl rfl ?_
          refine Sl.skip rfl rfl rfl rfl ?_
          refine Sl.want rfl rfl (Cm.pick_f rfl rfl) rfl ?_
          refine Sl.calm (Cm.pick_f rfl rfl) rfl ?_
          refine Sl.nil ?_
          refine At.weak [(0, _), (1, _), (6, _), (7, _), (8, _), (9, _), (16, _), (28, _), (47, _)] ⟨rfl, rfl, rfl, rfl, rfl, rfl, rfl, rfl, rfl, trivial⟩ ?_
          refine At.go ?_
          refine Sc.cond_f rfl ?_
          refine Sc.skip ?_
          refine At.go ?_
          refine Sc.seq ?_
          refine Sc.seq ?_
          refine Sc.region ?_
          refine Sl.calm (Cm.move rfl) rfl ?_
          refine Sl.calm (Cm.move rfl) rfl ?_
          refine Sl.calm (Cm.move rfl) rfl ?_
          refine Sl.calm (Cm.len sl23 rfl) rfl ?_
          refine Sl.calm (Cm.sub64 rfl rfl (by omega)) rfl ?_
          refine Sl.fork (Cm.gtr rfl rfl) rfl (fun h53 => ?_) (fun h53 => ?_)
          ·
            have e3 : up most r out = ([], 3) := by rw [hsm, if_neg (by omega), if_pos (by omega)]
            refine Sl.nil ?_
            refine At.weak [(0, _), (1, _), (6, _), (7, _), (8, _), (9, _), (16, _), (28, _), (47, _), (53, _)] ⟨rfl, rfl, rfl, rfl, rfl, rfl, rfl, rfl, rfl, rfl, trivial⟩ ?_
            refine At.go ?_
            refine Sc.cond_t rfl ?_
            refine Sc.seq ?_
            refine Sc.region ?_
            refine Sl.calm (Cm.assign rfl) rfl ?_
            refine Sl.calm (Cm.assign rfl) rfl ?_
            refine Sl.nil ?_
            refine At.go ?_
            refine Sc.ret ?_
            refine At.then_ret ?_
            refine At.block_ret ?_
            refine At.then_ret ?_
            refine At.block_ret ?_
            refine At.then_ret ?_
            refine At.ret2 rfl rfl rfl ?_
            first
              | (rw [e]; exact ⟨_, rfl, none, 0, rfl, Own.nil, Fr.none, Foot.refl _ _⟩)
              | (rw [e, ← hup, e2]; exact ⟨_, rfl, none, 0, rfl, Own.nil, Fr.none, hF1⟩)
              | (rw [e, ← hup, e3]; exact ⟨_, rfl, none, 0, rfl, Own.nil, Fr.none, hF1⟩)
              | (have hr0 : r = [] := List.eq_nil_of_length_eq_zero (by omega)
                 subst hr0
                 rw [up_nil] at hup
                 rw [e, ← hup]
                 exact ⟨_, rfl, o1, c2, rfl, ho1, hfr1, hF1⟩)
          ·
            have e4 : up most r out = up most (r.drop (t + 2)) (out ++ (r.drop 1).take (t + 1)) := by rw [hsm, if_neg (by omega), if_neg (by omega)]
            refine Sl.nil ?_
            refine At.weak [(0, _), (1, _), (6, _), (7, _), (8, _), (9, _), (16, _), (28, _), (47, _), (53, _)] ⟨rfl, rfl, rfl, rfl, rfl, rfl, rfl, rfl, rfl, rfl, trivial⟩ ?_
            refine At.go ?_
            refine Sc.cond_f rfl ?_
            refine Sc.skip ?_
            refine At.go ?_
            refine Sc.seq ?_
            refine Sc.seq ?_
            refine Sc.region ?_
            refine Sl.calm (Cm.move rfl) rfl ?_
            refine Sl.calm (Cm.yes (Cm.lss rfl rfl) (by omega)) rfl ?_
            refine Sl.nil ?_
            refine At.weak [(0, _), (1, _), (6, _), (7, _), (8, _), (9, _), (16, _), (28, _), (47, _), (53, _), (55, _)] ⟨rfl, rfl, rfl, rfl, rfl, rfl, rfl, rfl, rfl, rfl, rfl, trivial⟩ ?_
            refine At.go ?_
            refine Sc.cond_t rfl ?_
            refine Sc.region ?_
            refine Sl.calm (Cm.move rfl) rfl ?_
            refine Sl.calm (Cm.move rfl) rfl ?_
            refine Sl.calm (Cm.move rfl) rfl ?_
            refine Sl.calm (Cm.sliceH sl23 rfl rfl (by omega)) rfl ?_
            refine Sl.append b8_one sl23 (ys := (r.drop 1).take (t + 1)) rfl (by show some (Value.slice (cutAo (cutAo a1 c1 1 1) (c1 - 1) 0 1) ((t : Int) + 1).toNat (c1 - 1)) = _; rw [cutAo_zero, List.length_take, show ((t : Int) + 1).toNat = min (t + 1) (r.drop 1).length by omega]) ho1 (hv2.take _) (by rw [List.length_take]; omega) (by rw [List.length_take]; unfold maxLen; omega) rfl ?_
            intro o3 c3 w3 ho3 hf3 hr3 hn3
            have hz1 := hF1.size
            have hF3 : Foot nob W w3 := hF1.trans_to hf3 hfr1.step
            have hfr3 : Fr W.heap.size o3 := fr_next hfr1 hr3 hz1
            refine Sl.calm (Cm.assign rfl) rfl ?_
            refine Sl.nil ?_
            refine At.weak [(0, _), (1, _), (6, _), (7, _), (8, _), (9, _), (16, _), (28, _), (47, _), (53, _), (55, _)] ⟨rfl, rfl, rfl, rfl, rfl, rfl, rfl, rfl, rfl, rfl, rfl, trivial⟩ ?_
            refine At.go ?_
            refine Sc.region ?_
            refine Sl.calm (Cm.move rfl) rfl ?_
            refine Sl.calm (Cm.move rfl) rfl ?_
            refine Sl.calm (Cm.ofEq (u := .slice (cutAo (cutAo a1 c1 1 1) (c1 - 1) (t + 1) 1) (r.drop (t + 2)).length (c1 - 1 - (t + 1))) (Cm.sliceL sl23 rfl rfl (by omega)) (by rw [show ((t : Int) + 1).toNat = t + 1 by omega, List.length_drop, List.length_drop, show r.length - 1 - (t + 1) = r.length - (t + 2) by omega])) rfl ?_
            refine Sl.calm (Cm.assign rfl) rfl ?_
            refine Sl.nil ?_
            refine At.block_normal ?_
            have hv3 : Vw b8 W.heap (cutAo (cutAo a1 c1 1 1) (c1 - 1) (t + 1) 1) (c1 - 1 - (t + 1)) (r.drop (t + 2)) := by have := hv2W.cut (l := t + 1) (h := (r.drop 1).length) (m := c1 - 1) (by omega) (Nat.le_refl _) (by omega) (Nat.le_refl _); rwa [List.take_of_length_le (by rw [List.length_drop]; exact Nat.le_refl _), List.drop_drop, show 1 + (t + 1) = t + 2 by omega] at this
            refine At.again ⟨⟨r.drop (t + 2), cutAo (cutAo a1 c1 1 1) (c1 - 1) (t + 1) 1, c1 - 1 - (t + 1)⟩, ⟨out ++ (r.drop 1).take (t + 1), o3, c3⟩⟩ ⟨rfl, rfl, rfl, trivial⟩ ⟨by rw [← e4]; exact hup, hv3, ho3, hfr3, by rw [List.length_append, List.length_take, List.length_drop, List.length_drop]; omega, hF3⟩ (by show (r.drop (t + 2)).length < r.length; rw [List.length_drop]; omega)
    ·
      refine Sl.nil ?_
      refine At.weak [(0, _), (1, _), (6, _), (16, _)] ⟨rfl, rfl, rfl, rfl, trivial⟩ ?_
      refine At.go ?_
      refine Sc.cond_f rfl ?_
      refine Sc.exit ?_
      refine At.then_exit ?_
      refine At.then_exit ?_
      refine At.block_hit ?_
      refine At.go ?_
      refine Sc.seq ?_
      refine Sc.region ?_
      refine Sl.calm (Cm.move rfl) rfl ?_
      refine Sl.calm (Cm.assign rfl) rfl ?_
      refine Sl.calm (Cm.assign rfl) rfl ?_
      refine Sl.nil ?_
      refine At.weak [(0, _), (1, _), (4, _), (5, _), (6, _), (16, _)] ⟨rfl, rfl, rfl, rfl, rfl, rfl, trivial⟩ ?_
      refine At.go ?_
      refine Sc.ret ?_
      refine At.ret2 rfl rfl rfl ?_
      first
        | (rw [e]; exact ⟨_, rfl, none, 0, rfl, Own.nil, Fr.none, Foot.refl _ _⟩)
        | (rw [e, ← hup, e2]; exact ⟨_, rfl, none, 0, rfl, Own.nil, Fr.none, hF1⟩)
        | (rw [e, ← hup, e3]; exact ⟨_, rfl, none, 0, rfl, Own.nil, Fr.none, hF1⟩)
        | (have hr0 : r = [] := List.eq_nil_of_length_eq_zero (by omega)
           subst hr0
           rw [up_nil] at hup
           rw [e, ← hup]
           exact ⟨_, rfl, o1, c2, rfl, ho1, hfr1, hF1⟩)
end Go.Proofs.YtpnfjfbfgaiolaaDoor
