/- lz: Unpack, the reference's. No condition beyond the bounds that each states. -/
import Derived.Test.YtpnfjfbfgaiolaaDoorLzB
namespace Go.Proofs.YtpnfjfbfgaiolaaDoor
open Go Go.RowKit
set_option linter.unusedVariables false

theorem getD_drop (b : List UInt8) (q i : Nat) : (b.drop q).getD i 0 = b.getD (q + i) 0 := by simp [List.getD]

set_option maxHeartbeats 2000000 in
theorem runpack_ok (ao : Option Addr) (cap : Nat) (b : List UInt8) (most : Int) (W : World) (hv : Vw b8 W.heap ao cap b) (hb : b.length ≤ 1073741824) (hm : most ≤ 9223372036854775807) :
    Calls Tryd.prog 51 [.slice ao b.length cap, .int .i64 most].toArray W (Ret (PutP W (upS b most))) := by
  have hle := hv.le
  refine calls_of_sc 104 [(0, _), (1, _)] Tryd.func51 rfl rfl rfl (enter_slots ⟨rfl, rfl, trivial⟩) ?_
  refine Sc.seq ?_
  refine Sc.region ?_
  refine Sl.calm (Cm.assign rfl) rfl ?_
  refine Sl.calm (Cm.assign rfl) rfl ?_
  refine Sl.nil ?_
  refine At.go ?_
  refine Sc.seq ?_
  refine Sc.seq ?_
  refine Sc.region ?_
  refine Sl.calm (Cm.move rfl) rfl ?_
  refine Sl.fork (Cm.lss rfl rfl) rfl (fun h12 => ?_) (fun h12 => ?_)
  ·
    have e : upS b most = ([], 1) := by unfold upS; rw [if_pos h12]
    refine Sl.nil ?_
    refine At.weak [(0, _), (1, _), (4, _), (5, _), (12, _)] ⟨rfl, rfl, rfl, rfl, rfl, trivial⟩ ?_
    refine At.go ?_
    refine Sc.cond_t rfl ?_
    refine Sc.seq ?_
    refine Sc.region ?_
    refine Sl.calm (Cm.assign rfl) rfl ?_
    refine Sl.calm (Cm.assign rfl) rfl ?_
    refine Sl.nil ?_
    refine At.go ?_
    refine Sc.ret ?_
    refine At.then_ret ?_
    refine At.ret2 rfl rfl rfl ?_
    first
      | (rw [e]; exact ⟨_, rfl, none, 0, rfl, Own.nil, Fr.none, Foot.refl _ _⟩)
      | (rw [e, ← hup, e2]; exact ⟨_, rfl, none, 0, rfl, Own.nil, Fr.none, hF1⟩)
      | (rw [e, ← hup, e3]; exact ⟨_, rfl, none, 0, rfl, Own.nil, Fr.none, hF1⟩)
      | (rw [List.drop_of_length_le (by omega), up_nil] at hup
         rw [e, ← hup]
         exact ⟨_, rfl, o1, c2, rfl, ho1, hfr1, hF1⟩)
  ·
    have e : upS b most = up most b [] := by unfold upS; rw [if_neg h12]
    refine Sl.nil ?_
    refine At.weak [(0, _), (1, _), (4, _), (5, _), (12, _)] ⟨rfl, rfl, rfl, rfl, rfl, trivial⟩ ?_
    refine At.go ?_
    refine Sc.cond_f rfl ?_
    refine Sc.skip ?_
    refine At.go ?_
    refine Sc.seq ?_
    refine Sc.region ?_
    refine Sl.lit0 b8 sl23 rfl ?_
    intro w0 ho0 hs0 hf0
    refine Sl.calm (Cm.assign rfl) rfl ?_
    refine Sl.nil ?_
    refine At.weak [(0, _), (1, _), (4, _), (5, _), (6, _), (12, _)] ⟨rfl, rfl, rfl, rfl, rfl, rfl, trivial⟩ ?_
    refine At.go ?_
    refine Sc.seq ?_
    refine Sc.region ?_
    refine Sl.calm (Cm.assign rfl) rfl ?_
    refine Sl.nil ?_
    refine At.go ?_
    refine Sc.seq ?_
    refine Sc.block ?_
    refine Sc.loop (β := Nat × List UInt8 × Option Addr × Nat) (fun ⟨q, out, o1, c2⟩ => [(0, .slice ao b.length cap), (1, .int .i64 most), (6, .slice o1 out.length c2), (7, .int .i64 q)]) (fun ⟨q, out, o1, c2⟩ w => q ≤ b.length ∧ up most (b.drop q) out = up most b [] ∧ Own b8 5 w.heap o1 c2 out ∧ Fr W.heap.size o1 ∧ out.length + 65 * (b.length - q) ≤ 65 * b.length ∧ Foot nob W w) (fun ⟨q, out, o1, c2⟩ => b.length - q) ⟨0, [], some ⟨W.heap.size, 0, none⟩, 0⟩ ⟨rfl, rfl, rfl, rfl, trivial⟩ ⟨Nat.zero_le _, rfl, ho0, fr_at _, by simp, hf0⟩ ?_
    rintro ⟨q, out, o1, c2⟩ w1 ⟨hq, hup, ho1, hfr1, hlen, hF1⟩
    have hv1 := hv.grow hF1
    refine Sc.seq ?_
    refine Sc.seq ?_
    refine Sc.region ?_
    refine Sl.calm (Cm.move rfl) rfl ?_
    refine Sl.calm (Cm.move rfl) rfl ?_
    refine Sl.calm (Cm.len sl23 rfl) rfl ?_
    refine Sl.fork (Cm.lss rfl rfl) rfl (fun h17 => ?_) (fun h17 => ?_)
    ·
      refine Sl.nil ?_
      refine At.weak [(0, _), (1, _), (6, _), (7, _), (17, _)] ⟨rfl, rfl, rfl, rfl, rfl, trivial⟩ ?_
      refine At.go ?_
      refine Sc.cond_t rfl ?_
      refine Sc.skip ?_
      refine At.go ?_
      refine Sc.block ?_
      refine Sc.seq ?_
      refine Sc.region ?_
      refine Sl.calm (Cm.move rfl) rfl ?_
      refine Sl.calm (Cm.move rfl) rfl ?_
      refine Sl.calm (Cm.indexAddr1 sl23 rfl rfl hv1.non (by omega)) rfl ?_
      refine Sl.calm (Cm.ld sca5 rfl (hv1.gz 0 q rfl (by omega))) rfl ?_
      obtain ⟨t, ht⟩ : ∃ t, t = (b.getD q 0).toNat := ⟨_, rfl⟩
      have ht256 : t < 256 := by have := (b.getD q 0).toNat_lt; omega
      have hd : (b.drop q).length = b.length - q := List.length_drop ..
      have ht2 : t = ((b.drop q).getD 0 0).toNat := by rw [getD_drop]; exact ht
      refine Sl.calm (Cm.convI_in (n := (t : Int)) is5 ty3 rfl (by rw [← ht]; exact wrap64_id (by omega))) rfl ?_
      refine Sl.calm (Cm.assign rfl) rfl ?_
      refine Sl.nil ?_
      refine At.weak [(0, _), (1, _), (6, _), (7, _), (8, _), (17, _)] ⟨rfl, rfl, rfl, rfl, rfl, rfl, trivial⟩ ?_
      refine At.go ?_
      refine Sc.seq ?_
      refine Sc.seq ?_
      refine Sc.region ?_
      refine Sl.calm (Cm.move rfl) rfl ?_
      refine Sl.fork (Cm.lss rfl rfl) rfl (fun h24 => ?_) (fun h24 => ?_)
      ·
        have hsm := up_small (most := most) (out := out) (by omega) ht2 (by omega)
        refine Sl.nil ?_
        refine At.weak [(0, _), (1, _), (6, _), (7, _), (8, _), (17, _), (24, _)] ⟨rfl, rfl, rfl, rfl, rfl, rfl, rfl, trivial⟩ ?_
        refine At.go ?_
        refine Sc.cond_t rfl ?_
        refine Sc.seq ?_
        refine Sc.seq ?_
        refine Sc.region ?_
        refine Sl.calm (Cm.move rfl) rfl ?_
        refine Sl.calm (Cm.len sl23 rfl) rfl ?_
        refine Sl.calm (Cm.move rfl) rfl ?_
        refine Sl.calm (Cm.sub64 rfl rfl (by omega)) rfl ?_
        refine Sl.calm (Cm.sub64 rfl rfl (by omega)) rfl ?_
        refine Sl.calm (Cm.move rfl) rfl ?_
        refine Sl.calm (Cm.add64 rfl rfl (by omega)) rfl ?_
        refine Sl.fork (Cm.lss rfl rfl) rfl (fun h32 => ?_) (fun h32 => ?_)
        ·
          have e2 : up most (b.drop q) out = ([], 2) := by rw [hsm, if_pos (by omega)]
          refine Sl.nil ?_
          refine At.weak [(0, _), (1, _), (6, _), (7, _), (8, _), (17, _), (24, _), (32, _)] ⟨rfl, rfl, rfl, rfl, rfl, rfl, rfl, rfl, trivial⟩ ?_
          refine At.go ?_
          refine Sc.cond_t rfl ?_
          refine Sc.seq ?_
          refine Sc.region ?_
          refine Sl.calm (Cm.assign rfl) rfl ?_
          refine Sl.calm (Cm.assign rfl) rfl ?_
          refine Sl.nil ?_
          refine At.go ?_
          refine Sc.ret ?_
          refine At.then_ret ?_
          refine At.then_ret ?_
          refine At.block_ret ?_
          refine At.then_ret ?_
          refine At.block_ret ?_
          refine At.then_ret ?_
          refine At.ret2 rfl rfl rfl ?_
          first
            | (rw [e]; exact ⟨_, rfl, none, 0, rfl, Own.nil, Fr.none, Foot.refl _ _⟩)
            | (rw [e, ← hup, e2]; exact ⟨_, rfl, none, 0, rfl, Own.nil, Fr.none, hF1⟩)
            | (rw [e, ← hup, e3]; exact ⟨_, rfl, none, 0, rfl, Own.nil, Fr.none, hF1⟩)
            | (rw [List.drop_of_length_le (by omega), up_nil] at hup
               rw [e, ← hup]
               exact ⟨_, rfl, o1, c2, rfl, ho1, hfr1, hF1⟩)
        ·
          refine Sl.nil ?_
          refine At.weak [(0, _), (1, _), (6, _), (7, _), (8, _), (17, _), (24, _), (32, _)] ⟨rfl, rfl, rfl, rfl, rfl, rfl, rfl, rfl, trivial⟩ ?_
          refine At.go ?_
          refine Sc.cond_f rfl ?_
          refine Sc.skip ?_
          refine At.go ?_
          refine Sc.seq ?_
          refine Sc.seq ?_
          refine Sc.region ?_
          refine Sl.calm (Cm.move rfl) rfl ?_
          refine Sl.calm (Cm.move rfl) rfl ?_
          refine Sl.calm (Cm.len sl23 rfl) rfl ?_
          refine Sl.calm (Cm.sub64 rfl rfl (by omega)) rfl ?_
          refine Sl.calm (Cm.move rfl) rfl ?_
          refine Sl.calm (Cm.add64 rfl rfl (by omega)) rfl ?_
          refine Sl.fork (Cm.lss rfl rfl) rfl (fun h39 => ?_) (fun h39 => ?_)
          ·
            have e3 : up most (b.drop q) out = ([], 3) := by rw [hsm, if_neg (by omega), if_pos (by omega)]
            refine Sl.nil ?_
            refine At.weak [(0, _), (1, _), (6, _), (7, _), (8, _), (17, _), (24, _), (32, _), (39, _)] ⟨rfl, rfl, rfl, rfl, rfl, rfl, rfl, rfl, rfl, trivial⟩ ?_
            refine At.go ?_
            refine Sc.cond_t rfl ?_
            refine Sc.seq ?_
            refine Sc.region ?_
            refine Sl.calm (Cm.assign rfl) rfl ?_
            refine Sl.calm (Cm.assign rfl) rfl ?_
            refine Sl.nil ?_
            refine At.go ?_
            refine Sc.ret ?_
            refine At.then_ret ?_
            refine At.then_ret ?_
            refine At.block_ret ?_
            refine At.then_ret ?_
            refine At.block_ret ?_
            refine At.then_ret ?_
            refine At.ret2 rfl rfl rfl ?_
            first
              | (rw [e]; exact ⟨_, rfl, none, 0, rfl, Own.nil, Fr.none, Foot.refl _ _⟩)
              | (rw [e, ← hup, e2]; exact ⟨_, rfl, none, 0, rfl, Own.nil, Fr.none, hF1⟩)
              | (rw [e, ← hup, e3]; exact ⟨_, rfl, none, 0, rfl, Own.nil, Fr.none, hF1⟩)
              | (rw [List.drop_of_length_le (by omega), up_nil] at hup
                 rw [e, ← hup]
                 exact ⟨_, rfl, o1, c2, rfl, ho1, hfr1, hF1⟩)
          ·
            have e4 : up most (b.drop q) out = up most (b.drop (q + t + 2)) (out ++ (b.drop (q + 1)).take (t + 1)) := by rw [hsm, if_neg (by omega), if_neg (by omega), List.drop_drop, List.drop_drop]; rfl
            refine Sl.nil ?_
            refine At.weak [(0, _), (1, _), (6, _), (7, _), (8, _), (17, _), (24, _), (32, _), (39, _)] ⟨rfl, rfl, rfl, rfl, rfl, rfl, rfl, rfl, rfl, trivial⟩ ?_
            refine At.go ?_
            refine Sc.cond_f rfl ?_
            refine Sc.skip ?_
            refine At.go ?_
            refine Sc.seq ?_
            refine Sc.region ?_
            refine Sl.calm (Cm.move rfl) rfl ?_
            refine Sl.calm (Cm.move rfl) rfl ?_
            refine Sl.calm (Cm.move rfl) rfl ?_
            refine Sl.calm (Cm.add64 rfl rfl (by omega)) rfl ?_
            refine Sl.calm (Cm.move rfl) rfl ?_
            refine Sl.calm (Cm.move rfl) rfl ?_
            refine Sl.calm (Cm.add64 rfl rfl (by omega)) rfl ?_
            refine Sl.calm (Cm.add64 rfl rfl (by omega)) rfl ?_
            refine Sl.calm (Cm.ofEq (u := .slice (cutAo ao cap (q + 1) 1) ((b.drop (q + 1)).take (t + 1)).length (cap - (q + 1))) (Cm.sliceLH sl23 rfl rfl rfl (by omega) (by omega)) (by rw [show ((q : Int) + 1).toNat = q + 1 by omega, show ((q : Int) + t + 2).toNat = q + t + 2 by omega, List.length_take, List.length_drop, show min (t + 1) (b.length - (q + 1)) = q + t + 2 - (q + 1) by omega])) rfl ?_
            have hv2 : Vw b8 w1.heap (cutAo ao cap (q + 1) 1) (cap - (q + 1)) ((b.drop (q + 1)).take (t + 1)) := by have := hv1.cut (l := q + 1) (h := q + t + 2) (m := cap) (by omega) (by omega) (by omega) (Nat.le_refl _); rwa [show q + t + 2 - (q + 1) = t + 1 by omega] at this
            have hl2 : ((b.drop (q + 1)).take (t + 1)).length = t + 1 := by rw [List.length_take, List.length_drop]; omega
            refine Sl.append b8_one sl23 rfl rfl ho1 hv2 (by omega) (by unfold maxLen; omega) rfl ?_
            intro o3 c3 w3 ho3 hf3 hr3 hn3
            have hz1 := hF1.size
            have hF3 : Foot nob W w3 := hF1.trans_to hf3 hfr1.step
            have hfr3 : Fr W.heap.size o3 := fr_next hfr1 hr3 hz1
            refine Sl.calm (Cm.assign rfl) rfl ?_
            refine Sl.nil ?_
            refine At.weak [(0, _), (1, _), (6, _), (7, _), (8, _), (17, _), (24, _), (32, _), (39, _)] ⟨rfl, rfl, rfl, rfl, rfl, rfl, rfl, rfl, rfl, trivial⟩ ?_
            refine At.go ?_
            refine Sc.seq ?_
            refine Sc.region ?_
            refine Sl.calm (Cm.move rfl) rfl ?_
            refine Sl.calm (Cm.move rfl) rfl ?_
            refine Sl.calm (Cm.add64 rfl rfl (by omega)) rfl ?_
            refine Sl.calm (Cm.add64 rfl rfl (by omega)) rfl ?_
            refine Sl.calm (Cm.assign rfl) rfl ?_
            refine Sl.nil ?_
            refine At.weak [(0, _), (1, _), (6, _), (7, _), (8, _), (17, _), (24, _), (32, _), (39, _)] ⟨rfl, rfl, rfl, rfl, rfl, rfl, rfl, rfl, rfl, trivial⟩ ?_
            refine At.go ?_
            refine Sc.exit ?_
            refine At.then_exit ?_
            refine At.block_hit ?_
            refine At.again ⟨q + t + 2, out ++ (b.drop (q + 1)).take (t + 1), o3, c3⟩ ⟨rfl, rfl, rfl, rfl, trivial⟩ ⟨by omega, by rw [← e4]; exact hup, ho3, hfr3, by rw [List.length_append]; omega, hF3⟩ (by show b.length - (q + t + 2) < b.length - q; omega)
      ·
        have hgr := up_great (most := most) (out := out) (by omega) ht2 (c := (b.getD (q + 1) 0).toNat) (by rw [getD_drop]) (by omega)
        refine Sl.nil ?_
        refine At.weak [(0, _), (1, _), (6, _), (7, _), (8, _), (17, _), (24, _)] ⟨rfl, rfl, rfl, rfl, rfl, rfl, rfl, trivial⟩ ?_
        refine At.go ?_
        refine Sc.cond_f rfl ?_
        refine Sc.skip ?_
        refine At.go ?_
        refine Sc.seq ?_
        refine Sc.seq ?_
        refine Sc.region ?_
        refine Sl.calm (Cm.move rfl) rfl ?_
        refine Sl.calm (Cm.len sl23 rfl) rfl ?_
        refine Sl.calm (Cm.move rfl) rfl ?_
        refine Sl.calm (Cm.sub64 rfl rfl (by omega)) rfl ?_
        refine Sl.fork (Cm.lss rfl rfl) rfl (fun h58 => ?_) (fun h58 => ?_)
        ·
          have e2 : up most (b.drop q) out = ([], 2) := by rw [hgr, if_pos (by omega)]
          refine Sl.calm (Cm.move rfl) rfl ?_
          refine Sl.skip rfl rfl rfl rfl ?_
          refine Sl.skip rfl rfl rfl rfl ?_
          refine Sl.skip rfl rfl rfl rfl ?_
          refine Sl.skip rfl rfl rfl rfl ?_
          refine Sl.skip rfl rfl rfl rfl ?_
          refine Sl.skip rfl rfl rfl rfl ?_
          refine Sl.skip rfl rfl rfl rfl ?_
          refine Sl.skip rfl rfl rfl rfl ?_
          refine Sl.skip rfl rfl rfl rfl ?_
          refine Sl.skip rfl rfl rfl rfl ?_
          refine Sl.calm (Cm.pick_t rfl rfl) rfl ?_
          refine Sl.nil ?_
          refine At.weak [(0, _), (1, _), (6, _), (7, _), (8, _), (17, _), (24, _), (70, _)] ⟨rfl, rfl, rfl, rfl, rfl, rfl, rfl, rfl, trivial⟩ ?_
          refine At.go ?_
          refine Sc.cond_t rfl ?_
          refine Sc.seq ?_
          refine Sc.region ?_
          refine Sl.calm (Cm.assign rfl) rfl ?_
          refine Sl.calm (Cm.assign rfl) rfl ?_
          refine Sl.nil ?_
          refine At.go ?_
          refine Sc.ret ?_
          refine At.then_ret ?_
          refine At.block_ret ?_
          refine At.then_ret ?_
          refine At.block_ret ?_
          refine At.then_ret ?_
          refine At.ret2 rfl rfl rfl ?_
          first
            | (rw [e]; exact ⟨_, rfl, none, 0, rfl, Own.nil, Fr.none, Foot.refl _ _⟩)
            | (rw [e, ← hup, e2]; exact ⟨_, rfl, none, 0, rfl, Own.nil, Fr.none, hF1⟩)
            | (rw [e, ← hup, e3]; exact ⟨_, rfl, none, 0, rfl, Own.nil, Fr.none, hF1⟩)
            | (rw [List.drop_of_length_le (by omega), up_nil] at hup
               rw [e, ← hup]
               exact ⟨_, rfl, o1, c2, rfl, ho1, hfr1, hF1⟩)
        ·
          refine Sl.calm (Cm.move rfl) rfl ?_
          refine Sl.want rfl rfl (Cm.move rfl) rfl ?_
          refine Sl.want rfl rfl (Cm.move rfl) rfl ?_
          refine Sl.want rfl rfl (Cm.add64 rfl rfl (by omega)) rfl ?_
          refine Sl.want rfl rfl (Cm.indexAddr1 sl23 rfl rfl hv1.non (by omega)) rfl ?_
          obtain ⟨c, hc⟩ : ∃ c, c = (b.getD (q + 1) 0).toNat := ⟨_, rfl⟩
          have hc256 : c < 256 := by have := (b.getD (q + 1) 0).toNat_lt; omega
          rw [← hc] at hgr
          refine Sl.want rfl rfl (Cm.ld sca5 rfl (hv1.gz 0 (q + 1) (by omega) (by omega))) rfl ?_
          refine Sl.want rfl rfl (Cm.convI_in (n := (c : Int)) is5 ty3 rfl (by rw [← hc]; exact wrap64_id (by omega))) rfl ?_
          refine Sl.want rfl rfl (Cm.add64 rfl rfl (by omega)) rfl ?_
          refine Sl.want rfl rfl (Cm.move rfl) rfl ?_
          refine Sl.want rfl rfl (Cm.len sl23 rfl) rfl ?_
          refine Sl.forkWant rfl rfl (Cm.gtr rfl rfl) rfl (fun h69 => ?_) (fun h69 => ?_)
          ·
            have e2 : up most (b.drop q) out = ([], 2) := by rw [hgr, if_neg (by omega), if_pos (by omega)]
            refine Sl.calm (Cm.pick_f rfl rfl) rfl ?_
            refine Sl.nil ?_
            refine At.weak [(0, _), (1, _), (6, _), (7, _), (8, _), (17, _), (24, _), (70, _)] ⟨rfl, rfl, rfl, rfl, rfl, rfl, rfl, rfl, trivial⟩ ?_
            refine At.go ?_
            refine Sc.cond_t rfl ?_
            refine Sc.seq ?_
            refine Sc.region ?_
            refine Sl.calm (Cm.assign rfl) rfl ?_
            refine Sl.calm (Cm.assign rfl) rfl ?_
            refine Sl.nil ?_
            refine At.go ?_
            refine Sc.ret ?_
            refine At.then_ret ?_
            refine At.block_ret ?_
            refine At.then_ret ?_
            refine At.block_ret ?_
            refine At.then_ret ?_
            refine At.ret2 rfl rfl rfl ?_
            first
              | (rw [e]; exact ⟨_, rfl, none, 0, rfl, Own.nil, Fr.none, Foot.refl _ _⟩)
              | (rw [e, ← hup, e2]; exact ⟨_, rfl, none, 0, rfl, Own.nil, Fr.none, hF1⟩)
              | (rw [e, ← hup, e3]; exact ⟨_, rfl, none, 0, rfl, Own.nil, Fr.none, hF1⟩)
              | (rw [List.drop_of_length_le (by omega), up_nil] at hup
                 rw [e, ← hup]
                 exact ⟨_, rfl, o1, c2, rfl, ho1, hfr1, hF1⟩)
          ·
            refine Sl.calm (Cm.pick_f rfl rfl) rfl ?_
            refine Sl.nil ?_
            refine At.weak [(0, _), (1, _), (6, _), (7, _), (8, _), (17, _), (24, _), (70, _)] ⟨rfl, rfl, rfl, rfl, rfl, rfl, rfl, rfl, trivial⟩ ?_
            refine At.go ?_
            refine Sc.cond_f rfl ?_
            refine Sc.skip ?_
            refine At.go ?_
            refine Sc.seq ?_
            refine Sc.seq ?_
            refine Sc.region ?_
            refine Sl.calm (Cm.move rfl) rfl ?_
            refine Sl.calm (Cm.move rfl) rfl ?_
            refine Sl.calm (Cm.len sl23 rfl) rfl ?_
            refine Sl.calm (Cm.sub64 rfl rfl (by omega)) rfl ?_
            refine Sl.calm (Cm.move rfl) rfl ?_
            refine Sl.calm (Cm.sub64 rfl rfl (by omega)) rfl ?_
            refine Sl.fork (Cm.lss rfl rfl) rfl (fun h77 => ?_) (fun h77 => ?_)
            ·
              have e3 : up most (b.drop q) out = ([], 3) := by rw [hgr, if_neg (by omega), if_neg (by omega), if_pos (by omega)]
              refine Sl.nil ?_
              refine At.weak [(0, _), (1, _), (6, _), (7, _), (8, _), (17, _), (24, _), (70, _), (77, _)] ⟨rfl, rfl, rfl, rfl, rfl, rfl, rfl, rfl, rfl, trivial⟩ ?_
              refine At.go ?_
              refine Sc.cond_t rfl ?_
              refine Sc.seq ?_
              refine Sc.region ?_
              refine Sl.calm (Cm.assign rfl) rfl ?_
              refine Sl.calm (Cm.assign rfl) rfl ?_
              refine Sl.nil ?_
              refine At.go ?_
              refine Sc.ret ?_
              refine At.then_ret ?_
              refine At.block_ret ?_
              refine At.then_ret ?_
              refine At.block_ret ?_
              refine At.then_ret ?_
              refine At.ret2 rfl rfl rfl ?_
              first
                | (rw [e]; exact ⟨_, rfl, none, 0, rfl, Own.nil, Fr.none, Foot.refl _ _⟩)
                | (rw [e, ← hup, e2]; exact ⟨_, rfl, none, 0, rfl, Own.nil, Fr.none, hF1⟩)
                | (rw [e, ← hup, e3]; exact ⟨_, rfl, none, 0, rfl, Own.nil, Fr.none, hF1⟩)
                | (rw [List.drop_of_length_le (by omega), up_nil] at hup
                   rw [e, ← hup]
                   exact ⟨_, rfl, o1, c2, rfl, ho1, hfr1, hF1⟩)
            ·
              have e4 : up most (b.drop q) out = up most (b.drop (q + 2)) (cp out (c + 1) (t - 125)) := by rw [hgr, if_neg (by omega), if_neg (by omega), if_neg (by omega), List.drop_drop]
              refine Sl.nil ?_
              refine At.weak [(0, _), (1, _), (6, _), (7, _), (8, _), (17, _), (24, _), (70, _), (77, _)] ⟨rfl, rfl, rfl, rfl, rfl, rfl, rfl, rfl, rfl, trivial⟩ ?_
              refine At.go ?_
              refine Sc.cond_f rfl ?_
              refine Sc.skip ?_
              refine At.go ?_
              refine Sc.seq ?_
              refine Sc.region ?_
              refine Sl.calm (Cm.move rfl) rfl ?_
              refine Sl.calm (Cm.move rfl) rfl ?_
              refine Sl.calm (Cm.add64 rfl rfl (by omega)) rfl ?_
              refine Sl.calm (Cm.indexAddr1 sl23 rfl rfl hv1.non (by omega)) rfl ?_
              refine Sl.calm (Cm.ld sca5 rfl (hv1.gz 0 (q + 1) (by omega) (by omega))) rfl ?_
              refine Sl.calm (Cm.convI_in (n := (c : Int)) is5 ty3 rfl (by rw [← hc]; exact wrap64_id (by omega))) rfl ?_
              refine Sl.calm (Cm.add64 rfl rfl (by omega)) rfl ?_
              refine Sl.calm (Cm.assign rfl) rfl ?_
              refine Sl.nil ?_
              refine At.weak [(0, _), (1, _), (6, _), (7, _), (8, _), (9, _), (17, _), (24, _), (70, _), (77, _)] ⟨rfl, rfl, rfl, rfl, rfl, rfl, rfl, rfl, rfl, rfl, trivial⟩ ?_
              refine At.go ?_
              refine Sc.seq ?_
              refine Sc.seq ?_
              refine Sc.region ?_
              refine Sl.calm (Cm.assign rfl) rfl ?_
              refine Sl.nil ?_
              refine At.go ?_
              refine Sc.block ?_
              refine Sc.loop (β := Nat × Option Addr × Nat) (fun ⟨k, o2, c3⟩ => [(0, .slice ao b.length cap), (1, .int .i64 most), (6, .slice o2 (cp out (c + 1) k).length c3), (7, .int .i64 q), (8, .int .i64 t), (9, .int .i64 ((c : Int) + 1)), (10, .int .i64 k), (24, .bool false)]) (fun ⟨k, o2, c3⟩ w => k ≤ t - 125 ∧ Own b8 5 w.heap o2 c3 (cp out (c + 1) k) ∧ Fr W.heap.size o2 ∧ Foot nob W w) (fun ⟨k, o2, c3⟩ => t - 125 - k) ⟨0, o1, c2⟩ ⟨rfl, rfl, rfl, rfl, rfl, rfl, rfl, rfl, trivial⟩ ⟨Nat.zero_le _, ho1, hfr1, hF1⟩ ?_
              rintro ⟨k, o2, c3⟩ w2 ⟨hk, ho2, hfr2, hF2⟩
              refine Sc.seq ?_
              refine Sc.seq ?_
              refine Sc.region ?_
              refine Sl.calm (Cm.move rfl) rfl ?_
              refine Sl.calm (Cm.move rfl) rfl ?_
              refine Sl.calm (Cm.sub64 rfl rfl (by omega)) rfl ?_
              refine Sl.fork (Cm.lss rfl rfl) rfl (fun h88 => ?_) (fun h88 => ?_)
              ·
                refine Sl.nil ?_
                refine At.weak [(0, _), (1, _), (6, _), (7, _), (8, _), (9, _), (10, _), (24, _), (88, _)] ⟨rfl, rfl, rfl, rfl, rfl, rfl, rfl, rfl, rfl, trivial⟩ ?_
                refine At.go ?_
                refine Sc.cond_t rfl ?_
                refine Sc.skip ?_
                refine At.go ?_
                refine Sc.seq ?_
                refine Sc.block ?_
                refine Sc.region ?_
                refine Sl.calm (Cm.move rfl) rfl ?_
                refine Sl.calm (Cm.move rfl) rfl ?_
                refine Sl.calm (Cm.move rfl) rfl ?_
                refine Sl.calm (Cm.len sl23 rfl) rfl ?_
                refine Sl.calm (Cm.move rfl) rfl ?_
                have hcl := cp_len (c + 1) k out
                refine Sl.calm (Cm.sub64 rfl rfl (by omega)) rfl ?_
                refine Sl.calm (Cm.indexAddr1 sl23 rfl rfl ho2.vw.non (by omega)) rfl ?_
                refine Sl.calm (Cm.ld sca5 rfl (ho2.vw.gz 0 (out.length + k - (c + 1)) (by omega) (by omega))) rfl ?_
                refine Sl.lit1 (enc := b8) (u := (cp out (c + 1) k).getD (out.length + k - (c + 1)) 0) sl23 rfl rfl rfl ?_
                intro w3 hol hsl hfl
                refine Sl.append b8_one sl23 rfl rfl (ho2.grow hfl) hol.vw (by simp only [List.length_singleton]; omega) (by simp only [List.length_singleton]; unfold maxLen; omega) rfl ?_
                intro o4 c4 w4 ho4 hf4 hr4 hn4
                have hz2 := hF2.size
                have hzl := hfl.size
                have hF4 : Foot nob W w4 := (hF2.trans hfl).trans_to hf4 hfr2.step
                have hfr4 : Fr W.heap.size o4 := fr_next hfr2 hr4 (by omega)
                have hsn : cp out (c + 1) k ++ [(cp out (c + 1) k).getD (out.length + k - (c + 1)) 0] = cp out (c + 1) (k + 1) := by rw [cp_snoc, hcl]
                rw [hsn] at ho4 ⊢
                refine Sl.calm (Cm.assign rfl) rfl ?_
                refine Sl.nil ?_
                refine At.block_normal ?_
                refine At.weak [(0, _), (1, _), (6, _), (7, _), (8, _), (9, _), (10, _), (24, _), (88, _)] ⟨rfl, rfl, rfl, rfl, rfl, rfl, rfl, rfl, rfl, trivial⟩ ?_
                refine At.go ?_
                refine Sc.region ?_
                refine Sl.calm (Cm.move rfl) rfl ?_
                refine Sl.calm (Cm.add64 rfl rfl (by omega)) rfl ?_
                refine Sl.calm (Cm.assign rfl) rfl ?_
                refine Sl.nil ?_
                exact At.again ⟨k + 1, o4, c4⟩ ⟨rfl, rfl, rfl, rfl, rfl, rfl, rfl, rfl, trivial⟩ ⟨by omega, ho4, hfr4, hF4⟩ (by show t - 125 - (k + 1) < t - 125 - k; omega)
              ·
                refine Sl.nil ?_
                refine At.weak [(0, _), (1, _), (6, _), (7, _), (8, _), (9, _), (10, _), (24, _), (88, _)] ⟨rfl, rfl, rfl, rfl, rfl, rfl, rfl, rfl, rfl, trivial⟩ ?_
                refine At.go ?_
                refine Sc.cond_f rfl ?_
                refine Sc.exit ?_
                refine At.then_exit ?_
                refine At.then_exit ?_
                refine At.block_hit ?_
                refine At.go ?_
                refine Sc.region ?_
                refine Sl.calm (Cm.move rfl) rfl ?_
                refine Sl.calm (Cm.add64 rfl rfl (by omega)) rfl ?_
                refine Sl.calm (Cm.assign rfl) rfl ?_
                refine Sl.nil ?_
                refine At.block_normal ?_
                have hkk : k = t - 125 := by omega
                have hcl := cp_len (c + 1) k out
                refine At.again ⟨q + 2, cp out (c + 1) k, o2, c3⟩ ⟨rfl, rfl, rfl, rfl, trivial⟩ ⟨by omega, by rw [hkk, ← e4]; exact hup, ho2, hfr2, by rw [hcl]; omega, hF2⟩ (by show b.length - (q + 2) < b.length - q; omega)
    ·
      refine Sl.nil ?_
      refine At.weak [(0, _), (1, _), (6, _), (7, _), (17, _)] ⟨rfl, rfl, rfl, rfl, rfl, trivial⟩ ?_
      refine At.go ?_
      refine Sc.cond_f rfl ?_
      refine Sc.exit ?_
      refine At.then_exit ?_
      refine At.then_exit ?_
      refine At.block_hit ?_
      refine At.go ?_
      refine Sc.seq ?_
      refine Sc.region ?_
      refine Sl.calm (Cm.move rfl) rfl ?_
      refine Sl.calm (Cm.assign rfl) rfl ?_
      refine Sl.calm (Cm.assign rfl) rfl ?_
      refine Sl.nil ?_
      refine At.weak [(0, _), (1, _), (4, _), (5, _), (6, _), (7, _), (17, _)] ⟨rfl, rfl, rfl, rfl, rfl, rfl, rfl, trivial⟩ ?_
      refine At.go ?_
      refine Sc.ret ?_
      refine At.ret2 rfl rfl rfl ?_
      first
        | (rw [e]; exact ⟨_, rfl, none, 0, rfl, Own.nil, Fr.none, Foot.refl _ _⟩)
        | (rw [e, ← hup, e2]; exact ⟨_, rfl, none, 0, rfl, Own.nil, Fr.none, hF1⟩)
        | (rw [e, ← hup, e3]; exact ⟨_, rfl, none, 0, rfl, Own.nil, Fr.none, hF1⟩)
        | (rw [List.drop_of_length_le (by omega), up_nil] at hup
           rw [e, ← hup]
           exact ⟨_, rfl, o1, c2, rfl, ho1, hfr1, hF1⟩)
end Go.Proofs.YtpnfjfbfgaiolaaDoor
