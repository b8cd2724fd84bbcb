/- lz: Pack, the reference's; the laws' head. No condition beyond the bounds that each states. -/
import Derived.Test.YtpnfjfbfgaiolaaDoorLzF
namespace Go.Proofs.YtpnfjfbfgaiolaaDoor
open Go Go.RowKit
set_option linter.unusedVariables false

set_option maxHeartbeats 2000000 in
theorem rpack_ok (ao : Option Addr) (cap : Nat) (b : List UInt8) (W : World) (hv : Vw b8 W.heap ao cap b) :
    Calls Tryd.prog 43 [.slice ao b.length cap].toArray W (Ret (PutP W (pkR b))) := by
  refine calls_of_sc 54 [(0, _)] Tryd.func43 rfl rfl rfl (enter_slots ⟨rfl, trivial⟩) ?_
  refine Sc.seq ?_
  refine Sc.region ?_
  refine Sl.calm (Cm.assign rfl) rfl ?_
  refine Sl.calm (Cm.assign rfl) rfl ?_
  refine Sl.nil ?_
  refine At.go ?_
  refine Sc.seq ?_
  refine Sc.seq ?_
  refine Sc.region ?_
  refine Sl.calm (Cm.move rfl) rfl ?_
  refine Sl.calm (Cm.len sl23 rfl) rfl ?_
  refine Sl.fork (Cm.gtr rfl rfl) rfl (fun h11 => ?_) (fun h11 => ?_)
  ·
    have e : pkR b = ([], 3) := by unfold pkR; rw [if_pos (by omega)]
    refine Sl.nil ?_
    refine At.weak [(0, _), (2, _), (3, _), (11, _)] ⟨rfl, rfl, rfl, rfl, trivial⟩ ?_
    refine At.go ?_
    refine Sc.cond_t rfl ?_
    refine Sc.seq ?_
    refine Sc.region ?_
    refine Sl.calm (Cm.assign rfl) rfl ?_
    refine Sl.calm (Cm.assign rfl) rfl ?_
    refine Sl.nil ?_
    refine At.go ?_
    refine Sc.ret ?_
    refine At.then_ret ?_
    refine At.ret2 rfl rfl rfl ?_
    first
      | (rw [e]; exact ⟨_, rfl, none, 0, rfl, Own.nil, Fr.none, Foot.refl _ _⟩)
      | (rw [e, ← hpk]; exact ⟨_, rfl, o3, c3, rfl, ho3, fr_next hfr1 hr3 hz1, hF1.trans_to hf3 hfr1.step⟩)
  ·
    have e : pkR b = (pkS b, 0) := by unfold pkR; rw [if_neg (by omega)]
    refine Sl.nil ?_
    refine At.weak [(0, _), (2, _), (3, _), (11, _)] ⟨rfl, rfl, rfl, rfl, trivial⟩ ?_
    refine At.go ?_
    refine Sc.cond_f rfl ?_
    refine Sc.skip ?_
    refine At.go ?_
    refine Sc.seq ?_
    refine Sc.region ?_
    refine Sl.lit0 b8 sl23 rfl ?_
    intro w0 ho0 hs0 hf0
    refine Sl.calm (Cm.assign rfl) rfl ?_
    refine Sl.nil ?_
    refine At.weak [(0, _), (2, _), (3, _), (4, _), (11, _)] ⟨rfl, rfl, rfl, rfl, rfl, trivial⟩ ?_
    refine At.go ?_
    refine Sc.seq ?_
    refine Sc.region ?_
    refine Sl.lit0 b8 sl23 rfl ?_
    intro wr hor hsr hfr
    have hlr : w0.heap.size = W.heap.size + 1 := hs0
    refine Sl.calm (Cm.assign rfl) rfl ?_
    refine Sl.nil ?_
    refine At.weak [(0, _), (2, _), (3, _), (4, _), (5, _), (11, _)] ⟨rfl, rfl, rfl, rfl, rfl, rfl, trivial⟩ ?_
    refine At.go ?_
    refine Sc.seq ?_
    refine Sc.region ?_
    refine Sl.calm (Cm.assign rfl) rfl ?_
    refine Sl.nil ?_
    refine At.go ?_
    refine Sc.seq ?_
    refine Sc.block ?_
    refine Sc.loop (β := Nat × (List UInt8 × Option Addr × Nat) × (List UInt8 × Option Addr × Nat)) (fun ⟨a, ⟨run, ro, rc⟩, ⟨out, o1, c1⟩⟩ => [(0, .slice ao b.length cap), (4, .slice o1 out.length c1), (5, .slice ro run.length rc), (6, .int .i64 a)]) (fun ⟨a, ⟨run, ro, rc⟩, ⟨out, o1, c1⟩⟩ w => a ≤ b.length ∧ pk b a run out = pkS b ∧ Own b8 5 w.heap ro rc run ∧ Own b8 5 w.heap o1 c1 out ∧ (∀ k, blk ro k → ¬ blk o1 k) ∧ Fr W.heap.size ro ∧ Fr W.heap.size o1 ∧ out.length + 3 * run.length ≤ 3 * a ∧ Foot nob W w) (fun ⟨a, ⟨run, ro, rc⟩, ⟨out, o1, c1⟩⟩ => b.length - a) ⟨0, ⟨[], some ⟨w0.heap.size, 0, none⟩, 0⟩, ⟨[], some ⟨W.heap.size, 0, none⟩, 0⟩⟩ ⟨rfl, rfl, rfl, rfl, trivial⟩ ⟨Nat.zero_le _, rfl, hor, ho0.grow hfr, fun k ⟨x, hx, hk⟩ ⟨y, hy, hk2⟩ => by cases hx; cases hy; have h1 : w0.heap.size = k := hk; have h2 : W.heap.size = k := hk2; omega, (fr_at _).mono (by omega), fr_at _, Nat.le_refl _, hf0.trans hfr⟩ ?_
    rintro ⟨a, ⟨run, ro, rc⟩, ⟨out, o1, c1⟩⟩ w1 ⟨ha, hpk, hor1, ho1, hap1, hfrr, hfr1, hol, hF1⟩
    have hv1 := hv.grow hF1
    have hz1 := hF1.size
    refine Sc.seq ?_
    refine Sc.seq ?_
    refine Sc.region ?_
    refine Sl.calm (Cm.move rfl) rfl ?_
    refine Sl.calm (Cm.move rfl) rfl ?_
    refine Sl.calm (Cm.len sl23 rfl) rfl ?_
    refine Sl.fork (Cm.lss rfl rfl) rfl (fun h17 => ?_) (fun h17 => ?_)
    ·
      refine Sl.nil ?_
      refine At.weak [(0, _), (4, _), (5, _), (6, _), (17, _)] ⟨rfl, rfl, rfl, rfl, rfl, trivial⟩ ?_
      refine At.go ?_
      refine Sc.cond_t rfl ?_
      refine Sc.skip ?_
      refine At.go ?_
      refine Sc.block ?_
      refine Sc.seq ?_
      refine Sc.region ?_
      refine Sl.calm (Cm.move rfl) rfl ?_
      refine Sl.calm (Cm.move rfl) rfl ?_
      refine Sl.call fn62 rfl (rmatch_ok ao cap b (a : Int) w1 hv1 (by omega)) rfl ?_
      rintro _ _ ⟨rfl, d1, rfl⟩
      obtain ⟨n, hn⟩ : ∃ n, n = (mt b a).1 := ⟨_, rfl⟩
      obtain ⟨bk, hbk⟩ : ∃ x, x = (mt b a).2 := ⟨_, rfl⟩
      rw [mtZ_nat, ← hn, ← hbk]
      have hv1d : Vw b8 (w1.drewN d1).heap ao cap b := hv1
      have hrd : Own b8 5 (w1.drewN d1).heap ro rc run := hor1
      have hod : Own b8 5 (w1.drewN d1).heap o1 c1 out := ho1
      have hF1d : Foot nob W (w1.drewN d1) := hF1.draws d1
      obtain ⟨w2, hw2⟩ : ∃ w, w = w1.drewN d1 := ⟨_, rfl⟩
      rw [← hw2] at hv1d hrd hod hF1d ⊢
      have hz2 := hF1d.size
      refine Sl.calm (Cm.move rfl) rfl ?_
      refine Sl.calm (Cm.extract rfl rfl) rfl ?_
      refine Sl.calm (Cm.extract rfl rfl) rfl ?_
      refine Sl.calm (Cm.assign rfl) rfl ?_
      refine Sl.calm (Cm.assign rfl) rfl ?_
      refine Sl.nil ?_
      refine At.weak [(0, _), (4, _), (5, _), (6, _), (7, _), (8, _), (17, _)] ⟨rfl, rfl, rfl, rfl, rfl, rfl, rfl, trivial⟩ ?_
      refine At.go ?_
      refine Sc.seq ?_
      refine Sc.seq ?_
      refine Sc.region ?_
      refine Sl.calm (Cm.move rfl) rfl ?_
      refine Sl.fork (Cm.eql rfl rfl) rfl (fun h25 => ?_) (fun h25 => ?_)
      ·
        have hn0 : (mt b a).1 = 0 := by omega
        refine Sl.nil ?_
        refine At.weak [(0, _), (4, _), (5, _), (6, _), (7, _), (8, _), (17, _), (25, _)] ⟨rfl, rfl, rfl, rfl, rfl, rfl, rfl, rfl, trivial⟩ ?_
        refine At.go ?_
        refine Sc.cond_t rfl ?_
        refine Sc.seq ?_
        refine Sc.region ?_
        refine Sl.calm (Cm.move rfl) rfl ?_
        refine Sl.calm (Cm.move rfl) rfl ?_
        refine Sl.calm (Cm.move rfl) rfl ?_
        refine Sl.calm (Cm.indexAddr1 sl23 rfl rfl hv1d.non (by omega)) rfl ?_
        refine Sl.calm (Cm.ld sca5 rfl (hv1d.gz 0 a rfl (by omega))) rfl ?_
        refine Sl.lit1 (enc := b8) (u := b.getD a 0) sl23 rfl rfl rfl ?_
        intro w3 hol hsl hfl
        refine Sl.append b8_one sl23 rfl rfl (hrd.grow hfl) hol.vw (by simp only [List.length_singleton]; omega) (by simp only [List.length_singleton]; unfold maxLen; omega) rfl ?_
        intro r4 rc4 w4 hor4 hf4 hr4 hn4
        have hzl := hfl.size
        have hap1d := hap1
        refine Sl.calm (Cm.assign rfl) rfl ?_
        refine Sl.nil ?_
        refine At.weak [(0, _), (4, _), (5, _), (6, _), (7, _), (8, _), (17, _), (25, _)] ⟨rfl, rfl, rfl, rfl, rfl, rfl, rfl, rfl, trivial⟩ ?_
        refine At.go ?_
        refine Sc.seq ?_
        refine Sc.region ?_
        refine Sl.calm (Cm.move rfl) rfl ?_
        refine Sl.calm (Cm.add64 rfl rfl (by omega)) rfl ?_
        refine Sl.calm (Cm.assign rfl) rfl ?_
        refine Sl.nil ?_
        refine At.weak [(0, _), (4, _), (5, _), (6, _), (7, _), (8, _), (17, _), (25, _)] ⟨rfl, rfl, rfl, rfl, rfl, rfl, rfl, rfl, trivial⟩ ?_
        refine At.go ?_
        refine Sc.exit ?_
        refine At.then_exit ?_
        refine At.block_hit ?_
        refine At.again ⟨a + 1, ⟨run ++ [b.getD a 0], r4, rc4⟩, ⟨out, o1, c1⟩⟩ ⟨rfl, rfl, rfl, rfl, trivial⟩ ⟨by omega, by rw [← hpk, pk_one (by omega) hn0], hor4, (hod.grow hfl).keep hf4 (fun x hx h => hap1 _ h ⟨x, hx, rfl⟩), fun k ⟨x, hx, hk⟩ hk2 => ?_, fr_next hfrr hr4 (by omega), hfr1, by rw [List.length_append, List.length_singleton]; omega, (hF1d.trans hfl).trans_to hf4 hfrr.step⟩ (by show b.length - (a + 1) < b.length - a; omega)
        rcases hr4 x hx with h | h
        · exact hap1 k ⟨x, h, hk⟩ hk2
        · obtain ⟨y, hy, hk3⟩ := hk2; have := hod.lt y hy; omega
      ·
        have hn1 : (mt b a).1 ≠ 0 := by omega
        obtain ⟨m1, m2, m3, m4, m5, m6, m7, m8, m9⟩ := mt_spec hn1
        rw [← hn] at m2 m3 m4 m8 m9
        rw [← hbk] at m5 m6 m7 m8 m9
        refine Sl.nil ?_
        refine At.weak [(0, _), (4, _), (5, _), (6, _), (7, _), (8, _), (17, _), (25, _)] ⟨rfl, rfl, rfl, rfl, rfl, rfl, rfl, rfl, trivial⟩ ?_
        refine At.go ?_
        refine Sc.cond_f rfl ?_
        refine Sc.skip ?_
        refine At.go ?_
        refine Sc.seq ?_
        refine Sc.region ?_
        refine Sl.calm (Cm.move rfl) rfl ?_
        refine Sl.calm (Cm.move rfl) rfl ?_
        refine Sl.call fn63 rfl (rruns_ok o1 c1 out ro rc run w2 hod hrd.vw (fun _ k hk hk2 => hap1 k hk2 hk) (by omega)) rfl ?_
        rintro _ w3 ⟨o3, c3, rfl, ho3, hf3, hr3⟩
        have hz3 := hf3.size
        have hrl := rn_len _ run out rfl
        have hfr3 : Fr W.heap.size o3 := fr_next hfr1 hr3 hz2
        have hF3 : Foot nob W w3 := hF1d.trans_to hf3 hfr1.step
        refine Sl.calm (Cm.assign rfl) rfl ?_
        refine Sl.nil ?_
        refine At.weak [(0, _), (4, _), (5, _), (6, _), (7, _), (8, _), (17, _), (25, _)] ⟨rfl, rfl, rfl, rfl, rfl, rfl, rfl, rfl, trivial⟩ ?_
        refine At.go ?_
        refine Sc.seq ?_
        refine Sc.region ?_
        refine Sl.lit0 b8 sl23 rfl ?_
        intro w4 hor4 hs4 hf4
        have hz4 := hf4.size
        refine Sl.calm (Cm.assign rfl) rfl ?_
        refine Sl.nil ?_
        refine At.weak [(0, _), (4, _), (5, _), (6, _), (7, _), (8, _), (17, _), (25, _)] ⟨rfl, rfl, rfl, rfl, rfl, rfl, rfl, rfl, trivial⟩ ?_
        refine At.go ?_
        refine Sc.seq ?_
        refine Sc.region ?_
        refine Sl.calm (Cm.move rfl) rfl ?_
        refine Sl.calm (Cm.move rfl) rfl ?_
        refine Sl.calm (Cm.add64 rfl rfl (by omega)) rfl ?_
        refine Sl.calm (Cm.convI_in (n := ((UInt8.ofNat (n + 125)).toNat : Int)) is3 ty5 rfl (out_wrap (by omega))) rfl ?_
        refine Sl.calm (Cm.move rfl) rfl ?_
        refine Sl.calm (Cm.sub64 rfl rfl (by omega)) rfl ?_
        refine Sl.calm (Cm.convI_in (n := ((UInt8.ofNat (bk - 1)).toNat : Int)) is3 ty5 rfl (out_wrap (by omega))) rfl ?_
        refine Sl.lit2 (enc := b8) (u := UInt8.ofNat (n + 125)) (u' := UInt8.ofNat (bk - 1)) sl23 b8_one rfl rfl rfl ?_
        intro w5 ho5 hs5 hf5
        have hz5 := hf5.size
        refine Sl.append b8_one sl23 rfl rfl ((ho3.grow hf4).grow hf5) ho5.vw (by simp only [List.length_cons, List.length_nil]; omega) (by simp only [List.length_cons, List.length_nil]; unfold maxLen; omega) rfl ?_
        intro o6 c6 w6 ho6 hf6 hr6 hn6
        have hfr6 : Fr W.heap.size o6 := fr_next hfr3 hr6 (by omega)
        have hF6 : Foot nob W w6 := ((hF3.trans hf4).trans hf5).trans_to hf6 hfr3.step
        have hb6 : ∀ k, blk (some (⟨w3.heap.size, 0, none⟩ : Addr)) k → ¬ blk o6 k := fun k ⟨x, hx, hk⟩ ⟨y, hy, hk2⟩ => by cases hx; have h1 : w3.heap.size = k := hk; rcases hr6 y hy with h | h; have := ho3.lt y h; omega; omega
        have hor6 := (hor4.grow hf5).keep hf6 (fun x hx h => by cases hx; obtain ⟨y, hy, hk2⟩ := h; have := ho3.lt y hy; have h1 : y.block = w3.heap.size := hk2; omega)
        refine Sl.calm (Cm.assign rfl) rfl ?_
        refine Sl.nil ?_
        refine At.weak [(0, _), (4, _), (5, _), (6, _), (7, _), (8, _), (17, _), (25, _)] ⟨rfl, rfl, rfl, rfl, rfl, rfl, rfl, rfl, trivial⟩ ?_
        refine At.go ?_
        refine Sc.region ?_
        refine Sl.calm (Cm.move rfl) rfl ?_
        refine Sl.calm (Cm.move rfl) rfl ?_
        refine Sl.calm (Cm.add64 rfl rfl (by omega)) rfl ?_
        refine Sl.calm (Cm.assign rfl) rfl ?_
        refine Sl.nil ?_
        refine At.block_normal ?_
        exact At.again ⟨a + n, ⟨[], some ⟨w3.heap.size, 0, none⟩, 0⟩, ⟨rn out run ++ [UInt8.ofNat (n + 125), UInt8.ofNat (bk - 1)], o6, c6⟩⟩ ⟨rfl, rfl, rfl, rfl, trivial⟩ ⟨by omega, by rw [← hpk, pk_copy hn1, ← hn, ← hbk], hor6, ho6, hb6, (fr_at _).mono (by omega), hfr6, by rw [List.length_append, hrl]; simp only [List.length_cons, List.length_nil]; omega, hF6⟩ (by show b.length - (a + n) < b.length - a; omega)
    ·
      refine Sl.nil ?_
      refine At.weak [(0, _), (4, _), (5, _), (6, _), (17, _)] ⟨rfl, rfl, rfl, rfl, rfl, trivial⟩ ?_
      refine At.go ?_
      refine Sc.cond_f rfl ?_
      refine Sc.exit ?_
      refine At.then_exit ?_
      refine At.then_exit ?_
      refine At.block_hit ?_
      refine At.go ?_
      refine Sc.seq ?_
      refine Sc.region ?_
      refine Sl.calm (Cm.move rfl) rfl ?_
      refine Sl.calm (Cm.move rfl) rfl ?_
      have haf : a = b.length := by omega
      rw [haf, pk_end (Nat.lt_irrefl _)] at hpk
      refine Sl.call fn63 rfl (rruns_ok o1 c1 out ro rc run w1 ho1 hor1.vw (fun _ k hk hk2 => hap1 k hk2 hk) (by omega)) rfl ?_
      rintro _ w3 ⟨o3, c3, rfl, ho3, hf3, hr3⟩
      refine Sl.calm (Cm.assign rfl) rfl ?_
      refine Sl.calm (Cm.assign rfl) rfl ?_
      refine Sl.nil ?_
      refine At.weak [(0, _), (2, _), (3, _), (4, _), (5, _), (6, _), (17, _)] ⟨rfl, rfl, rfl, rfl, rfl, rfl, rfl, trivial⟩ ?_
      refine At.go ?_
      refine Sc.ret ?_
      refine At.ret2 rfl rfl rfl ?_
      first
        | (rw [e]; exact ⟨_, rfl, none, 0, rfl, Own.nil, Fr.none, Foot.refl _ _⟩)
        | (rw [e, ← hpk]; exact ⟨_, rfl, o3, c3, rfl, ho3, fr_next hfr1 hr3 hz1, hF1.trans_to hf3 hfr1.step⟩)

def exB : List UInt8 := [97, 98, 99, 97, 98, 99, 97, 98, 99, 100]
def exP : List UInt8 := [2, 97, 98, 99, 131, 2, 0, 100]
theorem rn_short {out l : List UInt8} (h0 : 0 < l.length) (h : l.length ≤ 128) : rn out l = out ++ UInt8.ofNat (l.length - 1) :: l := by
  rw [rn_step h0, show min l.length 128 = l.length by omega, List.take_of_length_le (Nat.le_refl _), List.drop_of_length_le (Nat.le_refl _), rn_nil]
theorem ex_pack : pkS exB = exP := by
  have m3 : mt exB 3 = (6, 3) := by decide +kernel
  unfold pkS
  rw [pk_one (by decide) (by decide +kernel), pk_one (by decide) (by decide +kernel), pk_one (by decide) (by decide +kernel), pk_copy (by rw [show 0 + 1 + 1 + 1 = 3 from rfl, m3]; decide),
    show 0 + 1 + 1 + 1 = 3 from rfl, m3, pk_one (by decide) (by decide +kernel), pk_end (by decide), rn_short (by decide) (by decide), rn_short (by decide) (by decide)]
  rfl
theorem ex_pkR : pkR exB = (exP, 0) := by unfold pkR; rw [if_neg (by decide), ex_pack]
theorem ex_up : upS exP 10 = (exB, 0) := by have := unpack_pack exB; rwa [ex_pack] at this
theorem ex_less : upS exP 9 = ([], 3) := by have := unpack_less exB; rwa [ex_pack] at this
theorem ex_none : upS [128, 0] 9 = ([], 2) := by
  unfold upS
  rw [if_neg (by decide), up_copy (by decide), if_pos (by decide)]

end Go.Proofs.YtpnfjfbfgaiolaaDoor
