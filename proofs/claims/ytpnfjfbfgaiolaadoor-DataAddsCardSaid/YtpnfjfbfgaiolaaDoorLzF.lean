/- lz: Pack: the program's and the reference's. No condition beyond the bounds that each states. -/
import Derived.Test.YtpnfjfbfgaiolaaDoorLzE
namespace Go.Proofs.YtpnfjfbfgaiolaaDoor
open Go Go.RowKit
set_option linter.unusedVariables false

theorem ChM.mono {D D' : Nat → Prop} {H : Array Obj} {g : Nat} {b : List UInt8} {lo hi : Nat} (h : ChM D H g b lo hi) (hd : ∀ k, D k → D' k) : ChM D' H g b lo hi := by
  obtain ⟨m, A, C, h1, h2, h3, h4, h5, h6⟩ := h
  exact ⟨m, A, C, h1, hd _ h2, h3, h4, fun a k hk => ⟨hd _ (h5 a k hk).1, (h5 a k hk).2⟩, h6⟩
theorem ChM.low {D : Nat → Prop} {H : Array Obj} {g : Nat} {b : List UInt8} {lo hi : Nat} (h : ChM D H g b lo hi) : ChM (fun k => D k ∧ k < H.size) H g b lo hi := by
  obtain ⟨m, A, C, h1, h2, h3, h4, h5, h6⟩ := h
  exact ⟨m, A, C, h1, ⟨h2, h1.obj⟩, h3, h4, fun a k hk => ⟨⟨(h5 a k hk).1, by obtain ⟨x, hx, e⟩ := hk; rw [← e]; exact (h4 a).lt x hx⟩, (h5 a k hk).2⟩, h6⟩
def pkR (b : List UInt8) : List UInt8 × Int := if 4096 < b.length then ([], 3) else (pkS b, 0)
theorem pkR_fit {b : List UInt8} (h : b.length ≤ 4096) : pkR b = (pkS b, 0) := by unfold pkR; rw [if_neg (by omega)]
theorem mtZ_nat (b : List UInt8) (a : Nat) : mtZ b (a : Int) = mt b a := by unfold mtZ; rw [if_neg (by omega)]; rfl
theorem part_snoc {b : List UInt8} {a f : Nat} (hf : f ≤ a) (h : a < b.length) : (b.take a).drop f ++ [b.getD a 0] = (b.take (a + 1)).drop f := by
  rw [List.take_succ_eq_append_getElem h, List.drop_append_of_le_length (by rw [List.length_take]; omega), List.getD, List.getElem?_eq_getElem h]; rfl
theorem part_len {b : List UInt8} {a f : Nat} (h : a ≤ b.length) : ((b.take a).drop f).length = a - f := by rw [List.length_drop, List.length_take]; omega
theorem part_vw {H : Array Obj} {ao : Option Addr} {cap : Nat} {b : List UInt8} (hv : Vw b8 H ao cap b) {a f : Nat} (hf : f ≤ a) (ha : a ≤ b.length) : Vw b8 H (cutAo ao cap f 1) (cap - f) ((b.take a).drop f) := by
  have h := hv.cut (l := f) (h := a) (m := cap) hf ha (by have := hv.le; omega) (Nat.le_refl _)
  rwa [List.drop_take]
theorem out_wrap {x : Int} {n : Nat} (h : x = n) : IntKind.u8.wrap x = ((UInt8.ofNat n).toNat : Int) := by rw [wrap_byteN (by omega), h]; rfl

set_option maxHeartbeats 2000000 in
theorem pack_ok (ao : Option Addr) (cap : Nat) (b : List UInt8) (W : World) (hv : Vw b8 W.heap ao cap b) :
    Calls Tryd.prog 41 [.slice ao b.length cap].toArray W (Ret (PutP W (pkR b))) := by
  have hle := hv.le
  refine calls_of_sc 65 [(0, _)] Tryd.func41 rfl rfl rfl (enter_slots ⟨rfl, trivial⟩) ?_
  refine Sc.seq ?_
  refine Sc.region ?_
  refine Sl.calm (Cm.assign rfl) rfl ?_
  refine Sl.calm (Cm.assign rfl) rfl ?_
  refine Sl.nil ?_
  refine At.go ?_
  refine Sc.seq ?_
  refine Sc.seq ?_
  refine Sc.region ?_
  refine Sl.calm (Cm.move rfl) rfl ?_
  refine Sl.calm (Cm.len sl23 rfl) rfl ?_
  refine Sl.fork (Cm.gtr rfl rfl) rfl (fun h12 => ?_) (fun h12 => ?_)
  ·
    have e : pkR b = ([], 3) := by unfold pkR; rw [if_pos (by omega)]
    refine Sl.nil ?_
    refine At.weak [(0, _), (2, _), (3, _), (12, _)] ⟨rfl, rfl, rfl, rfl, trivial⟩ ?_
    refine At.go ?_
    refine Sc.cond_t rfl ?_
    refine Sc.seq ?_
    refine Sc.region ?_
    refine Sl.calm (Cm.assign rfl) rfl ?_
    refine Sl.calm (Cm.assign rfl) rfl ?_
    refine Sl.nil ?_
    refine At.go ?_
    refine Sc.ret ?_
    refine At.then_ret ?_
    refine At.ret2 rfl rfl rfl ?_
    first
      | (rw [e]; exact ⟨_, rfl, none, 0, rfl, Own.nil, Fr.none, Foot.refl _ _⟩)
      | (rw [e, ← hpk]; exact ⟨_, rfl, o3, c3, rfl, ho3, fr_next hfr1 hr3 hz1, hF1.trans_to hf3 hfr1.step⟩)
  ·
    have e : pkR b = (pkS b, 0) := by unfold pkR; rw [if_neg (by omega)]
    refine Sl.nil ?_
    refine At.weak [(0, _), (2, _), (3, _), (12, _)] ⟨rfl, rfl, rfl, rfl, trivial⟩ ?_
    refine At.go ?_
    refine Sc.cond_f rfl ?_
    refine Sc.skip ?_
    refine At.go ?_
    refine Sc.seq ?_
    refine Sc.region ?_
    refine Sl.makeMap (enc := enc3) rfl ?_
    intro w0 hm0 hs0 hf0
    refine Sl.calm (Cm.assign rfl) rfl ?_
    refine Sl.nil ?_
    refine At.weak [(0, _), (2, _), (3, _), (4, _), (12, _)] ⟨rfl, rfl, rfl, rfl, rfl, trivial⟩ ?_
    refine At.go ?_
    refine Sc.seq ?_
    refine Sc.region ?_
    refine Sl.calm (Cm.assign rfl) rfl ?_
    refine Sl.nil ?_
    refine At.go ?_
    refine Sc.seq ?_
    refine Sc.region ?_
    refine Sl.calm (Cm.assign rfl) rfl ?_
    refine Sl.nil ?_
    refine At.go ?_
    refine Sc.seq ?_
    refine Sc.seq ?_
    refine Sc.region ?_
    refine Sl.calm (Cm.assign rfl) rfl ?_
    refine Sl.nil ?_
    refine At.go ?_
    refine Sc.block ?_
    refine Sc.loop (β := Nat × Nat × List UInt8 × Option Addr × Nat) (fun ⟨a, f, out, o1, c1⟩ => [(0, .slice ao b.length cap), (4, .map (some W.heap.size)), (5, .slice o1 out.length c1), (6, .int .i64 f), (7, .int .i64 a)]) (fun ⟨a, f, out, o1, c1⟩ w => f ≤ a ∧ a ≤ b.length ∧ pk b a ((b.take a).drop f) out = pkS b ∧ ChM (fun k => W.heap.size ≤ k ∧ ¬ blk o1 k) w.heap W.heap.size b 0 a ∧ Own b8 5 w.heap o1 c1 out ∧ Fr W.heap.size o1 ∧ out.length ≤ 3 * f ∧ Foot nob W w) (fun ⟨a, f, out, o1, c1⟩ => b.length - a) ⟨0, 0, [], none, 0⟩ ⟨rfl, rfl, rfl, rfl, rfl, trivial⟩ ⟨Nat.le_refl _, Nat.zero_le _, rfl, ChM.new hm0 ⟨Nat.le_refl _, fun ⟨x, hx, _⟩ => by cases hx⟩ b 0, Own.nil, Fr.none, Nat.le_refl _, hf0⟩ ?_
    rintro ⟨a, f, out, o1, c1⟩ w1 ⟨hf, ha, hpk, hc1, ho1, hfr1, hol, hF1⟩
    have hv1 := hv.grow hF1
    have hz1 := hF1.size
    refine Sc.seq ?_
    refine Sc.seq ?_
    refine Sc.region ?_
    refine Sl.calm (Cm.move rfl) rfl ?_
    refine Sl.calm (Cm.move rfl) rfl ?_
    refine Sl.calm (Cm.len sl23 rfl) rfl ?_
    refine Sl.fork (Cm.lss rfl rfl) rfl (fun h17 => ?_) (fun h17 => ?_)
    ·
      have hltA := vw_lt hv (show 0 < b.length by omega)
      refine Sl.nil ?_
      refine At.weak [(0, _), (4, _), (5, _), (6, _), (7, _), (17, _)] ⟨rfl, rfl, rfl, rfl, rfl, rfl, trivial⟩ ?_
      refine At.go ?_
      refine Sc.cond_t rfl ?_
      refine Sc.skip ?_
      refine At.go ?_
      refine Sc.block ?_
      refine Sc.seq ?_
      refine Sc.region ?_
      refine Sl.calm (Cm.move rfl) rfl ?_
      refine Sl.calm (Cm.move rfl) rfl ?_
      refine Sl.calm (Cm.move rfl) rfl ?_
      refine Sl.call fn59 rfl (match_ok _ W.heap.size ao cap b 0 a w1 hv1 hc1 (Nat.zero_le _) ha (by omega)) rfl ?_
      rintro _ _ ⟨rfl, d1, rfl⟩
      obtain ⟨n, hn⟩ : ∃ n, n = (mt b a).1 := ⟨_, rfl⟩
      obtain ⟨bk, hbk⟩ : ∃ x, x = (mt b a).2 := ⟨_, rfl⟩
      rw [← hn, ← hbk]
      refine Sl.calm (Cm.move rfl) rfl ?_
      refine Sl.calm (Cm.extract rfl rfl) rfl ?_
      refine Sl.calm (Cm.extract rfl rfl) rfl ?_
      refine Sl.calm (Cm.assign rfl) rfl ?_
      refine Sl.calm (Cm.assign rfl) rfl ?_
      refine Sl.nil ?_
      refine At.weak [(0, _), (4, _), (5, _), (6, _), (7, _), (8, _), (9, _), (17, _)] ⟨rfl, rfl, rfl, rfl, rfl, rfl, rfl, rfl, trivial⟩ ?_
      refine At.go ?_
      refine Sc.seq ?_
      refine Sc.seq ?_
      refine Sc.region ?_
      refine Sl.calm (Cm.move rfl) rfl ?_
      refine Sl.fork (Cm.eql rfl rfl) rfl (fun h26 => ?_) (fun h26 => ?_)
      ·
        have hn0 : (mt b a).1 = 0 := by omega
        refine Sl.nil ?_
        refine At.weak [(0, _), (4, _), (5, _), (6, _), (7, _), (8, _), (9, _), (17, _), (26, _)] ⟨rfl, rfl, rfl, rfl, rfl, rfl, rfl, rfl, rfl, trivial⟩ ?_
        refine At.go ?_
        refine Sc.cond_t rfl ?_
        refine Sc.seq ?_
        refine Sc.region ?_
        refine Sl.calm (Cm.move rfl) rfl ?_
        refine Sl.calm (Cm.move rfl) rfl ?_
        refine Sl.calm (Cm.move rfl) rfl ?_
        refine Sl.calm (Cm.move rfl) rfl ?_
        refine Sl.calm (Cm.add64 rfl rfl (by omega)) rfl ?_
        rw [show ((a : Int) + 1) = ((a + 1 : Nat) : Int) by omega]
        refine Sl.call fn60 rfl (note_ok _ W.heap.size ao cap b 0 a (a + 1) _ hv1 (fun k hk h => by have := hltA k hk; have := h.1; omega) hc1 (fun k hk => ⟨Nat.le_trans hz1 hk, fun ⟨x, hx, e⟩ => by have := ho1.lt x hx; have h : w1.heap.size ≤ k := hk; omega⟩) (Nat.zero_le _) (by omega) (by omega) (by omega)) rfl ?_
        rintro _ w2 ⟨hc2, hf2⟩
        have hf2 := hf2.undraw
        refine Sl.nil ?_
        refine At.weak [(0, _), (4, _), (5, _), (6, _), (7, _), (8, _), (9, _), (17, _), (26, _)] ⟨rfl, rfl, rfl, rfl, rfl, rfl, rfl, rfl, rfl, trivial⟩ ?_
        refine At.go ?_
        refine Sc.seq ?_
        refine Sc.region ?_
        refine Sl.calm (Cm.move rfl) rfl ?_
        refine Sl.calm (Cm.add64 rfl rfl (by omega)) rfl ?_
        refine Sl.calm (Cm.assign rfl) rfl ?_
        refine Sl.nil ?_
        refine At.weak [(0, _), (4, _), (5, _), (6, _), (7, _), (8, _), (9, _), (17, _), (26, _)] ⟨rfl, rfl, rfl, rfl, rfl, rfl, rfl, rfl, rfl, trivial⟩ ?_
        refine At.go ?_
        refine Sc.exit ?_
        refine At.then_exit ?_
        refine At.block_hit ?_
        have hF2 : Foot nob W w2 := hF1.trans_to hf2 (fun k h => .inr h.1)
        exact At.again ⟨a + 1, f, out, o1, c1⟩ ⟨rfl, rfl, rfl, rfl, rfl, trivial⟩ ⟨by omega, by omega, by rw [← hpk, pk_one (by omega) hn0, part_snoc hf (by omega)], hc2, ho1.keep hf2 (fun x hx h => h.2 ⟨x, hx, rfl⟩), hfr1, hol, hF2⟩ (by show b.length - (a + 1) < b.length - a; omega)
      ·
        have hn1 : (mt b a).1 ≠ 0 := by omega
        obtain ⟨m1, m2, m3, m4, m5, m6, m7, m8, m9⟩ := mt_spec hn1
        rw [← hn] at m2 m3 m4 m8 m9
        rw [← hbk] at m5 m6 m7 m8 m9
        have hpl := part_len (b := b) (a := a) (f := f) ha
        refine Sl.nil ?_
        refine At.weak [(0, _), (4, _), (5, _), (6, _), (7, _), (8, _), (9, _), (17, _), (26, _)] ⟨rfl, rfl, rfl, rfl, rfl, rfl, rfl, rfl, rfl, trivial⟩ ?_
        refine At.go ?_
        refine Sc.cond_f rfl ?_
        refine Sc.skip ?_
        refine At.go ?_
        refine Sc.seq ?_
        refine Sc.region ?_
        refine Sl.calm (Cm.move rfl) rfl ?_
        refine Sl.calm (Cm.move rfl) rfl ?_
        refine Sl.calm (Cm.move rfl) rfl ?_
        refine Sl.calm (Cm.move rfl) rfl ?_
        refine Sl.calm (Cm.ofEq (u := .slice (cutAo ao cap f 1) ((b.take a).drop f).length (cap - f)) (Cm.sliceLH sl23 rfl rfl rfl (by omega) (by omega)) (by rw [hpl]; rfl)) rfl ?_
        refine Sl.call fn61 rfl (runs_ok o1 c1 out (cutAo ao cap f 1) (cap - f) ((b.take a).drop f) _ ho1 (part_vw hv1 hf ha) (fun _ k hk hk2 => by have := hltA k (blk_cut hk2); obtain ⟨x, hx, e⟩ := hk; have := hfr1 x hx; omega) (by rw [hpl]; omega)) rfl ?_
        rintro _ w3 ⟨o3, c3, rfl, ho3, hf3, hr3⟩
        have hf3 := hf3.undraw
        have hz3 := hf3.size
        have hrl := rn_len _ ((b.take a).drop f) out rfl
        rw [hpl] at hrl
        have hfr3 : Fr W.heap.size o3 := fr_next hfr1 hr3 hz1
        refine Sl.calm (Cm.move rfl) rfl ?_
        refine Sl.calm (Cm.add64 rfl rfl (by omega)) rfl ?_
        refine Sl.calm (Cm.convI_in (n := ((UInt8.ofNat (n + 125)).toNat : Int)) is3 ty5 rfl (out_wrap (by omega))) rfl ?_
        refine Sl.calm (Cm.move rfl) rfl ?_
        refine Sl.calm (Cm.sub64 rfl rfl (by omega)) rfl ?_
        refine Sl.calm (Cm.convI_in (n := ((UInt8.ofNat (bk - 1)).toNat : Int)) is3 ty5 rfl (out_wrap (by omega))) rfl ?_
        refine Sl.lit2 (enc := b8) (u := UInt8.ofNat (n + 125)) (u' := UInt8.ofNat (bk - 1)) sl23 b8_one rfl rfl rfl ?_
        intro w4 ho4 hs4 hf4
        have hz4 := hf4.size
        refine Sl.append b8_one sl23 rfl rfl (ho3.grow hf4) ho4.vw (by simp only [List.length_cons, List.length_nil]; omega) (by simp only [List.length_cons, List.length_nil]; unfold maxLen; omega) rfl ?_
        intro o5 c5 w5 ho5 hf5 hr5 hn5
        have hz5 := hf5.size
        have hfr5 : Fr W.heap.size o5 := fr_next hfr3 hr5 (by omega)
        have hto3 : ∀ k, blk o3 k → blk o1 k ∨ w1.heap.size ≤ k := fun k ⟨x, hx, hk⟩ => by rcases hr3 x hx with h | h; exact .inl ⟨x, h, hk⟩; exact .inr (by have h : w1.heap.size ≤ x.block := h; omega)
        have hto5 : ∀ k, blk o5 k → blk o1 k ∨ w1.heap.size ≤ k := fun k ⟨x, hx, hk⟩ => by rcases hr5 x hx with h | h; exact hto3 k ⟨x, h, hk⟩; exact .inr (by omega)
        have hF15 : Foot (blk o1) w1 w5 := (hf3.trans hf4.any).trans_to hf5 hto3
        have hF5 : Foot nob W w5 := hF1.trans_to hF15 hfr1.step
        have hc5 : ChM (fun k => W.heap.size ≤ k ∧ ¬ blk o5 k) w5.heap W.heap.size b 0 a := (hc1.low.keep hF15 (fun k hk => hk.1.2)).mono (fun k hk => ⟨hk.1.1, fun h => by rcases hto5 k h with h2 | h2; exact hk.1.2 h2; have := hk.2; omega⟩)
        refine Sl.calm (Cm.assign rfl) rfl ?_
        refine Sl.nil ?_
        refine At.weak [(0, _), (4, _), (5, _), (6, _), (7, _), (8, _), (9, _), (17, _), (26, _)] ⟨rfl, rfl, rfl, rfl, rfl, rfl, rfl, rfl, rfl, trivial⟩ ?_
        refine At.go ?_
        refine Sc.seq ?_
        refine Sc.region ?_
        refine Sl.calm (Cm.move rfl) rfl ?_
        refine Sl.calm (Cm.move rfl) rfl ?_
        refine Sl.calm (Cm.move rfl) rfl ?_
        refine Sl.calm (Cm.move rfl) rfl ?_
        refine Sl.calm (Cm.move rfl) rfl ?_
        refine Sl.calm (Cm.add64 rfl rfl (by omega)) rfl ?_
        rw [show ((a : Int) + n) = ((a + n : Nat) : Int) by omega]
        refine Sl.call fn60 rfl (note_ok _ W.heap.size ao cap b 0 a (a + n) w5 (hv.grow hF5) (fun k hk h => by have := hltA k hk; have := h.1; omega) hc5 (fun k hk => ⟨Nat.le_trans hF5.size hk, fun ⟨x, hx, e⟩ => by have := ho5.lt x hx; omega⟩) (Nat.zero_le _) (by omega) (by omega) (by omega)) rfl ?_
        rintro _ w6 ⟨hc6, hf6⟩
        refine Sl.nil ?_
        refine At.weak [(0, _), (4, _), (5, _), (6, _), (7, _), (8, _), (9, _), (17, _), (26, _)] ⟨rfl, rfl, rfl, rfl, rfl, rfl, rfl, rfl, rfl, trivial⟩ ?_
        refine At.go ?_
        refine Sc.seq ?_
        refine Sc.region ?_
        refine Sl.calm (Cm.move rfl) rfl ?_
        refine Sl.calm (Cm.move rfl) rfl ?_
        refine Sl.calm (Cm.add64 rfl rfl (by omega)) rfl ?_
        refine Sl.calm (Cm.assign rfl) rfl ?_
        refine Sl.nil ?_
        refine At.weak [(0, _), (4, _), (5, _), (6, _), (7, _), (8, _), (9, _), (17, _), (26, _)] ⟨rfl, rfl, rfl, rfl, rfl, rfl, rfl, rfl, rfl, trivial⟩ ?_
        refine At.go ?_
        refine Sc.region ?_
        refine Sl.calm (Cm.move rfl) rfl ?_
        refine Sl.calm (Cm.assign rfl) rfl ?_
        refine Sl.nil ?_
        refine At.block_normal ?_
        have hF6 : Foot nob W w6 := hF5.trans_to hf6 (fun k h => .inr h.1)
        refine At.again ⟨a + n, a + n, rn out ((b.take a).drop f) ++ [UInt8.ofNat (n + 125), UInt8.ofNat (bk - 1)], o5, c5⟩ ⟨rfl, rfl, rfl, rfl, rfl, trivial⟩ ⟨Nat.le_refl _, by omega, ?_, hc6, ho5.keep hf6 (fun x hx h => h.2 ⟨x, hx, rfl⟩), hfr5, by rw [List.length_append, hrl]; simp only [List.length_cons, List.length_nil]; omega, hF6⟩ (by show b.length - (a + n) < b.length - a; omega)
        rw [← hpk, pk_copy hn1, ← hn, ← hbk, List.drop_of_length_le (by rw [List.length_take]; omega)]
    ·
      refine Sl.nil ?_
      refine At.weak [(0, _), (4, _), (5, _), (6, _), (7, _), (17, _)] ⟨rfl, rfl, rfl, rfl, rfl, rfl, trivial⟩ ?_
      refine At.go ?_
      refine Sc.cond_f rfl ?_
      refine Sc.exit ?_
      refine At.then_exit ?_
      refine At.then_exit ?_
      refine At.block_hit ?_
      refine At.go ?_
      refine Sc.seq ?_
      refine Sc.region ?_
      refine Sl.calm (Cm.move rfl) rfl ?_
      refine Sl.calm (Cm.move rfl) rfl ?_
      refine Sl.calm (Cm.move rfl) rfl ?_
      have haf : a = b.length := by omega
      rw [haf, List.take_length, pk_end (Nat.lt_irrefl _)] at hpk
      refine Sl.calm (Cm.ofEq (u := .slice (cutAo ao cap f 1) (b.drop f).length (cap - f)) (Cm.sliceL sl23 rfl rfl (by omega)) (by rw [List.length_drop]; rfl)) rfl ?_
      have hvd := part_vw hv1 (show f ≤ b.length by omega) (Nat.le_refl _)
      rw [List.take_length] at hvd
      refine Sl.call fn61 rfl (runs_ok o1 c1 out (cutAo ao cap f 1) (cap - f) (b.drop f) _ ho1 hvd (fun h k hk hk2 => by have hltA := vw_lt hv (show 0 < b.length by rw [List.length_drop] at h; omega); have := hltA k (blk_cut hk2); obtain ⟨x, hx, e⟩ := hk; have := hfr1 x hx; omega) (by rw [List.length_drop]; omega)) rfl ?_
      rintro _ w3 ⟨o3, c3, rfl, ho3, hf3, hr3⟩
      refine Sl.calm (Cm.assign rfl) rfl ?_
      refine Sl.calm (Cm.assign rfl) rfl ?_
      refine Sl.nil ?_
      refine At.weak [(0, _), (2, _), (3, _), (4, _), (5, _), (6, _), (7, _), (17, _)] ⟨rfl, rfl, rfl, rfl, rfl, rfl, rfl, rfl, trivial⟩ ?_
      refine At.go ?_
      refine Sc.ret ?_
      refine At.ret2 rfl rfl rfl ?_
      first
        | (rw [e]; exact ⟨_, rfl, none, 0, rfl, Own.nil, Fr.none, Foot.refl _ _⟩)
        | (rw [e, ← hpk]; exact ⟨_, rfl, o3, c3, rfl, ho3, fr_next hfr1 hr3 hz1, hF1.trans_to hf3 hfr1.step⟩)
end Go.Proofs.YtpnfjfbfgaiolaaDoor
