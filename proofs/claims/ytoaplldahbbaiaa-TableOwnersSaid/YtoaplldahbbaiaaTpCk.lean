/- table: PutXattrs, the program's and the reference's; the examples. No condition beyond the bounds that each states. -/
import Derived.Test.YtoaplldahbbaiaaTpBk
namespace Go.Proofs.Ytoaplldahbbaiaa
open Go Go.RowKit
set_option linter.unusedVariables false

def txtS (s : Int × List UInt8) (t : List UInt8) : Int × List UInt8 := (txtE s.1 t, txtX s.1 s.2 t)
def xF (s : Int × List UInt8) (x : Xa) : Int × List UInt8 := txtS (txtS s x.1) x.2
def xSt (X : List Xa) (k : Nat) : Int × List UInt8 := (X.take k).foldl xF (putNum 1 (0, []) X.length)
theorem xSt_succ (X : List Xa) (k : Nat) (h : k < X.length) : xSt X (k + 1) = xF (xSt X k) (X.getD k x0) := by
  unfold xSt
  rw [List.take_succ_eq_append_getElem h, List.foldl_append]; simp [List.getD, h]
theorem txtS_good {s : Int × List UInt8} {t : List UInt8} (h : s.1 = 0) (ht : t.length ≤ 255) : (txtS s t).1 = 0 ∧ (txtS s t).2.length = s.2.length + 1 + t.length := by
  refine ⟨by show txtE s.1 t = 0; rw [txtE_same (.inr (by omega)), h], ?_⟩
  show (txtX s.1 s.2 t).length = _
  unfold txtX; rw [if_neg (by omega)]; simp only [List.length_append, List.length_cons]; omega
theorem xSt_good {X : List Xa} (h : mayX X) : ∀ k, k ≤ X.length → (xSt X k).1 = 0 ∧ (xSt X k).2.length ≤ 1 + 300 * k
  | 0, _ => by
    have hb := small_len (n := X.length) (by have := h.2; omega)
    have h1 : numE 0 X.length 1 = 0 := numE_of_good hb
    refine ⟨h1, ?_⟩
    show (numX 0 [] X.length 1).length ≤ _
    rw [numX_good h1, List.length_append, le_length]; simp
  | k + 1, hk => by
    obtain ⟨h1, h2⟩ := xSt_good h k (by omega)
    obtain ⟨_, g2, _, g4⟩ := h.1 k (by omega)
    rw [xSt_succ X k (by omega)]
    obtain ⟨a1, a2⟩ := txtS_good (s := xSt X k) (t := (X.getD k x0).1) h1 (by omega)
    obtain ⟨b1, b2⟩ := txtS_good (s := txtS (xSt X k) (X.getD k x0).1) (t := (X.getD k x0).2) a1 (by omega)
    exact ⟨b1, by show (txtS (txtS (xSt X k) (X.getD k x0).1) (X.getD k x0).2).2.length ≤ _; omega⟩
/-- the law of both -/
def putXs (X : List Xa) : List UInt8 × Int := if X.length = 0 ∨ ¬ mayX X then ([], 1) else ((xSt X X.length).2, 0)

set_option maxHeartbeats 1000000 in
theorem putX_ok (xo : Option Addr) (xc : Nat) (X : List Xa) (W : World) (hv : XaV W.heap xo xc X) :
    Calls Try.prog 17 [.slice xo X.length xc].toArray W (Ret (PutP W (putXs X))) := by
  have hl := hv.len63
  refine calls_of_sc 35 [(0, _)] Try.func17 rfl rfl rfl (enter_slots ⟨rfl, trivial⟩) ?_
  refine Sc.seq ?_
  refine Sc.region ?_
  refine Sl.calm (Cm.assign rfl) rfl ?_
  refine Sl.calm (Cm.assign rfl) rfl ?_
  refine Sl.nil ?_
  refine At.go ?_
  refine Sc.seq ?_
  refine Sc.seq ?_
  refine Sc.region ?_
  refine Sl.calm (Cm.move rfl) rfl ?_
  refine Sl.calm (Cm.len sl23 rfl) rfl ?_
  refine Sl.fork (Cm.eql rfl rfl) rfl (fun h9 => ?_) (fun h9 => ?_)
  ·
    refine Sl.calm (Cm.move rfl) rfl ?_
    refine Sl.skip rfl rfl rfl rfl ?_
    refine Sl.skip rfl rfl rfl rfl ?_
    refine Sl.skip rfl rfl rfl rfl ?_
    refine Sl.calm (Cm.pick_t rfl rfl) rfl ?_
    refine Sl.nil ?_
    refine At.weak [(0, _), (2, _), (3, _), (14, _)] ⟨rfl, rfl, rfl, rfl, trivial⟩ ?_
    refine At.go ?_
    refine Sc.cond_t rfl ?_
    refine Sc.seq ?_
    refine Sc.region ?_
    refine Sl.calm (Cm.assign rfl) rfl ?_
    refine Sl.calm (Cm.assign rfl) rfl ?_
    refine Sl.nil ?_
    refine At.go ?_
    refine Sc.ret ?_
    refine At.then_ret ?_
    refine At.ret2 rfl rfl rfl ?_
    have e : putXs X = ([], 1) := by unfold putXs; rw [if_pos (.inl (by omega))]
    rw [e]
    exact ⟨_, rfl, none, 0, rfl, Own.nil, Fr.none, Foot.refl _ _⟩
  ·
    refine Sl.calm (Cm.move rfl) rfl ?_
    refine Sl.want rfl rfl (Cm.move rfl) rfl ?_
    refine Sl.callWant rfl rfl fn19 rfl (mayX_ok xo xc X W hv) rfl ?_
    rintro _ w0 ⟨rfl, hF0⟩
    refine Sl.forkWant rfl rfl (Cm.notB rfl) rfl (fun h13 => ?_) (fun h13 => ?_)
    ·
      have hm : ¬ mayX X := of_decide_eq_false h13
      refine Sl.calm (Cm.pick_f rfl rfl) rfl ?_
      refine Sl.nil ?_
      refine At.weak [(0, _), (2, _), (3, _), (14, _)] ⟨rfl, rfl, rfl, rfl, trivial⟩ ?_
      refine At.go ?_
      refine Sc.cond_t rfl ?_
      refine Sc.seq ?_
      refine Sc.region ?_
      refine Sl.calm (Cm.assign rfl) rfl ?_
      refine Sl.calm (Cm.assign rfl) rfl ?_
      refine Sl.nil ?_
      refine At.go ?_
      refine Sc.ret ?_
      refine At.then_ret ?_
      refine At.ret2 rfl rfl rfl ?_
      have e : putXs X = ([], 1) := by unfold putXs; rw [if_pos (.inr hm)]
      rw [e]
      exact ⟨_, rfl, none, 0, rfl, Own.nil, Fr.none, hF0⟩
    ·
      have hm : mayX X := Classical.byContradiction fun h => h13 (decide_eq_false h)
      have hlen := xSt_good hm
      have hm8 := hm.2
      refine Sl.calm (Cm.pick_f rfl rfl) rfl ?_
      refine Sl.nil ?_
      refine At.weak [(0, _), (2, _), (3, _), (14, _)] ⟨rfl, rfl, rfl, rfl, trivial⟩ ?_
      refine At.go ?_
      refine Sc.cond_f rfl ?_
      refine Sc.skip ?_
      refine At.go ?_
      refine Sc.seq ?_
      refine Sc.region ?_
      refine Sl.allocC zc87 rfl ?_
      intro w1 hg1 hs1 hf1
      refine Sl.nil ?_
      refine At.go ?_
      refine Sc.seq ?_
      refine Sc.region ?_
      refine Sl.calm (Cm.move rfl) rfl ?_
      refine Sl.calm (Cm.len sl23 rfl) rfl ?_
      refine Sl.call fn43 rfl (num_ok (fun k => w0.heap.size ≤ k) w0.heap.size 0 [] _ 1 w1 (WrO.zeroL hg1 (Nat.le_refl _)) (hf_lt hf1 (fun k hk => hk)) (by simp)) rfl ?_
      rintro _ w1b ⟨hP1, hF1⟩
      refine Sl.nil ?_
      refine At.weak [(0, _), (2, _), (3, _), (4, _), (14, _)] ⟨rfl, rfl, rfl, rfl, rfl, trivial⟩ ?_
      refine At.go ?_
      refine Sc.seq ?_
      refine Sc.seq ?_
      refine Sc.region ?_
      refine Sl.calm (Cm.move rfl) rfl ?_
      refine Sl.calm (Cm.len sl23 rfl) rfl ?_
      refine Sl.calm (Cm.move rfl) rfl ?_
      refine Sl.nil ?_
      refine At.go ?_
      refine Sc.block ?_
      refine Sc.loop (β := Nat) (fun k => [(4, .pointer (some ⟨w0.heap.size, 0, none⟩)), (18, .slice xo X.length xc), (19, .int .i64 X.length), (20, .int .i64 k)]) (fun k w => k ≤ X.length ∧ WrL (fun k => w0.heap.size ≤ k) w.heap w0.heap.size (xSt X k).1 (xSt X k).2 ∧ Foot nob w0 w) (fun k => X.length - k) 0 ⟨rfl, rfl, rfl, rfl, trivial⟩ ⟨Nat.zero_le _, hP1, (hf1.any.trans hF1).fresh (fun k hk => hk)⟩ ?_
      rintro k w2 ⟨hk, hP2, hF2⟩
      refine Sc.seq ?_
      refine Sc.region ?_
      refine Sl.fork (Cm.lss rfl rfl) rfl (fun h21 => ?_) (fun h21 => ?_)
      ·
        refine Sl.nil ?_
        refine At.go ?_
        refine Sc.seq ?_
        refine Sc.cond_t rfl ?_
        refine Sc.skip ?_
        refine At.go ?_
        refine Sc.seq ?_
        refine Sc.block ?_
        refine Sc.seq ?_
        refine Sc.region ?_
        obtain ⟨xa, xc2, hrow0, hxv, hnl⟩ := hv.at (i := k) rfl (by omega)
        obtain ⟨_, q2, _, q4⟩ := hm.1 k (by omega)
        have hFW := hF0.trans hF2
        have hrow := fun j v h => cellH_keep (hrow0 j v h) hFW id
        obtain ⟨z1, z2⟩ := hlen k hk
        refine Sl.calm (Cm.indexAddr sl23 rfl rfl hv.non (by omega)) rfl ?_
        refine Sl.calm (Cm.ldM (cs := [.string (bs (X.getD k x0).1), .slice xa (X.getD k x0).2.length xc2]) agg82 rfl hrow) rfl ?_
        refine Sl.allocC zc82 rfl ?_
        intro w3 hg3 hs3 hf3
        refine Sl.storeAll (vs := [.string (bs (X.getD k x0).1), .slice xa (X.getD k x0).2.length xc2]) agg82 rfl rfl (by simp [Value.oneCell']) hg3 rfl ?_
        intro w4 hg4 hs4 hf4
        have hF4 : Foot nob w2 w4 := hf3.trans_to hf4 (fun k hk => .inr (by omega))
        have hP4 := hP2.shrink hF4
        refine Sl.nil ?_
        refine At.weak [(4, _), (6, _), (18, _), (19, _), (20, _), (21, _)] ⟨rfl, rfl, rfl, rfl, rfl, rfl, trivial⟩ ?_
        refine At.go ?_
        refine Sc.seq ?_
        refine Sc.region ?_
        refine Sl.calm (Cm.field fld82_0 rfl) rfl ?_
        refine Sl.calm (Cm.ld sca9 rfl (cellF hg4 rfl)) rfl ?_
        refine Sl.call fn48 rfl (wtext_ok _ w0.heap.size _ _ _ w4 hP4 (fun k hk => ⟨Nat.le_trans (hF2.trans hF4).size hk, .inr hk⟩) (by omega)) rfl ?_
        rintro _ w5 ⟨hP5, hF5⟩
        have hg5 := hF5.obj hg4 (fun h => by rcases h.2 with h | h <;> omega)
        have hF05 : Foot nob w0 w5 := ((hF2.trans hF4).any.trans hF5).fresh (fun k hk => hk.1)
        obtain ⟨a1, a2⟩ := txtS_good (s := xSt X k) (t := (X.getD k x0).1) z1 (by omega)
        have a3 : (txtX (xSt X k).1 (xSt X k).2 (X.getD k x0).1).length = _ := a2
        refine Sl.nil ?_
        refine At.weak [(4, _), (6, _), (18, _), (19, _), (20, _), (21, _)] ⟨rfl, rfl, rfl, rfl, rfl, rfl, trivial⟩ ?_
        refine At.go ?_
        refine Sc.region ?_
        refine Sl.calm (Cm.field fld82_1 rfl) rfl ?_
        refine Sl.calm (Cm.ld sca25 rfl (cellF hg5 rfl)) rfl ?_
        refine Sl.calm (Cm.strIn sl25 ty5 ty9 rfl (hxv.grow (hF0.trans hF05))) rfl ?_
        refine Sl.call fn48 rfl (wtext_ok _ w0.heap.size _ _ _ w5 hP5 (fun k hk => ⟨Nat.le_trans hF05.size hk, .inr (Nat.le_trans hF5.size hk)⟩) (by omega)) rfl ?_
        rintro _ w6 ⟨hP6, hF6⟩
        refine Sl.nil ?_
        refine At.block_normal ?_
        refine At.weak [(4, _), (6, _), (18, _), (19, _), (20, _), (21, _)] ⟨rfl, rfl, rfl, rfl, rfl, rfl, trivial⟩ ?_
        refine At.go ?_
        refine Sc.region ?_
        refine Sl.calm (Cm.add64 rfl rfl (by omega)) rfl ?_
        refine Sl.calm (Cm.move rfl) rfl ?_
        refine Sl.nil ?_
        refine At.again (k + 1) ⟨rfl, rfl, rfl, rfl, trivial⟩ ?_ (by show X.length - (k + 1) < X.length - k; omega)
        exact ⟨by omega, by rw [xSt_succ X k (by omega)]; exact hP6.mono (fun q hq => hq.1), (hF05.any.trans hF6).fresh (fun k hk => hk.1)⟩
      ·
        refine Sl.nil ?_
        refine At.go ?_
        refine Sc.seq ?_
        refine Sc.cond_f rfl ?_
        refine Sc.exit ?_
        refine At.then_exit ?_
        refine At.then_exit ?_
        refine At.block_hit ?_
        refine At.go ?_
        refine Sc.seq ?_
        refine Sc.region ?_
        refine Sl.call fn44 rfl (wdone_ok _ w0.heap.size _ _ w2 hP2 (by have := (hlen k hk).2; have := hm.2; omega)) rfl ?_
        rintro _ w3 ⟨ao3, c3, rfl, ho3, hfr3, hf3⟩
        refine Sl.calm (Cm.field fld87_0 rfl) rfl ?_
        refine Sl.call fn45 rfl (err_ok _ w0.heap.size _ _ w3 (hP2.grow hf3)) rfl ?_
        rintro _ w4 ⟨rfl, hw4⟩
        subst w4
        refine Sl.calm (Cm.assign rfl) rfl ?_
        refine Sl.calm (Cm.assign rfl) rfl ?_
        refine Sl.nil ?_
        refine At.weak [(2, _), (3, _), (4, _), (18, _), (19, _), (20, _), (21, _)] ⟨rfl, rfl, rfl, rfl, rfl, rfl, rfl, trivial⟩ ?_
        refine At.go ?_
        refine Sc.ret ?_
        refine At.ret2 rfl rfl rfl ?_
        have hk2 : k = X.length := by omega
        subst hk2
        have z := (hlen _ (Nat.le_refl _)).1
        have e : putXs X = (doneX (xSt X X.length).1 (xSt X X.length).2, (xSt X X.length).1) := by unfold putXs doneX; rw [if_neg (by intro h; rcases h with h | h; omega; exact h hm), if_neg (by omega), z]
        rw [e]
        exact ⟨_, rfl, ao3, c3, rfl, ho3, hfr3.mono (Nat.le_trans hF0.size hF2.size), (hF0.trans hF2).trans hf3⟩

set_option maxHeartbeats 1000000 in
theorem rputX_ok (xo : Option Addr) (xc : Nat) (X : List Xa) (W : World) (hv : XaV W.heap xo xc X) :
    Calls Try.prog 18 [.slice xo X.length xc].toArray W (Ret (PutP W (putXs X))) := by
  have hl := hv.len63
  refine calls_of_sc 40 [(0, _)] Try.func18 rfl rfl rfl (enter_slots ⟨rfl, trivial⟩) ?_
  refine Sc.seq ?_
  refine Sc.region ?_
  refine Sl.calm (Cm.assign rfl) rfl ?_
  refine Sl.calm (Cm.assign rfl) rfl ?_
  refine Sl.nil ?_
  refine At.go ?_
  refine Sc.seq ?_
  refine Sc.region ?_
  refine Sl.calm (Cm.move rfl) rfl ?_
  refine Sl.call fn49 rfl (rmayX_ok xo xc X W hv) rfl ?_
  rintro _ w0 ⟨rfl, hF0⟩
  refine Sl.calm (Cm.assign rfl) rfl ?_
  refine Sl.nil ?_
  refine At.weak [(0, _), (2, _), (3, _), (4, _)] ⟨rfl, rfl, rfl, rfl, trivial⟩ ?_
  refine At.go ?_
  refine Sc.seq ?_
  refine Sc.seq ?_
  refine Sc.region ?_
  refine Sl.calm (Cm.move rfl) rfl ?_
  refine Sl.fork (Cm.notB rfl) rfl (fun h10 => ?_) (fun h10 => ?_)
  ·
    have hm : ¬ mayX X := of_decide_eq_false h10
    refine Sl.calm (Cm.move rfl) rfl ?_
    refine Sl.skip rfl rfl rfl rfl ?_
    refine Sl.skip rfl rfl rfl rfl ?_
    refine Sl.skip rfl rfl rfl rfl ?_
    refine Sl.calm (Cm.pick_t rfl rfl) rfl ?_
    refine Sl.nil ?_
    refine At.weak [(0, _), (2, _), (3, _), (4, _), (15, _)] ⟨rfl, rfl, rfl, rfl, rfl, trivial⟩ ?_
    refine At.go ?_
    refine Sc.cond_t rfl ?_
    refine Sc.seq ?_
    refine Sc.region ?_
    refine Sl.calm (Cm.assign rfl) rfl ?_
    refine Sl.calm (Cm.assign rfl) rfl ?_
    refine Sl.nil ?_
    refine At.go ?_
    refine Sc.ret ?_
    refine At.then_ret ?_
    refine At.ret2 rfl rfl rfl ?_
    have e : putXs X = ([], 1) := by unfold putXs; rw [if_pos (.inr hm)]
    rw [e]
    exact ⟨_, rfl, none, 0, rfl, Own.nil, Fr.none, hF0⟩
  ·
    have hm : mayX X := Classical.byContradiction fun h => h10 (decide_eq_false h)
    have hlen := xSt_good hm
    have hm8 := hm.2
    refine Sl.calm (Cm.move rfl) rfl ?_
    refine Sl.want rfl rfl (Cm.move rfl) rfl ?_
    refine Sl.want rfl rfl (Cm.len sl23 rfl) rfl ?_
    refine Sl.forkWant rfl rfl (Cm.eql rfl rfl) rfl (fun h14 => ?_) (fun h14 => ?_)
    ·
      refine Sl.calm (Cm.pick_f rfl rfl) rfl ?_
      refine Sl.nil ?_
      refine At.weak [(0, _), (2, _), (3, _), (4, _), (15, _)] ⟨rfl, rfl, rfl, rfl, rfl, trivial⟩ ?_
      refine At.go ?_
      refine Sc.cond_t rfl ?_
      refine Sc.seq ?_
      refine Sc.region ?_
      refine Sl.calm (Cm.assign rfl) rfl ?_
      refine Sl.calm (Cm.assign rfl) rfl ?_
      refine Sl.nil ?_
      refine At.go ?_
      refine Sc.ret ?_
      refine At.then_ret ?_
      refine At.ret2 rfl rfl rfl ?_
      have e : putXs X = ([], 1) := by unfold putXs; rw [if_pos (.inl (by omega))]
      rw [e]
      exact ⟨_, rfl, none, 0, rfl, Own.nil, Fr.none, hF0⟩
    ·
      refine Sl.calm (Cm.pick_f rfl rfl) rfl ?_
      refine Sl.nil ?_
      refine At.weak [(0, _), (2, _), (3, _), (4, _), (15, _)] ⟨rfl, rfl, rfl, rfl, rfl, trivial⟩ ?_
      refine At.go ?_
      refine Sc.cond_f rfl ?_
      refine Sc.skip ?_
      refine At.go ?_
      refine Sc.seq ?_
      refine Sc.region ?_
      refine Sl.calm (Cm.build plc91 zc91 rfl rfl) rfl ?_
      refine Sl.allocC zc91 rfl ?_
      intro w1 hg1 hs1 hf1
      refine Sl.storeAll (vs := [.slice none 0 0, .int .i64 0]) agg91 rfl rfl (by simp [Value.oneCell']) hg1 rfl ?_
      intro w1a hg1a hs1a hf1a
      have hF1a : Foot nob w0 w1a := hf1.trans_to hf1a (fun k hk => .inr (by omega))
      refine Sl.nil ?_
      refine At.weak [(0, _), (2, _), (3, _), (4, _), (5, _), (15, _)] ⟨rfl, rfl, rfl, rfl, rfl, rfl, trivial⟩ ?_
      refine At.go ?_
      refine Sc.seq ?_
      refine Sc.region ?_
      refine Sl.calm (Cm.move rfl) rfl ?_
      refine Sl.calm (Cm.len sl23 rfl) rfl ?_
      refine Sl.call fn46 rfl (rnum_ok (fun k => w0.heap.size ≤ k) w0.heap.size 0 [] _ 1 w1a (WrO.zeroR hg1a (Nat.le_refl _)) (hf_lt hF1a (fun k hk => hk)) (by simp)) rfl ?_
      rintro _ w1b ⟨hP1, hF1⟩
      refine Sl.nil ?_
      refine At.weak [(0, _), (2, _), (3, _), (4, _), (5, _), (15, _)] ⟨rfl, rfl, rfl, rfl, rfl, rfl, trivial⟩ ?_
      refine At.go ?_
      refine Sc.seq ?_
      refine Sc.seq ?_
      refine Sc.region ?_
      refine Sl.calm (Cm.assign rfl) rfl ?_
      refine Sl.nil ?_
      refine At.go ?_
      refine Sc.block ?_
      refine Sc.loop (β := Nat) (fun k => [(0, .slice xo X.length xc), (5, .pointer (some ⟨w0.heap.size, 0, none⟩)), (6, .int .i64 k)]) (fun k w => k ≤ X.length ∧ WrR (fun k => w0.heap.size ≤ k) w.heap w0.heap.size (xSt X k).1 (xSt X k).2 ∧ Foot nob w0 w) (fun k => X.length - k) 0 ⟨rfl, rfl, rfl, trivial⟩ ⟨Nat.zero_le _, hP1, (hF1a.any.trans hF1).fresh (fun k hk => hk)⟩ ?_
      rintro k w2 ⟨hk, hP2, hF2⟩
      refine Sc.seq ?_
      refine Sc.seq ?_
      refine Sc.region ?_
      refine Sl.calm (Cm.move rfl) rfl ?_
      refine Sl.calm (Cm.move rfl) rfl ?_
      refine Sl.calm (Cm.len sl23 rfl) rfl ?_
      refine Sl.fork (Cm.lss rfl rfl) rfl (fun h23 => ?_) (fun h23 => ?_)
      ·
        refine Sl.nil ?_
        refine At.weak [(0, _), (5, _), (6, _), (23, _)] ⟨rfl, rfl, rfl, rfl, trivial⟩ ?_
        refine At.go ?_
        refine Sc.cond_t rfl ?_
        refine Sc.skip ?_
        refine At.go ?_
        refine Sc.seq ?_
        refine Sc.block ?_
        refine Sc.seq ?_
        refine Sc.region ?_
        refine Sl.calm (Cm.move rfl) rfl ?_
        refine Sl.calm (Cm.move rfl) rfl ?_
        obtain ⟨xa, xc2, hrow0, hxv, hnl⟩ := hv.at (i := k) rfl (by omega)
        obtain ⟨_, q2, _, q4⟩ := hm.1 k (by omega)
        have hFW := hF0.trans hF2
        obtain ⟨z1, z2⟩ := hlen k hk
        refine Sl.calm (Cm.indexAddr sl23 rfl rfl hv.non (by omega)) rfl ?_
        refine Sl.calm (Cm.field fld82_0 rfl) rfl ?_
        refine Sl.calm (Cm.ld sca9 rfl (cellH_keep (hrow0 0 _ rfl) hFW id)) rfl ?_
        refine Sl.call fn50 rfl (rtext_ok _ w0.heap.size _ _ _ w2 hP2 (hf_lt hF2 (fun k hk => hk)) (by omega) (by omega)) rfl ?_
        rintro _ w5 ⟨hP5, hF5⟩
        have hF05 : Foot nob w0 w5 := (hF2.any.trans hF5).fresh (fun k hk => hk)
        obtain ⟨a1, a2⟩ := txtS_good (s := xSt X k) (t := (X.getD k x0).1) z1 (by omega)
        have a3 : (txtX (xSt X k).1 (xSt X k).2 (X.getD k x0).1).length = _ := a2
        refine Sl.nil ?_
        refine At.weak [(0, _), (5, _), (6, _), (23, _)] ⟨rfl, rfl, rfl, rfl, trivial⟩ ?_
        refine At.go ?_
        refine Sc.region ?_
        refine Sl.calm (Cm.move rfl) rfl ?_
        refine Sl.calm (Cm.move rfl) rfl ?_
        refine Sl.calm (Cm.indexAddr sl23 rfl rfl hv.non (by omega)) rfl ?_
        refine Sl.calm (Cm.field fld82_1 rfl) rfl ?_
        refine Sl.calm (Cm.ld sca25 rfl (cellH_keep (hrow0 1 _ rfl) (hF0.trans hF05) id)) rfl ?_
        refine Sl.calm (Cm.strIn sl25 ty5 ty9 rfl (hxv.grow (hF0.trans hF05))) rfl ?_
        refine Sl.call fn50 rfl (rtext_ok _ w0.heap.size _ _ _ w5 hP5 (hf_lt hF05 (fun k hk => hk)) (by omega) (by omega)) rfl ?_
        rintro _ w6 ⟨hP6, hF6⟩
        refine Sl.nil ?_
        refine At.block_normal ?_
        refine At.weak [(0, _), (5, _), (6, _), (23, _)] ⟨rfl, rfl, rfl, rfl, trivial⟩ ?_
        refine At.go ?_
        refine Sc.region ?_
        refine Sl.calm (Cm.move rfl) rfl ?_
        refine Sl.calm (Cm.add64 rfl rfl (by omega)) rfl ?_
        refine Sl.calm (Cm.assign rfl) rfl ?_
        refine Sl.nil ?_
        refine At.again (k + 1) ⟨rfl, rfl, rfl, trivial⟩ ?_ (by show X.length - (k + 1) < X.length - k; omega)
        exact ⟨by omega, by rw [xSt_succ X k (by omega)]; exact hP6, (hF05.any.trans hF6).fresh (fun k hk => hk)⟩
      ·
        refine Sl.nil ?_
        refine At.weak [(0, _), (5, _), (6, _), (23, _)] ⟨rfl, rfl, rfl, rfl, trivial⟩ ?_
        refine At.go ?_
        refine Sc.cond_f rfl ?_
        refine Sc.exit ?_
        refine At.then_exit ?_
        refine At.then_exit ?_
        refine At.block_hit ?_
        refine At.go ?_
        refine Sc.seq ?_
        refine Sc.region ?_
        refine Sl.call fn47 rfl (rdone_ok _ w0.heap.size _ _ w2 hP2 (by have := (hlen k hk).2; have := hm.2; omega)) rfl ?_
        rintro _ w3 ⟨ao3, c3, rfl, ho3, hfr3, hf3⟩
        refine Sl.calm (Cm.assign rfl) rfl ?_
        refine Sl.calm (Cm.assign rfl) rfl ?_
        refine Sl.nil ?_
        refine At.weak [(0, _), (2, _), (3, _), (5, _), (6, _), (23, _)] ⟨rfl, rfl, rfl, rfl, rfl, rfl, trivial⟩ ?_
        refine At.go ?_
        refine Sc.ret ?_
        refine At.ret2 rfl rfl rfl ?_
        have hk2 : k = X.length := by omega
        subst hk2
        have z := (hlen _ (Nat.le_refl _)).1
        have e : putXs X = (doneX (xSt X X.length).1 (xSt X X.length).2, 0) := by unfold putXs doneX; rw [if_neg (by intro h; rcases h with h | h; omega; exact h hm), if_neg (by omega)]
        rw [e]
        exact ⟨_, rfl, ao3, c3, rfl, ho3, hfr3.mono (Nat.le_trans hF0.size hF2.size), (hF0.trans hF2).trans hf3⟩
end Go.Proofs.Ytoaplldahbbaiaa
