/- data: Add, the program's. No condition beyond the bounds that each states. -/
import Derived.Test.YtpnfjfbfgaiolaaDoorDaCk
namespace Go.Proofs.YtpnfjfbfgaiolaaDoor
open Go Go.RowKit
set_option linter.unusedVariables false

def pickN {M : Nat} (b : List UInt8) (pre : List (Fin M)) : List UInt8 := (pre.map fun i => frB (chB b i.1)).flatten
theorem pickN_snoc {M : Nat} (b : List UInt8) (pre : List (Fin M)) (x : Fin M) : pickN b (pre ++ [x]) = pickN b pre ++ frB (chB b x.1) := by simp [pickN]
theorem pickN_all {M : Nat} (b : List UInt8) (xs : List (Fin M)) (h : xs.map (·.1) = List.range M) : pickN b xs = runN b M := by
  unfold pickN runN
  rw [← h, List.map_map]; rfl
theorem pickN_len {M : Nat} (b : List UInt8) : ∀ pre : List (Fin M), (pickN b pre).length ≤ 135 * pre.length := fun pre => by
  induction pre with
  | nil => simp [pickN]
  | cons x r ih =>
    have h2 := (frB_len (chB_len b x.1)).1
    have e : pickN b (x :: r) = frB (chB b x.1) ++ pickN b r := by simp [pickN]
    rw [e, List.length_append, List.length_cons]; omega
theorem skOf_mk {r : List UInt8} (h : r.length ≤ maxLen) : skOf r = ⟨r, h⟩ := by unfold skOf; rw [dif_pos h]
set_option maxHeartbeats 8000000 in
theorem dadd_ok (D : Nat → Prop) (g p first : Nat) (s : DS) (bo0 : Option Addr) (bc0 : Nat) (b : List UInt8) (W : World) (hM : DwO D W.heap g p first s) (hD : ∀ k, W.heap.size ≤ k → D k) (hv : Vw b8 W.heap bo0 bc0 b) (hfi : first ≤ 1000) (hb : s.B.length ≤ 1099511627776) (hbl : b.length ≤ 1048576) :
    Calls Tryd.prog 12 [.pointer (some ⟨g, 0, none⟩), .slice bo0 b.length bc0].toArray W
      (Ret fun v w' => ∃ o c, v = .tuple #[.int .i64 ((addD first s b).2 : Nat), .slice o (tailD b).length c] ∧ Own b8 5 w'.heap o c (tailD b) ∧ Fr W.heap.size o ∧ DwO (fun k => D k ∧ ¬ blk o k) w'.heap g p first (addD first s b).1 ∧ Foot D W w') := by
  have hM0 := hM
  obtain ⟨bo, bc, mg, hg, h1, h2, h3, h4, h5, h6, h7, h8, h9, h10⟩ := hM
  have hgl := (Array.getElem?_eq_some_iff.1 hg).1
  have hpl := (Array.getElem?_eq_some_iff.1 h9).1
  have hlb := hv.le
  obtain ⟨M, hMd⟩ : ∃ M, M = b.length / 128 := ⟨_, rfl⟩
  obtain ⟨n, hn⟩ : ∃ n, n = M * 128 := ⟨_, rfl⟩
  have hnb : n ≤ b.length := by omega
  have hrun := runN_len b M
  have hrd : runD b = runN b M := by rw [hMd]; rfl
  have hck : ckN n 128 = M := by unfold ckN; omega
  refine calls_of_scM 83 [(0, _), (1, _)] Tryd.func12 rfl rfl rfl (enter_slots ⟨rfl, rfl, trivial⟩) ?_
  refine Sc.seq ?_
  refine Sc.region ?_
  refine Sl.box rfl rfl ?_
  intro w1 hg1 hs1 hf1
  have hg1 : w1.heap[W.heap.size]? = some (.cells [.pointer (some ⟨g, 0, none⟩)].toArray 30 (0, 0)) := hg1
  refine Sl.calm (Cm.assign rfl) rfl ?_
  refine Sl.calm (Cm.assign rfl) rfl ?_
  refine Sl.nil ?_
  refine At.go ?_
  refine Sc.seq ?_
  refine Sc.region ?_
  refine Sl.allocC zc23 rfl ?_
  intro w2 hg2 hs2 hf2
  rw [hs1] at hg2 ⊢
  have hg2 : w2.heap[W.heap.size + 1]? = some (.cells [Value.slice none ([] : List UInt8).length 0].toArray 23 (0, 0)) := hg2
  obtain ⟨bx, hbx⟩ : ∃ bx, bx = W.heap.size + 1 := ⟨_, rfl⟩
  rw [← hbx] at hg2 ⊢
  have hg12 := hf2.obj hg1 id
  have hF2 := hf1.trans hf2
  refine Sl.nil ?_
  refine At.go ?_
  refine Sc.seq ?_
  refine Sc.region ?_
  refine Sl.calm (Cm.move rfl) rfl ?_
  refine Sl.calm (Cm.len sl23 rfl) rfl ?_
  refine Sl.calm (Cm.ofEq (u := .int .i64 (M : Int)) (Cm.quo64 rfl rfl (by omega) (by decide)) (by congr 1; omega)) rfl ?_
  refine Sl.calm (Cm.ofEq (u := .int .i64 (n : Int)) (Cm.mul64 rfl rfl (by omega)) (by congr 1; omega)) rfl ?_
  refine Sl.calm (Cm.assign rfl) rfl ?_
  refine Sl.nil ?_
  refine At.weak [(0, _), (1, _), (2, _), (4, _), (5, _), (6, _), (7, _)] ⟨rfl, rfl, rfl, rfl, rfl, rfl, rfl, trivial⟩ ?_
  refine At.go ?_
  refine Sc.seq ?_
  refine Sc.seq ?_
  refine Sc.region ?_
  refine Sl.calm (Cm.move rfl) rfl ?_
  refine Sl.calm (Cm.move rfl) rfl ?_
  refine Sl.calm (Cm.ofEq (u := .slice bo0 n bc0) (Cm.sliceH sl23 rfl rfl (by omega)) (by rw [cutAo_zero]; rfl)) rfl ?_
  refine Sl.call fn22 rfl (chunk_ok bo0 bc0 n 128 w2 (by decide)) rfl ?_
  rintro _ w4 ⟨rfl, hsb4, hnb4, hz4, hf4⟩
  have hF4 := hF2.trans hf4
  have hg4 := hf4.obj hg2 id
  have hb4 := hf4.obj hg12 id
  have hG4 := hF4.obj hg id
  refine Sl.nil ?_
  refine At.weak [(0, _), (1, _), (2, _), (4, _), (5, _), (6, _), (7, _), (19, _)] ⟨rfl, rfl, rfl, rfl, rfl, rfl, rfl, rfl, trivial⟩ ?_
  refine At.go ?_
  refine Sc.block ?_
  refine Sc.range (α := Fin (ckN n 128)) (f := 19) (p := 20) (q := 8) (gf := 32) (lb := (ckA w2.heap.size (w2.heap.size + 1)).toArray) (enc := fun i => ckV bo0 n 128 i.1) (M := ckN n 128) rfl fn32 (chunk_it w2.heap.size (w2.heap.size + 1) bo0 bc0 n 128 w4 hsb4 hnb4 (by decide) (by decide) (by omega) (by omega)) KpB.trans (fun W1 l1 _ _ hl1 _ _ _ => ⟨World.putObj_heap_other (by omega), World.putObj_heap_other (by omega)⟩) (Below.refl _ _) rfl rfl (BbI 5 23 bx w4 (pickN b)) BbI.own ⟨none, 0, hg4, Own.nil, Fr.none, Foot.refl _ _⟩ ?_ ?_
  ·
    rintro lp pre x w ⟨oo, oc, hbw, hoo, hfro, hFw⟩ hlt
    have hxn : x.1 < M := by have := x.2; omega
    have hpl2 := pickN_len b pre
    have hpl3 : pre.length < M := by omega
    have hfl := (frB_len (chB_len b x.1)).1
    have hvw := ((hv.grow hF4).keep' hFw (fun hne a ha e => by have e : a.block = bx := e; have := vw_lt hv (show 0 < b.length by have := List.length_pos_iff.2 hne; omega) a.block ⟨a, ha, rfl⟩; omega))
    have hGw := hFw.obj hG4 (by omega)
    have hbw2 := hFw.obj hb4 (by omega)
    have hTw : TbV w.heap p := hFw.obj (hF4.obj h9 id) (by omega)
    have hx1 : ckE n 128 x.1 = 128 := by unfold ckE; omega
    obtain ⟨co, hco⟩ : ∃ co, co = cutAo bo0 (x.1 * 128 + 128) (x.1 * 128) 1 := ⟨_, rfl⟩
    have hcl : (chB b x.1).length = 128 := chB_len2 (by omega)
    have hcv := hvw.cut (l := x.1 * 128) (h := x.1 * 128 + 128) (m := x.1 * 128 + 128) (by omega) (by omega) (by omega) (by omega)
    rw [← hco, Nat.add_sub_cancel_left] at hcv
    have hcv : Vw b8 w.heap co 128 (chB b x.1) := hcv
    have hckv : ckV bo0 n 128 x.1 = .slice co (chB b x.1).length 128 := by unfold ckV; rw [hx1, ← hco, hcl]
    rw [hckv]
    obtain ⟨wr, hwr⟩ : ∃ wr, wr = w := ⟨_, rfl⟩
    refine Rc.block ?_
    refine Rc.cut (β := Option Addr × Nat) (fun ⟨xo, xc⟩ => [(2, .pointer (some ⟨W.heap.size, 0, none⟩)), (6, .pointer (some ⟨bx, 0, none⟩)), (8, .slice xo (hX (chB b x.1)).length xc)]) (fun ⟨xo, xc⟩ w => Vw b8 w.heap xo xc (hX (chB b x.1)) ∧ w = wr) ?_ ?_
    ·
      refine Rc.seq ?_
      refine Rc.region (by repeat first | exact NoOut.post | with_reducible apply NoOut.then | with_reducible apply NoOut.block) rfl ?_
      refine Sl.calm (Cm.move rfl) rfl ?_
      refine Sl.call fn23 rfl (hole_ok co 128 (chB b x.1) w hcv) rfl ?_
      rintro _ wq ⟨rfl, hwq⟩
      subst wq
      by_cases h22 : holeB (chB b x.1)
      ·
        rw [decide_eq_true h22]
        have ex : hX (chB b x.1) = [] := by unfold hX; rw [if_pos h22]
        refine Sl.nil ?_
        refine At.weak [(0, _), (1, _), (2, _), (4, _), (5, _), (6, _), (7, _), (8, _), (19, _), (22, _)] ⟨rfl, rfl, rfl, rfl, rfl, rfl, rfl, rfl, rfl, rfl, trivial⟩ ?_
        refine At.goR ?_
        refine Rc.cond_t rfl ?_
        refine Rc.region (by repeat first | exact NoOut.post | with_reducible apply NoOut.then | with_reducible apply NoOut.block) rfl ?_
        refine Sl.calm (Cm.assign rfl) rfl ?_
        refine Sl.nil ?_
        exact At.cut ⟨none, 0⟩ ⟨rfl, rfl, (by show some (Value.slice none 0 0) = _; rw [ex]; rfl), trivial⟩ ⟨by rw [ex]; exact Vw.nil 0 (Nat.zero_le _), hwr.symm⟩
      ·
        rw [decide_eq_false h22]
        have ex : hX (chB b x.1) = chB b x.1 := by unfold hX; rw [if_neg h22]
        refine Sl.nil ?_
        refine At.weak [(0, _), (1, _), (2, _), (4, _), (5, _), (6, _), (7, _), (8, _), (19, _), (22, _)] ⟨rfl, rfl, rfl, rfl, rfl, rfl, rfl, rfl, rfl, rfl, trivial⟩ ?_
        refine At.goR ?_
        refine Rc.cond_f rfl ?_
        refine Rc.skip ?_
        exact At.cut ⟨co, 128⟩ ⟨rfl, rfl, (by rw [ex]; rfl), trivial⟩ ⟨by rw [ex]; exact hcv, hwr.symm⟩
    ·
      rintro ⟨xo, xc⟩ wq ⟨hxv, hwq⟩
      obtain rfl : w = wq := (hwq.trans hwr).symm
      refine Rc.seq ?_
      refine Rc.region (by repeat first | exact NoOut.post | with_reducible apply NoOut.then | with_reducible apply NoOut.block) rfl ?_
      refine Sl.calm (Cm.ld sca30 rfl (cellF0 hbw2 rfl)) rfl ?_
      refine Sl.calm (Cm.nilCheck rfl) rfl ?_
      refine Sl.calm (Cm.field fld61_0 rfl) rfl ?_
      refine Sl.calm (Cm.ld sca32 rfl (cellF hGw rfl)) rfl ?_
      refine Sl.calm (Cm.move rfl) rfl ?_
      refine Sl.call fn24 rfl (fput_ok p xo xc (hX (chB b x.1)) w hTw hxv) rfl ?_
      rintro _ v1 ⟨o1, c1, rfl, ho1, hfr1, hvf1⟩
      have ho1 : Own b8 5 v1.heap o1 c1 (frB (chB b x.1)) := ho1
      have hbw1 := hvf1.obj hbw id
      refine Sl.calm (Cm.move rfl) rfl ?_
      refine Sl.calm (Cm.extract rfl rfl) rfl ?_
      refine Sl.calm (Cm.extract rfl rfl) rfl ?_
      refine Sl.calm (Cm.assign rfl) rfl ?_
      refine Sl.calm (Cm.assign rfl) rfl ?_
      refine Sl.nil ?_
      refine At.weak [(2, _), (6, _), (8, _), (9, _)] ⟨rfl, rfl, rfl, rfl, trivial⟩ ?_
      refine At.goR ?_
      refine Rc.region (by repeat first | exact NoOut.post | with_reducible apply NoOut.then | with_reducible apply NoOut.block) rfl ?_
      refine Sl.calm (Cm.ld sca23 rfl (cellF0 hbw1 rfl)) rfl ?_
      refine Sl.calm (Cm.move rfl) rfl ?_
      refine Sl.append b8_one sl23 rfl rfl (hoo.grow hvf1) ho1.vw (by rw [show (putS (hX (chB b x.1))).1 = frB (chB b x.1) from rfl]; omega) (by rw [show (putS (hX (chB b x.1))).1 = frB (chB b x.1) from rfl]; unfold maxLen; omega) rfl ?_
      intro o7 c7 v2 ho7 hvf2 hr7 hn7
      have hnb2 : ∀ k, k < w4.heap.size → ¬ blk oo k := fun k hk ⟨a, ha, e⟩ => by have := hfro a ha; omega
      have hbw3 := hvf2.obj hbw1 (hnb2 bx (by omega))
      refine Sl.store sca23 rfl rfl rfl hbw3 rfl ?_
      intro v3 hg3b hs3b hvf3
      have hFv : Foot (fun k => k = bx ∨ blk oo k) w v3 := (hvf1.any.trans_to hvf2 (fun k hk => .inl (.inr hk))).trans_to hvf3 (fun k hk => .inl (.inl hk))
      have ho73 := ho7.keep hvf3 (fun a ha e => by rcases hr7 a ha with h | h; have := hfro a h; have e : a.block = bx := e; omega; have e : a.block = bx := e; have := hvf1.size; have := hFw.size; omega)
      refine Sl.nil ?_
      refine At.block_normal ?_
      refine At.roundEnd ⟨keeps_of hFv (fun k hk _ => ?_), ⟨hFv.same _ (by have := hFw.size; omega) ?_, hFv.same _ (by have := hFw.size; omega) ?_⟩, ⟨o7, c7, ?_, ?_, fr_next hfro hr7 (by have := hFw.size; have := hvf1.size; omega), (hFw.trans_to hFv (fun k hk => hk.imp id (fun ⟨a, ha, e⟩ => by have := hfro a ha; omega)))⟩⟩
      · rcases hk with rfl | ⟨a, ha, rfl⟩
        · exact ⟨_, _, _, hbw⟩
        · obtain ⟨cur, h⟩ := hoo.cells ha; exact ⟨_, _, _, h⟩
      · rintro (h | ⟨a, ha, e⟩)
        · omega
        · have := hfro a ha; omega
      · rintro (h | ⟨a, ha, e⟩)
        · omega
        · have := hfro a ha; omega
      · rw [pickN_snoc]; exact hg3b
      · rw [pickN_snoc]; exact ho73
  ·
    intro Dm xs w5 hDm hS ⟨oo, oc, hb5, ho5, hfro, hF5⟩ hK
    have hS : xs.map (·.1) = List.range (ckN n 128) := hS
    have hall : pickN b xs = runD b := by rw [pickN_all b xs hS, hck, hrd]
    rw [hall] at hb5 ho5
    have hFW5 : Foot nob W w5 := hF4.trans_to hF5 (fun k e => .inr (by have e : k = bx := e; omega))
    have htl : (tailD b).length = b.length - n := by unfold tailD; rw [List.length_drop, ← hMd, ← hn]
    have hrb := runN_len b M
    rw [← hrd] at hrb
    have hvt : Vw b8 w5.heap (cutAo bo0 bc0 n 1) (bc0 - n) (tailD b) := by
      have h := (hv.grow hFW5).cut (l := n) (h := b.length) (m := bc0) (by omega) (by omega) (by omega) (Nat.le_refl _)
      rw [List.take_of_length_le (by rw [List.length_drop]; omega)] at h
      unfold tailD; rw [← hMd, ← hn]; exact h
    refine At.block_normal ?_
    refine At.go ?_
    refine Sc.seq ?_
    refine Sc.region ?_
    refine Sl.calm (Cm.move rfl) rfl ?_
    refine Sl.calm (Cm.move rfl) rfl ?_
    refine Sl.calm (Cm.ofEq (u := .slice (cutAo bo0 bc0 n 1) (tailD b).length (bc0 - n)) (Cm.sliceL sl23 rfl rfl (by omega)) (by rw [htl]; rfl)) rfl ?_
    refine Sl.call fn25 rfl (clone_ok (cutAo bo0 bc0 n 1) (bc0 - n) (tailD b) w5 hvt (by omega)) rfl ?_
    rintro _ w6 ⟨o6, c6, rfl, ho6, hfr6, hf6⟩
    have hK6 := hf6.obj hK id
    have hb6 := hf6.obj hb5 id
    have ho56 := ho5.grow hf6
    have hFW6 := hFW5.trans hf6
    have hG6 := hFW6.obj hg id
    have hB6 := hf6.obj (hF5.obj hb4 (by omega)) id
    have h26 := h2.keep hFW6 id
    have hz6 := hFW6.size
    have ho6l := ho6.lt
    have hfr6w := hfr6.mono hFW5.size
    have ho5l := ho56.lt
    have hne6 : ∀ k, k < W.heap.size → ¬ blk o6 k := fun k hk ⟨a, ha, e⟩ => by have := hfr6w a ha; omega
    have hsame : ∀ wf, Foot nob W wf → DwO (fun k => D k ∧ ¬ blk o6 k) wf.heap g p first s := fun wf hf => hM0.fresh hf (fun k hk hd => ⟨hd, hne6 k hk⟩) (fun h => h10 h.1)
    have hend : ∀ wf, Foot (· = Dm) w6 wf → Own b8 5 wf.heap o6 c6 (tailD b) ∧ Foot nob W wf := fun wf hf => ⟨ho6.keep hf (fun a ha e => by obtain ⟨cur, h⟩ := ho6.cells ha; have e : a.block = Dm := e; rw [e, hK6] at h; cases h), hFW6.trans_to hf (fun k e => .inr (by have e : k = Dm := e; omega))⟩
    refine Sl.calm (Cm.assign rfl) rfl ?_
    refine Sl.nil ?_
    refine At.weak [(0, _), (1, _), (2, _), (4, _), (5, _), (6, _), (7, _), (19, _)] ⟨rfl, rfl, rfl, rfl, rfl, rfl, rfl, rfl, trivial⟩ ?_
    refine At.go ?_
    refine Sc.seq ?_
    refine Sc.seq ?_
    refine Sc.region ?_
    refine Sl.calm (Cm.ld sca23 rfl (cellF0 hb6 rfl)) rfl ?_
    refine Sl.calm (Cm.len sl23 rfl) rfl ?_
    refine Sl.fork (Cm.eql rfl rfl) rfl (fun h41 => ?_) (fun h41 => ?_)
    ·
      have e := addD_none (first := first) (s := s) (b := b) (by omega)
      refine Sl.nil ?_
      refine At.weak [(0, _), (1, _), (2, _), (4, _), (5, _), (6, _), (7, _), (19, _), (41, _)] ⟨rfl, rfl, rfl, rfl, rfl, rfl, rfl, rfl, rfl, trivial⟩ ?_
      refine At.go ?_
      refine Sc.cond_t rfl ?_
      refine Sc.seq ?_
      refine Sc.region ?_
      refine Sl.calm (Cm.move rfl) rfl ?_
      refine Sl.calm (Cm.assign rfl) rfl ?_
      refine Sl.calm (Cm.assign rfl) rfl ?_
      refine Sl.nil ?_
      refine At.weak [(0, _), (1, _), (2, _), (4, _), (5, _), (6, _), (7, _), (19, _), (41, _)] ⟨rfl, rfl, rfl, rfl, rfl, rfl, rfl, rfl, rfl, trivial⟩ ?_
      refine At.go ?_
      refine Sc.ret ?_
      refine At.then_ret ?_
      refine At.ret2D rfl rfl rfl hK6 ?_
      intro wf _ hfD
      obtain ⟨e1, e2⟩ := hend wf hfD
      rw [e]
      exact ⟨_, rfl, o6, c6, rfl, e1, hfr6w, hsame wf e2, e2.any⟩
    ·
      have hrl : (runD b).length ≤ maxLen := by unfold maxLen; omega
      have hrne : (runD b).length ≠ 0 := by omega
      have hsk := skOf_mk hrl
      refine Sl.nil ?_
      refine At.weak [(0, _), (1, _), (2, _), (4, _), (5, _), (6, _), (7, _), (19, _), (41, _)] ⟨rfl, rfl, rfl, rfl, rfl, rfl, rfl, rfl, rfl, trivial⟩ ?_
      refine At.go ?_
      refine Sc.cond_f rfl ?_
      refine Sc.skip ?_
      refine At.go ?_
      refine Sc.seq ?_
      refine Sc.draw 12 (fun H => H[W.heap.size]? = some (.cells [.pointer (some ⟨g, 0, none⟩)].toArray 30 (0, 0)) ∧ H[g]? = some (.cells (dwC p first bo s.B.length bc mg).toArray 61 (0, 0)) ∧ H[bx]? = some (.cells [Value.slice oo (runD b).length oc].toArray 23 (0, 0)) ∧ Vw b8 H oo oc (runD b) ∧ MapL enS H mg (vM s.m)) [] [0, 1, 2, 3, 4, 5, 6, 7, 8, 9, 10, 11] mixed (by kernel_rfl) (⟨hB6, hG6, hb6, ho56.vw, h26⟩) ?_
      refine Sx.calm rfl rfl (Cm.load sca30 rfl (fun H hH => cellF0 hH.1 rfl)) rfl ?_
      refine Sx.calm rfl rfl (Cm.nilCheck rfl) rfl ?_
      refine Sx.calm rfl rfl (Cm.field fld61_3 rfl) rfl ?_
      refine Sx.calm rfl rfl (Cm.load sca59 rfl (fun H hH => cellF hH.2.1 rfl)) rfl ?_
      refine Sx.calm rfl rfl (Cm.load sca23 rfl (fun H hH => cellF0 hH.2.2.1 rfl)) rfl ?_
      refine Sx.calm rfl rfl (Cm.str sl23 ty5 ty9 rfl (fun H hH => hH.2.2.2.1)) rfl ?_
      refine Sx.calm rfl rfl (Cm.lookupOk mpS keyS (a := ⟨runD b, hrl⟩) rfl rfl (fun H hH => hH.2.2.2.2)) rfl ?_
      refine Sx.calm rfl rfl (Cm.move rfl) rfl ?_
      refine Sx.calm rfl rfl (Cm.extract rfl rfl) rfl ?_
      refine Sx.calm rfl rfl (Cm.extract rfl rfl) rfl ?_
      refine Sx.calm rfl rfl (Cm.assign rfl) rfl ?_
      refine Sx.calm rfl rfl (Cm.assign rfl) rfl ?_
      refine Sx.nil ?_
      refine At.weak [(0, _), (1, _), (2, _), (4, _), (5, _), (6, _), (7, _), (11, _), (19, _), (41, _)] ⟨rfl, rfl, rfl, rfl, rfl, rfl, rfl, rfl, rfl, rfl, trivial⟩ ?_
      refine At.go ?_
      refine Sc.seq ?_
      refine Sc.seq ?_
      refine Sc.region ?_
      refine Sl.calm (Cm.move rfl) rfl ?_
      refine Sl.fork (Cm.notB rfl) rfl (fun h54 => ?_) (fun h54 => ?_)
      ·
        rw [getM_vM] at h54
        have hno : findR s.m (skOf (runD b)) = none := by rw [hsk]; simpa using h54
        have e := addD_new (first := first) hrne hno
        refine Sl.nil ?_
        refine At.weak [(0, _), (1, _), (2, _), (4, _), (5, _), (6, _), (7, _), (11, _), (19, _), (41, _), (54, _)] ⟨rfl, rfl, rfl, rfl, rfl, rfl, rfl, rfl, rfl, rfl, rfl, trivial⟩ ?_
        refine At.go ?_
        refine Sc.cond_t rfl ?_
        refine Sc.seq ?_
        refine Sc.draw 11 (fun H => H[W.heap.size]? = some (.cells [.pointer (some ⟨g, 0, none⟩)].toArray 30 (0, 0)) ∧ H[g]? = some (.cells (dwC p first bo s.B.length bc mg).toArray 61 (0, 0))) [] [0, 1, 2, 3, 4, 5, 6, 7, 8, 9, 10] mixed (by kernel_rfl) (⟨hB6, hG6⟩) ?_
        refine Sx.calm rfl rfl (Cm.load sca30 rfl (fun H hH => cellF0 hH.1 rfl)) rfl ?_
        refine Sx.calm rfl rfl (Cm.nilCheck rfl) rfl ?_
        refine Sx.calm rfl rfl (Cm.field fld61_1 rfl) rfl ?_
        refine Sx.calm rfl rfl (Cm.load sca3 rfl (fun H hH => cellF hH.2 rfl)) rfl ?_
        refine Sx.calm rfl rfl (Cm.load sca30 rfl (fun H hH => cellF0 hH.1 rfl)) rfl ?_
        refine Sx.calm rfl rfl (Cm.nilCheck rfl) rfl ?_
        refine Sx.calm rfl rfl (Cm.field fld61_2 rfl) rfl ?_
        refine Sx.calm rfl rfl (Cm.load sca23 rfl (fun H hH => cellF hH.2 rfl)) rfl ?_
        refine Sx.calm rfl rfl (Cm.len sl23 rfl) rfl ?_
        refine Sx.calm rfl rfl (Cm.add64 rfl rfl (by omega)) rfl ?_
        refine Sx.calm rfl rfl (Cm.assign rfl) rfl ?_
        refine Sx.nil ?_
        refine At.weak [(0, _), (1, _), (2, _), (4, _), (5, _), (6, _), (7, _), (11, _), (19, _), (41, _), (54, _)] ⟨rfl, rfl, rfl, rfl, rfl, rfl, rfl, rfl, rfl, rfl, rfl, trivial⟩ ?_
        refine At.go ?_
        refine Sc.seq ?_
        refine Sc.draw 7 (fun H => H[W.heap.size]? = some (.cells [.pointer (some ⟨g, 0, none⟩)].toArray 30 (0, 0)) ∧ H[g]? = some (.cells (dwC p first bo s.B.length bc mg).toArray 61 (0, 0)) ∧ H[bx]? = some (.cells [Value.slice oo (runD b).length oc].toArray 23 (0, 0)) ∧ Vw b8 H oo oc (runD b)) [7] [0, 1, 2, 3, 4, 5, 6, 7] mixed (by kernel_rfl) (⟨hB6, hG6, hb6, ho56.vw⟩) ?_
        refine Sx.calm rfl rfl (Cm.load sca30 rfl (fun H hH => cellF0 hH.1 rfl)) rfl ?_
        refine Sx.calm rfl rfl (Cm.nilCheck rfl) rfl ?_
        refine Sx.calm rfl rfl (Cm.field fld61_3 rfl) rfl ?_
        refine Sx.calm rfl rfl (Cm.load sca59 rfl (fun H hH => cellF hH.2.1 rfl)) rfl ?_
        refine Sx.calm rfl rfl (Cm.load sca23 rfl (fun H hH => cellF0 hH.2.2.1 rfl)) rfl ?_
        refine Sx.calm rfl rfl (Cm.str sl23 ty5 ty9 rfl (fun H hH => hH.2.2.2)) rfl ?_
        refine Sx.calm rfl rfl (Cm.move rfl) rfl ?_
        refine Sx.eff rfl rfl (Sl.mapUpdate mpS keyS (a := ⟨runD b, hrl⟩) rfl rfl rfl h26 ?_)
        intro w7 hm7 hs7 hf7
        refine Sx.last rfl ?_
        have hf7 := hf7.undraw.undraw.undraw
        have hml := h2.obj
        have hDml := (Array.getElem?_eq_some_iff.1 hK6).1
        have hnbo : ∀ k, W.heap.size ≤ k → ¬ blk bo k := fun k hk ⟨a, ha, e⟩ => by have := h1.lt a ha; omega
        have hG7 := hf7.obj hG6 (fun e => h4 (Eq.symm e))
        have hB7 := hf7.obj hB6 (by omega)
        have hb7 := hf7.obj hb6 (by omega)
        have ho57 := ho56.keep hf7 (fun a ha e => by have := hfro a ha; have e : a.block = mg := e; omega)
        have h17 := (h1.grow hFW6).keep hf7 (fun a ha e => h5 ⟨a, ha, e⟩)
        have hz7 := hf7.size
        have hm7q : MapL enS w7.heap mg (vM (s.m ++ [(skOf (runD b), first + s.B.length)])) := by rw [← setM_vM hno, hsk]; exact hm7
        refine Sx.nil ?_
        refine At.weak [(0, _), (1, _), (2, _), (4, _), (5, _), (6, _), (7, _), (11, _), (19, _), (41, _), (54, _)] ⟨rfl, rfl, rfl, rfl, rfl, rfl, rfl, rfl, rfl, rfl, rfl, trivial⟩ ?_
        refine At.go ?_
        refine Sc.draw 9 (fun H => H[W.heap.size]? = some (.cells [.pointer (some ⟨g, 0, none⟩)].toArray 30 (0, 0)) ∧ H[g]? = some (.cells (dwC p first bo s.B.length bc mg).toArray 61 (0, 0)) ∧ H[bx]? = some (.cells [Value.slice oo (runD b).length oc].toArray 23 (0, 0))) [6, 9] [0, 1, 2, 3, 4, 5, 6, 7, 8, 9] mixed (by kernel_rfl) (⟨hB7, hG7, hb7⟩) ?_
        refine Sx.calm rfl rfl (Cm.load sca30 rfl (fun H hH => cellF0 hH.1 rfl)) rfl ?_
        refine Sx.calm rfl rfl (Cm.load sca30 rfl (fun H hH => cellF0 hH.1 rfl)) rfl ?_
        refine Sx.calm rfl rfl (Cm.nilCheck rfl) rfl ?_
        refine Sx.calm rfl rfl (Cm.field fld61_2 rfl) rfl ?_
        refine Sx.calm rfl rfl (Cm.load sca23 rfl (fun H hH => cellF hH.2.1 rfl)) rfl ?_
        refine Sx.calm rfl rfl (Cm.load sca23 rfl (fun H hH => cellF0 hH.2.2 rfl)) rfl ?_
        refine Sx.eff rfl rfl (Sl.append b8_one sl23 rfl rfl h17 ho57.vw (by omega) (by unfold maxLen; omega) rfl ?_)
        intro o8 c8 w8 ho8 hf8 hr8 hn8
        have hf8 := hf8.undraw
        have hz8 := hf8.size
        refine Sx.on (by exact ⟨hf8.obj hB7 (hnbo _ (by omega)), hf8.obj hG7 h3, hf8.obj hb7 (hnbo _ (by omega))⟩) ?_
        refine Sx.calm rfl rfl (Cm.nilCheck rfl) rfl ?_
        refine Sx.calm rfl rfl (Cm.field fld61_2 rfl) rfl ?_
        refine Sx.eff rfl rfl (Sl.store sca23 rfl rfl rfl (hf8.obj hG7 h3) rfl ?_)
        intro w9 hg9 hs9 hf9
        refine Sx.last rfl ?_
        obtain ⟨hM9, hF9⟩ := dw_b (W := w7) (D := fun k => D k ∧ ¬ blk o6 k ∧ k ≠ Dm) (mq := s.m ++ [(skOf (runD b), first + s.B.length)]) (first := first) (Bq := s.B ++ runD b) (fun k hk => ⟨hD k (by omega), (fun ⟨a, ha, e⟩ => by have := ho6l a ha; omega), by omega⟩) hm7q h3 h4 h5 ⟨h6, hne6 g hgl, by omega⟩ (fun k ⟨a, ha, e⟩ => ⟨h7 k ⟨a, ha, e⟩, hne6 k (by have := h1.lt a ha; omega), by have := h1.lt a ha; omega⟩) ⟨h8, hne6 mg hml, by omega⟩ (hf7.obj (hFW6.obj h9 id) (fun e => h10 (by have e : p = mg := e; rw [e]; exact h8))) (fun h => h10 h.1) (by omega) ho8 hf8 hr8 hg9 hf9
        have hK9 := hf9.obj (hf8.obj (hf7.obj hK6 (by omega)) (hnbo _ (by omega))) (fun e => by have e : Dm = g := e; omega)
        have hK6 := hK9
        have hz9 := hF9.size
        have ho9 := (ho6.keep hf7 (fun a ha e => hne6 mg hml ⟨a, ha, e⟩)).keep hF9 (fun a ha e => e.2.1 ⟨a, ha, rfl⟩)
        refine Sx.nil ?_
        refine At.weak [(0, _), (1, _), (2, _), (4, _), (5, _), (6, _), (7, _), (11, _), (19, _), (41, _), (54, _)] ⟨rfl, rfl, rfl, rfl, rfl, rfl, rfl, rfl, rfl, rfl, rfl, trivial⟩ ?_
        refine At.go ?_
        refine Sc.seq ?_
        refine Sc.region ?_
        refine Sl.calm (Cm.move rfl) rfl ?_
        refine Sl.calm (Cm.move rfl) rfl ?_
        refine Sl.calm (Cm.assign rfl) rfl ?_
        refine Sl.calm (Cm.assign rfl) rfl ?_
        refine Sl.nil ?_
        refine At.weak [(0, _), (1, _), (2, _), (4, _), (5, _), (6, _), (7, _), (11, _), (19, _), (41, _), (54, _)] ⟨rfl, rfl, rfl, rfl, rfl, rfl, rfl, rfl, rfl, rfl, rfl, trivial⟩ ?_
        refine At.go ?_
        refine Sc.ret ?_
        refine At.ret2D rfl rfl rfl hK6 ?_
        intro wf _ hfD
        have e9 : Own b8 5 wf.heap o6 c6 (tailD b) := ho9.keep hfD (fun a ha e => by obtain ⟨cur, h⟩ := ho9.cells ha; have e : a.block = Dm := e; rw [e, hK6] at h; cases h)
        rw [e]
        exact ⟨_, rfl, o6, c6, rfl, e9, hfr6w, (hM9.keep hfD (fun k hk e => hk.2.2 e) (fun e => by have e : p = Dm := e; omega)).mono (fun k hk => ⟨hk.1, hk.2.1⟩) (fun h => h10 h.1), ((hFW6.any.trans (hf7.mono (fun k e => by have e : k = mg := e; rw [e]; exact h8))).trans (hF9.mono (fun k hk => hk.1))).trans_to hfD (fun k e => .inr (by have e : k = Dm := e; omega))⟩
      ·
        rw [getM_vM] at h54
        obtain ⟨k, hk⟩ : ∃ k, findR s.m (skOf (runD b)) = some k := by rw [hsk]; cases h : findR s.m ⟨runD b, hrl⟩ with | none => rw [h] at h54; exact absurd rfl h54 | some k => exact ⟨k, rfl⟩
        have e := addD_old (first := first) hrne hk
        have eg : (getM (vM s.m) ⟨runD b, hrl⟩).getD (.int .i64 0) = nV k := by rw [getM_vM, ← hsk, hk]; rfl
        rw [eg]
        refine Sl.nil ?_
        refine At.weak [(0, _), (1, _), (2, _), (4, _), (5, _), (6, _), (7, _), (11, _), (19, _), (41, _), (54, _)] ⟨rfl, rfl, rfl, rfl, rfl, rfl, rfl, rfl, rfl, rfl, rfl, trivial⟩ ?_
        refine At.go ?_
        refine Sc.cond_f rfl ?_
        refine Sc.skip ?_
        refine At.go ?_
        refine Sc.seq ?_
        refine Sc.region ?_
        refine Sl.calm (Cm.move rfl) rfl ?_
        refine Sl.calm (Cm.move rfl) rfl ?_
        refine Sl.calm (Cm.assign rfl) rfl ?_
        refine Sl.calm (Cm.assign rfl) rfl ?_
        refine Sl.nil ?_
        refine At.weak [(0, _), (1, _), (2, _), (4, _), (5, _), (6, _), (7, _), (11, _), (19, _), (41, _), (54, _)] ⟨rfl, rfl, rfl, rfl, rfl, rfl, rfl, rfl, rfl, rfl, rfl, trivial⟩ ?_
        refine At.go ?_
        refine Sc.ret ?_
        refine At.ret2D rfl rfl rfl hK6 ?_
        intro wf _ hfD
        obtain ⟨e1, e2⟩ := hend wf hfD.undraw
        rw [e]
        exact ⟨_, rfl, o6, c6, rfl, e1, hfr6w, hsame wf e2, e2.any⟩
end Go.Proofs.YtpnfjfbfgaiolaaDoor
