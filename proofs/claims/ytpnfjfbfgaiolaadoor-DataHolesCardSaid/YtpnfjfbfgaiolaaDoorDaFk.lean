/- data: Add, the reference's. No condition beyond the bounds that each states. -/
import Derived.Test.YtpnfjfbfgaiolaaDoorDaEk
namespace Go.Proofs.YtpnfjfbfgaiolaaDoor
open Go Go.RowKit
set_option linter.unusedVariables false

theorem findR_hit {a : SK} {v : Nat} : ∀ {m : List (SK × Nat)} {j : Nat}, findR (m.take j) a = none → m[j]? = some (a, v) → findR m a = some v
  | [], j, _, h => by simp at h
  | p :: r, 0, _, h => by
    simp at h; subst h
    unfold findR; rw [if_pos rfl]
  | p :: r, j + 1, hn, h => by
    rw [List.take_succ_cons] at hn
    unfold findR at hn ⊢
    split at hn
    · cases hn
    · rename_i hp; rw [if_neg hp]; exact findR_hit hn (by simpa using h)
theorem findR_step {a b : SK} {v : Nat} {m : List (SK × Nat)} {j : Nat} (hn : findR (m.take j) a = none) (h : m[j]? = some (b, v)) (hne : b ≠ a) : findR (m.take (j + 1)) a = none := by
  have hj := (List.getElem?_eq_some_iff.1 h).1
  have e : m[j] = (b, v) := (List.getElem?_eq_some_iff.1 h).2
  rw [List.take_succ_eq_append_getElem hj, e, findR_snoc, hn]
  exact if_neg hne
set_option maxHeartbeats 8000000 in
theorem rdadd_ok (D : Nat → Prop) (g first : Nat) (s : DS) (bo0 : Option Addr) (bc0 : Nat) (b : List UInt8) (W : World) (hM : RyO D W.heap g first s) (hD : ∀ k, W.heap.size ≤ k → D k) (hv : Vw b8 W.heap bo0 bc0 b) (hfi : first ≤ 1000) (hb : s.B.length ≤ 1099511627776) (hbl : b.length ≤ 1048576) (hml : s.m.length ≤ 1048576) :
    Calls Tryd.prog 16 [.pointer (some ⟨g, 0, none⟩), .slice bo0 b.length bc0].toArray W
      (Ret fun v w' => ∃ o c, v = .tuple #[.int .i64 ((addD first s b).2 : Nat), .slice o (tailD b).length c] ∧ Own b8 5 w'.heap o c (tailD b) ∧ Fr W.heap.size o ∧ RyO (fun k => D k ∧ ¬ blk o k) w'.heap g first (addD first s b).1 ∧ Foot D W w') := by
  have hM0 := hM
  obtain ⟨bo, bc, ro, rc, ys, hg, h1, h2, h3, h4, h5, h6, h7, h8, h9⟩ := hM
  have hgl := (Array.getElem?_eq_some_iff.1 hg).1
  have hlb := hv.le
  have hyl := h3.1
  have hbol : ∀ k, blk bo k → k < W.heap.size := fun k ⟨a, ha, e⟩ => by have := h1.lt a ha; omega
  have hrol : ∀ k, blk ro k → k < W.heap.size := fun k ⟨a, ha, e⟩ => by have := h2.lt a ha; omega
  refine calls_of_sc 101 [(0, _), (1, _)] Tryd.func16 rfl rfl rfl (enter_slots ⟨rfl, rfl, trivial⟩) ?_
  refine Sc.seq ?_
  refine Sc.region ?_
  refine Sl.calm (Cm.assign rfl) rfl ?_
  refine Sl.calm (Cm.assign rfl) rfl ?_
  refine Sl.nil ?_
  refine At.go ?_
  refine Sc.seq ?_
  refine Sc.region ?_
  refine Sl.lit0 b8 sl23 rfl ?_
  intro w1 ho1 hs1 hf1
  refine Sl.calm (Cm.assign rfl) rfl ?_
  refine Sl.nil ?_
  refine At.weak [(0, _), (1, _), (4, _), (5, _), (6, _)] ⟨rfl, rfl, rfl, rfl, rfl, trivial⟩ ?_
  refine At.go ?_
  refine Sc.seq ?_
  refine Sc.block ?_
  refine Sc.loop (β := Nat × (Option Addr × Nat) × (Option Addr × Nat)) (fun ⟨i, ⟨oi, ci⟩, ⟨ro2, rc2⟩⟩ => [(0, .pointer (some ⟨g, 0, none⟩)), (1, .slice oi (b.drop (i * 128)).length ci), (6, .slice ro2 (runN b i).length rc2)]) (fun ⟨i, ⟨oi, ci⟩, ⟨ro2, rc2⟩⟩ w => i ≤ b.length / 128 ∧ Vw b8 W.heap oi ci (b.drop (i * 128)) ∧ Own b8 5 w.heap ro2 rc2 (runN b i) ∧ Fr W.heap.size ro2 ∧ Foot nob W w) (fun ⟨i, ⟨oi, ci⟩, ⟨ro2, rc2⟩⟩ => b.length / 128 - i) ⟨0, ⟨bo0, bc0⟩, ⟨some ⟨W.heap.size, 0, none⟩, 0⟩⟩ ⟨rfl, (by rw [Nat.zero_mul, List.drop_zero]; rfl), rfl, trivial⟩ ⟨Nat.zero_le _, by rw [Nat.zero_mul, List.drop_zero]; exact hv, ho1, (fun a ha => by cases ha; exact Nat.le_refl _), hf1⟩ ?_
  rintro ⟨i, ⟨oi, ci⟩, ⟨ro2, rc2⟩⟩ w2 ⟨hi, hvi, hro, hfro, hF2⟩
  have hdl := List.length_drop (i := i * 128) (l := b)
  have hci := hvi.le
  have hri := runN_len b i
  refine Sc.seq ?_
  refine Sc.seq ?_
  refine Sc.region ?_
  refine Sl.calm (Cm.move rfl) rfl ?_
  refine Sl.calm (Cm.len sl23 rfl) rfl ?_
  refine Sl.fork (Cm.geq rfl rfl) rfl (fun h16 => ?_) (fun h16 => ?_)
  ·
    have hcl : (chB b i).length = 128 := chB_len2 (by omega)
    have hrl := runN_len b i
    have hfl := frB_len (chB_len b i)
    have hdn : (b.drop ((i + 1) * 128)).length = (b.drop (i * 128)).length - 128 := by rw [hdl, List.length_drop]; omega
    refine Sl.nil ?_
    refine At.weak [(0, _), (1, _), (6, _), (16, _)] ⟨rfl, rfl, rfl, rfl, trivial⟩ ?_
    refine At.go ?_
    refine Sc.cond_t rfl ?_
    refine Sc.skip ?_
    refine At.go ?_
    refine Sc.block ?_
    refine Sc.seq ?_
    refine Sc.region ?_
    refine Sl.calm (Cm.move rfl) rfl ?_
    refine Sl.calm (Cm.ofEq (u := .slice oi (chB b i).length ci) (Cm.sliceH sl23 rfl rfl (by omega)) (by rw [cutAo_zero, hcl]; rfl)) rfl ?_
    refine Sl.calm (Cm.assign rfl) rfl ?_
    refine Sl.nil ?_
    refine At.weak [(0, _), (1, _), (6, _), (7, _), (16, _)] ⟨rfl, rfl, rfl, rfl, rfl, trivial⟩ ?_
    refine At.go ?_
    refine Sc.cut (β := Option Addr × Nat) (fun ⟨xo, xc⟩ => [(0, .pointer (some ⟨g, 0, none⟩)), (1, .slice oi (b.drop (i * 128)).length ci), (6, .slice ro2 (runN b i).length rc2), (7, .slice xo (hX (chB b i)).length xc)]) (fun ⟨xo, xc⟩ w => Vw b8 w.heap xo xc (hX (chB b i)) ∧ w = w2) ?_ ?_
    ·
      refine Sc.seq ?_
      refine Sc.region ?_
      refine Sl.calm (Cm.move rfl) rfl ?_
      refine Sl.call fn27 rfl (rhole_ok oi ci (chB b i) w2 ((hvi.grow hF2).take 128)) rfl ?_
      rintro _ wq ⟨rfl, hwq⟩
      subst wq
      by_cases h20 : holeB (chB b i)
      ·
        rw [decide_eq_true h20]
        have ex : hX (chB b i) = [] := by unfold hX; rw [if_pos h20]
        refine Sl.nil ?_
        refine At.weak [(0, _), (1, _), (6, _), (7, _), (16, _), (20, _)] ⟨rfl, rfl, rfl, rfl, rfl, rfl, trivial⟩ ?_
        refine At.go ?_
        refine Sc.cond_t rfl ?_
        refine Sc.region ?_
        refine Sl.calm (Cm.assign rfl) rfl ?_
        refine Sl.nil ?_
        exact At.cut ⟨none, 0⟩ ⟨rfl, rfl, rfl, (by show some (Value.slice none 0 0) = _; rw [ex]; rfl), trivial⟩ ⟨by rw [ex]; exact Vw.nil 0 (Nat.zero_le _), rfl⟩
      ·
        rw [decide_eq_false h20]
        have ex : hX (chB b i) = chB b i := by unfold hX; rw [if_neg h20]
        refine Sl.nil ?_
        refine At.weak [(0, _), (1, _), (6, _), (7, _), (16, _), (20, _)] ⟨rfl, rfl, rfl, rfl, rfl, rfl, trivial⟩ ?_
        refine At.go ?_
        refine Sc.cond_f rfl ?_
        refine Sc.skip ?_
        exact At.cut ⟨oi, ci⟩ ⟨rfl, rfl, rfl, (by rw [ex]; rfl), trivial⟩ ⟨by rw [ex]; exact (hvi.grow hF2).take 128, rfl⟩
    ·
      rintro ⟨xo, xc⟩ wq ⟨hxv, hwq⟩
      obtain rfl : w2 = wq := hwq.symm
      refine Sc.seq ?_
      refine Sc.region ?_
      refine Sl.calm (Cm.move rfl) rfl ?_
      refine Sl.call fn26 rfl (rfput_ok xo xc (hX (chB b i)) w2 hxv) rfl ?_
      rintro _ w3 ⟨o3, c3, rfl, ho3, hfr3, hf3⟩
      have ho3 : Own b8 5 w3.heap o3 c3 (frB (chB b i)) := ho3
      refine Sl.calm (Cm.move rfl) rfl ?_
      refine Sl.calm (Cm.extract rfl rfl) rfl ?_
      refine Sl.calm (Cm.extract rfl rfl) rfl ?_
      refine Sl.calm (Cm.assign rfl) rfl ?_
      refine Sl.calm (Cm.assign rfl) rfl ?_
      refine Sl.nil ?_
      refine At.weak [(0, _), (1, _), (6, _), (7, _), (8, _)] ⟨rfl, rfl, rfl, rfl, rfl, trivial⟩ ?_
      refine At.go ?_
      refine Sc.seq ?_
      refine Sc.region ?_
      refine Sl.calm (Cm.move rfl) rfl ?_
      refine Sl.calm (Cm.move rfl) rfl ?_
      refine Sl.append b8_one sl23 rfl rfl (hro.grow hf3) ho3.vw (by rw [show (putS (hX (chB b i))).1 = frB (chB b i) from rfl]; omega) (by rw [show (putS (hX (chB b i))).1 = frB (chB b i) from rfl]; unfold maxLen; omega) rfl ?_
      intro o4 c4 w4 ho4 hf4 hr4 hn4
      refine Sl.calm (Cm.assign rfl) rfl ?_
      refine Sl.nil ?_
      refine At.weak [(0, _), (1, _), (6, _), (7, _), (8, _)] ⟨rfl, rfl, rfl, rfl, rfl, trivial⟩ ?_
      refine At.go ?_
      refine Sc.region ?_
      refine Sl.calm (Cm.move rfl) rfl ?_
      refine Sl.calm (Cm.ofEq (u := .slice (cutAo oi ci 128 1) (b.drop ((i + 1) * 128)).length (ci - 128)) (Cm.sliceL sl23 rfl rfl (by omega)) (by rw [hdn]; rfl)) rfl ?_
      refine Sl.calm (Cm.assign rfl) rfl ?_
      refine Sl.nil ?_
      refine At.block_normal ?_
      have hcd := cut_drop (n := 128) hvi (by omega) (by omega)
      rw [show (128 : Int).toNat = 128 from rfl, List.drop_drop, show i * 128 + 128 = (i + 1) * 128 by omega] at hcd
      refine At.again ⟨i + 1, ⟨cutAo oi ci 128 1, ci - 128⟩, ⟨o4, c4⟩⟩ ⟨rfl, rfl, ?_, trivial⟩ ⟨by omega, hcd, by rw [runN_succ]; exact ho4, fr_next hfro hr4 (by have := hf3.size; have := hF2.size; omega), (hF2.trans hf3).trans_to hf4 (fun k ⟨a, ha, e⟩ => .inr (by have := hfro a ha; omega))⟩ (by show b.length / 128 - (i + 1) < b.length / 128 - i; omega)
      rw [runN_succ]; rfl
  ·
    have hie : i = b.length / 128 := by omega
    subst hie
    have hro : Own b8 5 w2.heap ro2 rc2 (runD b) := hro
    have hvi : Vw b8 W.heap oi ci (tailD b) := hvi
    have htl : (tailD b).length ≤ b.length := by unfold tailD; rw [List.length_drop]; omega
    have hrb := runN_len b (b.length / 128)
    have hrb : (runD b).length ≤ 135 * (b.length / 128) ∧ 3 * (b.length / 128) ≤ (runD b).length := hrb
    refine Sl.nil ?_
    refine At.weak [(0, _), (1, _), (6, _), (16, _)] ⟨rfl, rfl, rfl, rfl, trivial⟩ ?_
    refine At.go ?_
    refine Sc.cond_f rfl ?_
    refine Sc.exit ?_
    refine At.then_exit ?_
    refine At.then_exit ?_
    refine At.block_hit ?_
    refine At.go ?_
    refine Sc.seq ?_
    refine Sc.region ?_
    refine Sl.lit0 b8 sl23 rfl ?_
    intro w5 ho5 hs5 hf5
    refine Sl.calm (Cm.move rfl) rfl ?_
    refine Sl.append b8_one sl23 rfl rfl ho5 ((hvi.grow hF2).grow hf5) (by simp only [List.length_nil]; omega) (by simp only [List.length_nil]; unfold maxLen; omega) rfl ?_
    intro o6 c6 w6 ho6 hf6 hr6 hn6
    have ho6 : Own b8 5 w6.heap o6 c6 (tailD b) := ho6
    have hz5 := hf5.size
    have hz2 := hF2.size
    have hfr5 : Fr w2.heap.size (some (⟨w2.heap.size, 0, none⟩ : Addr)) := fun a ha => by cases ha; exact Nat.le_refl _
    have hF26 : Foot nob w2 w6 := hf5.trans_to hf6 hfr5.step
    have hF6 := hF2.trans hF26
    have hfr6 : Fr w2.heap.size o6 := fun a ha => by rcases hr6 a ha with h | h; exact hfr5 a h; omega
    have hro6 := hro.grow hF26
    have hg6 := hF6.obj hg id
    have k16 := h1.grow hF6
    have k26 := h2.grow hF6
    have k36 := h3.keep hF6 (fun _ _ => id)
    have hz6 := hF6.size
    have hz26 := hF26.size
    have ho6l := ho6.lt
    have hrl6 := hro6.lt
    have hne6 : ∀ k, k < w2.heap.size → ¬ blk o6 k := fun k hk ⟨a, ha, e⟩ => by have := hfr6 a ha; omega
    have hrl2 := hro.lt
    have hsame : ∀ wf, Foot nob W wf → RyO (fun k => D k ∧ ¬ blk o6 k) wf.heap g first s := fun wf hf => hM0.keepTo hf (fun _ _ _ => id) (fun k hk hd => ⟨hd, hne6 k (by omega)⟩)
    have hfr6W : Fr W.heap.size o6 := hfr6.mono hz2
    refine Sl.calm (Cm.assign rfl) rfl ?_
    refine Sl.nil ?_
    refine At.weak [(0, _), (1, _), (6, _), (10, _), (16, _)] ⟨rfl, rfl, rfl, rfl, rfl, trivial⟩ ?_
    refine At.go ?_
    refine Sc.seq ?_
    refine Sc.seq ?_
    refine Sc.region ?_
    refine Sl.calm (Cm.move rfl) rfl ?_
    refine Sl.calm (Cm.len sl23 rfl) rfl ?_
    refine Sl.fork (Cm.eql rfl rfl) rfl (fun h36 => ?_) (fun h36 => ?_)
    ·
      have e := addD_none (first := first) (s := s) (b := b) (by omega)
      refine Sl.nil ?_
      refine At.weak [(0, _), (1, _), (6, _), (10, _), (16, _), (36, _)] ⟨rfl, rfl, rfl, rfl, rfl, rfl, trivial⟩ ?_
      refine At.go ?_
      refine Sc.cond_t rfl ?_
      refine Sc.seq ?_
      refine Sc.region ?_
      refine Sl.calm (Cm.move rfl) rfl ?_
      refine Sl.calm (Cm.assign rfl) rfl ?_
      refine Sl.calm (Cm.assign rfl) rfl ?_
      refine Sl.nil ?_
      refine At.weak [(0, _), (1, _), (4, _), (5, _), (6, _), (10, _), (16, _), (36, _)] ⟨rfl, rfl, rfl, rfl, rfl, rfl, rfl, rfl, trivial⟩ ?_
      refine At.go ?_
      refine Sc.ret ?_
      refine At.then_ret ?_
      refine At.ret2 rfl rfl rfl ?_
      rw [e]
      exact ⟨_, rfl, o6, c6, rfl, ho6, hfr6W, hsame _ hF6, hF6.any⟩
    ·
      have hrl : (runD b).length ≤ maxLen := by unfold maxLen; omega
      have hrne : (runD b).length ≠ 0 := by omega
      have hsk := skOf_mk hrl
      have hysv := k26.vw encR_cells
      have hyle := hysv.le
      refine Sl.nil ?_
      refine At.weak [(0, _), (1, _), (6, _), (10, _), (16, _), (36, _)] ⟨rfl, rfl, rfl, rfl, rfl, rfl, trivial⟩ ?_
      refine At.go ?_
      refine Sc.cond_f rfl ?_
      refine Sc.skip ?_
      refine At.go ?_
      refine Sc.seq ?_
      refine Sc.seq ?_
      refine Sc.region ?_
      refine Sl.calm (Cm.assign rfl) rfl ?_
      refine Sl.nil ?_
      refine At.go ?_
      refine Sc.block ?_
      refine Sc.loop (β := Nat) (fun j => [(0, .pointer (some ⟨g, 0, none⟩)), (6, .slice ro2 (runD b).length rc2), (10, .slice o6 (tailD b).length c6), (11, .int .i64 j)]) (fun j w => j ≤ s.m.length ∧ findR (s.m.take j) (skOf (runD b)) = none ∧ ∃ n, w = w6.drewN n) (fun j => s.m.length - j) 0 ⟨rfl, rfl, rfl, rfl, trivial⟩ ⟨Nat.zero_le _, rfl, 0, rfl⟩ ?_
      rintro j w ⟨hj, hjn, ⟨n, rfl⟩⟩
      refine Sc.seq ?_
      refine Sc.seq ?_
      refine Sc.region ?_
      refine Sl.calm (Cm.move rfl) rfl ?_
      refine Sl.calm (Cm.move rfl) rfl ?_
      refine Sl.calm (Cm.nilCheck rfl) rfl ?_
      refine Sl.calm (Cm.field fld42_2 rfl) rfl ?_
      refine Sl.calm (Cm.ld sca40 rfl (cellF hg6 rfl)) rfl ?_
      refine Sl.calm (Cm.len sl40 rfl) rfl ?_
      refine Sl.fork (Cm.lss rfl rfl) rfl (fun h44 => ?_) (fun h44 => ?_)
      ·
        have hjm : j < s.m.length := by omega
        obtain ⟨⟨⟨xa, xn, xc⟩, xk⟩, hx⟩ : ∃ x, ys[j]? = some x := ⟨_, List.getElem?_eq_getElem (by omega)⟩
        obtain ⟨⟨y, yk⟩, hy⟩ : ∃ y, s.m[j]? = some y := ⟨_, List.getElem?_eq_getElem hjm⟩
        obtain ⟨e1, e2, hxv, _⟩ := k36.2 j _ _ hx hy
        have e1 : xk = yk := e1
        have e2 : xn = y.1.length := e2
        subst e1 e2
        have hxv : Vw b8 w6.heap xa xc y.1 := hxv
        refine Sl.nil ?_
        refine At.weak [(0, _), (6, _), (10, _), (11, _), (44, _)] ⟨rfl, rfl, rfl, rfl, rfl, trivial⟩ ?_
        refine At.go ?_
        refine Sc.cond_t rfl ?_
        refine Sc.skip ?_
        refine At.go ?_
        refine Sc.seq ?_
        refine Sc.block ?_
        refine Sc.seq ?_
        refine Sc.draw 12 (fun H => H[g]? = some (.cells (rdC first bo s.B.length bc ro ys.length rc).toArray 42 (0, 0)) ∧ VwM 2 encR H ro rc ys ∧ Vw b8 H xa xc y.1 ∧ Vw b8 H ro2 rc2 (runD b)) [] [0, 1, 2, 3, 4, 5, 6, 7, 8, 9, 10, 11] mixed (by kernel_rfl) (⟨hg6, hysv, hxv, hro6.vw⟩) ?_
        refine Sx.calm rfl rfl (Cm.move rfl) rfl ?_
        refine Sx.calm rfl rfl (Cm.nilCheck rfl) rfl ?_
        refine Sx.calm rfl rfl (Cm.field fld42_2 rfl) rfl ?_
        refine Sx.calm rfl rfl (Cm.load sca40 rfl (fun H hH => cellF hH.1 rfl)) rfl ?_
        refine Sx.calm rfl rfl (Cm.move rfl) rfl ?_
        refine Sx.calm rfl rfl (Cm.indexAddr sl40 rfl rfl hysv.non (by omega)) rfl ?_
        refine Sx.calm rfl rfl (Cm.field fld71_0 rfl) rfl ?_
        refine Sx.calm rfl rfl (Cm.load sca23 rfl (fun H hH => hH.2.1.rowZ j rfl hx 0 _ rfl)) rfl ?_
        refine Sx.calm rfl rfl (Cm.str (xs := y.1) sl23 ty5 ty9 rfl (fun H hH => hH.2.2.1)) rfl ?_
        refine Sx.calm rfl rfl (Cm.move rfl) rfl ?_
        refine Sx.calm rfl rfl (Cm.str (xs := runD b) sl23 ty5 ty9 rfl (fun H hH => hH.2.2.2)) rfl ?_
        refine Sx.fork rfl rfl (Cm.eqlBs rfl rfl) rfl (fun h58 => ?_) (fun h58 => ?_)
        ·
          have hyr : y = skOf (runD b) := Subtype.ext (by rw [hsk]; exact h58)
          have e := addD_old (first := first) hrne (findR_hit hjn (by rw [hy, hyr]))
          refine Sx.nil ?_
          refine At.weak [(0, _), (6, _), (10, _), (11, _), (44, _), (58, _)] ⟨rfl, rfl, rfl, rfl, rfl, rfl, trivial⟩ ?_
          refine At.go ?_
          refine Sc.cond_t rfl ?_
          refine Sc.seq ?_
          refine Sc.region ?_
          refine Sl.calm (Cm.move rfl) rfl ?_
          refine Sl.calm (Cm.nilCheck rfl) rfl ?_
          refine Sl.calm (Cm.field fld42_2 rfl) rfl ?_
          refine Sl.calm (Cm.ld sca40 rfl (cellF hg6 rfl)) rfl ?_
          refine Sl.calm (Cm.move rfl) rfl ?_
          refine Sl.calm (Cm.indexAddr sl40 rfl rfl hysv.non (by omega)) rfl ?_
          refine Sl.calm (Cm.field fld71_1 rfl) rfl ?_
          refine Sl.calm (Cm.ld sca3 rfl (hysv.rowZ j rfl hx 1 _ rfl)) rfl ?_
          refine Sl.calm (Cm.move rfl) rfl ?_
          refine Sl.calm (Cm.assign rfl) rfl ?_
          refine Sl.calm (Cm.assign rfl) rfl ?_
          refine Sl.nil ?_
          refine At.weak [(0, _), (4, _), (5, _), (6, _), (10, _), (11, _), (44, _), (58, _)] ⟨rfl, rfl, rfl, rfl, rfl, rfl, rfl, rfl, trivial⟩ ?_
          refine At.go ?_
          refine Sc.ret ?_
          refine At.block_ret ?_
          refine At.then_ret ?_
          refine At.then_ret ?_
          refine At.block_ret ?_
          refine At.then_ret ?_
          refine At.ret2 rfl rfl rfl ?_
          rw [e]
          exact ⟨_, rfl, o6, c6, rfl, ho6, hfr6W, hsame _ ((hF6.draws n).draws 1), ((hF6.draws n).draws 1).any⟩
        ·
          have hyr : y ≠ skOf (runD b) := fun e => h58 (by rw [e, hsk])
          have hjn2 := findR_step hjn hy hyr
          refine Sx.nil ?_
          refine At.weak [(0, _), (6, _), (10, _), (11, _), (44, _), (58, _)] ⟨rfl, rfl, rfl, rfl, rfl, rfl, trivial⟩ ?_
          refine At.go ?_
          refine Sc.cond_f rfl ?_
          refine Sc.skip ?_
          refine At.block_normal ?_
          refine At.go ?_
          refine Sc.region ?_
          refine Sl.calm (Cm.move rfl) rfl ?_
          refine Sl.calm (Cm.add64 rfl rfl (by omega)) rfl ?_
          refine Sl.calm (Cm.assign rfl) rfl ?_
          refine Sl.nil ?_
          exact At.again (j + 1) ⟨rfl, rfl, rfl, rfl, trivial⟩ ⟨by omega, hjn2, n + 1, by simp [World.drewN]; omega⟩ (by show s.m.length - (j + 1) < s.m.length - j; omega)
      ·
        have hje : j = s.m.length := by omega
        subst hje
        rw [List.take_length] at hjn
        have e := addD_new (first := first) hrne hjn
        refine Sl.nil ?_
        refine At.weak [(0, _), (6, _), (10, _), (11, _), (44, _)] ⟨rfl, rfl, rfl, rfl, rfl, trivial⟩ ?_
        refine At.go ?_
        refine Sc.cond_f rfl ?_
        refine Sc.exit ?_
        refine At.then_exit ?_
        refine At.then_exit ?_
        refine At.block_hit ?_
        refine At.go ?_
        refine Sc.seq ?_
        refine Sc.draw 11 (fun H => H[g]? = some (.cells (rdC first bo s.B.length bc ro ys.length rc).toArray 42 (0, 0))) [] [0, 1, 2, 3, 4, 5, 6, 7, 8, 9, 10] mixed (by kernel_rfl) (hg6) ?_
        refine Sx.calm rfl rfl (Cm.move rfl) rfl ?_
        refine Sx.calm rfl rfl (Cm.nilCheck rfl) rfl ?_
        refine Sx.calm rfl rfl (Cm.field fld42_0 rfl) rfl ?_
        refine Sx.calm rfl rfl (Cm.load sca3 rfl (fun H hH => cellF hH rfl)) rfl ?_
        refine Sx.calm rfl rfl (Cm.move rfl) rfl ?_
        refine Sx.calm rfl rfl (Cm.nilCheck rfl) rfl ?_
        refine Sx.calm rfl rfl (Cm.field fld42_1 rfl) rfl ?_
        refine Sx.calm rfl rfl (Cm.load sca23 rfl (fun H hH => cellF hH rfl)) rfl ?_
        refine Sx.calm rfl rfl (Cm.len sl23 rfl) rfl ?_
        refine Sx.calm rfl rfl (Cm.add64 rfl rfl (by omega)) rfl ?_
        refine Sx.calm rfl rfl (Cm.assign rfl) rfl ?_
        refine Sx.nil ?_
        refine At.weak [(0, _), (6, _), (10, _), (11, _), (12, _), (44, _)] ⟨rfl, rfl, rfl, rfl, rfl, rfl, trivial⟩ ?_
        refine At.go ?_
        refine Sc.seq ?_
        refine Sc.region ?_
        refine Sl.calm (Cm.move rfl) rfl ?_
        refine Sl.calm (Cm.move rfl) rfl ?_
        refine Sl.calm (Cm.nilCheck rfl) rfl ?_
        refine Sl.calm (Cm.field fld42_2 rfl) rfl ?_
        refine Sl.calm (Cm.ld sca40 rfl (cellF hg6 rfl)) rfl ?_
        refine Sl.calm (Cm.move rfl) rfl ?_
        refine Sl.calm (Cm.move rfl) rfl ?_
        refine Sl.calm (Cm.build (cs := #[hd ⟨ro2, (runD b).length, rc2⟩, .int .i64 ((first + s.B.length : Nat) : Int)]) plc71 zc71 rfl (by kernel_rfl)) rfl ?_
        refine Sl.litG sl40 (cs := [hd ⟨ro2, (runD b).length, rc2⟩, .int .i64 ((first + s.B.length : Nat) : Int)].toArray) zc71 rfl rfl rfl (by kernel_rfl) rfl ?_
        intro w7 hg7 hs7 hf7
        have hf7 := hf7.undraw.undraw
        obtain ⟨yn, hyn⟩ : ∃ yn : Hd × Nat, yn = (⟨ro2, (runD b).length, rc2⟩, first + s.B.length) := ⟨_, rfl⟩
        have ho7 : OwnM 2 encR 71 w7.heap (some ⟨w6.heap.size, 0, none⟩) 1 [yn] := ownM_new (xs := [yn]) encR_cells (by rw [hyn]; exact hg7) (by show 1 ≤ maxLen; decide)
        have hz7 : w7.heap.size = w6.heap.size + 1 := hs7
        refine Sl.appendM encR_cells rfl sl40 rfl rfl (k26.grow hf7) (ho7.vw encR_cells) (by simp only [List.length_singleton]; omega) (by simp only [List.length_singleton]; unfold maxLen; omega) rfl ?_
        intro o8 c8 w8 ho8 hf8 hr8 hn8
        have hz8 := hf8.size
        have hg8 := hf8.obj (hf7.obj hg6 id) h5
        have hr8w : ∀ k, k < W.heap.size → ¬ blk ro k → ¬ blk o8 k := fun k hk hb ⟨a, ha, e⟩ => by rcases hr8 a ha with h | h; exact hb ⟨a, h, e⟩; omega
        refine Sl.calm (Cm.nilCheck rfl) rfl ?_
        refine Sl.calm (Cm.field fld42_2 rfl) rfl ?_
        refine Sl.store sca40 rfl rfl rfl hg8 rfl ?_
        intro w9 hg9 hs9 hf9
        have h19 := ((k16.grow hf7).keep hf8 (fun a ha ⟨c, hc, e⟩ => h6 a c ha hc e.symm)).keep hf9 (fun a ha e => h4 ⟨a, ha, e⟩)
        have h29 := ho8.keep hf9 (fun a ha e => hr8w g hgl h5 ⟨a, ha, e⟩)
        have hro9 := ((hro6.grow hf7).keep hf8 (fun a ha hb => by have := hrol _ hb; have := hfro a ha; omega)).keep hf9 (fun a ha e => by have := hfro a ha; have e : a.block = g := e; omega)
        have hblk : ∀ k, blk ro2 k → (D k ∧ ¬ blk o6 k) ∧ k ≠ g ∧ ¬ blk bo k ∧ ¬ blk o8 k ∧ k < w9.heap.size := by
          rintro k ⟨a, ha, e⟩
          have h10 := hfro a ha
          have h11 := hrl2 a ha
          subst e
          refine ⟨⟨hD _ (by omega), hne6 _ (by omega)⟩, by omega, (fun h => ?_), (fun ⟨c, hc, e2⟩ => ?_), by omega⟩
          · have := hbol _ h; omega
          · rcases hr8 c hc with h | h
            · have := hrol _ ⟨c, h, e2⟩; omega
            · omega
        have h39 := (((((k36.keep hf7 (fun _ _ => id)).keep hf8 (fun k hk => hk.2.2.2.1)).keep hf9 (fun k hk => hk.2.1)).mono (D' := fun k => (D k ∧ ¬ blk o6 k) ∧ k ≠ g ∧ ¬ blk bo k ∧ ¬ blk o8 k ∧ k < w9.heap.size) (fun k hk => ⟨⟨hk.1, hne6 k (by have := hk.2.2.2.2; omega)⟩, hk.2.1, hk.2.2.1, hr8w k hk.2.2.2.2 hk.2.2.2.1, by have := hk.2.2.2.2; omega⟩)).snoc (s := skOf (runD b)) (v := first + s.B.length) (z := ⟨ro2, (runD b).length, rc2⟩) (by rw [hsk]) (by rw [hsk]; exact hro9.vw) hblk)
        rw [← hyn] at h39
        have hF9 : Foot D W w9 := ((hF6.any.trans hf7.any).trans (hf8.mono h9)).trans (hf9.mono (fun k e => by have e : k = g := e; rw [e]; exact h7))
        have ho69 := ((ho6.grow hf7).keep hf8 (fun a ha hb => by have := hrol _ hb; have := hfr6W a ha; omega)).keep hf9 (fun a ha e => by have := hfr6W a ha; have e : a.block = g := e; omega)
        refine Sl.nil ?_
        refine At.weak [(0, _), (6, _), (10, _), (11, _), (12, _), (44, _)] ⟨rfl, rfl, rfl, rfl, rfl, rfl, trivial⟩ ?_
        refine At.go ?_
        refine Sc.seq ?_
        refine Sc.region ?_
        refine Sl.calm (Cm.move rfl) rfl ?_
        refine Sl.calm (Cm.move rfl) rfl ?_
        refine Sl.calm (Cm.nilCheck rfl) rfl ?_
        refine Sl.calm (Cm.field fld42_1 rfl) rfl ?_
        refine Sl.calm (Cm.ld sca23 rfl (cellF hg9 rfl)) rfl ?_
        refine Sl.calm (Cm.move rfl) rfl ?_
        refine Sl.append b8_one sl23 rfl rfl h19 hro9.vw (by omega) (by unfold maxLen; omega) rfl ?_
        intro o10 c10 w10 ho10 hf10 hr10 hn10
        have hg10 := hf10.obj hg9 h4
        refine Sl.calm (Cm.nilCheck rfl) rfl ?_
        refine Sl.calm (Cm.field fld42_1 rfl) rfl ?_
        refine Sl.store sca23 rfl rfl rfl hg10 rfl ?_
        intro w11 hg11 hs11 hf11
        have hz9 := hf9.size
        obtain ⟨hM11, hF11⟩ := rd_b (W := w9) (D := fun k => D k ∧ ¬ blk o6 k) (ro := o8) (ys := ys ++ [yn]) (mq := s.m ++ [(skOf (runD b), first + s.B.length)]) (first := first) (Bq := s.B ++ runD b) (fun k hk => ⟨hD k (by omega), (fun ⟨a, ha, e⟩ => by have := ho6l a ha; omega)⟩) (by omega) (fun k hk => by have := hbol k hk; omega) h29 h39 h4 (hr8w g hgl h5) (fun a c ha hc e => by rcases hr8 c hc with h | h; exact h6 a c ha h e; have := h1.lt a ha; omega) ⟨h7, hne6 g (by omega)⟩ (fun k hk => ⟨h8 k hk, hne6 k (by have := hbol k hk; omega)⟩) (fun k ⟨a, ha, e⟩ => by rcases hr8 a ha with h | h; exact ⟨h9 k ⟨a, h, e⟩, hne6 k (by have := hrol k ⟨a, h, e⟩; omega)⟩; exact ⟨hD k (by omega), (fun ⟨c, hc, e2⟩ => by have := ho6l c hc; omega)⟩) ho10 hf10 hr10 hg11 hf11
        refine Sl.nil ?_
        refine At.weak [(0, _), (6, _), (10, _), (11, _), (12, _), (44, _)] ⟨rfl, rfl, rfl, rfl, rfl, rfl, trivial⟩ ?_
        refine At.go ?_
        refine Sc.seq ?_
        refine Sc.region ?_
        refine Sl.calm (Cm.move rfl) rfl ?_
        refine Sl.calm (Cm.move rfl) rfl ?_
        refine Sl.calm (Cm.assign rfl) rfl ?_
        refine Sl.calm (Cm.assign rfl) rfl ?_
        refine Sl.nil ?_
        refine At.weak [(0, _), (4, _), (5, _), (6, _), (10, _), (11, _), (12, _), (44, _)] ⟨rfl, rfl, rfl, rfl, rfl, rfl, rfl, rfl, trivial⟩ ?_
        refine At.go ?_
        refine Sc.ret ?_
        refine At.ret2 rfl rfl rfl ?_
        rw [e]
        exact ⟨_, rfl, o6, c6, rfl, ho69.keep hF11 (fun a ha hh => hh.2 ⟨a, ha, rfl⟩), hfr6W, hM11, hF9.trans (hF11.mono (fun k hk => hk.1))⟩
end Go.Proofs.YtpnfjfbfgaiolaaDoor
