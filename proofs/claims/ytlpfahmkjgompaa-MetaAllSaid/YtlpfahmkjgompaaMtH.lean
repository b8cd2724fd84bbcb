/- meta: the laws on what is read. No condition beyond the bounds that each states. -/
import Derived.Test.YtlpfahmkjgompaaMtG
namespace Go.Proofs.Ytlpfahmkjgompaa
open Go Go.RowKit
set_option linter.unusedVariables false

theorem next_W0 {T : List UInt8} {q : Nat} (h : q < nF T) : nextS (frW T (nF T)) 0 ((frW T (nF T)).length : Nat) (256 * (frW T q).length : Nat) = (((256 * (frW T (q + 1)).length : Nat) : Int), 0) := by
  have := next_W T [] [] h
  rwa [imW_nil, toW_nil] at this
theorem next_end0 {T : List UInt8} : nextS (frW T (nF T)) 0 ((frW T (nF T)).length : Nat) (256 * (frW T (nF T)).length : Nat) = (0, 2) := by
  have := next_end T [] []
  rwa [imW_nil, toW_nil] at this
theorem frW_8000 {T : List UInt8} (h : T.length ≤ 8000) : (frW T (nF T)).length ≤ 8640 := by
  have := frW_le T (nF T)
  have h2 : nF T ≤ 63 := by unfold nF; omega
  have : 135 * nF T ≤ 135 * 63 := Nat.mul_le_mul_left _ h2
  omega
/-- a reader over the frames of T, opened -/
theorem mopenW_ok (p : Nat) (ao : Option Addr) (c : Nat) (T : List UInt8) (W : World) (ht : TbV W.heap p) (hv : Vw b8 W.heap ao c (frW T (nF T))) (hT : T.length ≤ 8000) :
    Calls Try.prog 30 [.pointer (some ⟨p, 0, none⟩), .slice ao (frW T (nF T)).length c, .int .i64 0, .int .i64 ((frW T (nF T)).length : Nat)].toArray W (Ret fun v w' => ∃ g, v = .pointer (some ⟨g, 0, none⟩) ∧ W.heap.size ≤ g ∧ MrO (fun k => W.heap.size ≤ k ∧ k < w'.heap.size) w'.heap g p (frW T (nF T)) 0 ((frW T (nF T)).length : Nat) ∧ Foot nob W w') :=
  mopenA_ok p ao c _ _ _ W ht hv (by have := frW_8000 hT; omega)

set_option maxHeartbeats 4000000 in
theorem metaNext_ok (D0 : Nat → Prop) (ao : Option Addr) (cap : Nat) (hs : List Hd) (L : List (List UInt8)) (W : World) (hv : Vw hd W.heap ao cap hs) (hr : RowsV D0 W.heap hs L) (hD0 : ∀ k, D0 k → k < W.heap.size) :
    Calls Try.prog 13 [.slice ao hs.length cap].toArray W (Ret fun v w' => v = .bool true ∧ Foot nob W w') := by
  obtain ⟨M, hM⟩ : ∃ M, M = M40 L := ⟨_, rfl⟩
  have hMl : M.length = min 20 L.length := by rw [hM, M40_len]
  have hMs : ∀ b ∈ M, b.length ≤ 400 := by rw [hM]; exact M40_small L
  have hMf : ∀ i, (M.take i).flatten.length ≤ 8000 := by rw [hM]; exact M40_flat L
  refine calls_of_sc 91 [(0, _)] Try.func13 rfl rfl rfl (enter_slots ⟨rfl, trivial⟩) ?_
  refine Sc.seq ?_
  refine Sc.region ?_
  refine Sl.calm (Cm.assign rfl) rfl ?_
  refine Sl.nil ?_
  refine At.go ?_
  refine Sc.seq ?_
  refine Sc.region ?_
  refine Sl.call fn23 rfl (shown05_ok W) rfl ?_
  rintro _ w1 ⟨rfl, hf1⟩
  refine Sl.calm (Cm.assign rfl) rfl ?_
  refine Sl.nil ?_
  refine At.weak [(0, _), (2, _), (3, _)] ⟨rfl, rfl, rfl, trivial⟩ ?_
  refine At.go ?_
  refine Sc.seq ?_
  refine Sc.region ?_
  refine Sl.calm (Cm.move rfl) rfl ?_
  refine Sl.call fn24 rfl (rows_ok D0 ao cap hs L w1 (hv.grow hf1) (hr.keep hf1 (fun _ _ => id))) rfl ?_
  rintro _ w2 ⟨ro, rc, gs, rfl, hro2, hgs2, hrf2, hf2⟩
  rw [← hM] at hgs2
  have hgl := hgs2.1
  have hz1 := hf1.size
  have hz2 := hf2.size
  refine Sl.calm (Cm.assign rfl) rfl ?_
  refine Sl.nil ?_
  refine At.weak [(0, _), (2, _), (3, _)] ⟨rfl, rfl, rfl, trivial⟩ ?_
  refine At.go ?_
  refine Sc.seq ?_
  refine Sc.region ?_
  refine Sl.call fn16 rfl (crcnew_ok w2) rfl ?_
  rintro _ w3 ⟨rfl, hf3⟩
  refine Sl.allocC zc27 rfl ?_
  intro w4 hg4 hs4 hf4
  refine Sl.storeAll (vs := tab) aggTab rfl rfl tab_one hg4 (by rw [tab_len, List.length_replicate]) ?_
  intro w5 hg5 hs5 hf5
  obtain ⟨p, hp⟩ : ∃ p, p = w3.heap.size := ⟨_, rfl⟩
  have hF25 : Foot nob w2 w5 := (hf3.trans hf4).trans_to hf5 (fun k hk => .inr (by have h : k = w3.heap.size := hk; have := hf3.size; omega))
  rw [← hp] at hg5 ⊢
  have ht5 : TbV w5.heap p := hg5
  have hF5 := (hf1.trans hf2).trans hF25
  have hpl := (Array.getElem?_eq_some_iff.1 ht5).1
  refine Sl.nil ?_
  refine At.weak [(0, _), (2, _), (3, _), (4, _)] ⟨rfl, rfl, rfl, rfl, trivial⟩ ?_
  refine At.go ?_
  refine Sc.seq ?_
  refine Sc.region ?_
  refine Sl.call fn25 rfl (mnewT_ok p w5 ht5) rfl ?_
  rintro _ w6 ⟨rfl, hM6, hf6⟩
  obtain ⟨g, hg⟩ : ∃ g, g = w5.heap.size := ⟨_, rfl⟩
  rw [← hg]
  rw [← hg] at hM6
  have hz6 := hf6.size
  refine Sl.calm (Cm.assign rfl) rfl ?_
  refine Sl.nil ?_
  refine At.weak [(0, _), (2, _), (3, _), (4, _), (5, _)] ⟨rfl, rfl, rfl, rfl, rfl, trivial⟩ ?_
  refine At.go ?_
  refine Sc.seq ?_
  refine Sc.seq ?_
  refine Sc.region ?_
  refine Sl.calm (Cm.move rfl) rfl ?_
  refine Sl.calm (Cm.not rfl) rfl ?_
  refine Sl.calm (Cm.move rfl) rfl ?_
  refine Sl.want rfl rfl (Cm.move rfl) rfl ?_
  refine Sl.want rfl rfl (Cm.eqlPtrNil ptr47 rfl rfl) rfl ?_
  refine Sl.calm (Cm.pick_f rfl rfl) rfl ?_
  refine Sl.nil ?_
  refine At.weak [(0, _), (2, _), (3, _), (4, _), (5, _), (26, _)] ⟨rfl, rfl, rfl, rfl, rfl, rfl, trivial⟩ ?_
  refine At.go ?_
  refine Sc.cond_f rfl ?_
  refine Sc.skip ?_
  refine At.go ?_
  refine Sc.seq ?_
  refine Sc.region ?_
  refine Sl.calm (Cm.assign rfl) rfl ?_
  refine Sl.nil ?_
  refine At.go ?_
  refine Sc.seq ?_
  refine Sc.seq ?_
  refine Sc.region ?_
  refine Sl.calm (Cm.assign rfl) rfl ?_
  refine Sl.nil ?_
  refine At.go ?_
  refine Sc.block ?_
  refine Sc.loop (β := Nat × (Nat → Prop)) (fun ⟨i, A⟩ => [(0, .slice ro gs.length rc), (4, .pointer (some ⟨p, 0, none⟩)), (5, .pointer (some ⟨g, 0, none⟩)), (6, .int .i64 ((M.take i).flatten.length : Nat)), (7, .int .i64 i)]) (fun ⟨i, A⟩ w => i ≤ M.length ∧ MwO A w.heap g p (cutW [] (M.take i).flatten).1 (cutW [] (M.take i).flatten).2 ∧ (∀ k, A k → w5.heap.size ≤ k ∧ k < w.heap.size) ∧ Foot nob w5 w) (fun ⟨i, A⟩ => M.length - i) ⟨0, fun k => g ≤ k ∧ k < w6.heap.size⟩ ⟨rfl, rfl, rfl, rfl, rfl, trivial⟩ ⟨Nat.zero_le _, by simpa using hM6, (fun k hk => ⟨by have := hk.1; omega, hk.2⟩), hf6⟩ ?_
  rintro ⟨i, A⟩ w8 ⟨hi, hM8, hA, hF8⟩
  refine Sc.seq ?_
  refine Sc.seq ?_
  refine Sc.region ?_
  refine Sl.calm (Cm.move rfl) rfl ?_
  refine Sl.calm (Cm.move rfl) rfl ?_
  refine Sl.calm (Cm.len sl44 rfl) rfl ?_
  refine Sl.fork (Cm.lss rfl rfl) rfl (fun h30 => ?_) (fun h30 => ?_)
  ·
    have hiM : i < M.length := by omega
    obtain ⟨x, hx, hxn, hxv, hxD⟩ := hgs2.at hiM
    have hxl := hMs (M.getD i []) (by rw [List.getD, List.getElem?_eq_getElem hiM]; exact List.getElem_mem _)
    have hhd : hd x = .slice x.a (M.getD i []).length x.c := by unfold hd; rw [hxn]
    have hcl0 := hro2.vw.get i x hx
    rw [hhd] at hcl0
    have hn8 := hMf i
    have hn9 := hMf (i + 1)
    refine Sl.nil ?_
    refine At.weak [(0, _), (4, _), (5, _), (6, _), (7, _), (30, _)] ⟨rfl, rfl, rfl, rfl, rfl, rfl, trivial⟩ ?_
    refine At.go ?_
    refine Sc.cond_t rfl ?_
    refine Sc.skip ?_
    refine At.go ?_
    refine Sc.seq ?_
    refine Sc.block ?_
    refine Sc.seq ?_
    refine Sc.region ?_
    refine Sl.calm (Cm.move rfl) rfl ?_
    refine Sl.calm (Cm.move rfl) rfl ?_
    refine Sl.calm (Cm.move rfl) rfl ?_
    refine Sl.calm (Cm.indexAddr1 sl44 rfl rfl hro2.vw.non (by omega)) rfl ?_
    refine Sl.calm (Cm.ld sca22 rfl (by rw [Int.toNat_natCast]; exact cellH_keep (cellH_keep hcl0 hF25 id) hF8 id)) rfl ?_
    refine Sl.call fn26 rfl (maddT_ok A g p (M.take i).flatten x.a x.c (M.getD i []) w8 hM8 ((hxv.grow hF25).grow hF8) (by omega)) rfl ?_
    rintro _ w9 ⟨rfl, hM9, hF9⟩
    have hz9 := hF9.size
    rw [← flat_take hiM] at hM9
    have hF59 : Foot nob w5 w9 := hF8.trans_to hF9 (fun k hk => .inr (hA k hk).1)
    have hA9 : ∀ k, Nx A w8 w9 k → w5.heap.size ≤ k ∧ k < w9.heap.size := by
      intro k hk
      have hz8 := hF8.size
      rcases hk with hk | hk
      · have := hA k hk; exact ⟨this.1, by omega⟩
      · have h1 := hk.1; have h2 := hk.2; exact ⟨by omega, h2⟩
    refine Sl.nil ?_
    refine At.weak [(0, _), (4, _), (5, _), (6, _), (7, _), (30, _)] ⟨rfl, rfl, rfl, rfl, rfl, rfl, trivial⟩ ?_
    refine At.go ?_
    refine Sc.region ?_
    refine Sl.calm (Cm.move rfl) rfl ?_
    refine Sl.calm (Cm.move rfl) rfl ?_
    refine Sl.calm (Cm.move rfl) rfl ?_
    refine Sl.calm (Cm.indexAddr1 sl44 rfl rfl hro2.vw.non (by omega)) rfl ?_
    refine Sl.calm (Cm.ld sca22 rfl (by rw [Int.toNat_natCast]; exact cellH_keep (cellH_keep hcl0 hF25 id) hF59 id)) rfl ?_
    refine Sl.calm (Cm.len sl22 rfl) rfl ?_
    refine Sl.calm (Cm.add64 rfl rfl (by omega)) rfl ?_
    refine Sl.calm (Cm.assign rfl) rfl ?_
    refine Sl.nil ?_
    refine At.block_normal ?_
    refine At.weak [(0, _), (4, _), (5, _), (6, _), (7, _), (30, _)] ⟨rfl, rfl, rfl, rfl, rfl, rfl, trivial⟩ ?_
    refine At.go ?_
    refine Sc.region ?_
    refine Sl.calm (Cm.move rfl) rfl ?_
    refine Sl.calm (Cm.add64 rfl rfl (by omega)) rfl ?_
    refine Sl.calm (Cm.assign rfl) rfl ?_
    refine Sl.nil ?_
    rw [show ((M.take i).flatten.length : Int) + ((M.getD i []).length : Nat) = ((M.take (i + 1)).flatten.length : Nat) by rw [flat_take hiM, List.length_append]; omega]
    exact At.again ⟨i + 1, Nx A w8 w9⟩ ⟨rfl, rfl, rfl, rfl, rfl, trivial⟩ ⟨by omega, hM9, hA9, hF59⟩ (by show M.length - (i + 1) < M.length - i; omega)
  ·
    refine Sl.nil ?_
    refine At.weak [(0, _), (4, _), (5, _), (6, _), (7, _), (30, _)] ⟨rfl, rfl, rfl, rfl, rfl, rfl, trivial⟩ ?_
    refine At.go ?_
    refine Sc.cond_f rfl ?_
    refine Sc.exit ?_
    refine At.then_exit ?_
    refine At.then_exit ?_
    refine At.block_hit ?_
    refine At.go ?_
    refine Sc.seq ?_
    refine Sc.region ?_
    refine Sl.calm (Cm.move rfl) rfl ?_
    have hiM : i = M.length := by omega
    subst hiM
    rw [List.take_length] at hM8 ⊢
    have hT := hMf M.length
    rw [List.take_length] at hT
    obtain ⟨T, hTe⟩ : ∃ T, T = M.flatten := ⟨_, rfl⟩
    rw [← hTe] at hM8 hT ⊢
    have hfr := frW_8000 hT
    refine Sl.call fn28 rfl (mdoneT_ok A g p T w8 hM8 (by omega)) rfl ?_
    rintro _ w10 ⟨o10, c10, rfl, ho10, hfr10, hf10⟩
    have hF10 := hF8.trans hf10
    refine Sl.calm (Cm.assign rfl) rfl ?_
    refine Sl.nil ?_
    refine At.weak [(0, _), (4, _), (5, _), (6, _), (7, _), (8, _), (30, _)] ⟨rfl, rfl, rfl, rfl, rfl, rfl, rfl, trivial⟩ ?_
    refine At.go ?_
    refine Sc.seq ?_
    refine Sc.region ?_
    refine Sl.calm (Cm.move rfl) rfl ?_
    refine Sl.calm (Cm.move rfl) rfl ?_
    refine Sl.calm (Cm.len sl22 rfl) rfl ?_
    refine Sl.call fn30 rfl (mopenW_ok p o10 c10 T w10 (hF10.obj ht5 id) ho10.vw hT) rfl ?_
    rintro _ w11 ⟨h, rfl, hh, hR11, hf11⟩
    have hF11 := hF10.trans hf11
    refine Sl.calm (Cm.assign rfl) rfl ?_
    refine Sl.nil ?_
    refine At.weak [(0, _), (4, _), (5, _), (6, _), (7, _), (8, _), (9, _), (30, _)] ⟨rfl, rfl, rfl, rfl, rfl, rfl, rfl, rfl, trivial⟩ ?_
    refine At.go ?_
    refine Sc.seq ?_
    refine Sc.seq ?_
    refine Sc.region ?_
    refine Sl.calm (Cm.move rfl) rfl ?_
    refine Sl.calm (Cm.eqlPtrNil ptr55 rfl rfl) rfl ?_
    refine Sl.nil ?_
    refine At.weak [(0, _), (4, _), (5, _), (6, _), (7, _), (8, _), (9, _), (30, _), (53, _)] ⟨rfl, rfl, rfl, rfl, rfl, rfl, rfl, rfl, rfl, trivial⟩ ?_
    refine At.go ?_
    refine Sc.cond_f rfl ?_
    refine Sc.skip ?_
    refine At.go ?_
    refine Sc.seq ?_
    refine Sc.region ?_
    refine Sl.calm (Cm.assign rfl) rfl ?_
    refine Sl.nil ?_
    refine At.go ?_
    refine Sc.seq ?_
    refine Sc.seq ?_
    refine Sc.region ?_
    refine Sl.calm (Cm.assign rfl) rfl ?_
    refine Sl.nil ?_
    refine At.go ?_
    refine Sc.block ?_
    refine Sc.loop (β := Nat) (fun j => [(6, .int .i64 (T.length : Nat)), (8, .slice o10 (frW T (nF T)).length c10), (9, .pointer (some ⟨h, 0, none⟩)), (10, .int .i64 (256 * (frW T j).length : Nat)), (11, .int .i64 j)]) (fun j w => j ≤ nF T ∧ Foot nob w11 w) (fun j => nF T - j) 0 ⟨rfl, rfl, rfl, rfl, rfl, trivial⟩ ⟨Nat.zero_le _, Foot.refl _ _⟩ ?_
    rintro j w12 ⟨hjn, hF12⟩
    refine Sc.seq ?_
    refine Sc.seq ?_
    refine Sc.region ?_
    refine Sl.calm (Cm.move rfl) rfl ?_
    refine Sl.calm (Cm.move rfl) rfl ?_
    refine Sl.calm (Cm.add64 rfl rfl (by omega)) rfl ?_
    refine Sl.calm (Cm.sub64 rfl rfl (by omega)) rfl ?_
    refine Sl.calm (Cm.quo64 rfl rfl (by omega) (by decide)) rfl ?_
    refine Sl.fork (Cm.lss rfl rfl) rfl (fun h59 => ?_) (fun h59 => ?_)
    ·
      have hj : j < nF T := by unfold nF; omega
      have hlt := frW_lt (T := T) j
      have hmo := frW_mono (T := T) (show j + 1 ≤ nF T from hj)
      refine Sl.nil ?_
      refine At.weak [(6, _), (8, _), (9, _), (10, _), (11, _), (59, _)] ⟨rfl, rfl, rfl, rfl, rfl, rfl, trivial⟩ ?_
      refine At.go ?_
      refine Sc.cond_t rfl ?_
      refine Sc.skip ?_
      refine At.go ?_
      refine Sc.seq ?_
      refine Sc.block ?_
      refine Sc.seq ?_
      refine Sc.region ?_
      refine Sl.calm (Cm.move rfl) rfl ?_
      refine Sl.calm (Cm.move rfl) rfl ?_
      refine Sl.call fn33 rfl (mnext_ok _ h p (frW T (nF T)) 0 _ (256 * (frW T j).length : Nat) w12 (hR11.grow hF12) (by omega) (by omega)) rfl ?_
      rw [next_W0 hj]
      rintro _ w13 ⟨rfl, hf13⟩
      refine Sl.calm (Cm.move rfl) rfl ?_
      refine Sl.calm (Cm.extract rfl rfl) rfl ?_
      refine Sl.calm (Cm.extract rfl rfl) rfl ?_
      refine Sl.calm (Cm.assign rfl) rfl ?_
      refine Sl.calm (Cm.assign rfl) rfl ?_
      refine Sl.nil ?_
      refine At.weak [(6, _), (8, _), (9, _), (10, _), (11, _), (12, _), (13, _), (59, _)] ⟨rfl, rfl, rfl, rfl, rfl, rfl, rfl, rfl, trivial⟩ ?_
      refine At.go ?_
      refine Sc.seq ?_
      refine Sc.seq ?_
      refine Sc.region ?_
      refine Sl.calm (Cm.move rfl) rfl ?_
      refine Sl.calm (Cm.no (Cm.neq rfl rfl) (fun h => h rfl)) rfl ?_
      refine Sl.calm (Cm.move rfl) rfl ?_
      refine Sl.want rfl rfl (Cm.move rfl) rfl ?_
      refine Sl.want rfl rfl (Cm.move rfl) rfl ?_
      refine Sl.want rfl rfl (Cm.no (Cm.leq rfl rfl) (by omega)) rfl ?_
      refine Sl.calm (Cm.pick_f rfl rfl) rfl ?_
      refine Sl.nil ?_
      refine At.weak [(6, _), (8, _), (9, _), (10, _), (11, _), (12, _), (13, _), (59, _), (74, _)] ⟨rfl, rfl, rfl, rfl, rfl, rfl, rfl, rfl, rfl, trivial⟩ ?_
      refine At.go ?_
      refine Sc.cond_f rfl ?_
      refine Sc.skip ?_
      refine At.go ?_
      refine Sc.region ?_
      refine Sl.calm (Cm.move rfl) rfl ?_
      refine Sl.calm (Cm.assign rfl) rfl ?_
      refine Sl.nil ?_
      refine At.block_normal ?_
      refine At.weak [(6, _), (8, _), (9, _), (10, _), (11, _), (12, _), (13, _), (59, _), (74, _)] ⟨rfl, rfl, rfl, rfl, rfl, rfl, rfl, rfl, rfl, trivial⟩ ?_
      refine At.go ?_
      refine Sc.region ?_
      refine Sl.calm (Cm.move rfl) rfl ?_
      refine Sl.calm (Cm.add64 rfl rfl (by omega)) rfl ?_
      refine Sl.calm (Cm.assign rfl) rfl ?_
      refine Sl.nil ?_
      exact At.again (j + 1) ⟨rfl, rfl, rfl, rfl, rfl, trivial⟩ ⟨hj, hF12.trans hf13⟩ (by show nF T - (j + 1) < nF T - j; omega)
    ·
      have hj : j = nF T := by unfold nF at hjn ⊢; omega
      subst hj
      refine Sl.nil ?_
      refine At.weak [(6, _), (8, _), (9, _), (10, _), (11, _), (59, _)] ⟨rfl, rfl, rfl, rfl, rfl, rfl, trivial⟩ ?_
      refine At.go ?_
      refine Sc.cond_f rfl ?_
      refine Sc.exit ?_
      refine At.then_exit ?_
      refine At.then_exit ?_
      refine At.block_hit ?_
      refine At.go ?_
      refine Sc.seq ?_
      refine Sc.region ?_
      refine Sl.calm (Cm.move rfl) rfl ?_
      refine Sl.calm (Cm.move rfl) rfl ?_
      refine Sl.call fn33 rfl (mnext_ok _ h p (frW T (nF T)) 0 _ (256 * (frW T (nF T)).length : Nat) w12 (hR11.grow hF12) (by omega) (by omega)) rfl ?_
      rw [next_end0]
      rintro _ w13 ⟨rfl, hf13⟩
      refine Sl.calm (Cm.move rfl) rfl ?_
      refine Sl.calm (Cm.extract rfl rfl) rfl ?_
      refine Sl.calm (Cm.extract rfl rfl) rfl ?_
      refine Sl.calm (Cm.assign rfl) rfl ?_
      refine Sl.calm (Cm.assign rfl) rfl ?_
      refine Sl.nil ?_
      refine At.weak [(6, _), (8, _), (9, _), (10, _), (11, _), (15, _), (59, _)] ⟨rfl, rfl, rfl, rfl, rfl, rfl, rfl, trivial⟩ ?_
      refine At.go ?_
      refine Sc.seq ?_
      refine Sc.region ?_
      refine Sl.calm (Cm.move rfl) rfl ?_
      refine Sl.calm (Cm.yes (Cm.eql rfl rfl) rfl) rfl ?_
      refine Sl.calm (Cm.move rfl) rfl ?_
      refine Sl.want rfl rfl (Cm.move rfl) rfl ?_
      refine Sl.want rfl rfl (Cm.move rfl) rfl ?_
      refine Sl.want rfl rfl (Cm.len sl22 rfl) rfl ?_
      refine Sl.want rfl rfl (Cm.mul64 rfl rfl (by omega)) rfl ?_
      refine Sl.want rfl rfl (Cm.yes (Cm.eql rfl rfl) (by omega)) rfl ?_
      refine Sl.calm (Cm.pick_t rfl rfl) rfl ?_
      refine Sl.calm (Cm.assign rfl) rfl ?_
      refine Sl.nil ?_
      refine At.weak [(2, _), (6, _), (8, _), (9, _), (10, _), (11, _), (15, _), (59, _)] ⟨rfl, rfl, rfl, rfl, rfl, rfl, rfl, rfl, trivial⟩ ?_
      refine At.go ?_
      refine Sc.ret ?_
      refine At.ret1 rfl rfl ?_
      exact ⟨_, rfl, rfl, ((hF5.trans hF11).trans hF12).trans hf13⟩

theorem few_mod (n : Int) : -300 < n.tmod 300 ∧ n.tmod 300 < 300 := by
  have h1 := Int.tmod_lt_of_pos n (show (0 : Int) < 300 by decide)
  have h2 := Int.lt_tmod_of_pos n (show (0 : Int) < 300 by decide)
  omega
set_option maxHeartbeats 4000000 in
theorem metaAll_ok (D0 : Nat → Prop) (ao : Option Addr) (cap : Nat) (hs : List Hd) (L : List (List UInt8)) (n : Int) (W : World) (hv : Vw hd W.heap ao cap hs) (hr : RowsV D0 W.heap hs L) (hD0 : ∀ k, D0 k → k < W.heap.size) (hn : -9223372036854775808 ≤ n ∧ n ≤ 9223372036854775807) :
    Calls Try.prog 11 [.slice ao hs.length cap, .int .i64 n].toArray W (Ret fun v w' => v = .bool true ∧ Foot nob W w') := by
  obtain ⟨M, hM⟩ : ∃ M, M = M40 L := ⟨_, rfl⟩
  have hMl : M.length = min 20 L.length := by rw [hM, M40_len]
  have hMs : ∀ b ∈ M, b.length ≤ 400 := by rw [hM]; exact M40_small L
  have hMf : ∀ i, (M.take i).flatten.length ≤ 8000 := by rw [hM]; exact M40_flat L
  refine calls_of_sc 117 [(0, _), (1, _)] Try.func11 rfl rfl rfl (enter_slots ⟨rfl, rfl, trivial⟩) ?_
  refine Sc.seq ?_
  refine Sc.region ?_
  refine Sl.calm (Cm.assign rfl) rfl ?_
  refine Sl.nil ?_
  refine At.go ?_
  refine Sc.seq ?_
  refine Sc.region ?_
  refine Sl.call fn23 rfl (shown05_ok W) rfl ?_
  rintro _ w1 ⟨rfl, hf1⟩
  refine Sl.calm (Cm.assign rfl) rfl ?_
  refine Sl.nil ?_
  refine At.weak [(0, _), (1, _), (4, _), (5, _)] ⟨rfl, rfl, rfl, rfl, trivial⟩ ?_
  refine At.go ?_
  refine Sc.seq ?_
  refine Sc.region ?_
  refine Sl.calm (Cm.move rfl) rfl ?_
  refine Sl.call fn24 rfl (rows_ok D0 ao cap hs L w1 (hv.grow hf1) (hr.keep hf1 (fun _ _ => id))) rfl ?_
  rintro _ w2 ⟨ro, rc, gs, rfl, hro2, hgs2, hrf2, hf2⟩
  rw [← hM] at hgs2
  have hgl := hgs2.1
  have hz1 := hf1.size
  have hz2 := hf2.size
  refine Sl.calm (Cm.assign rfl) rfl ?_
  refine Sl.nil ?_
  refine At.weak [(0, _), (1, _), (4, _), (5, _)] ⟨rfl, rfl, rfl, rfl, trivial⟩ ?_
  refine At.go ?_
  refine Sc.seq ?_
  refine Sc.region ?_
  refine Sl.call fn16 rfl (crcnew_ok w2) rfl ?_
  rintro _ w3 ⟨rfl, hf3⟩
  refine Sl.allocC zc27 rfl ?_
  intro w4 hg4 hs4 hf4
  refine Sl.storeAll (vs := tab) aggTab rfl rfl tab_one hg4 (by rw [tab_len, List.length_replicate]) ?_
  intro w5 hg5 hs5 hf5
  obtain ⟨p, hp⟩ : ∃ p, p = w3.heap.size := ⟨_, rfl⟩
  have hF25 : Foot nob w2 w5 := (hf3.trans hf4).trans_to hf5 (fun k hk => .inr (by have h : k = w3.heap.size := hk; have := hf3.size; omega))
  rw [← hp] at hg5 ⊢
  have ht5 : TbV w5.heap p := hg5
  have hF5 := (hf1.trans hf2).trans hF25
  have hpl := (Array.getElem?_eq_some_iff.1 ht5).1
  refine Sl.nil ?_
  refine At.weak [(0, _), (1, _), (4, _), (5, _), (6, _)] ⟨rfl, rfl, rfl, rfl, rfl, trivial⟩ ?_
  refine At.go ?_
  refine Sc.seq ?_
  refine Sc.region ?_
  refine Sl.call fn25 rfl (mnewT_ok p w5 ht5) rfl ?_
  rintro _ w6 ⟨rfl, hM6, hf6⟩
  obtain ⟨g, hg⟩ : ∃ g, g = w5.heap.size := ⟨_, rfl⟩
  rw [← hg]
  rw [← hg] at hM6
  have hz6 := hf6.size
  refine Sl.calm (Cm.assign rfl) rfl ?_
  refine Sl.nil ?_
  refine At.weak [(0, _), (1, _), (4, _), (5, _), (6, _), (7, _)] ⟨rfl, rfl, rfl, rfl, rfl, rfl, trivial⟩ ?_
  refine At.go ?_
  refine Sc.seq ?_
  refine Sc.seq ?_
  refine Sc.region ?_
  refine Sl.calm (Cm.move rfl) rfl ?_
  refine Sl.calm (Cm.not rfl) rfl ?_
  refine Sl.calm (Cm.move rfl) rfl ?_
  refine Sl.want rfl rfl (Cm.move rfl) rfl ?_
  refine Sl.want rfl rfl (Cm.eqlPtrNil ptr47 rfl rfl) rfl ?_
  refine Sl.calm (Cm.pick_f rfl rfl) rfl ?_
  refine Sl.nil ?_
  refine At.weak [(0, _), (1, _), (4, _), (5, _), (6, _), (7, _), (32, _)] ⟨rfl, rfl, rfl, rfl, rfl, rfl, rfl, trivial⟩ ?_
  refine At.go ?_
  refine Sc.cond_f rfl ?_
  refine Sc.skip ?_
  refine At.go ?_
  refine Sc.seq ?_
  refine Sc.region ?_
  refine Sl.lit0 b8 sl22 rfl ?_
  intro w7 ho7 hs7 hf7
  have hM7 := hM6.grow hf7
  have hF57 := hf6.trans hf7
  refine Sl.calm (Cm.assign rfl) rfl ?_
  refine Sl.nil ?_
  refine At.weak [(0, _), (1, _), (4, _), (5, _), (6, _), (7, _), (8, _), (32, _)] ⟨rfl, rfl, rfl, rfl, rfl, rfl, rfl, rfl, trivial⟩ ?_
  refine At.go ?_
  refine Sc.seq ?_
  refine Sc.seq ?_
  refine Sc.region ?_
  refine Sl.calm (Cm.assign rfl) rfl ?_
  refine Sl.nil ?_
  refine At.go ?_
  refine Sc.block ?_
  refine Sc.loop (β := (Nat × (Nat → Prop)) × (Option Addr × Nat)) (fun ⟨⟨i, A⟩, ⟨o8, c8⟩⟩ => [(0, .slice ro gs.length rc), (1, .int .i64 n), (6, .pointer (some ⟨p, 0, none⟩)), (7, .pointer (some ⟨g, 0, none⟩)), (8, .slice o8 (M.take i).flatten.length c8), (9, .int .i64 i)]) (fun ⟨⟨i, A⟩, ⟨o8, c8⟩⟩ w => i ≤ M.length ∧ MwO A w.heap g p (cutW [] (M.take i).flatten).1 (cutW [] (M.take i).flatten).2 ∧ (∀ k, A k → w5.heap.size ≤ k ∧ k < w.heap.size) ∧ Foot nob w5 w ∧ Own b8 5 w.heap o8 c8 (M.take i).flatten ∧ Fr w5.heap.size o8 ∧ (∀ a, o8 = some a → ¬ A a.block)) (fun ⟨⟨i, A⟩, ⟨o8, c8⟩⟩ => M.length - i) ⟨⟨0, fun k => g ≤ k ∧ k < w6.heap.size⟩, ⟨some ⟨w6.heap.size, 0, none⟩, 0⟩⟩ ⟨rfl, rfl, rfl, rfl, rfl, rfl, trivial⟩ ⟨Nat.zero_le _, by simpa using hM7, (fun k hk => ⟨by have := hk.1; omega, by have := hk.2; omega⟩), hF57, by simpa using ho7, (fr_at _).mono hz6, (fun a ha h => by cases ha; exact absurd h.2 (by simp))⟩ ?_
  rintro ⟨⟨i, A⟩, ⟨o8, c8⟩⟩ w8 ⟨hi, hM8, hA, hF8, ho8, hfr8, hao⟩
  refine Sc.seq ?_
  refine Sc.seq ?_
  refine Sc.region ?_
  refine Sl.calm (Cm.move rfl) rfl ?_
  refine Sl.calm (Cm.move rfl) rfl ?_
  refine Sl.calm (Cm.len sl44 rfl) rfl ?_
  refine Sl.fork (Cm.lss rfl rfl) rfl (fun h37 => ?_) (fun h37 => ?_)
  ·
    have hiM : i < M.length := by omega
    obtain ⟨x, hx, hxn, hxv, hxD⟩ := hgs2.at hiM
    have hxl := hMs (M.getD i []) (by rw [List.getD, List.getElem?_eq_getElem hiM]; exact List.getElem_mem _)
    have hhd : hd x = .slice x.a (M.getD i []).length x.c := by unfold hd; rw [hxn]
    have hcl0 := hro2.vw.get i x hx
    rw [hhd] at hcl0
    have hn8 := hMf i
    have hn9 := hMf (i + 1)
    refine Sl.nil ?_
    refine At.weak [(0, _), (1, _), (6, _), (7, _), (8, _), (9, _), (37, _)] ⟨rfl, rfl, rfl, rfl, rfl, rfl, rfl, trivial⟩ ?_
    refine At.go ?_
    refine Sc.cond_t rfl ?_
    refine Sc.skip ?_
    refine At.go ?_
    refine Sc.seq ?_
    refine Sc.block ?_
    refine Sc.seq ?_
    refine Sc.region ?_
    refine Sl.calm (Cm.move rfl) rfl ?_
    refine Sl.calm (Cm.move rfl) rfl ?_
    refine Sl.calm (Cm.move rfl) rfl ?_
    refine Sl.calm (Cm.indexAddr1 sl44 rfl rfl hro2.vw.non (by omega)) rfl ?_
    refine Sl.calm (Cm.ld sca22 rfl (by rw [Int.toNat_natCast]; exact cellH_keep (cellH_keep hcl0 hF25 id) hF8 id)) rfl ?_
    refine Sl.call fn26 rfl (maddT_ok A g p (M.take i).flatten x.a x.c (M.getD i []) w8 hM8 ((hxv.grow hF25).grow hF8) (by omega)) rfl ?_
    rintro _ w9 ⟨rfl, hM9, hF9⟩
    have hz9 := hF9.size
    rw [← flat_take hiM] at hM9
    have hF59 : Foot nob w5 w9 := hF8.trans_to hF9 (fun k hk => .inr (hA k hk).1)
    have hA9 : ∀ k, Nx A w8 w9 k → w5.heap.size ≤ k ∧ k < w9.heap.size := by
      intro k hk
      have hz8 := hF8.size
      rcases hk with hk | hk
      · have := hA k hk; exact ⟨this.1, by omega⟩
      · have h1 := hk.1; have h2 := hk.2; exact ⟨by omega, h2⟩
    have ho9 := ho8.keep hF9 (fun a ha e => hao a ha e)
    refine Sl.nil ?_
    refine At.weak [(0, _), (1, _), (6, _), (7, _), (8, _), (9, _), (37, _)] ⟨rfl, rfl, rfl, rfl, rfl, rfl, rfl, trivial⟩ ?_
    refine At.go ?_
    refine Sc.region ?_
    refine Sl.calm (Cm.move rfl) rfl ?_
    refine Sl.calm (Cm.move rfl) rfl ?_
    refine Sl.calm (Cm.move rfl) rfl ?_
    refine Sl.calm (Cm.indexAddr1 sl44 rfl rfl hro2.vw.non (by omega)) rfl ?_
    refine Sl.calm (Cm.ld sca22 rfl (by rw [Int.toNat_natCast]; exact cellH_keep (cellH_keep hcl0 hF25 id) hF59 id)) rfl ?_
    refine Sl.append b8_one sl22 rfl rfl ho9 ((hxv.grow hF25).grow hF59) (by omega) (by unfold maxLen; omega) rfl ?_
    intro o10 c10 w10 ho10 hf10 hr10 hn10
    rw [← flat_take hiM] at ho10 ⊢
    have hz10 := hf10.size
    have hl8 := ho8.lt
    have hM10 := hM9.keep hf10 (fun k hk ⟨a, ha, e⟩ => by have h8 := hl8 a ha; rcases hk with hk | hk; exact hao a ha (e ▸ hk); have := hk.1; omega) (fun ⟨a, ha, e⟩ => by have := hfr8 a ha; omega)
    have hF510 : Foot nob w5 w10 := hF59.trans_to hf10 hfr8.step
    have hfr10 : Fr w5.heap.size o10 := fr_next hfr8 hr10 hF59.size
    refine Sl.calm (Cm.assign rfl) rfl ?_
    refine Sl.nil ?_
    refine At.block_normal ?_
    refine At.weak [(0, _), (1, _), (6, _), (7, _), (8, _), (9, _), (37, _)] ⟨rfl, rfl, rfl, rfl, rfl, rfl, rfl, trivial⟩ ?_
    refine At.go ?_
    refine Sc.region ?_
    refine Sl.calm (Cm.move rfl) rfl ?_
    refine Sl.calm (Cm.add64 rfl rfl (by omega)) rfl ?_
    refine Sl.calm (Cm.assign rfl) rfl ?_
    refine Sl.nil ?_
    exact At.again ⟨⟨i + 1, Nx A w8 w9⟩, ⟨o10, c10⟩⟩ ⟨rfl, rfl, rfl, rfl, rfl, rfl, trivial⟩ ⟨by omega, hM10, (fun k hk => ⟨(hA9 k hk).1, by have := (hA9 k hk).2; omega⟩), hF510, ho10, hfr10, (fun a ha h => by rcases hr10 a ha with h1 | h1; rcases h with h | h; exact hao a h1 h; have := hl8 a h1; have := h.1; omega; have := (hA9 _ h).2; omega)⟩ (by show M.length - (i + 1) < M.length - i; omega)
  ·
    refine Sl.nil ?_
    refine At.weak [(0, _), (1, _), (6, _), (7, _), (8, _), (9, _), (37, _)] ⟨rfl, rfl, rfl, rfl, rfl, rfl, rfl, trivial⟩ ?_
    refine At.go ?_
    refine Sc.cond_f rfl ?_
    refine Sc.exit ?_
    refine At.then_exit ?_
    refine At.then_exit ?_
    refine At.block_hit ?_
    refine At.go ?_
    refine Sc.seq ?_
    refine Sc.region ?_
    refine Sl.calm (Cm.move rfl) rfl ?_
    have hiM : i = M.length := by omega
    subst hiM
    rw [List.take_length] at hM8 ho8 ⊢
    have hT := hMf M.length
    rw [List.take_length] at hT
    obtain ⟨T, hTe⟩ : ∃ T, T = M.flatten := ⟨_, rfl⟩
    rw [← hTe] at hM8 hT ho8 ⊢
    have hfr := frW_8000 hT
    refine Sl.call fn28 rfl (mdoneT_ok A g p T w8 hM8 (by omega)) rfl ?_
    rintro _ w10 ⟨o10, c10, rfl, ho10, hfr10, hf10⟩
    have hF10 := hF8.trans hf10
    refine Sl.calm (Cm.assign rfl) rfl ?_
    refine Sl.nil ?_
    refine At.weak [(0, _), (1, _), (6, _), (7, _), (8, _), (9, _), (10, _), (37, _)] ⟨rfl, rfl, rfl, rfl, rfl, rfl, rfl, rfl, trivial⟩ ?_
    refine At.go ?_
    refine Sc.seq ?_
    refine Sc.region ?_
    refine Sl.calm (Cm.move rfl) rfl ?_
    refine Sl.calm (Cm.move rfl) rfl ?_
    refine Sl.calm (Cm.len sl22 rfl) rfl ?_
    refine Sl.call fn30 rfl (mopenW_ok p o10 c10 T w10 (hF10.obj ht5 id) ho10.vw hT) rfl ?_
    rintro _ w11 ⟨h, rfl, hh, hR11, hf11⟩
    have hF11 := hF10.trans hf11
    have ho11 := (ho8.grow hf10).grow hf11
    have hz11 := hf11.size
    refine Sl.calm (Cm.assign rfl) rfl ?_
    refine Sl.nil ?_
    refine At.weak [(0, _), (1, _), (6, _), (7, _), (8, _), (9, _), (10, _), (11, _), (37, _)] ⟨rfl, rfl, rfl, rfl, rfl, rfl, rfl, rfl, rfl, trivial⟩ ?_
    refine At.go ?_
    refine Sc.seq ?_
    refine Sc.seq ?_
    refine Sc.region ?_
    refine Sl.calm (Cm.move rfl) rfl ?_
    refine Sl.calm (Cm.eqlPtrNil ptr55 rfl rfl) rfl ?_
    refine Sl.nil ?_
    refine At.weak [(0, _), (1, _), (6, _), (7, _), (8, _), (9, _), (10, _), (11, _), (37, _), (59, _)] ⟨rfl, rfl, rfl, rfl, rfl, rfl, rfl, rfl, rfl, rfl, trivial⟩ ?_
    refine At.go ?_
    refine Sc.cond_f rfl ?_
    refine Sc.skip ?_
    refine At.go ?_
    refine Sc.seq ?_
    refine Sc.region ?_
    refine Sl.calm (Cm.move rfl) rfl ?_
    refine Sl.calm (Cm.remW rfl rfl (by decide)) rfl ?_
    have hmod := few_mod n
    obtain ⟨r, hr⟩ : ∃ r : Int, r = n.tmod 300 := ⟨_, rfl⟩
    rw [← hr]
    rw [← hr] at hmod
    refine Sl.calm (Cm.assign rfl) rfl ?_
    refine Sl.nil ?_
    refine At.weak [(0, _), (1, _), (6, _), (7, _), (8, _), (9, _), (10, _), (11, _), (12, _), (37, _), (59, _)] ⟨rfl, rfl, rfl, rfl, rfl, rfl, rfl, rfl, rfl, rfl, rfl, trivial⟩ ?_
    refine At.go ?_
    refine Sc.cut (β := Nat) (fun f0 => [(0, .slice ro gs.length rc), (8, .slice o8 T.length c8), (11, .pointer (some ⟨h, 0, none⟩)), (12, .int .i64 f0)]) (fun f0 w => f0 ≤ 299 ∧ w = w11) ?_ ?_
    ·
      refine Sc.seq ?_
      refine Sc.region ?_
      refine Sl.calm (Cm.move rfl) rfl ?_
      refine Sl.fork (Cm.lss rfl rfl) rfl (fun h63 => ?_) (fun h63 => ?_)
      ·
        refine Sl.nil ?_
        refine At.weak [(0, _), (1, _), (6, _), (7, _), (8, _), (9, _), (10, _), (11, _), (12, _), (37, _), (59, _), (63, _)] ⟨rfl, rfl, rfl, rfl, rfl, rfl, rfl, rfl, rfl, rfl, rfl, rfl, trivial⟩ ?_
        refine At.go ?_
        refine Sc.cond_t rfl ?_
        refine Sc.region ?_
        refine Sl.calm (Cm.move rfl) rfl ?_
        refine Sl.calm (Cm.neg64 rfl (by omega)) rfl ?_
        refine Sl.calm (Cm.assign rfl) rfl ?_
        refine Sl.nil ?_
        exact At.cut r.natAbs ⟨rfl, rfl, rfl, by show some (Value.int .i64 _) = some (Value.int .i64 _); congr 2; omega, trivial⟩ ⟨by omega, rfl⟩
      ·
        refine Sl.nil ?_
        refine At.weak [(0, _), (1, _), (6, _), (7, _), (8, _), (9, _), (10, _), (11, _), (12, _), (37, _), (59, _), (63, _)] ⟨rfl, rfl, rfl, rfl, rfl, rfl, rfl, rfl, rfl, rfl, rfl, rfl, trivial⟩ ?_
        refine At.go ?_
        refine Sc.cond_f rfl ?_
        refine Sc.skip ?_
        exact At.cut r.natAbs ⟨rfl, rfl, rfl, by show some (Value.int .i64 _) = some (Value.int .i64 _); congr 2; omega, trivial⟩ ⟨by omega, rfl⟩
    ·
      rintro f0 wq ⟨hf0, hwq⟩
      subst wq
      refine Sc.seq ?_
      refine Sc.region ?_
      refine Sl.calm (Cm.move rfl) rfl ?_
      refine Sl.calm (Cm.add64 rfl rfl (by omega)) rfl ?_
      refine Sl.calm (Cm.assign rfl) rfl ?_
      refine Sl.nil ?_
      refine At.weak [(0, _), (8, _), (11, _), (12, _)] ⟨rfl, rfl, rfl, rfl, trivial⟩ ?_
      refine At.go ?_
      refine Sc.seq ?_
      refine Sc.region ?_
      refine Sl.calm (Cm.assign rfl) rfl ?_
      refine Sl.nil ?_
      refine At.go ?_
      refine Sc.seq ?_
      refine Sc.region ?_
      refine Sl.lit0 b8 sl22 rfl ?_
      intro w12 ho12 hs12 hf12
      refine Sl.calm (Cm.assign rfl) rfl ?_
      refine Sl.nil ?_
      refine At.weak [(0, _), (8, _), (11, _), (12, _), (13, _), (14, _)] ⟨rfl, rfl, rfl, rfl, rfl, rfl, trivial⟩ ?_
      refine At.go ?_
      refine Sc.seq ?_
      refine Sc.block ?_
      obtain ⟨few, hfew⟩ : ∃ few, few = f0 + 1 := ⟨_, rfl⟩
      refine Sc.loop (β := Nat × ((Nat → Prop) × (Option Addr × Nat))) (fun ⟨j, ⟨R, ⟨o13, c13⟩⟩⟩ => [(8, .slice o8 T.length c8), (11, .pointer (some ⟨h, 0, none⟩)), (12, .int .i64 few), (13, .int .i64 (refT T j : Nat)), (14, .slice o13 (T.take j).length c13)]) (fun ⟨j, ⟨R, ⟨o13, c13⟩⟩⟩ w => j ≤ T.length ∧ MrO R w.heap h p (frW T (nF T)) 0 ((frW T (nF T)).length : Nat) ∧ (∀ k, R k → w10.heap.size ≤ k ∧ k < w.heap.size) ∧ Own b8 5 w.heap o13 c13 (T.take j) ∧ Fr w10.heap.size o13 ∧ (∀ a, o13 = some a → ¬ R a.block) ∧ Foot nob w10 w) (fun ⟨j, ⟨R, ⟨o13, c13⟩⟩⟩ => T.length - j) ⟨0, ⟨fun k => w10.heap.size ≤ k ∧ k < w11.heap.size, ⟨some ⟨w11.heap.size, 0, none⟩, 0⟩⟩⟩ ⟨rfl, rfl, (by show some (Value.int .i64 _) = some (Value.int .i64 _); congr 2; omega), rfl, rfl, trivial⟩ ⟨Nat.zero_le _, hR11.grow hf12, (fun k hk => ⟨hk.1, by have := hk.2; omega⟩), by simpa using ho12, (fr_at _).mono hz11, (fun a ha h => by cases ha; exact absurd h.2 (by simp)), hf11.trans hf12⟩ ?_
      rintro ⟨j, ⟨R, ⟨o13, c13⟩⟩⟩ w13 ⟨hj0, hR13, hRd, ho13, hfr13, hRo, hF13⟩
      have htl : (T.take j).length = j := by rw [List.length_take]; omega
      refine Sc.seq ?_
      refine Sc.seq ?_
      refine Sc.region ?_
      refine Sl.calm (Cm.move rfl) rfl ?_
      refine Sl.calm (Cm.len sl22 rfl) rfl ?_
      refine Sl.calm (Cm.move rfl) rfl ?_
      refine Sl.calm (Cm.len sl22 rfl) rfl ?_
      refine Sl.fork (Cm.lss rfl rfl) rfl (fun h73 => ?_) (fun h73 => ?_)
      ·
        have hjT : j < T.length := by omega
        refine Sl.nil ?_
        refine At.weak [(8, _), (11, _), (12, _), (13, _), (14, _), (73, _)] ⟨rfl, rfl, rfl, rfl, rfl, rfl, trivial⟩ ?_
        refine At.go ?_
        refine Sc.cond_t rfl ?_
        refine Sc.skip ?_
        refine At.go ?_
        refine Sc.block ?_
        refine Sc.seq ?_
        refine Sc.region ?_
        refine Sl.calm (Cm.move rfl) rfl ?_
        refine Sl.calm (Cm.move rfl) rfl ?_
        refine Sl.calm (Cm.len sl22 rfl) rfl ?_
        refine Sl.calm (Cm.move rfl) rfl ?_
        refine Sl.calm (Cm.len sl22 rfl) rfl ?_
        refine Sl.calm (Cm.sub64 rfl rfl (by omega)) rfl ?_
        refine Sl.calm (Cm.ofEq (u := .int .i64 (min few (T.length - j) : Nat)) (Cm.min2 rfl rfl) (by congr 1; omega)) rfl ?_
        obtain ⟨q, hq⟩ : ∃ q, q = min few (T.length - j) := ⟨_, rfl⟩
        rw [← hq]
        have hq2 : 0 < q ∧ j + q ≤ T.length := by omega
        refine Sl.calm (Cm.assign rfl) rfl ?_
        refine Sl.nil ?_
        refine At.weak [(8, _), (11, _), (12, _), (13, _), (14, _), (15, _), (73, _)] ⟨rfl, rfl, rfl, rfl, rfl, rfl, rfl, trivial⟩ ?_
        refine At.go ?_
        refine Sc.seq ?_
        refine Sc.region ?_
        refine Sl.calm (Cm.move rfl) rfl ?_
        refine Sl.calm (Cm.move rfl) rfl ?_
        refine Sl.calm (Cm.move rfl) rfl ?_
        refine Sl.call fn31 rfl (mreadA_ok R h p (frW T (nF T)) 0 _ (refT T j : Nat) (q : Nat) w13 hR13 (by omega) (by have := refT_b (T := T) (o := j) (by omega); omega) (by omega)) rfl ?_
        rw [read_W0 hq2.2]
        intro _ w14 hP
        have hP : ∃ o c, _ = Value.tuple #[.slice o ((T.drop j).take q).length c, .int .i64 (refT T (j + q) : Nat), .int .i64 0] ∧ Own b8 5 w14.heap o c ((T.drop j).take q) ∧ Fr w13.heap.size o ∧ MrO (fun k => Nx R w13 w14 k ∧ ¬ blk o k) w14.heap h p (frW T (nF T)) 0 ((frW T (nF T)).length : Nat) ∧ Foot R w13 w14 := hP
        obtain ⟨o14, c14, rfl, ho14, hfr14, hR14, hF14⟩ := hP
        have hz14 := hF14.size
        have hql : ((T.drop j).take q).length = q := by rw [List.length_take, List.length_drop]; omega
        have ho1314 := ho13.keep hF14 (fun a ha e => hRo a ha e)
        have hl13 := ho13.lt
        have hF1014 : Foot nob w10 w14 := hF13.trans_to hF14 (fun k hk => .inr (hRd k hk).1)
        refine Sl.calm (Cm.move rfl) rfl ?_
        refine Sl.calm (Cm.extract rfl rfl) rfl ?_
        refine Sl.calm (Cm.extract rfl rfl) rfl ?_
        refine Sl.calm (Cm.extract rfl rfl) rfl ?_
        refine Sl.calm (Cm.assign rfl) rfl ?_
        refine Sl.calm (Cm.assign rfl) rfl ?_
        refine Sl.calm (Cm.assign rfl) rfl ?_
        refine Sl.nil ?_
        refine At.weak [(8, _), (11, _), (12, _), (13, _), (14, _), (15, _), (16, _), (17, _), (18, _), (73, _)] ⟨rfl, rfl, rfl, rfl, rfl, rfl, rfl, rfl, rfl, rfl, trivial⟩ ?_
        refine At.go ?_
        refine Sc.seq ?_
        refine Sc.seq ?_
        refine Sc.region ?_
        refine Sl.calm (Cm.move rfl) rfl ?_
        refine Sl.calm (Cm.no (Cm.neq rfl rfl) (fun h => h rfl)) rfl ?_
        refine Sl.calm (Cm.move rfl) rfl ?_
        refine Sl.want rfl rfl (Cm.move rfl) rfl ?_
        refine Sl.want rfl rfl (Cm.len sl22 rfl) rfl ?_
        refine Sl.want rfl rfl (Cm.move rfl) rfl ?_
        refine Sl.want rfl rfl (Cm.no (Cm.neq rfl rfl) (by rw [hql]; exact fun h => h rfl)) rfl ?_
        refine Sl.calm (Cm.pick_f rfl rfl) rfl ?_
        refine Sl.nil ?_
        refine At.weak [(8, _), (11, _), (12, _), (13, _), (14, _), (15, _), (16, _), (17, _), (18, _), (73, _), (96, _)] ⟨rfl, rfl, rfl, rfl, rfl, rfl, rfl, rfl, rfl, rfl, rfl, trivial⟩ ?_
        refine At.go ?_
        refine Sc.cond_f rfl ?_
        refine Sc.skip ?_
        refine At.go ?_
        refine Sc.seq ?_
        refine Sc.region ?_
        refine Sl.calm (Cm.move rfl) rfl ?_
        refine Sl.calm (Cm.move rfl) rfl ?_
        refine Sl.append b8_one sl22 rfl rfl ho1314 ho14.vw (by rw [hql, List.length_take]; omega) (by rw [hql, List.length_take]; unfold maxLen; omega) rfl ?_
        intro o15 c15 w15 ho15 hf15 hr15 hn15
        have hz15 := hf15.size
        have e15 : T.take j ++ (T.drop j).take q = T.take (j + q) := by rw [List.take_add]
        rw [e15] at ho15 ⊢
        have hR15 := hR14.keep hf15 (fun k hk ⟨a, ha, e⟩ => by have h1 := hl13 a ha; rcases hk.1 with h2 | h2; exact hRo a ha (e ▸ h2); have := h2.1; omega) (fun ⟨a, ha, e⟩ => by have := hfr13 a ha; have := (hF5.trans hF10).size; have := hF10.size; omega)
        have hF1015 : Foot nob w10 w15 := hF1014.trans_to hf15 (fun k ⟨a, ha, e⟩ => .inr (by have := hfr13 a ha; omega))
        refine Sl.calm (Cm.assign rfl) rfl ?_
        refine Sl.nil ?_
        refine At.weak [(8, _), (11, _), (12, _), (13, _), (14, _), (15, _), (16, _), (17, _), (18, _), (73, _), (96, _)] ⟨rfl, rfl, rfl, rfl, rfl, rfl, rfl, rfl, rfl, rfl, rfl, trivial⟩ ?_
        refine At.go ?_
        refine Sc.region ?_
        refine Sl.calm (Cm.move rfl) rfl ?_
        refine Sl.calm (Cm.assign rfl) rfl ?_
        refine Sl.nil ?_
        refine At.block_normal ?_
        exact At.again ⟨j + q, ⟨fun k => Nx R w13 w14 k ∧ ¬ blk o14 k, ⟨o15, c15⟩⟩⟩ ⟨rfl, rfl, rfl, rfl, rfl, trivial⟩ ⟨hq2.2, hR15, (fun k hk => by rcases hk.1 with h2 | h2; have := hRd k h2; exact ⟨this.1, by omega⟩; have h3 := h2.1; have h4 := h2.2; have := hF13.size; exact ⟨by omega, by omega⟩), ho15, fr_next hfr13 hr15 hF1014.size, (fun a ha hk => by rcases hr15 a ha with h1 | h1; rcases hk.1 with h2 | h2; exact hRo a h1 h2; have := hl13 a h1; have := h2.1; omega; rcases hk.1 with h2 | h2; have := (hRd _ h2).2; omega; have := h2.2; omega), hF1015⟩ (by show T.length - (j + q) < T.length - j; omega)
      ·
        have hj : j = T.length := by omega
        subst hj
        refine Sl.nil ?_
        refine At.weak [(8, _), (11, _), (12, _), (13, _), (14, _), (73, _)] ⟨rfl, rfl, rfl, rfl, rfl, rfl, trivial⟩ ?_
        refine At.go ?_
        refine Sc.cond_f rfl ?_
        refine Sc.exit ?_
        refine At.then_exit ?_
        refine At.then_exit ?_
        refine At.block_hit ?_
        refine At.go ?_
        refine Sc.seq ?_
        refine Sc.region ?_
        refine Sl.calm (Cm.move rfl) rfl ?_
        refine Sl.calm (Cm.move rfl) rfl ?_
        refine Sl.call fn31 rfl (mreadA_ok R h p (frW T (nF T)) 0 _ (refT T T.length : Nat) (1 : Nat) w13 hR13 (by omega) (by have := refT_b (T := T) (o := T.length) (by omega); omega) (by decide)) rfl ?_
        rw [read_past0 (Nat.le_refl _) (by omega)]
        rintro _ w14 ⟨o14, c14, rfl, ho14, hfr14, hR14, hF14⟩
        have hF1014 : Foot nob w10 w14 := hF13.trans_to hF14 (fun k hk => .inr (hRd k hk).1)
        have ho1314 := ho13.keep hF14 (fun a ha e => hRo a ha e)
        refine Sl.calm (Cm.move rfl) rfl ?_
        refine Sl.calm (Cm.extract rfl rfl) rfl ?_
        refine Sl.calm (Cm.extract rfl rfl) rfl ?_
        refine Sl.calm (Cm.extract rfl rfl) rfl ?_
        refine Sl.calm (Cm.assign rfl) rfl ?_
        refine Sl.calm (Cm.assign rfl) rfl ?_
        refine Sl.calm (Cm.assign rfl) rfl ?_
        refine Sl.nil ?_
        refine At.weak [(8, _), (11, _), (12, _), (13, _), (14, _), (21, _), (73, _)] ⟨rfl, rfl, rfl, rfl, rfl, rfl, rfl, trivial⟩ ?_
        refine At.go ?_
        refine Sc.seq ?_
        refine Sc.region ?_
        refine Sl.calm (Cm.move rfl) rfl ?_
        refine Sl.calm (Cm.strIn sl22 ty5 ty9 rfl ho1314.vw) rfl ?_
        refine Sl.calm (Cm.move rfl) rfl ?_
        refine Sl.calm (Cm.strIn sl22 ty5 ty9 rfl ((ho8.grow hf10).grow hF1014).vw) rfl ?_
        refine Sl.calm (Cm.yes (Cm.eqlBs rfl rfl) (by rw [List.take_length])) rfl ?_
        refine Sl.calm (Cm.move rfl) rfl ?_
        refine Sl.want rfl rfl (Cm.move rfl) rfl ?_
        refine Sl.want rfl rfl (Cm.yes (Cm.eql rfl rfl) rfl) rfl ?_
        refine Sl.calm (Cm.pick_t rfl rfl) rfl ?_
        refine Sl.calm (Cm.assign rfl) rfl ?_
        refine Sl.nil ?_
        refine At.weak [(4, _), (8, _), (11, _), (12, _), (13, _), (14, _), (21, _), (73, _)] ⟨rfl, rfl, rfl, rfl, rfl, rfl, rfl, rfl, trivial⟩ ?_
        refine At.go ?_
        refine Sc.ret ?_
        refine At.ret1 rfl rfl ?_
        exact ⟨_, rfl, rfl, (hF5.trans hF10).trans hF1014⟩
end Go.Proofs.Ytlpfahmkjgompaa
