/- meta: the laws on rows that are read back, on images of any kind. No condition beyond the bounds that each states. -/
import Derived.Test.YtlpfahmkjgompaaMtH
import Derived.Test.YtlpfahmkjgompaaLiftB
namespace Go.Proofs.Ytlpfahmkjgompaa
open Go Go.RowKit
set_option linter.unusedVariables false

theorem i64_one1 (x : Int) : (i64 x).oneCell' = true := rfl
theorem flat_pre (M : List (List UInt8)) (i : Nat) : M.flatten.take (M.take i).flatten.length = (M.take i).flatten := by
  have e : M.flatten = (M.take i).flatten ++ (M.drop i).flatten := by rw [← List.flatten_append, List.take_append_drop]
  rw [e, List.take_left' rfl]
theorem refT_pre (M : List (List UInt8)) (i : Nat) : refT (M.take i).flatten (M.take i).flatten.length = refT M.flatten (M.take i).flatten.length := by
  rw [refT_take (T := M.flatten) (flat_le M i), flat_pre]
theorem flat_mid {M : List (List UInt8)} {i : Nat} (h : i < M.length) : (M.flatten.drop (M.take i).flatten.length).take (M.getD i []).length = M.getD i [] := by
  have e : M.flatten = (M.take i).flatten ++ (M.getD i [] ++ (M.drop (i + 1)).flatten) := by
    conv => lhs; rw [← List.take_append_drop (i + 1) M, List.flatten_append, flat_take h, List.append_assoc]
  rw [e, List.drop_left' rfl, List.take_left' rfl]
/-- the refs of the first k rows -/
def refsL (M : List (List UInt8)) (k : Nat) : List Int := (List.range k).map fun j => ((refT M.flatten (M.take j).flatten.length : Nat) : Int)
theorem refsL_len (M : List (List UInt8)) (k : Nat) : (refsL M k).length = k := by simp [refsL]
theorem refsL_snoc (M : List (List UInt8)) (k : Nat) : refsL M (k + 1) = refsL M k ++ [((refT M.flatten (M.take k).flatten.length : Nat) : Int)] := by simp [refsL, List.range_succ]
theorem refsL_at {M : List (List UInt8)} {k i : Nat} (h : i < k) : (refsL M k).getD i 0 = ((refT M.flatten (M.take i).flatten.length : Nat) : Int) := by
  simp [refsL, List.getD, h]

theorem cutN5 {α : Type} {ao : Option Addr} {c n : Nat} {b : List α} (h : (n : Int) < (b.length : Int)) (s : Nat) : some (Value.slice (cutAo ao c 0 s) n c) = some (.slice ao (b.take n).length c) := by
  rw [cutAo_zero, List.length_take, Nat.min_eq_left (by omega)]
theorem nocutN5 {α : Type} {ao : Option Addr} {c n : Nat} {b : List α} (h : ¬ (n : Int) < (b.length : Int)) : some (Value.slice ao b.length c) = some (.slice ao (b.take n).length c) := by
  rw [List.take_of_length_le (by omega)]
theorem cellH_of8 {e : TypeId} {H : Array Obj} {o : Option Addr} {c : Nat} {xs : List Int} (ho : Own i64 e H o c xs) {i : Nat} (hi : i < xs.length) : cellH H (adr o i) = some (i64 (xs.getD i 0)) := ho.vw.gd 0 hi

set_option maxHeartbeats 4000000 in
theorem metaBack_ok (D0 : Nat → Prop) (ao : Option Addr) (cap : Nat) (hs : List Hd) (L : List (List UInt8)) (bo : Option Addr) (bc : Nat) (b0 : List UInt8) (W : World) (hv : Vw hd W.heap ao cap hs) (hr : RowsV D0 W.heap hs L) (hD0 : ∀ k, D0 k → k < W.heap.size) (hvb0 : Vw b8 W.heap bo bc b0) :
    Calls Try.prog 10 [.slice ao hs.length cap, .slice bo b0.length bc].toArray W (Ret fun v w' => v = .bool true ∧ Foot nob W w') := by
  obtain ⟨M, hM⟩ : ∃ M, M = M40 L := ⟨_, rfl⟩
  have hMl : M.length = min 20 L.length := by rw [hM, M40_len]
  have hMs : ∀ b ∈ M, b.length ≤ 400 := by rw [hM]; exact M40_small L
  have hMf : ∀ i, (M.take i).flatten.length ≤ 8000 := by rw [hM]; exact M40_flat L
  obtain ⟨b, hb⟩ : ∃ b, b = b0.take 200 := ⟨_, rfl⟩
  have hbl : b.length ≤ 200 := by rw [hb, List.length_take]; omega
  have hvb : Vw b8 W.heap bo bc b := by rw [hb]; exact hvb0.take 200
  have hle0 := hvb0.le
  obtain ⟨T, hTe⟩ : ∃ T, T = M.flatten := ⟨_, rfl⟩
  have hT : T.length ≤ 8000 := by have := hMf M.length; rw [List.take_length] at this; rw [hTe]; exact this
  have hfr := frW_8000 hT
  refine calls_of_sc 118 [(0, _), (1, _)] Try.func10 rfl rfl rfl (enter_slots ⟨rfl, rfl, trivial⟩) ?_
  refine Sc.seq ?_
  refine Sc.region ?_
  refine Sl.calm (Cm.assign rfl) rfl ?_
  refine Sl.nil ?_
  refine At.go ?_
  refine Sc.seq ?_
  refine Sc.region ?_
  refine Sl.call fn23 rfl (shown05_ok W) rfl ?_
  rintro _ w1 ⟨rfl, hf1⟩
  refine Sl.calm (Cm.assign rfl) rfl ?_
  refine Sl.nil ?_
  refine At.weak [(0, _), (1, _), (4, _), (5, _)] ⟨rfl, rfl, rfl, rfl, trivial⟩ ?_
  refine At.go ?_
  refine Sc.seq ?_
  refine Sc.region ?_
  refine Sl.calm (Cm.move rfl) rfl ?_
  refine Sl.call fn24 rfl (rows_ok D0 ao cap hs L w1 (hv.grow hf1) (hr.keep hf1 (fun _ _ => id))) rfl ?_
  rintro _ w2 ⟨ro, rc, gs, rfl, hro2, hgs2, hrf2, hf2⟩
  rw [← hM] at hgs2
  have hgl := hgs2.1
  have hz1 := hf1.size
  have hz2 := hf2.size
  refine Sl.calm (Cm.assign rfl) rfl ?_
  refine Sl.nil ?_
  refine At.weak [(0, _), (1, _), (4, _), (5, _)] ⟨rfl, rfl, rfl, rfl, trivial⟩ ?_
  refine At.go ?_
  refine Sc.cut (β := Unit) (fun _u => [(0, .slice ro gs.length rc), (1, .slice bo b.length bc), (5, .bool true)]) (fun _u w => w = w2) ?_ ?_
  ·
    refine Sc.seq ?_
    refine Sc.region ?_
    refine Sl.calm (Cm.move rfl) rfl ?_
    refine Sl.calm (Cm.len sl22 rfl) rfl ?_
    refine Sl.fork (Cm.gtr rfl rfl) rfl (fun h22 => ?_) (fun h22 => ?_)
    ·
      refine Sl.nil ?_
      refine At.weak [(0, _), (1, _), (4, _), (5, _), (22, _)] ⟨rfl, rfl, rfl, rfl, rfl, trivial⟩ ?_
      refine At.go ?_
      refine Sc.cond_t rfl ?_
      refine Sc.region ?_
      refine Sl.calm (Cm.move rfl) rfl ?_
      refine Sl.calm (Cm.sliceH sl22 rfl rfl (by omega)) rfl ?_
      refine Sl.calm (Cm.assign rfl) rfl ?_
      refine Sl.nil ?_
      refine At.cut () ⟨rfl, by rw [hb]; exact cutN5 (n := 200) (by omega) 1, rfl, trivial⟩ rfl
    ·
      refine Sl.nil ?_
      refine At.weak [(0, _), (1, _), (4, _), (5, _), (22, _)] ⟨rfl, rfl, rfl, rfl, rfl, trivial⟩ ?_
      refine At.go ?_
      refine Sc.cond_f rfl ?_
      refine Sc.skip ?_
      refine At.cut () ⟨rfl, by rw [hb]; exact nocutN5 (n := 200) (by omega), rfl, trivial⟩ rfl
  ·
    rintro _ wq hwq
    subst wq
    refine Sc.seq ?_
    refine Sc.region ?_
    refine Sl.call fn16 rfl (crcnew_ok w2) rfl ?_
    rintro _ w3 ⟨rfl, hf3⟩
    refine Sl.allocC zc27 rfl ?_
    intro w4 hg4 hs4 hf4
    refine Sl.storeAll (vs := tab) aggTab rfl rfl tab_one hg4 (by rw [tab_len, List.length_replicate]) ?_
    intro w5 hg5 hs5 hf5
    obtain ⟨p, hp⟩ : ∃ p, p = w3.heap.size := ⟨_, rfl⟩
    have hF25 : Foot nob w2 w5 := (hf3.trans hf4).trans_to hf5 (fun k hk => .inr (by have h : k = w3.heap.size := hk; have := hf3.size; omega))
    rw [← hp] at hg5 ⊢
    have ht5 : TbV w5.heap p := hg5
    have hF5 := (hf1.trans hf2).trans hF25
    have hpl := (Array.getElem?_eq_some_iff.1 ht5).1
    refine Sl.nil ?_
    refine At.weak [(0, _), (1, _), (5, _), (6, _)] ⟨rfl, rfl, rfl, rfl, trivial⟩ ?_
    refine At.go ?_
    refine Sc.seq ?_
    refine Sc.region ?_
    refine Sl.call fn25 rfl (mnewT_ok p w5 ht5) rfl ?_
    rintro _ w6 ⟨rfl, hM6, hf6⟩
    obtain ⟨g, hg⟩ : ∃ g, g = w5.heap.size := ⟨_, rfl⟩
    rw [← hg]
    rw [← hg] at hM6
    have hz6 := hf6.size
    refine Sl.calm (Cm.assign rfl) rfl ?_
    refine Sl.nil ?_
    refine At.weak [(0, _), (1, _), (5, _), (6, _), (7, _)] ⟨rfl, rfl, rfl, rfl, rfl, trivial⟩ ?_
    refine At.go ?_
    refine Sc.seq ?_
    refine Sc.seq ?_
    refine Sc.region ?_
    refine Sl.calm (Cm.move rfl) rfl ?_
    refine Sl.calm (Cm.not rfl) rfl ?_
    refine Sl.calm (Cm.move rfl) rfl ?_
    refine Sl.want rfl rfl (Cm.move rfl) rfl ?_
    refine Sl.want rfl rfl (Cm.eqlPtrNil ptr47 rfl rfl) rfl ?_
    refine Sl.calm (Cm.pick_f rfl rfl) rfl ?_
    refine Sl.nil ?_
    refine At.weak [(0, _), (1, _), (5, _), (6, _), (7, _), (32, _)] ⟨rfl, rfl, rfl, rfl, rfl, rfl, trivial⟩ ?_
    refine At.go ?_
    refine Sc.cond_f rfl ?_
    refine Sc.skip ?_
    refine At.go ?_
    refine Sc.seq ?_
    refine Sc.region ?_
    refine Sl.lit0 i64 sl54 rfl ?_
    intro w7 ho7 hs7 hf7
    have hM7 := hM6.grow hf7
    have hF57 := hf6.trans hf7
    refine Sl.calm (Cm.assign rfl) rfl ?_
    refine Sl.nil ?_
    refine At.weak [(0, _), (1, _), (5, _), (6, _), (7, _), (8, _), (32, _)] ⟨rfl, rfl, rfl, rfl, rfl, rfl, rfl, trivial⟩ ?_
    refine At.go ?_
    refine Sc.seq ?_
    refine Sc.seq ?_
    refine Sc.region ?_
    refine Sl.calm (Cm.assign rfl) rfl ?_
    refine Sl.nil ?_
    refine At.go ?_
    refine Sc.block ?_
    refine Sc.loop (β := (Nat × (Nat → Prop)) × (Option Addr × Nat)) (fun ⟨⟨i, A⟩, ⟨o8, c8⟩⟩ => [(0, .slice ro gs.length rc), (1, .slice bo b.length bc), (6, .pointer (some ⟨p, 0, none⟩)), (7, .pointer (some ⟨g, 0, none⟩)), (8, .slice o8 (refsL M i).length c8), (9, .int .i64 i)]) (fun ⟨⟨i, A⟩, ⟨o8, c8⟩⟩ w => i ≤ M.length ∧ MwO A w.heap g p (cutW [] (M.take i).flatten).1 (cutW [] (M.take i).flatten).2 ∧ (∀ k, A k → w5.heap.size ≤ k ∧ k < w.heap.size) ∧ Foot nob w5 w ∧ Own i64 3 w.heap o8 c8 (refsL M i) ∧ Fr w5.heap.size o8 ∧ (∀ a, o8 = some a → ¬ A a.block)) (fun ⟨⟨i, A⟩, ⟨o8, c8⟩⟩ => M.length - i) ⟨⟨0, fun k => g ≤ k ∧ k < w6.heap.size⟩, ⟨some ⟨w6.heap.size, 0, none⟩, 0⟩⟩ ⟨rfl, rfl, rfl, rfl, rfl, rfl, trivial⟩ ⟨Nat.zero_le _, by simpa using hM7, (fun k hk => ⟨by have := hk.1; omega, by have := hk.2; omega⟩), hF57, ho7, (fr_at _).mono hz6, (fun a ha h => by cases ha; exact absurd h.2 (by simp))⟩ ?_
    rintro ⟨⟨i, A⟩, ⟨o8, c8⟩⟩ w8 ⟨hi, hM8, hA, hF8, ho8, hfr8, hao⟩
    refine Sc.seq ?_
    refine Sc.seq ?_
    refine Sc.region ?_
    refine Sl.calm (Cm.move rfl) rfl ?_
    refine Sl.calm (Cm.move rfl) rfl ?_
    refine Sl.calm (Cm.len sl44 rfl) rfl ?_
    refine Sl.fork (Cm.lss rfl rfl) rfl (fun h37 => ?_) (fun h37 => ?_)
    ·
      have hiM : i < M.length := by omega
      obtain ⟨x, hx, hxn, hxv, hxD⟩ := hgs2.at hiM
      have hxl := hMs (M.getD i []) (by rw [List.getD, List.getElem?_eq_getElem hiM]; exact List.getElem_mem _)
      have hhd : hd x = .slice x.a (M.getD i []).length x.c := by unfold hd; rw [hxn]
      have hcl0 := hro2.vw.get i x hx
      rw [hhd] at hcl0
      have hn8 := hMf i
      have hn9 := hMf (i + 1)
      refine Sl.nil ?_
      refine At.weak [(0, _), (1, _), (6, _), (7, _), (8, _), (9, _), (37, _)] ⟨rfl, rfl, rfl, rfl, rfl, rfl, rfl, trivial⟩ ?_
      refine At.go ?_
      refine Sc.cond_t rfl ?_
      refine Sc.skip ?_
      refine At.go ?_
      refine Sc.seq ?_
      refine Sc.block ?_
      refine Sc.region ?_
      refine Sl.calm (Cm.move rfl) rfl ?_
      refine Sl.calm (Cm.move rfl) rfl ?_
      refine Sl.calm (Cm.move rfl) rfl ?_
      refine Sl.calm (Cm.move rfl) rfl ?_
      refine Sl.calm (Cm.indexAddr1 sl44 rfl rfl hro2.vw.non (by omega)) rfl ?_
      refine Sl.calm (Cm.ld sca22 rfl (by rw [Int.toNat_natCast]; exact cellH_keep (cellH_keep hcl0 hF25 id) hF8 id)) rfl ?_
      refine Sl.call fn26 rfl (maddT_ok A g p (M.take i).flatten x.a x.c (M.getD i []) w8 hM8 ((hxv.grow hF25).grow hF8) (by omega)) rfl ?_
      rintro _ w9 ⟨rfl, hM9, hF9⟩
      have hz9 := hF9.size
      rw [← flat_take hiM] at hM9
      have hF59 : Foot nob w5 w9 := hF8.trans_to hF9 (fun k hk => .inr (hA k hk).1)
      have hA9 : ∀ k, Nx A w8 w9 k → w5.heap.size ≤ k ∧ k < w9.heap.size := by
        intro k hk
        have hz8 := hF8.size
        rcases hk with hk | hk
        · have := hA k hk; exact ⟨this.1, by omega⟩
        · have h1 := hk.1; have h2 := hk.2; exact ⟨by omega, h2⟩
      have ho9 := ho8.keep hF9 (fun a ha e => hao a ha e)
      rw [refT_pre]
      refine Sl.lit1 (enc := i64) (u := ((refT M.flatten (M.take i).flatten.length : Nat) : Int)) sl54 (i64_one1 _) rfl rfl ?_
      intro wl hol hsl hfl
      refine Sl.append i64_one1 sl54 rfl rfl (ho9.grow hfl) hol.vw (by rw [refsL_len]; simp only [List.length_singleton]; omega) (by rw [refsL_len]; simp only [List.length_singleton]; unfold maxLen; omega) rfl ?_
      intro o10 c10 w10 ho10 hf10 hr10 hn10
      rw [← refsL_snoc] at ho10 ⊢
      have hzl := hfl.size
      have hz10 := hf10.size
      have hl8 := ho8.lt
      have hM10 := (hM9.grow hfl).keep hf10 (fun k hk ⟨a, ha, e⟩ => by have h8 := hl8 a ha; rcases hk with hk | hk; exact hao a ha (e ▸ hk); have := hk.1; omega) (fun ⟨a, ha, e⟩ => by have := hfr8 a ha; omega)
      have hF510 : Foot nob w5 w10 := (hF59.trans hfl).trans_to hf10 hfr8.step
      have hfr10 : Fr w5.heap.size o10 := fr_next hfr8 hr10 (hF59.trans hfl).size
      refine Sl.calm (Cm.assign rfl) rfl ?_
      refine Sl.nil ?_
      refine At.block_normal ?_
      refine At.weak [(0, _), (1, _), (6, _), (7, _), (8, _), (9, _), (37, _)] ⟨rfl, rfl, rfl, rfl, rfl, rfl, rfl, trivial⟩ ?_
      refine At.go ?_
      refine Sc.region ?_
      refine Sl.calm (Cm.move rfl) rfl ?_
      refine Sl.calm (Cm.add64 rfl rfl (by omega)) rfl ?_
      refine Sl.calm (Cm.assign rfl) rfl ?_
      refine Sl.nil ?_
      exact At.again ⟨⟨i + 1, Nx A w8 w9⟩, ⟨o10, c10⟩⟩ ⟨rfl, rfl, rfl, rfl, rfl, rfl, trivial⟩ ⟨by omega, hM10, (fun k hk => ⟨(hA9 k hk).1, by have := (hA9 k hk).2; omega⟩), hF510, ho10, hfr10, (fun a ha h => by rcases hr10 a ha with h1 | h1; rcases h with h | h; exact hao a h1 h; have := hl8 a h1; have := h.1; omega; have := (hA9 _ h).2; omega)⟩ (by show M.length - (i + 1) < M.length - i; omega)
    ·
      refine Sl.nil ?_
      refine At.weak [(0, _), (1, _), (6, _), (7, _), (8, _), (9, _), (37, _)] ⟨rfl, rfl, rfl, rfl, rfl, rfl, rfl, trivial⟩ ?_
      refine At.go ?_
      refine Sc.cond_f rfl ?_
      refine Sc.exit ?_
      refine At.then_exit ?_
      refine At.then_exit ?_
      refine At.block_hit ?_
      refine At.go ?_
      refine Sc.seq ?_
      refine Sc.region ?_
      refine Sl.calm (Cm.move rfl) rfl ?_
      have hiM : i = M.length := by omega
      subst hiM
      rw [List.take_length, ← hTe] at hM8
      refine Sl.call fn28 rfl (mdoneT_ok A g p T w8 hM8 (by omega)) rfl ?_
      rintro _ w10 ⟨o10, c10, rfl, ho10, hfr10, hf10⟩
      have hF10 := hF8.trans hf10
      refine Sl.calm (Cm.assign rfl) rfl ?_
      refine Sl.nil ?_
      refine At.weak [(0, _), (1, _), (6, _), (7, _), (8, _), (9, _), (10, _), (37, _)] ⟨rfl, rfl, rfl, rfl, rfl, rfl, rfl, rfl, trivial⟩ ?_
      refine At.go ?_
      refine Sc.seq ?_
      refine Sc.region ?_
      refine Sl.lit0 b8 sl22 rfl ?_
      intro w11 ho11 hs11 hf11
      refine Sl.calm (Cm.move rfl) rfl ?_
      refine Sl.append b8_one sl22 rfl rfl ho11 ((hvb.grow (hF5.trans hF10)).grow hf11) (by simp only [List.length_nil]; omega) (by simp only [List.length_nil]; unfold maxLen; omega) rfl ?_
      intro o12 c12 w12 ho12 hf12 hr12 hn12
      rw [List.nil_append] at ho12 ⊢
      have hF1012 : Foot nob w10 w12 := hf11.trans_to hf12 (fr_at _).step
      have hfr12 : Fr w10.heap.size o12 := fr_next (fr_at _) hr12 hf11.size
      refine Sl.calm (Cm.move rfl) rfl ?_
      refine Sl.append b8_one sl22 rfl rfl ho12 (ho10.grow hF1012).vw (by omega) (by unfold maxLen; omega) rfl ?_
      intro o13 c13 w13 ho13 hf13 hr13 hn13
      have hF1013 : Foot nob w10 w13 := hF1012.trans_to hf13 hfr12.step
      have hfr13 : Fr w10.heap.size o13 := fr_next hfr12 hr13 hF1012.size
      refine Sl.litG sl22 (cs := (([1, 2, 3] : List UInt8).map b8).toArray) zc5 rfl rfl rfl (by kernel_rfl) rfl ?_
      intro w14 hg14 hs14 hf14
      have ho14 := own_new (e := 5) (enc := b8) (xs := [1, 2, 3]) hg14 (by decide)
      refine Sl.append b8_one sl22 rfl rfl (ho13.grow hf14) ho14.vw (by rw [List.length_append]; show (_ + 3) * 1 ≤ _; omega) (by rw [List.length_append]; show _ + 3 ≤ _; unfold maxLen; omega) rfl ?_
      intro o15 c15 w15 ho15 hf15 hr15 hn15
      have hF1015 : Foot nob w10 w15 := (hF1013.trans hf14).trans_to hf15 hfr13.step
      have e15 : b ++ frW T (nF T) ++ [1, 2, 3] = imW T b [1, 2, 3] := by unfold imW; rw [List.append_assoc]
      rw [e15] at ho15 ⊢
      have hF15 := hF10.trans hF1015
      have him : (imW T b [1, 2, 3]).length ≤ 9000 := by rw [← e15, List.length_append, List.length_append]; show _ + _ + 3 ≤ _; omega
      refine Sl.calm (Cm.assign rfl) rfl ?_
      refine Sl.nil ?_
      refine At.weak [(0, _), (1, _), (6, _), (7, _), (8, _), (9, _), (10, _), (11, _), (37, _)] ⟨rfl, rfl, rfl, rfl, rfl, rfl, rfl, rfl, rfl, trivial⟩ ?_
      refine At.go ?_
      refine Sc.seq ?_
      refine Sc.region ?_
      refine Sl.calm (Cm.move rfl) rfl ?_
      refine Sl.calm (Cm.move rfl) rfl ?_
      refine Sl.calm (Cm.len sl22 rfl) rfl ?_
      refine Sl.calm (Cm.move rfl) rfl ?_
      refine Sl.calm (Cm.len sl22 rfl) rfl ?_
      refine Sl.calm (Cm.move rfl) rfl ?_
      refine Sl.calm (Cm.len sl22 rfl) rfl ?_
      refine Sl.calm (Cm.add64 rfl rfl (by omega)) rfl ?_
      refine Sl.call fn30 rfl (mopenA_ok p o15 c15 (imW T b [1, 2, 3]) b.length (toW T b) w15 (hF15.obj ht5 id) ho15.vw (by omega)) rfl ?_
      rintro _ w16 ⟨h, rfl, hh, hR16, hf16⟩
      have hF16 := hF15.trans hf16
      have hz16 := hf16.size
      have hzz := hF15.size
      refine Sl.calm (Cm.assign rfl) rfl ?_
      refine Sl.nil ?_
      refine At.weak [(0, _), (1, _), (6, _), (7, _), (8, _), (9, _), (10, _), (11, _), (12, _), (37, _)] ⟨rfl, rfl, rfl, rfl, rfl, rfl, rfl, rfl, rfl, rfl, trivial⟩ ?_
      refine At.go ?_
      refine Sc.seq ?_
      refine Sc.seq ?_
      refine Sc.region ?_
      refine Sl.calm (Cm.move rfl) rfl ?_
      refine Sl.calm (Cm.eqlPtrNil ptr55 rfl rfl) rfl ?_
      refine Sl.nil ?_
      refine At.weak [(0, _), (1, _), (6, _), (7, _), (8, _), (9, _), (10, _), (11, _), (12, _), (37, _), (68, _)] ⟨rfl, rfl, rfl, rfl, rfl, rfl, rfl, rfl, rfl, rfl, rfl, trivial⟩ ?_
      refine At.go ?_
      refine Sc.cond_f rfl ?_
      refine Sc.skip ?_
      refine At.go ?_
      refine Sc.seq ?_
      refine Sc.seq ?_
      refine Sc.region ?_
      refine Sl.calm (Cm.assign rfl) rfl ?_
      refine Sl.nil ?_
      refine At.go ?_
      refine Sc.block ?_
      refine Sc.loop (β := Nat × (Nat → Prop)) (fun ⟨j, R⟩ => [(0, .slice ro gs.length rc), (8, .slice o8 (refsL M M.length).length c8), (12, .pointer (some ⟨h, 0, none⟩)), (13, .int .i64 j)]) (fun ⟨j, R⟩ w => j ≤ M.length ∧ MrO R w.heap h p (imW T b [1, 2, 3]) b.length (toW T b) ∧ (∀ k, R k → w15.heap.size ≤ k ∧ k < w.heap.size) ∧ Foot nob w15 w) (fun ⟨j, R⟩ => M.length - j) ⟨0, fun k => w15.heap.size ≤ k ∧ k < w16.heap.size⟩ ⟨rfl, rfl, rfl, rfl, trivial⟩ ⟨Nat.zero_le _, hR16, (fun k hk => hk), hf16⟩ ?_
      rintro ⟨j, R⟩ w17 ⟨hj, hR17, hRd, hF17⟩
      refine Sc.seq ?_
      refine Sc.seq ?_
      refine Sc.region ?_
      refine Sl.calm (Cm.move rfl) rfl ?_
      refine Sl.calm (Cm.move rfl) rfl ?_
      refine Sl.calm (Cm.len sl44 rfl) rfl ?_
      refine Sl.fork (Cm.lss rfl rfl) rfl (fun h72 => ?_) (fun h72 => ?_)
      ·
        have hjM : j < M.length := by omega
        obtain ⟨x, hx, hxn, hxv, hxD⟩ := hgs2.at hjM
        have hxl := hMs (M.getD j []) (by rw [List.getD, List.getElem?_eq_getElem hjM]; exact List.getElem_mem _)
        have hhd : hd x = .slice x.a (M.getD j []).length x.c := by unfold hd; rw [hxn]
        have hcl0 := hro2.vw.get j x hx
        rw [hhd] at hcl0
        have hF17a := hF15.trans hF17
        have hoff := flat_le M (j + 1)
        rw [flat_take hjM, List.length_append, ← hTe] at hoff
        have hcell : cellH w17.heap (adr ro j) = some (.slice x.a (M.getD j []).length x.c) := cellH_keep (cellH_keep hcl0 hF25 id) hF17a id
        have hrf := ((ho8.grow hf10).grow hF1015).grow hF17
        have hrl := refsL_len M M.length
        have hrc : cellH w17.heap (adr o8 j) = some (.int .i64 (refT T (M.take j).flatten.length : Nat)) := by have := hrf.vw.gd 0 (i := j) (by omega); rwa [refsL_at hjM, ← hTe] at this
        have hrd := read_W T b [1, 2, 3] hoff
        have hmid := flat_mid hjM
        rw [← hTe] at hmid
        rw [hmid] at hrd
        refine Sl.nil ?_
        refine At.weak [(0, _), (8, _), (12, _), (13, _), (72, _)] ⟨rfl, rfl, rfl, rfl, rfl, trivial⟩ ?_
        refine At.go ?_
        refine Sc.cond_t rfl ?_
        refine Sc.skip ?_
        refine At.go ?_
        refine Sc.seq ?_
        refine Sc.block ?_
        refine Sc.seq ?_
        refine Sc.draw 18 (fun H => cellH H (adr o8 j) = some (.int .i64 (refT T (M.take j).flatten.length : Nat)) ∧ cellH H (adr ro j) = some (.slice x.a (M.getD j []).length x.c)) [10] [0, 1, 2, 3, 4, 5, 6, 7, 8, 9, 10, 11, 12, 13, 14, 15, 16, 17] mixed (by kernel_rfl) (⟨hrc, hcell⟩) ?_
        refine Sx.calm rfl rfl (Cm.move rfl) rfl ?_
        refine Sx.calm rfl rfl (Cm.move rfl) rfl ?_
        refine Sx.calm rfl rfl (Cm.move rfl) rfl ?_
        refine Sx.calm rfl rfl (Cm.indexAddr1 sl54 rfl rfl hrf.vw.non (by omega)) rfl ?_
        refine Sx.calm rfl rfl (Cm.load sca3 rfl (fun H hH => by rw [Int.toNat_natCast]; exact hH.1)) rfl ?_
        refine Sx.calm rfl rfl (Cm.move rfl) rfl ?_
        refine Sx.calm rfl rfl (Cm.move rfl) rfl ?_
        refine Sx.calm rfl rfl (Cm.indexAddr1 sl44 rfl rfl hro2.vw.non (by omega)) rfl ?_
        refine Sx.calm rfl rfl (Cm.load sca22 rfl (fun H hH => by rw [Int.toNat_natCast]; exact hH.2)) rfl ?_
        refine Sx.calm rfl rfl (Cm.len sl22 rfl) rfl ?_
        refine Sx.eff rfl rfl (Sl.call fn31 rfl (mreadA_ok R h p (imW T b [1, 2, 3]) b.length (toW T b) (refT T (M.take j).flatten.length : Nat) ((M.getD j []).length : Nat) _ (hR17.grow (Foot.ofDraws 1)) (by omega) (by have := refT_b (T := T) (o := (M.take j).flatten.length) (by omega); omega) (by omega)) rfl ?_)
        rw [hrd]
        intro _ w18 hP
        have hP : ∃ o c, _ = Value.tuple #[.slice o (M.getD j []).length c, .int .i64 (refT T ((M.take j).flatten.length + (M.getD j []).length) : Nat), .int .i64 0] ∧ Own b8 5 w18.heap o c (M.getD j []) ∧ Fr w17.heap.size o ∧ MrO (fun k => Nx R w17 w18 k ∧ ¬ blk o k) w18.heap h p (imW T b [1, 2, 3]) b.length (toW T b) ∧ Foot R (w17.drewN 1) w18 := hP
        obtain ⟨o18, c18, rfl, ho18, hfr18, hR18, hF18⟩ := hP
        have hF18 := hF18.undraw
        have hF1518 : Foot nob w15 w18 := hF17.trans_to hF18 (fun k hk => .inr (hRd k hk).1)
        refine Sx.on (by exact ⟨cellH_keep hrc hF18 (fun e => by have h1 := (hRd _ e).1; have h2 := cellH_lt (cellH_of8 (i := j) ho8 (by omega)); have := (hf10.trans hF1015).size; omega), cellH_keep hcell hF18 (fun e => by have h1 := (hRd _ e).1; have h2 := cellH_lt hcl0; have := hF25.size; omega)⟩) ?_
        have hz18 := hF18.size
        have hF18a := hF15.trans hF1518
        have hcell18 : cellH w18.heap (adr ro j) = some (.slice x.a (M.getD j []).length x.c) := cellH_keep (cellH_keep hcl0 hF25 id) hF18a id
        have hrf18 := ((ho8.grow hf10).grow hF1015).grow hF1518
        refine Sx.calm rfl rfl (Cm.move rfl) rfl ?_
        refine Sx.calm rfl rfl (Cm.extract rfl rfl) rfl ?_
        refine Sx.calm rfl rfl (Cm.extract rfl rfl) rfl ?_
        refine Sx.calm rfl rfl (Cm.extract rfl rfl) rfl ?_
        refine Sx.calm rfl rfl (Cm.assign rfl) rfl ?_
        refine Sx.calm rfl rfl (Cm.assign rfl) rfl ?_
        refine Sx.calm rfl rfl (Cm.assign rfl) rfl ?_
        refine Sx.nil ?_
        refine At.weak [(0, _), (8, _), (12, _), (13, _), (14, _), (15, _), (16, _), (72, _)] ⟨rfl, rfl, rfl, rfl, rfl, rfl, rfl, rfl, trivial⟩ ?_
        refine At.go ?_
        refine Sc.seq ?_
        refine Sc.quiet 28 [0, 1, 2, 3, 4, 5, 6, 7, 8, 9, 10, 11, 12, 13, 14, 15, 16, 17, 18, 19, 20, 21, 22, 23, 24, 25, 26, 27] mixed (by kernel_rfl) ?_
        refine Sx.calm rfl rfl (Cm.move rfl) rfl ?_
        refine Sx.calm rfl rfl (Cm.no (Cm.neq rfl rfl) (fun h => h rfl)) rfl ?_
        refine Sx.calm rfl rfl (Cm.move rfl) rfl ?_
        refine Sx.want rfl rfl rfl rfl (Cm.move rfl) rfl ?_
        refine Sx.want rfl rfl rfl rfl (Cm.strIn sl22 ty5 ty9 rfl ho18.vw) rfl ?_
        refine Sx.want rfl rfl rfl rfl (Cm.move rfl) rfl ?_
        refine Sx.want rfl rfl rfl rfl (Cm.move rfl) rfl ?_
        refine Sx.want rfl rfl rfl rfl (Cm.indexAddr1 sl44 rfl rfl hro2.vw.non (by omega)) rfl ?_
        refine Sx.want rfl rfl rfl rfl (Cm.ld sca22 rfl (by rw [Int.toNat_natCast]; exact hcell18)) rfl ?_
        refine Sx.want rfl rfl rfl rfl (Cm.strIn sl22 ty5 ty9 rfl ((hxv.grow hF25).grow hF18a)) rfl ?_
        refine Sx.want rfl rfl rfl rfl (Cm.no (Cm.neqBs rfl rfl) (fun h => h rfl)) rfl ?_
        refine Sx.calm rfl rfl (Cm.pick_f rfl rfl) rfl ?_
        refine Sx.calm rfl rfl (Cm.move rfl) rfl ?_
        refine Sx.want rfl rfl rfl rfl (Cm.move rfl) rfl ?_
        refine Sx.want rfl rfl rfl rfl (Cm.add64 rfl rfl (by omega)) rfl ?_
        refine Sx.want rfl rfl rfl rfl (Cm.move rfl) rfl ?_
        refine Sx.want rfl rfl rfl rfl (Cm.len sl44 rfl) rfl ?_
        refine Sx.forkWant rfl rfl rfl rfl (Cm.lss rfl rfl) rfl (fun h107 => ?_) (fun h107 => ?_)
        ·
          have hj1 : j + 1 < M.length := by omega
          have hrc1 : cellH w18.heap (adr o8 (j + 1)) = some (.int .i64 (refT T (M.take (j + 1)).flatten.length : Nat)) := by have := hrf18.vw.gd 0 (i := j + 1) (by omega); rwa [refsL_at hj1, ← hTe] at this
          refine Sx.want rfl rfl rfl rfl (Cm.move rfl) rfl ?_
          refine Sx.want rfl rfl rfl rfl (Cm.move rfl) rfl ?_
          refine Sx.want rfl rfl rfl rfl (Cm.move rfl) rfl ?_
          refine Sx.want rfl rfl rfl rfl (Cm.move rfl) rfl ?_
          refine Sx.want rfl rfl rfl rfl (Cm.add64 rfl rfl (by omega)) rfl ?_
          refine Sx.want rfl rfl rfl rfl (Cm.indexAddr1 sl54 rfl rfl hrf18.vw.non (by omega)) rfl ?_
          refine Sx.want rfl rfl rfl rfl (Cm.ld sca3 rfl (by rw [show ((j : Int) + 1).toNat = j + 1 by omega]; exact hrc1)) rfl ?_
          refine Sx.want rfl rfl rfl rfl (Cm.no (Cm.neq rfl rfl) (by rw [flat_take hjM, List.length_append]; exact fun h => h rfl)) rfl ?_
          refine Sx.want rfl rfl rfl rfl (Cm.pick_t rfl rfl) rfl ?_
          refine Sx.calm rfl rfl (Cm.pick_f rfl rfl) rfl ?_
          refine Sx.nil ?_
          refine At.weak [(0, _), (8, _), (12, _), (13, _), (14, _), (15, _), (16, _), (72, _), (117, _)] ⟨rfl, rfl, rfl, rfl, rfl, rfl, rfl, rfl, rfl, trivial⟩ ?_
          refine At.go ?_
          refine Sc.cond_f rfl ?_
          refine Sc.skip ?_
          refine At.block_normal ?_
          refine At.go ?_
          refine Sc.region ?_
          refine Sl.calm (Cm.move rfl) rfl ?_
          refine Sl.calm (Cm.add64 rfl rfl (by omega)) rfl ?_
          refine Sl.calm (Cm.assign rfl) rfl ?_
          refine Sl.nil ?_
          exact At.again ⟨j + 1, fun k => Nx R w17 w18 k ∧ ¬ blk o18 k⟩ ⟨rfl, rfl, rfl, rfl, trivial⟩ ⟨by omega, hR18.grow (Foot.ofDraws 1), (fun k hk => by rcases hk.1 with h2 | h2; have := hRd k h2; exact ⟨this.1, by show k < w18.heap.size; omega⟩; have h3 := h2.1; have h4 := h2.2; have := hF17.size; exact ⟨by omega, h4⟩), hF1518.draws 1⟩ (by show M.length - (j + 1) < M.length - j; omega)
        ·
          refine Sx.want rfl rfl rfl rfl (Cm.move rfl) rfl ?_
          refine Sx.skip rfl rfl rfl rfl rfl rfl ?_
          refine Sx.skip rfl rfl rfl rfl rfl rfl ?_
          refine Sx.skip rfl rfl rfl rfl rfl rfl ?_
          refine Sx.skip rfl rfl rfl rfl rfl rfl ?_
          refine Sx.skip rfl rfl rfl rfl rfl rfl ?_
          refine Sx.skip rfl rfl rfl rfl rfl rfl ?_
          refine Sx.skip rfl rfl rfl rfl rfl rfl ?_
          refine Sx.want rfl rfl rfl rfl (Cm.pick_f rfl rfl) rfl ?_
          refine Sx.calm rfl rfl (Cm.pick_f rfl rfl) rfl ?_
          refine Sx.nil ?_
          refine At.weak [(0, _), (8, _), (12, _), (13, _), (14, _), (15, _), (16, _), (72, _), (117, _)] ⟨rfl, rfl, rfl, rfl, rfl, rfl, rfl, rfl, rfl, trivial⟩ ?_
          refine At.go ?_
          refine Sc.cond_f rfl ?_
          refine Sc.skip ?_
          refine At.block_normal ?_
          refine At.go ?_
          refine Sc.region ?_
          refine Sl.calm (Cm.move rfl) rfl ?_
          refine Sl.calm (Cm.add64 rfl rfl (by omega)) rfl ?_
          refine Sl.calm (Cm.assign rfl) rfl ?_
          refine Sl.nil ?_
          exact At.again ⟨j + 1, fun k => Nx R w17 w18 k ∧ ¬ blk o18 k⟩ ⟨rfl, rfl, rfl, rfl, trivial⟩ ⟨by omega, hR18.grow (Foot.ofDraws 1), (fun k hk => by rcases hk.1 with h2 | h2; have := hRd k h2; exact ⟨this.1, by show k < w18.heap.size; omega⟩; have h3 := h2.1; have h4 := h2.2; have := hF17.size; exact ⟨by omega, h4⟩), hF1518.draws 1⟩ (by show M.length - (j + 1) < M.length - j; omega)
      ·
        refine Sl.nil ?_
        refine At.weak [(0, _), (8, _), (12, _), (13, _), (72, _)] ⟨rfl, rfl, rfl, rfl, rfl, trivial⟩ ?_
        refine At.go ?_
        refine Sc.cond_f rfl ?_
        refine Sc.exit ?_
        refine At.then_exit ?_
        refine At.then_exit ?_
        refine At.block_hit ?_
        refine At.go ?_
        refine Sc.seq ?_
        refine Sc.region ?_
        refine Sl.calm (Cm.assign rfl) rfl ?_
        refine Sl.nil ?_
        refine At.go ?_
        refine Sc.ret ?_
        refine At.ret1 rfl rfl ?_
        exact ⟨_, rfl, rfl, (hF5.trans hF15).trans hF17⟩
end Go.Proofs.Ytlpfahmkjgompaa
