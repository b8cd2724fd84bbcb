/- inode: the law on records in a row. No condition beyond the bounds that each states. -/
import Derived.Test.YtoaplldahbbaiaaIrAk
import Derived.Test.YtoaplldahbbaiaaIrQk
namespace Go.Proofs.Ytoaplldahbbaiaa
open Go Go.RowKit
set_option linter.unusedVariables false

theorem ino_at {H : Array Obj} {ao : Option Addr} {c : Nat} {L : List Ino} (h : VwM 11 inoV H ao c L) (k : Nat) {z : Int} (hz : z = k) (hk : k < L.length) :
    ∀ j v, (inoC (L.getD k ino0).1 (L.getD k ino0).2)[j]? = some v → cellH H ((adr ao (z.toNat * 11)).add j) = some v := by
  have e : L[k]? = some (L.getD k ino0) := by simp [List.getD, hk]
  exact h.rowZ k hz e
theorem i64_oneC (x : Int) : (i64 x).oneCell' = true := rfl
theorem putI_may' {F : Nat → Int} {T : List UInt8} : (putI F T).2 = 0 ↔ mayI F T := by unfold putI; split <;> simp_all
theorem putI_eq' {F : Nat → Int} {T : List UInt8} (h : mayI F T) : (putI F T).1 = (rEnd F T).2 := by unfold putI; rw [if_pos h]
set_option maxHeartbeats 4000000 in
theorem inodeRows_ok (lo : Option Addr) (lc : Nat) (L : List Ino) (W : World) (hl0 : VwM 11 inoV W.heap lo lc L) (hT0 : ∀ x ∈ L, x.2.length ≤ maxLen) :
    Calls Try.prog 13 [.slice lo L.length lc].toArray W (Ret fun v w' => v = .bool true ∧ Foot nob W w') := by
  have hll := hl0.len63
  refine calls_of_sc 114 [(0, _)] Try.func13 rfl rfl rfl (enter_slots ⟨rfl, trivial⟩) ?_
  refine Sc.seq ?_
  refine Sc.region ?_
  refine Sl.calm (Cm.assign rfl) rfl ?_
  refine Sl.nil ?_
  refine At.go ?_
  refine Sc.seq ?_
  refine Sc.region ?_
  refine Sl.call fn20 rfl (shown09_ok W) rfl ?_
  rintro _ w1 ⟨rfl, hf1⟩
  refine Sl.calm (Cm.assign rfl) rfl ?_
  refine Sl.nil ?_
  refine At.weak [(0, _), (2, _), (3, _)] ⟨rfl, rfl, rfl, trivial⟩ ?_
  refine At.go ?_
  refine Sc.seq ?_
  refine Sc.region ?_
  refine Sl.call fn27 rfl (crcnew_ok w1) rfl ?_
  rintro _ w3 ⟨rfl, hf3⟩
  refine Sl.allocC zc42 rfl ?_
  intro w4 hg4 hs4 hf4
  refine Sl.storeAll (vs := tab) aggTab rfl rfl tab_one hg4 (by rw [tab_len, List.length_replicate]) ?_
  intro w5 hg5 hs5 hf5
  obtain ⟨p, hp⟩ : ∃ p, p = w3.heap.size := ⟨_, rfl⟩
  have hF5 : Foot nob W w5 := ((hf1.trans hf3).trans hf4).trans_to hf5 (fun k hk => .inr (by have h : k = w3.heap.size := hk; have := (hf1.trans hf3).size; omega))
  rw [← hp] at hg5 ⊢
  have ht5 : TbV w5.heap p := hg5
  have hpl := (Array.getElem?_eq_some_iff.1 ht5).1
  refine Sl.nil ?_
  refine At.weak [(0, _), (2, _), (3, _), (4, _)] ⟨rfl, rfl, rfl, rfl, trivial⟩ ?_
  refine At.go ?_
  refine Sc.seq ?_
  refine Sc.region ?_
  refine Sl.call fn39 rfl (mnewT_ok p w5 ht5) rfl ?_
  rintro _ w6 ⟨rfl, hM6, hf6⟩
  obtain ⟨g, hg⟩ : ∃ g, g = w5.heap.size := ⟨_, rfl⟩
  rw [← hg]
  rw [← hg] at hM6
  have hz6 := hf6.size
  refine Sl.calm (Cm.assign rfl) rfl ?_
  refine Sl.nil ?_
  refine At.weak [(0, _), (2, _), (3, _), (4, _), (5, _)] ⟨rfl, rfl, rfl, rfl, rfl, trivial⟩ ?_
  refine At.go ?_
  refine Sc.seq ?_
  refine Sc.seq ?_
  refine Sc.region ?_
  refine Sl.calm (Cm.move rfl) rfl ?_
  refine Sl.calm (Cm.not rfl) rfl ?_
  refine Sl.calm (Cm.move rfl) rfl ?_
  refine Sl.want rfl rfl (Cm.move rfl) rfl ?_
  refine Sl.want rfl rfl (Cm.eqlPtrNil ptr74 rfl rfl) rfl ?_
  refine Sl.calm (Cm.pick_f rfl rfl) rfl ?_
  refine Sl.nil ?_
  refine At.weak [(0, _), (2, _), (3, _), (4, _), (5, _), (25, _)] ⟨rfl, rfl, rfl, rfl, rfl, rfl, trivial⟩ ?_
  refine At.go ?_
  refine Sc.cond_f rfl ?_
  refine Sc.skip ?_
  refine At.go ?_
  refine Sc.seq ?_
  refine Sc.region ?_
  refine Sl.lit0M inoV_cells sl79 rfl ?_
  intro wa hoa hsa hfa
  have hza := hfa.size
  obtain ⟨qa, hqa⟩ : ∃ qa, qa = w6.heap.size := ⟨_, rfl⟩
  rw [← hqa] at hoa ⊢
  refine Sl.calm (Cm.assign rfl) rfl ?_
  refine Sl.nil ?_
  refine At.weak [(0, _), (2, _), (3, _), (4, _), (5, _), (6, _), (25, _)] ⟨rfl, rfl, rfl, rfl, rfl, rfl, rfl, trivial⟩ ?_
  refine At.go ?_
  refine Sc.seq ?_
  refine Sc.region ?_
  refine Sl.lit0 i64 sl22 rfl ?_
  intro wb hob hsb hfb
  have hMb := (hM6.grow hfa).grow hfb
  have hF5b := (hf6.trans hfa).trans hfb
  have hoab := hoa.grow hfb
  obtain ⟨qb, hqb⟩ : ∃ qb, qb = wa.heap.size := ⟨_, rfl⟩
  rw [← hqb] at hob ⊢
  refine Sl.calm (Cm.assign rfl) rfl ?_
  refine Sl.nil ?_
  refine At.weak [(0, _), (2, _), (3, _), (4, _), (5, _), (6, _), (7, _), (25, _)] ⟨rfl, rfl, rfl, rfl, rfl, rfl, rfl, rfl, trivial⟩ ?_
  refine At.go ?_
  refine Sc.seq ?_
  refine Sc.seq ?_
  refine Sc.region ?_
  refine Sl.calm (Cm.assign rfl) rfl ?_
  refine Sl.nil ?_
  refine At.go ?_
  refine Sc.block ?_
  refine Sc.loop (β := (Nat × (Nat → Prop)) × ((Option Addr × Nat) × (Option Addr × Nat))) (fun ⟨⟨i, A⟩, ⟨⟨o6, c6⟩, ⟨o7, c7⟩⟩⟩ => [(0, .slice lo L.length lc), (4, .pointer (some ⟨p, 0, none⟩)), (5, .pointer (some ⟨g, 0, none⟩)), (6, .slice o6 (mayK (L.take i)).length c6), (7, .slice o7 (refsA (rowM (L.take i))).length c7), (8, .int .i64 i)]) (fun ⟨⟨i, A⟩, ⟨⟨o6, c6⟩, ⟨o7, c7⟩⟩⟩ w => i ≤ 20 ∧ i ≤ L.length ∧ MwO A w.heap g p (cutW [] (rowM (L.take i)).flatten).1 (cutW [] (rowM (L.take i)).flatten).2 ∧ (∀ k, A k → w5.heap.size ≤ k ∧ k < w.heap.size) ∧ Foot nob w5 w ∧ OwnM 11 inoV 33 w.heap o6 c6 (mayK (L.take i)) ∧ Own i64 3 w.heap o7 c7 (refsA (rowM (L.take i))) ∧ Fr w5.heap.size o6 ∧ Fr w5.heap.size o7 ∧ (∀ a, o6 = some a → ¬ A a.block) ∧ (∀ a, o7 = some a → ¬ A a.block) ∧ (∀ a b, o6 = some a → o7 = some b → b.block ≠ a.block)) (fun ⟨⟨i, A⟩, ⟨⟨o6, c6⟩, ⟨o7, c7⟩⟩⟩ => 20 - i) ⟨⟨0, fun k => g ≤ k ∧ k < w6.heap.size⟩, ⟨⟨some ⟨qa, 0, none⟩, 0⟩, ⟨some ⟨qb, 0, none⟩, 0⟩⟩⟩ ⟨rfl, rfl, rfl, rfl, rfl, rfl, trivial⟩ ⟨Nat.zero_le _, Nat.zero_le _, by simpa [rowM, mayK] using hMb, (fun k hk => ⟨by have := hk.1; omega, by have := hk.2; omega⟩), hF5b, by simpa [mayK] using hoab, by simpa [rowM, mayK, refsA] using hob, (fun a ha => by cases ha; show w5.heap.size ≤ qa; omega), (fun a ha => by cases ha; show w5.heap.size ≤ qb; omega), (fun a ha h => by cases ha; have h2 : qa < w6.heap.size := h.2; omega), (fun a ha h => by cases ha; have h2 : qb < w6.heap.size := h.2; omega), (fun a b ha hb e => by cases ha; cases hb; have e : qb = qa := e; omega)⟩ ?_
  rintro ⟨⟨i, A⟩, ⟨⟨o6, c6⟩, ⟨o7, c7⟩⟩⟩ w8 ⟨hi, hiL0, hM8, hA, hF8, ho6, ho7, hfr6, hfr7, hao6, hao7, hap⟩
  have hz8 := hF8.size
  refine Sc.seq ?_
  refine Sc.seq ?_
  refine Sc.region ?_
  refine Sl.calm (Cm.move rfl) rfl ?_
  refine Sl.calm (Cm.move rfl) rfl ?_
  refine Sl.calm (Cm.len sl79 rfl) rfl ?_
  refine Sl.fork (Cm.lss rfl rfl) rfl (fun h31 => ?_) (fun h31 => ?_)
  ·
    have hiL : i < L.length := by omega
    have hl8 := hl0.grow (hF5.trans hF8)
    have hrow8 := ino_at hl8 i rfl hiL
    obtain ⟨x, hx⟩ : ∃ x, x = L.getD i ino0 := ⟨_, rfl⟩
    have hxT : x.2.length ≤ maxLen := hT0 x (by rw [hx, List.getD, List.getElem?_eq_getElem hiL]; exact List.getElem_mem _)
    rw [← hx] at hrow8
    refine Sl.calm (Cm.move rfl) rfl ?_
    refine Sl.want rfl rfl (Cm.move rfl) rfl ?_
    refine Sl.forkWant rfl rfl (Cm.lss rfl rfl) rfl (fun h34 => ?_) (fun h34 => ?_)
    ·
      refine Sl.calm (Cm.pick_t rfl rfl) rfl ?_
      refine Sl.nil ?_
      refine At.weak [(0, _), (4, _), (5, _), (6, _), (7, _), (8, _), (35, _)] ⟨rfl, rfl, rfl, rfl, rfl, rfl, rfl, trivial⟩ ?_
      refine At.go ?_
      refine Sc.cond_t rfl ?_
      refine Sc.skip ?_
      refine At.go ?_
      refine Sc.seq ?_
      refine Sc.block ?_
      refine Sc.seq ?_
      refine Sc.region ?_
      refine Sl.calm (Cm.move rfl) rfl ?_
      refine Sl.calm (Cm.move rfl) rfl ?_
      refine Sl.calm (Cm.indexAddr sl79 rfl rfl hl8.non (by omega)) rfl ?_
      refine Sl.calm (Cm.ldM (cs := inoC x.1 x.2) agg33 rfl hrow8) rfl ?_
      refine Sl.call fn21 rfl (put_ok x.1 x.2 w8 hxT) rfl ?_
      rintro _ w9 ⟨o9, c9, rfl, ho9, hfr9, hf9⟩
      have hz9 := hf9.size
      have hM9 := hM8.grow hf9
      have ho69 := ho6.grow hf9
      have ho79 := ho7.grow hf9
      have hF9 := hF8.trans hf9
      refine Sl.calm (Cm.move rfl) rfl ?_
      refine Sl.calm (Cm.extract rfl rfl) rfl ?_
      refine Sl.calm (Cm.extract rfl rfl) rfl ?_
      refine Sl.calm (Cm.assign rfl) rfl ?_
      refine Sl.calm (Cm.assign rfl) rfl ?_
      refine Sl.nil ?_
      refine At.weak [(0, _), (4, _), (5, _), (6, _), (7, _), (8, _), (9, _), (10, _), (35, _)] ⟨rfl, rfl, rfl, rfl, rfl, rfl, rfl, rfl, rfl, trivial⟩ ?_
      refine At.go ?_
      refine Sc.seq ?_
      refine Sc.region ?_
      refine Sl.calm (Cm.move rfl) rfl ?_
      refine Sl.fork (Cm.eql rfl rfl) rfl (fun h47 => ?_) (fun h47 => ?_)
      ·
        have hm : mayI x.1 x.2 := putI_may'.1 h47
        have hmL : mayI (L.getD i ino0).1 (L.getD i ino0).2 := by rw [← hx]; exact hm
        have eK := mayK_yes hiL hmL
        have eM := rowM_yes hiL hmL
        rw [← hx] at eK eM
        have hen := encI_len hm
        have ep : (putI x.1 x.2).1 = encI x := putI_eq' hm
        rw [ep] at ho9
        have hl9 := hl0.grow (hF5.trans hF9)
        have hrow9 := ino_at hl9 i rfl hiL
        rw [← hx] at hrow9
        have hKb := mayK_le (L.take i)
        have hMb2 := rowM_b (L.take i)
        rw [List.length_take] at hKb hMb2
        refine Sl.nil ?_
        refine At.weak [(0, _), (4, _), (5, _), (6, _), (7, _), (8, _), (9, _), (10, _), (35, _), (47, _)] ⟨rfl, rfl, rfl, rfl, rfl, rfl, rfl, rfl, rfl, rfl, trivial⟩ ?_
        refine At.go ?_
        refine Sc.cond_t rfl ?_
        refine Sc.seq ?_
        refine Sc.region ?_
        refine Sl.calm (Cm.move rfl) rfl ?_
        refine Sl.calm (Cm.move rfl) rfl ?_
        refine Sl.calm (Cm.move rfl) rfl ?_
        refine Sl.calm (Cm.indexAddr sl79 rfl rfl hl9.non (by omega)) rfl ?_
        refine Sl.calm (Cm.ldM (cs := inoC x.1 x.2) agg33 rfl hrow9) rfl ?_
        refine Sl.litG sl79 (cs := (inoC x.1 x.2).toArray) zc33 rfl rfl rfl (by kernel_rfl) rfl ?_
        intro w10 hg10 hs10 hf10
        have ho10 : OwnM 11 inoV 33 w10.heap (some ⟨w9.heap.size, 0, none⟩) 1 [x] := ownM_new (xs := [x]) inoV_cells hg10 (by show 1 ≤ maxLen; decide)
        refine Sl.appendM inoV_cells rfl sl79 rfl rfl (ho69.grow hf10) (ho10.vw inoV_cells) (by simp only [List.length_singleton]; omega) (by simp only [List.length_singleton]; unfold maxLen; omega) rfl ?_
        intro o11 c11 w11 ho11 hf11 hr11 hn11
        rw [← eK] at ho11 ⊢
        have hz10 := hf10.size
        have hz11 := hf11.size
        have hl6 := ho6.lt
        have hl7 := ho7.lt
        have hM11 := (hM9.grow hf10).keep hf11 (fun k hk ⟨a, ha, e⟩ => hao6 a ha (e ▸ hk)) (fun ⟨a, ha, e⟩ => by have := hfr6 a ha; omega)
        have ho711 := (ho79.grow hf10).keep hf11 (fun a ha ⟨b, hb, e⟩ => hap b a hb ha e.symm)
        have hF11 : Foot nob w5 w11 := (hF9.trans hf10).trans_to hf11 hfr6.step
        refine Sl.calm (Cm.assign rfl) rfl ?_
        refine Sl.nil ?_
        refine At.weak [(0, _), (4, _), (5, _), (6, _), (7, _), (8, _), (9, _), (10, _), (35, _), (47, _)] ⟨rfl, rfl, rfl, rfl, rfl, rfl, rfl, rfl, rfl, rfl, trivial⟩ ?_
        refine At.go ?_
        refine Sc.region ?_
        refine Sl.calm (Cm.move rfl) rfl ?_
        refine Sl.calm (Cm.move rfl) rfl ?_
        refine Sl.calm (Cm.move rfl) rfl ?_
        refine Sl.call fn40 rfl (by rw [ep]; exact maddT_ok A g p (rowM (L.take i)).flatten o9 c9 (encI x) w11 hM11 ((ho9.grow hf10).keep hf11 (fun a ha ⟨b, hb, e⟩ => by have h1 := hfr9 a ha; have h2 := hl6 b hb; omega)).vw (by omega)) rfl ?_
        rintro _ w12 ⟨rfl, hM12, hF12⟩
        have hz12 := hF12.size
        have e12 : (rowM (L.take i)).flatten ++ encI x = (rowM (L.take (i + 1))).flatten := by rw [eM, List.flatten_append]; simp
        rw [e12] at hM12
        have ho12 := ho11.keep hF12 (fun a ha e => by rcases hr11 a ha with h | h; exact hao6 a h e; have := (hA _ e).2; omega)
        have ho712 := ho711.keep hF12 (fun a ha e => hao7 a ha e)
        have hF512 : Foot nob w5 w12 := hF11.trans_to hF12 (fun k hk => .inr (hA k hk).1)
        refine Sl.lit1 (enc := i64) (u := ((refT (rowM (L.take i)).flatten (rowM (L.take i)).flatten.length : Nat) : Int)) sl22 (i64_oneC _) rfl rfl ?_
        intro wl hol hsl hfl
        refine Sl.append i64_oneC sl22 rfl rfl (ho712.grow hfl) hol.vw (by rw [refsA_len, rowM_len]; simp only [List.length_singleton]; omega) (by rw [refsA_len, rowM_len]; simp only [List.length_singleton]; unfold maxLen; omega) rfl ?_
        intro o14 c14 w14 ho14 hf14 hr14 hn14
        rw [← refsA_snoc, ← eM] at ho14 ⊢
        have hzl := hfl.size
        have hz14 := hf14.size
        have ho614 := (ho12.grow hfl).keep hf14 (fun a ha ⟨b, hb, e⟩ => by rcases hr11 a ha with h | h; exact hap a b h hb e; have := hl7 b hb; omega)
        have hM14 := (hM12.grow hfl).keep hf14 (fun k hk ⟨a, ha, e⟩ => by have h8 := hl7 a ha; rcases hk with hk | hk; exact hao7 a ha (e ▸ hk); have := hk.1; omega) (fun ⟨a, ha, e⟩ => by have := hfr7 a ha; omega)
        have hF14 : Foot nob w5 w14 := (hF512.trans hfl).trans_to hf14 hfr7.step
        refine Sl.calm (Cm.assign rfl) rfl ?_
        refine Sl.nil ?_
        refine At.block_normal ?_
        refine At.weak [(0, _), (4, _), (5, _), (6, _), (7, _), (8, _), (9, _), (10, _), (35, _), (47, _)] ⟨rfl, rfl, rfl, rfl, rfl, rfl, rfl, rfl, rfl, rfl, trivial⟩ ?_
        refine At.go ?_
        refine Sc.region ?_
        refine Sl.calm (Cm.move rfl) rfl ?_
        refine Sl.calm (Cm.add64 rfl rfl (by omega)) rfl ?_
        refine Sl.calm (Cm.assign rfl) rfl ?_
        refine Sl.nil ?_
        exact At.again ⟨⟨i + 1, Nx A w11 w12⟩, ⟨⟨o11, c11⟩, ⟨o14, c14⟩⟩⟩ ⟨rfl, rfl, rfl, rfl, rfl, rfl, trivial⟩ ⟨by omega, by omega, hM14, (fun k hk => by rcases hk with h | h; have := hA k h; exact ⟨this.1, by omega⟩; have h1 := h.1; have h2 := h.2; exact ⟨by omega, by omega⟩), hF14, ho614, ho14, (fun a ha => by rcases hr11 a ha with h | h; exact hfr6 a h; omega), (fun a ha => by rcases hr14 a ha with h | h; exact hfr7 a h; omega), (fun a ha hk => by rcases hr11 a ha with h | h; rcases hk with hk | hk; exact hao6 a h hk; have h1 := hk.1; have h2 := hl6 a h; omega; rcases hk with hk | hk; have := (hA _ hk).2; omega; have h1 := hk.1; have h2 := ho11.lt a ha; omega), (fun a ha hk => by rcases hr14 a ha with h | h; rcases hk with hk | hk; exact hao7 a h hk; have h1 := hk.1; have h2 := hl7 a h; omega; rcases hk with hk | hk; have := (hA _ hk).2; omega; have h2 := hk.2; omega), (fun a b ha hb e => by rcases hr11 a ha with h | h; rcases hr14 b hb with h2 | h2; exact hap a b h h2 e; have := hl6 a h; omega; rcases hr14 b hb with h2 | h2; have := hl7 b h2; omega; have := ho11.lt a ha; omega)⟩ (by show 20 - (i + 1) < 20 - i; omega)
      ·
        have hm : ¬ mayI x.1 x.2 := fun h => h47 (putI_may'.2 h)
        have hmL : ¬ mayI (L.getD i ino0).1 (L.getD i ino0).2 := by rw [← hx]; exact hm
        have eK := mayK_no hiL hmL
        have eM := rowM_no hiL hmL
        refine Sl.nil ?_
        refine At.weak [(0, _), (4, _), (5, _), (6, _), (7, _), (8, _), (9, _), (10, _), (35, _), (47, _)] ⟨rfl, rfl, rfl, rfl, rfl, rfl, rfl, rfl, rfl, rfl, trivial⟩ ?_
        refine At.go ?_
        refine Sc.cond_f rfl ?_
        refine Sc.skip ?_
        refine At.block_normal ?_
        refine At.go ?_
        refine Sc.region ?_
        refine Sl.calm (Cm.move rfl) rfl ?_
        refine Sl.calm (Cm.add64 rfl rfl (by omega)) rfl ?_
        refine Sl.calm (Cm.assign rfl) rfl ?_
        refine Sl.nil ?_
        exact At.again ⟨⟨i + 1, A⟩, ⟨⟨o6, c6⟩, ⟨o7, c7⟩⟩⟩ ⟨rfl, rfl, rfl, by rw [eK]; rfl, by rw [eM]; rfl, rfl, trivial⟩ ⟨by omega, by omega, by rw [eM]; exact hM9, (fun k hk => by have := hA k hk; exact ⟨this.1, by omega⟩), hF9, by rw [eK]; exact ho69, by rw [eM]; exact ho79, hfr6, hfr7, hao6, hao7, hap⟩ (by show 20 - (i + 1) < 20 - i; omega)
    ·
      refine Sl.calm (Cm.pick_t rfl rfl) rfl ?_
      refine Sl.nil ?_
      refine At.weak [(0, _), (4, _), (5, _), (6, _), (7, _), (8, _), (35, _)] ⟨rfl, rfl, rfl, rfl, rfl, rfl, rfl, trivial⟩ ?_
      refine At.go ?_
      refine Sc.cond_f rfl ?_
      refine Sc.exit ?_
      refine At.then_exit ?_
      refine At.then_exit ?_
      refine At.block_hit ?_
      refine At.go ?_
      refine Sc.seq ?_
      refine Sc.region ?_
      refine Sl.calm (Cm.move rfl) rfl ?_
      have hM8b := rowM_b (L.take i)
      rw [List.length_take] at hM8b
      have hKb := mayK_le (L.take i)
      rw [List.length_take] at hKb
      obtain ⟨K, hK⟩ : ∃ K, K = mayK (L.take i) := ⟨_, rfl⟩
      obtain ⟨M, hM⟩ : ∃ M, M = rowM (L.take i) := ⟨_, rfl⟩
      have hMK : M = K.map encI := by rw [hM, hK]; rfl
      have hKm : ∀ j, j < K.length → mayI (K.getD j ino0).1 (K.getD j ino0).2 := fun j hj => by rw [hK] at hj ⊢; exact mayK_at hj
      rw [← hM] at hM8b hM8 ho7
      rw [← hK] at ho6 hKb
      refine Sl.make b8 (0 : UInt8) sl25 z5 rfl rfl rfl (by omega) (by omega) (by omega) (by omega) rfl ?_
      intro w9 ho9 hs9 hf9
      have hkn : (20 : Int).toNat = 20 := rfl
      rw [hkn] at ho9 ⊢
      obtain ⟨z, hz⟩ : ∃ z, z = List.replicate 20 (0 : UInt8) := ⟨_, rfl⟩
      rw [← hz] at ho9
      have hzl : z.length = 20 := by rw [hz]; simp
      obtain ⟨T, hT⟩ : ∃ T, T = M.flatten ++ z := ⟨_, rfl⟩
      have hTl : T.length = M.flatten.length + 20 := by rw [hT, List.length_append, hzl]
      refine Sl.call fn40 rfl (by rw [show (20 : Nat) = z.length from hzl.symm]; exact maddT_ok A g p M.flatten _ _ z w9 (hM8.grow hf9) (by rw [hzl]; exact ho9.vw) (by omega)) rfl ?_
      rintro _ w10 ⟨rfl, hM10, hF10⟩
      rw [← hT] at hM10
      have hz9 := hf9.size
      have hz10 := hF10.size
      have ho610 := (ho6.grow hf9).keep hF10 (fun a ha e => hao6 a ha e)
      have ho710 := (ho7.grow hf9).keep hF10 (fun a ha e => hao7 a ha e)
      have hF510 : Foot nob w5 w10 := (hF8.trans hf9).trans_to hF10 (fun k hk => .inr (hA k hk).1)
      refine Sl.nil ?_
      refine At.weak [(0, _), (4, _), (5, _), (6, _), (7, _), (8, _), (35, _)] ⟨rfl, rfl, rfl, rfl, rfl, rfl, rfl, trivial⟩ ?_
      refine At.go ?_
      refine Sc.seq ?_
      refine Sc.region ?_
      refine Sl.calm (Cm.move rfl) rfl ?_
      refine Sl.call fn41 rfl (mdoneT_ok _ g p T w10 hM10 (by omega)) rfl ?_
      rintro _ w11 ⟨o11, c11, rfl, ho11, hfr11, hf11⟩
      have hF511 := hF510.trans hf11
      have ho611 := ho610.grow hf11
      have ho711 := ho710.grow hf11
      obtain ⟨im, him⟩ : ∃ im, im = frW T (nF T) := ⟨_, rfl⟩
      have himl := frW_le T (nF T)
      have hnF : nF T ≤ 40 := by unfold nF; omega
      rw [← him] at ho11 himl ⊢
      refine Sl.calm (Cm.assign rfl) rfl ?_
      refine Sl.nil ?_
      refine At.weak [(0, _), (4, _), (5, _), (6, _), (7, _), (8, _), (11, _), (35, _)] ⟨rfl, rfl, rfl, rfl, rfl, rfl, rfl, rfl, trivial⟩ ?_
      refine At.go ?_
      refine Sc.seq ?_
      refine Sc.region ?_
      refine Sl.calm (Cm.move rfl) rfl ?_
      refine Sl.calm (Cm.move rfl) rfl ?_
      refine Sl.calm (Cm.len sl25 rfl) rfl ?_
      refine Sl.call fn28 rfl (mopenA_ok p o11 c11 im 0 im.length w11 (hF511.obj ht5 id) ho11.vw (by omega)) rfl ?_
      rintro _ w12 ⟨h, rfl, hh, hR12, hf12⟩
      have hz12 := hf12.size
      have hz511 := hF511.size
      have hl6 := ho6.lt
      have hl7 := ho7.lt
      have hMl : M.length = K.length := by rw [hMK, List.length_map]
      rw [← hM, ← hK]
      refine Sl.calm (Cm.assign rfl) rfl ?_
      refine Sl.nil ?_
      refine At.weak [(0, _), (4, _), (5, _), (6, _), (7, _), (8, _), (11, _), (12, _), (35, _)] ⟨rfl, rfl, rfl, rfl, rfl, rfl, rfl, rfl, rfl, trivial⟩ ?_
      refine At.go ?_
      refine Sc.seq ?_
      refine Sc.seq ?_
      refine Sc.region ?_
      refine Sl.calm (Cm.move rfl) rfl ?_
      refine Sl.calm (Cm.eqlPtrNil ptr44 rfl rfl) rfl ?_
      refine Sl.nil ?_
      refine At.weak [(0, _), (4, _), (5, _), (6, _), (7, _), (8, _), (11, _), (12, _), (35, _), (71, _)] ⟨rfl, rfl, rfl, rfl, rfl, rfl, rfl, rfl, rfl, rfl, trivial⟩ ?_
      refine At.go ?_
      refine Sc.cond_f rfl ?_
      refine Sc.skip ?_
      refine At.go ?_
      refine Sc.seq ?_
      refine Sc.seq ?_
      refine Sc.region ?_
      refine Sl.calm (Cm.assign rfl) rfl ?_
      refine Sl.nil ?_
      refine At.go ?_
      refine Sc.block ?_
      refine Sc.loop (β := Nat × (Nat → Prop)) (fun ⟨j, R⟩ => [(6, .slice o6 K.length c6), (7, .slice o7 (refsA M).length c7), (12, .pointer (some ⟨h, 0, none⟩)), (13, .int .i64 j)]) (fun ⟨j, R⟩ w => j ≤ K.length ∧ MrO R w.heap h p im 0 im.length ∧ (∀ k, R k → w11.heap.size ≤ k ∧ k < w.heap.size) ∧ Foot nob w11 w) (fun ⟨j, R⟩ => K.length - j) ⟨0, fun k => w11.heap.size ≤ k ∧ k < w12.heap.size⟩ ⟨rfl, rfl, rfl, rfl, trivial⟩ ⟨Nat.zero_le _, hR12, (fun k hk => hk), hf12⟩ ?_
      rintro ⟨j, R⟩ w13 ⟨hj, hR13, hRd, hF13⟩
      have hz13 := hF13.size
      refine Sc.seq ?_
      refine Sc.seq ?_
      refine Sc.region ?_
      refine Sl.calm (Cm.move rfl) rfl ?_
      refine Sl.calm (Cm.move rfl) rfl ?_
      refine Sl.calm (Cm.len sl79 rfl) rfl ?_
      refine Sl.fork (Cm.lss rfl rfl) rfl (fun h75 => ?_) (fun h75 => ?_)
      ·
        have hjK : j < K.length := by omega
        obtain ⟨x, hx⟩ : ∃ x, x = K.getD j ino0 := ⟨_, rfl⟩
        have hmx := hKm j hjK
        rw [← hx] at hmx
        have hjM : j < M.length := by omega
        have hMj : M.getD j [] = encI x := by rw [hMK, hx]; simp [List.getD, hjK]
        have hdr := drop_in (M := M) z hjM
        rw [← hT, hMj] at hdr
        have hfs := flat_snoc hjM
        rw [hMj] at hfs
        have hoff : (M.take j).flatten.length + (encI x).length ≤ T.length := by have := flat_le M (j + 1); omega
        have hino := inoR_W hmx hdr hoff
        rw [← him] at hino
        have hrf13 := ho711.grow hF13
        have hrr := refT_in (M := M) z j
        rw [← hT] at hrr
        have hrc : cellH w13.heap (adr o7 j) = some (.int .i64 (refT T (M.take j).flatten.length : Nat)) := by have := hrf13.vw.gd 0 (i := j) (by rw [refsA_len]; omega); rwa [refsA_at hjM, hrr] at this
        have hrb := refT_b (T := T) (o := (M.take j).flatten.length) (by omega)
        refine Sl.nil ?_
        refine At.weak [(6, _), (7, _), (12, _), (13, _), (75, _)] ⟨rfl, rfl, rfl, rfl, rfl, trivial⟩ ?_
        refine At.go ?_
        refine Sc.cond_t rfl ?_
        refine Sc.skip ?_
        refine At.go ?_
        refine Sc.seq ?_
        refine Sc.block ?_
        refine Sc.seq ?_
        refine Sc.region ?_
        refine Sl.calm (Cm.move rfl) rfl ?_
        refine Sl.calm (Cm.move rfl) rfl ?_
        refine Sl.calm (Cm.move rfl) rfl ?_
        refine Sl.calm (Cm.indexAddr1 sl22 rfl rfl hrf13.vw.non (by rw [refsA_len]; omega)) rfl ?_
        refine Sl.calm (Cm.ld sca3 rfl (by rw [Int.toNat_natCast]; exact hrc)) rfl ?_
        refine Sl.call fn35 rfl (iread_ok R h p im 0 im.length (refT T (M.take j).flatten.length : Nat) w13 hR13 (fun k hk => (hRd k hk).2) (by omega) (by omega)) rfl ?_
        rw [hino]
        rintro _ w14 ⟨rfl, hR14, hF14⟩
        have hz14 := hF14.size
        have hF1114 : Foot nob w11 w14 := hF13.trans_to hF14 (fun k hk => .inr (hRd k hk).1)
        refine Sl.calm (Cm.move rfl) rfl ?_
        refine Sl.calm (Cm.extract rfl rfl) rfl ?_
        refine Sl.calm (Cm.extract rfl rfl) rfl ?_
        refine Sl.calm (Cm.extract rfl rfl) rfl ?_
        refine Sl.allocC zc33 rfl ?_
        intro w15 hg15 hs15 hf15
        refine Sl.storeAll (vs := inoC (gFn (encI x)) (gT (encI x))) agg33 rfl rfl (by intro v hv; exact inoC_one _ _ v hv) hg15 rfl ?_
        intro w16 hg16 hs16 hf16
        have hf1416 : Foot nob w14 w16 := hf15.trans_to hf16 (fun k hk => .inr (by have h : k = w14.heap.size := hk; omega))
        have hF1116 := hF1114.trans hf1416
        have hK16 := (ho611.grow hF1116).vw inoV_cells
        have hrow16 := ino_at hK16 j rfl hjK
        rw [← hx] at hrow16
        have hrf16 := ho711.grow hF1116
        have hsm := inoR_same hmx
        refine Sl.calm (Cm.assign rfl) rfl ?_
        refine Sl.calm (Cm.assign rfl) rfl ?_
        refine Sl.nil ?_
        refine At.weak [(6, _), (7, _), (12, _), (13, _), (14, _), (15, _), (16, _), (75, _)] ⟨rfl, rfl, rfl, rfl, rfl, rfl, rfl, rfl, trivial⟩ ?_
        refine At.go ?_
        refine Sc.seq ?_
        refine Sc.quiet 26 [0, 1, 2, 3, 4, 5, 6, 7, 8, 9, 10, 11, 12, 13, 14, 15, 16, 17, 18, 19, 20, 21, 22, 23, 24, 25] mixed (by kernel_rfl) ?_
        refine Sx.calm rfl rfl (Cm.ldM (cs := inoC (gFn (encI x)) (gT (encI x))) agg33 rfl (fun j v hj => cellF hg16 hj)) rfl ?_
        refine Sx.calm rfl rfl (Cm.move rfl) rfl ?_
        refine Sx.calm rfl rfl (Cm.move rfl) rfl ?_
        refine Sx.calm rfl rfl (Cm.indexAddr sl79 rfl rfl hK16.non (by omega)) rfl ?_
        refine Sx.calm rfl rfl (Cm.ldM (cs := inoC x.1 x.2) agg33 rfl hrow16) rfl ?_
        refine Sx.calm rfl rfl (Cm.no (Cm.neqIno rfl rfl) (fun h => h hsm)) rfl ?_
        refine Sx.calm rfl rfl (Cm.move rfl) rfl ?_
        refine Sx.want rfl rfl rfl rfl (Cm.move rfl) rfl ?_
        refine Sx.want rfl rfl rfl rfl (Cm.no (Cm.neq rfl rfl) (fun h => h rfl)) rfl ?_
        refine Sx.calm rfl rfl (Cm.pick_f rfl rfl) rfl ?_
        refine Sx.calm rfl rfl (Cm.move rfl) rfl ?_
        refine Sx.want rfl rfl rfl rfl (Cm.move rfl) rfl ?_
        refine Sx.want rfl rfl rfl rfl (Cm.add64 rfl rfl (by omega)) rfl ?_
        refine Sx.want rfl rfl rfl rfl (Cm.move rfl) rfl ?_
        refine Sx.want rfl rfl rfl rfl (Cm.len sl79 rfl) rfl ?_
        refine Sx.forkWant rfl rfl rfl rfl (Cm.lss rfl rfl) rfl (fun h103 => ?_) (fun h103 => ?_)
        ·
          have hj1 : j + 1 < M.length := by omega
          have hrr1 := refT_in (M := M) z (j + 1)
          rw [← hT] at hrr1
          have hrc1 : cellH w16.heap (adr o7 (j + 1)) = some (.int .i64 (refT T (M.take (j + 1)).flatten.length : Nat)) := by have := hrf16.vw.gd 0 (i := j + 1) (by rw [refsA_len]; omega); rwa [refsA_at hj1, hrr1] at this
          refine Sx.want rfl rfl rfl rfl (Cm.move rfl) rfl ?_
          refine Sx.want rfl rfl rfl rfl (Cm.move rfl) rfl ?_
          refine Sx.want rfl rfl rfl rfl (Cm.move rfl) rfl ?_
          refine Sx.want rfl rfl rfl rfl (Cm.move rfl) rfl ?_
          refine Sx.want rfl rfl rfl rfl (Cm.add64 rfl rfl (by omega)) rfl ?_
          refine Sx.want rfl rfl rfl rfl (Cm.indexAddr1 sl22 rfl rfl hrf16.vw.non (by rw [refsA_len]; omega)) rfl ?_
          refine Sx.want rfl rfl rfl rfl (Cm.ld sca3 rfl (by rw [show ((j : Int) + 1).toNat = j + 1 by omega]; exact hrc1)) rfl ?_
          refine Sx.want rfl rfl rfl rfl (Cm.no (Cm.neq rfl rfl) (by rw [hfs]; exact fun h => h rfl)) rfl ?_
          refine Sx.want rfl rfl rfl rfl (Cm.pick_t rfl rfl) rfl ?_
          refine Sx.calm rfl rfl (Cm.pick_f rfl rfl) rfl ?_
          refine Sx.nil ?_
          refine At.weak [(6, _), (7, _), (12, _), (13, _), (14, _), (15, _), (16, _), (75, _), (113, _)] ⟨rfl, rfl, rfl, rfl, rfl, rfl, rfl, rfl, rfl, trivial⟩ ?_
          refine At.go ?_
          refine Sc.cond_f rfl ?_
          refine Sc.skip ?_
          refine At.block_normal ?_
          refine At.go ?_
          refine Sc.region ?_
          refine Sl.calm (Cm.move rfl) rfl ?_
          refine Sl.calm (Cm.add64 rfl rfl (by omega)) rfl ?_
          refine Sl.calm (Cm.assign rfl) rfl ?_
          refine Sl.nil ?_
          have hz16 := hf1416.size
          exact At.again ⟨j + 1, Nx R w13 w14⟩ ⟨rfl, rfl, rfl, rfl, trivial⟩ ⟨by omega, (hR14.grow hf1416).grow (Foot.ofDraws 1), (fun k hk => by show w11.heap.size ≤ k ∧ k < w16.heap.size; rcases hk with h | h; have := hRd k h; exact ⟨this.1, by omega⟩; have h1 := h.1; have h2 := h.2; exact ⟨by omega, by omega⟩), hF1116.draws 1⟩ (by show K.length - (j + 1) < K.length - j; omega)
        ·
          refine Sx.want rfl rfl rfl rfl (Cm.move rfl) rfl ?_
          refine Sx.skip rfl rfl rfl rfl rfl rfl ?_
          refine Sx.skip rfl rfl rfl rfl rfl rfl ?_
          refine Sx.skip rfl rfl rfl rfl rfl rfl ?_
          refine Sx.skip rfl rfl rfl rfl rfl rfl ?_
          refine Sx.skip rfl rfl rfl rfl rfl rfl ?_
          refine Sx.skip rfl rfl rfl rfl rfl rfl ?_
          refine Sx.skip rfl rfl rfl rfl rfl rfl ?_
          refine Sx.want rfl rfl rfl rfl (Cm.pick_f rfl rfl) rfl ?_
          refine Sx.calm rfl rfl (Cm.pick_f rfl rfl) rfl ?_
          refine Sx.nil ?_
          refine At.weak [(6, _), (7, _), (12, _), (13, _), (14, _), (15, _), (16, _), (75, _), (113, _)] ⟨rfl, rfl, rfl, rfl, rfl, rfl, rfl, rfl, rfl, trivial⟩ ?_
          refine At.go ?_
          refine Sc.cond_f rfl ?_
          refine Sc.skip ?_
          refine At.block_normal ?_
          refine At.go ?_
          refine Sc.region ?_
          refine Sl.calm (Cm.move rfl) rfl ?_
          refine Sl.calm (Cm.add64 rfl rfl (by omega)) rfl ?_
          refine Sl.calm (Cm.assign rfl) rfl ?_
          refine Sl.nil ?_
          have hz16 := hf1416.size
          exact At.again ⟨j + 1, Nx R w13 w14⟩ ⟨rfl, rfl, rfl, rfl, trivial⟩ ⟨by omega, (hR14.grow hf1416).grow (Foot.ofDraws 1), (fun k hk => by show w11.heap.size ≤ k ∧ k < w16.heap.size; rcases hk with h | h; have := hRd k h; exact ⟨this.1, by omega⟩; have h1 := h.1; have h2 := h.2; exact ⟨by omega, by omega⟩), hF1116.draws 1⟩ (by show K.length - (j + 1) < K.length - j; omega)
      ·
        refine Sl.nil ?_
        refine At.weak [(6, _), (7, _), (12, _), (13, _), (75, _)] ⟨rfl, rfl, rfl, rfl, rfl, trivial⟩ ?_
        refine At.go ?_
        refine Sc.cond_f rfl ?_
        refine Sc.exit ?_
        refine At.then_exit ?_
        refine At.then_exit ?_
        refine At.block_hit ?_
        refine At.go ?_
        refine Sc.seq ?_
        refine Sc.region ?_
        refine Sl.calm (Cm.assign rfl) rfl ?_
        refine Sl.nil ?_
        refine At.go ?_
        refine Sc.ret ?_
        refine At.ret1 rfl rfl ?_
        exact ⟨_, rfl, rfl, (hF5.trans hF511).trans hF13⟩
  ·
    refine Sl.calm (Cm.move rfl) rfl ?_
    refine Sl.skip rfl rfl rfl rfl ?_
    refine Sl.skip rfl rfl rfl rfl ?_
    refine Sl.calm (Cm.pick_f rfl rfl) rfl ?_
    refine Sl.nil ?_
    refine At.weak [(0, _), (4, _), (5, _), (6, _), (7, _), (8, _), (35, _)] ⟨rfl, rfl, rfl, rfl, rfl, rfl, rfl, trivial⟩ ?_
    refine At.go ?_
    refine Sc.cond_f rfl ?_
    refine Sc.exit ?_
    refine At.then_exit ?_
    refine At.then_exit ?_
    refine At.block_hit ?_
    refine At.go ?_
    refine Sc.seq ?_
    refine Sc.region ?_
    refine Sl.calm (Cm.move rfl) rfl ?_
    have hM8b := rowM_b (L.take i)
    rw [List.length_take] at hM8b
    have hKb := mayK_le (L.take i)
    rw [List.length_take] at hKb
    obtain ⟨K, hK⟩ : ∃ K, K = mayK (L.take i) := ⟨_, rfl⟩
    obtain ⟨M, hM⟩ : ∃ M, M = rowM (L.take i) := ⟨_, rfl⟩
    have hMK : M = K.map encI := by rw [hM, hK]; rfl
    have hKm : ∀ j, j < K.length → mayI (K.getD j ino0).1 (K.getD j ino0).2 := fun j hj => by rw [hK] at hj ⊢; exact mayK_at hj
    rw [← hM] at hM8b hM8 ho7
    rw [← hK] at ho6 hKb
    refine Sl.make b8 (0 : UInt8) sl25 z5 rfl rfl rfl (by omega) (by omega) (by omega) (by omega) rfl ?_
    intro w9 ho9 hs9 hf9
    have hkn : (20 : Int).toNat = 20 := rfl
    rw [hkn] at ho9 ⊢
    obtain ⟨z, hz⟩ : ∃ z, z = List.replicate 20 (0 : UInt8) := ⟨_, rfl⟩
    rw [← hz] at ho9
    have hzl : z.length = 20 := by rw [hz]; simp
    obtain ⟨T, hT⟩ : ∃ T, T = M.flatten ++ z := ⟨_, rfl⟩
    have hTl : T.length = M.flatten.length + 20 := by rw [hT, List.length_append, hzl]
    refine Sl.call fn40 rfl (by rw [show (20 : Nat) = z.length from hzl.symm]; exact maddT_ok A g p M.flatten _ _ z w9 (hM8.grow hf9) (by rw [hzl]; exact ho9.vw) (by omega)) rfl ?_
    rintro _ w10 ⟨rfl, hM10, hF10⟩
    rw [← hT] at hM10
    have hz9 := hf9.size
    have hz10 := hF10.size
    have ho610 := (ho6.grow hf9).keep hF10 (fun a ha e => hao6 a ha e)
    have ho710 := (ho7.grow hf9).keep hF10 (fun a ha e => hao7 a ha e)
    have hF510 : Foot nob w5 w10 := (hF8.trans hf9).trans_to hF10 (fun k hk => .inr (hA k hk).1)
    refine Sl.nil ?_
    refine At.weak [(0, _), (4, _), (5, _), (6, _), (7, _), (8, _), (35, _)] ⟨rfl, rfl, rfl, rfl, rfl, rfl, rfl, trivial⟩ ?_
    refine At.go ?_
    refine Sc.seq ?_
    refine Sc.region ?_
    refine Sl.calm (Cm.move rfl) rfl ?_
    refine Sl.call fn41 rfl (mdoneT_ok _ g p T w10 hM10 (by omega)) rfl ?_
    rintro _ w11 ⟨o11, c11, rfl, ho11, hfr11, hf11⟩
    have hF511 := hF510.trans hf11
    have ho611 := ho610.grow hf11
    have ho711 := ho710.grow hf11
    obtain ⟨im, him⟩ : ∃ im, im = frW T (nF T) := ⟨_, rfl⟩
    have himl := frW_le T (nF T)
    have hnF : nF T ≤ 40 := by unfold nF; omega
    rw [← him] at ho11 himl ⊢
    refine Sl.calm (Cm.assign rfl) rfl ?_
    refine Sl.nil ?_
    refine At.weak [(0, _), (4, _), (5, _), (6, _), (7, _), (8, _), (11, _), (35, _)] ⟨rfl, rfl, rfl, rfl, rfl, rfl, rfl, rfl, trivial⟩ ?_
    refine At.go ?_
    refine Sc.seq ?_
    refine Sc.region ?_
    refine Sl.calm (Cm.move rfl) rfl ?_
    refine Sl.calm (Cm.move rfl) rfl ?_
    refine Sl.calm (Cm.len sl25 rfl) rfl ?_
    refine Sl.call fn28 rfl (mopenA_ok p o11 c11 im 0 im.length w11 (hF511.obj ht5 id) ho11.vw (by omega)) rfl ?_
    rintro _ w12 ⟨h, rfl, hh, hR12, hf12⟩
    have hz12 := hf12.size
    have hz511 := hF511.size
    have hl6 := ho6.lt
    have hl7 := ho7.lt
    have hMl : M.length = K.length := by rw [hMK, List.length_map]
    rw [← hM, ← hK]
    refine Sl.calm (Cm.assign rfl) rfl ?_
    refine Sl.nil ?_
    refine At.weak [(0, _), (4, _), (5, _), (6, _), (7, _), (8, _), (11, _), (12, _), (35, _)] ⟨rfl, rfl, rfl, rfl, rfl, rfl, rfl, rfl, rfl, trivial⟩ ?_
    refine At.go ?_
    refine Sc.seq ?_
    refine Sc.seq ?_
    refine Sc.region ?_
    refine Sl.calm (Cm.move rfl) rfl ?_
    refine Sl.calm (Cm.eqlPtrNil ptr44 rfl rfl) rfl ?_
    refine Sl.nil ?_
    refine At.weak [(0, _), (4, _), (5, _), (6, _), (7, _), (8, _), (11, _), (12, _), (35, _), (71, _)] ⟨rfl, rfl, rfl, rfl, rfl, rfl, rfl, rfl, rfl, rfl, trivial⟩ ?_
    refine At.go ?_
    refine Sc.cond_f rfl ?_
    refine Sc.skip ?_
    refine At.go ?_
    refine Sc.seq ?_
    refine Sc.seq ?_
    refine Sc.region ?_
    refine Sl.calm (Cm.assign rfl) rfl ?_
    refine Sl.nil ?_
    refine At.go ?_
    refine Sc.block ?_
    refine Sc.loop (β := Nat × (Nat → Prop)) (fun ⟨j, R⟩ => [(6, .slice o6 K.length c6), (7, .slice o7 (refsA M).length c7), (12, .pointer (some ⟨h, 0, none⟩)), (13, .int .i64 j)]) (fun ⟨j, R⟩ w => j ≤ K.length ∧ MrO R w.heap h p im 0 im.length ∧ (∀ k, R k → w11.heap.size ≤ k ∧ k < w.heap.size) ∧ Foot nob w11 w) (fun ⟨j, R⟩ => K.length - j) ⟨0, fun k => w11.heap.size ≤ k ∧ k < w12.heap.size⟩ ⟨rfl, rfl, rfl, rfl, trivial⟩ ⟨Nat.zero_le _, hR12, (fun k hk => hk), hf12⟩ ?_
    rintro ⟨j, R⟩ w13 ⟨hj, hR13, hRd, hF13⟩
    have hz13 := hF13.size
    refine Sc.seq ?_
    refine Sc.seq ?_
    refine Sc.region ?_
    refine Sl.calm (Cm.move rfl) rfl ?_
    refine Sl.calm (Cm.move rfl) rfl ?_
    refine Sl.calm (Cm.len sl79 rfl) rfl ?_
    refine Sl.fork (Cm.lss rfl rfl) rfl (fun h75 => ?_) (fun h75 => ?_)
    ·
      have hjK : j < K.length := by omega
      obtain ⟨x, hx⟩ : ∃ x, x = K.getD j ino0 := ⟨_, rfl⟩
      have hmx := hKm j hjK
      rw [← hx] at hmx
      have hjM : j < M.length := by omega
      have hMj : M.getD j [] = encI x := by rw [hMK, hx]; simp [List.getD, hjK]
      have hdr := drop_in (M := M) z hjM
      rw [← hT, hMj] at hdr
      have hfs := flat_snoc hjM
      rw [hMj] at hfs
      have hoff : (M.take j).flatten.length + (encI x).length ≤ T.length := by have := flat_le M (j + 1); omega
      have hino := inoR_W hmx hdr hoff
      rw [← him] at hino
      have hrf13 := ho711.grow hF13
      have hrr := refT_in (M := M) z j
      rw [← hT] at hrr
      have hrc : cellH w13.heap (adr o7 j) = some (.int .i64 (refT T (M.take j).flatten.length : Nat)) := by have := hrf13.vw.gd 0 (i := j) (by rw [refsA_len]; omega); rwa [refsA_at hjM, hrr] at this
      have hrb := refT_b (T := T) (o := (M.take j).flatten.length) (by omega)
      refine Sl.nil ?_
      refine At.weak [(6, _), (7, _), (12, _), (13, _), (75, _)] ⟨rfl, rfl, rfl, rfl, rfl, trivial⟩ ?_
      refine At.go ?_
      refine Sc.cond_t rfl ?_
      refine Sc.skip ?_
      refine At.go ?_
      refine Sc.seq ?_
      refine Sc.block ?_
      refine Sc.seq ?_
      refine Sc.region ?_
      refine Sl.calm (Cm.move rfl) rfl ?_
      refine Sl.calm (Cm.move rfl) rfl ?_
      refine Sl.calm (Cm.move rfl) rfl ?_
      refine Sl.calm (Cm.indexAddr1 sl22 rfl rfl hrf13.vw.non (by rw [refsA_len]; omega)) rfl ?_
      refine Sl.calm (Cm.ld sca3 rfl (by rw [Int.toNat_natCast]; exact hrc)) rfl ?_
      refine Sl.call fn35 rfl (iread_ok R h p im 0 im.length (refT T (M.take j).flatten.length : Nat) w13 hR13 (fun k hk => (hRd k hk).2) (by omega) (by omega)) rfl ?_
      rw [hino]
      rintro _ w14 ⟨rfl, hR14, hF14⟩
      have hz14 := hF14.size
      have hF1114 : Foot nob w11 w14 := hF13.trans_to hF14 (fun k hk => .inr (hRd k hk).1)
      refine Sl.calm (Cm.move rfl) rfl ?_
      refine Sl.calm (Cm.extract rfl rfl) rfl ?_
      refine Sl.calm (Cm.extract rfl rfl) rfl ?_
      refine Sl.calm (Cm.extract rfl rfl) rfl ?_
      refine Sl.allocC zc33 rfl ?_
      intro w15 hg15 hs15 hf15
      refine Sl.storeAll (vs := inoC (gFn (encI x)) (gT (encI x))) agg33 rfl rfl (by intro v hv; exact inoC_one _ _ v hv) hg15 rfl ?_
      intro w16 hg16 hs16 hf16
      have hf1416 : Foot nob w14 w16 := hf15.trans_to hf16 (fun k hk => .inr (by have h : k = w14.heap.size := hk; omega))
      have hF1116 := hF1114.trans hf1416
      have hK16 := (ho611.grow hF1116).vw inoV_cells
      have hrow16 := ino_at hK16 j rfl hjK
      rw [← hx] at hrow16
      have hrf16 := ho711.grow hF1116
      have hsm := inoR_same hmx
      refine Sl.calm (Cm.assign rfl) rfl ?_
      refine Sl.calm (Cm.assign rfl) rfl ?_
      refine Sl.nil ?_
      refine At.weak [(6, _), (7, _), (12, _), (13, _), (14, _), (15, _), (16, _), (75, _)] ⟨rfl, rfl, rfl, rfl, rfl, rfl, rfl, rfl, trivial⟩ ?_
      refine At.go ?_
      refine Sc.seq ?_
      refine Sc.quiet 26 [0, 1, 2, 3, 4, 5, 6, 7, 8, 9, 10, 11, 12, 13, 14, 15, 16, 17, 18, 19, 20, 21, 22, 23, 24, 25] mixed (by kernel_rfl) ?_
      refine Sx.calm rfl rfl (Cm.ldM (cs := inoC (gFn (encI x)) (gT (encI x))) agg33 rfl (fun j v hj => cellF hg16 hj)) rfl ?_
      refine Sx.calm rfl rfl (Cm.move rfl) rfl ?_
      refine Sx.calm rfl rfl (Cm.move rfl) rfl ?_
      refine Sx.calm rfl rfl (Cm.indexAddr sl79 rfl rfl hK16.non (by omega)) rfl ?_
      refine Sx.calm rfl rfl (Cm.ldM (cs := inoC x.1 x.2) agg33 rfl hrow16) rfl ?_
      refine Sx.calm rfl rfl (Cm.no (Cm.neqIno rfl rfl) (fun h => h hsm)) rfl ?_
      refine Sx.calm rfl rfl (Cm.move rfl) rfl ?_
      refine Sx.want rfl rfl rfl rfl (Cm.move rfl) rfl ?_
      refine Sx.want rfl rfl rfl rfl (Cm.no (Cm.neq rfl rfl) (fun h => h rfl)) rfl ?_
      refine Sx.calm rfl rfl (Cm.pick_f rfl rfl) rfl ?_
      refine Sx.calm rfl rfl (Cm.move rfl) rfl ?_
      refine Sx.want rfl rfl rfl rfl (Cm.move rfl) rfl ?_
      refine Sx.want rfl rfl rfl rfl (Cm.add64 rfl rfl (by omega)) rfl ?_
      refine Sx.want rfl rfl rfl rfl (Cm.move rfl) rfl ?_
      refine Sx.want rfl rfl rfl rfl (Cm.len sl79 rfl) rfl ?_
      refine Sx.forkWant rfl rfl rfl rfl (Cm.lss rfl rfl) rfl (fun h103 => ?_) (fun h103 => ?_)
      ·
        have hj1 : j + 1 < M.length := by omega
        have hrr1 := refT_in (M := M) z (j + 1)
        rw [← hT] at hrr1
        have hrc1 : cellH w16.heap (adr o7 (j + 1)) = some (.int .i64 (refT T (M.take (j + 1)).flatten.length : Nat)) := by have := hrf16.vw.gd 0 (i := j + 1) (by rw [refsA_len]; omega); rwa [refsA_at hj1, hrr1] at this
        refine Sx.want rfl rfl rfl rfl (Cm.move rfl) rfl ?_
        refine Sx.want rfl rfl rfl rfl (Cm.move rfl) rfl ?_
        refine Sx.want rfl rfl rfl rfl (Cm.move rfl) rfl ?_
        refine Sx.want rfl rfl rfl rfl (Cm.move rfl) rfl ?_
        refine Sx.want rfl rfl rfl rfl (Cm.add64 rfl rfl (by omega)) rfl ?_
        refine Sx.want rfl rfl rfl rfl (Cm.indexAddr1 sl22 rfl rfl hrf16.vw.non (by rw [refsA_len]; omega)) rfl ?_
        refine Sx.want rfl rfl rfl rfl (Cm.ld sca3 rfl (by rw [show ((j : Int) + 1).toNat = j + 1 by omega]; exact hrc1)) rfl ?_
        refine Sx.want rfl rfl rfl rfl (Cm.no (Cm.neq rfl rfl) (by rw [hfs]; exact fun h => h rfl)) rfl ?_
        refine Sx.want rfl rfl rfl rfl (Cm.pick_t rfl rfl) rfl ?_
        refine Sx.calm rfl rfl (Cm.pick_f rfl rfl) rfl ?_
        refine Sx.nil ?_
        refine At.weak [(6, _), (7, _), (12, _), (13, _), (14, _), (15, _), (16, _), (75, _), (113, _)] ⟨rfl, rfl, rfl, rfl, rfl, rfl, rfl, rfl, rfl, trivial⟩ ?_
        refine At.go ?_
        refine Sc.cond_f rfl ?_
        refine Sc.skip ?_
        refine At.block_normal ?_
        refine At.go ?_
        refine Sc.region ?_
        refine Sl.calm (Cm.move rfl) rfl ?_
        refine Sl.calm (Cm.add64 rfl rfl (by omega)) rfl ?_
        refine Sl.calm (Cm.assign rfl) rfl ?_
        refine Sl.nil ?_
        have hz16 := hf1416.size
        exact At.again ⟨j + 1, Nx R w13 w14⟩ ⟨rfl, rfl, rfl, rfl, trivial⟩ ⟨by omega, (hR14.grow hf1416).grow (Foot.ofDraws 1), (fun k hk => by show w11.heap.size ≤ k ∧ k < w16.heap.size; rcases hk with h | h; have := hRd k h; exact ⟨this.1, by omega⟩; have h1 := h.1; have h2 := h.2; exact ⟨by omega, by omega⟩), hF1116.draws 1⟩ (by show K.length - (j + 1) < K.length - j; omega)
      ·
        refine Sx.want rfl rfl rfl rfl (Cm.move rfl) rfl ?_
        refine Sx.skip rfl rfl rfl rfl rfl rfl ?_
        refine Sx.skip rfl rfl rfl rfl rfl rfl ?_
        refine Sx.skip rfl rfl rfl rfl rfl rfl ?_
        refine Sx.skip rfl rfl rfl rfl rfl rfl ?_
        refine Sx.skip rfl rfl rfl rfl rfl rfl ?_
        refine Sx.skip rfl rfl rfl rfl rfl rfl ?_
        refine Sx.skip rfl rfl rfl rfl rfl rfl ?_
        refine Sx.want rfl rfl rfl rfl (Cm.pick_f rfl rfl) rfl ?_
        refine Sx.calm rfl rfl (Cm.pick_f rfl rfl) rfl ?_
        refine Sx.nil ?_
        refine At.weak [(6, _), (7, _), (12, _), (13, _), (14, _), (15, _), (16, _), (75, _), (113, _)] ⟨rfl, rfl, rfl, rfl, rfl, rfl, rfl, rfl, rfl, trivial⟩ ?_
        refine At.go ?_
        refine Sc.cond_f rfl ?_
        refine Sc.skip ?_
        refine At.block_normal ?_
        refine At.go ?_
        refine Sc.region ?_
        refine Sl.calm (Cm.move rfl) rfl ?_
        refine Sl.calm (Cm.add64 rfl rfl (by omega)) rfl ?_
        refine Sl.calm (Cm.assign rfl) rfl ?_
        refine Sl.nil ?_
        have hz16 := hf1416.size
        exact At.again ⟨j + 1, Nx R w13 w14⟩ ⟨rfl, rfl, rfl, rfl, trivial⟩ ⟨by omega, (hR14.grow hf1416).grow (Foot.ofDraws 1), (fun k hk => by show w11.heap.size ≤ k ∧ k < w16.heap.size; rcases hk with h | h; have := hRd k h; exact ⟨this.1, by omega⟩; have h1 := h.1; have h2 := h.2; exact ⟨by omega, by omega⟩), hF1116.draws 1⟩ (by show K.length - (j + 1) < K.length - j; omega)
    ·
      refine Sl.nil ?_
      refine At.weak [(6, _), (7, _), (12, _), (13, _), (75, _)] ⟨rfl, rfl, rfl, rfl, rfl, trivial⟩ ?_
      refine At.go ?_
      refine Sc.cond_f rfl ?_
      refine Sc.exit ?_
      refine At.then_exit ?_
      refine At.then_exit ?_
      refine At.block_hit ?_
      refine At.go ?_
      refine Sc.seq ?_
      refine Sc.region ?_
      refine Sl.calm (Cm.assign rfl) rfl ?_
      refine Sl.nil ?_
      refine At.go ?_
      refine Sc.ret ?_
      refine At.ret1 rfl rfl ?_
      exact ⟨_, rfl, rfl, (hF5.trans hF511).trans hF13⟩
end Go.Proofs.Ytoaplldahbbaiaa
