/- frag: the law on tails that are read back, walked. No condition beyond the bounds that each states. -/
import Derived.Test.YtapmfoogjkdffaaFbP
import Derived.Test.YtapmfoogjkdffaaGd
namespace Go.Proofs.Ytapmfoogjkdffaa
open Go Go.RowKit
set_option linter.unusedVariables false

theorem askV_cellsB : CellsM 3 askV := fun x => ⟨rfl, by simp [askV, Value.oneCell']⟩
def ask0 : Int × Int × Int := (0, 0, 0)
theorem RowsV.ltB {D : Nat → Prop} {H : Array Obj} {hs : List Hd} {L : List (List UInt8)} (h : RowsV D H hs L) : RowsV (fun k => D k ∧ k < H.size) H hs L :=
  ⟨h.1, fun i x xs hx hxs => by
    obtain ⟨h1, h2, h3⟩ := h.2 i x xs hx hxs
    exact ⟨h1, h2, fun hne k ⟨a, ha, e⟩ => ⟨h3 hne k ⟨a, ha, e⟩, by rw [← e]; exact h2.lt hne a ha⟩⟩⟩
theorem i64_oneB (x : Int) : (i64 x).oneCell' = true := rfl
theorem getD_snocB {α : Type} {xs : List α} {x d : α} {j : Nat} (h : j < (xs ++ [x]).length) : (j < xs.length ∧ (xs ++ [x]).getD j d = xs.getD j d) ∨ (j = xs.length ∧ (xs ++ [x]).getD j d = x) := by
  by_cases hj : j < xs.length
  · exact .inl ⟨hj, getD_app_left hj⟩
  · have : j = xs.length := by simp at h; omega
    subst this
    exact .inr ⟨rfl, getD_app_last⟩
theorem cutNb {α : Type} {ao : Option Addr} {c n : Nat} {b : List α} (h : (n : Int) < (b.length : Int)) (s : Nat) : some (Value.slice (cutAo ao c 0 s) n c) = some (.slice ao (b.take n).length c) := by
  rw [cutAo_zero, List.length_take, Nat.min_eq_left (by omega)]
theorem nocutNb {α : Type} {ao : Option Addr} {c n : Nat} {b : List α} (h : ¬ (n : Int) < (b.length : Int)) : some (Value.slice ao b.length c) = some (.slice ao (b.take n).length c) := by
  rw [List.take_of_length_le (by omega)]
theorem frB_len {B : List (List UInt8)} (hB : ∀ b ∈ B, b.length ≤ 128) : (frB B).length ≤ 135 * B.length := by
  induction B with
  | nil => exact Nat.le_refl _
  | cons b r ih =>
    have h1 := (putS_len (hB b (by simp))).1
    have h2 := hB b (by simp)
    have h3 := ih (fun x hx => hB x (by simp [hx]))
    have e : frB (b :: r) = (putS b).1 ++ frB r := rfl
    rw [e, List.length_append, List.length_cons]; omega
theorem frB_take {B : List (List UInt8)} (hB : ∀ b ∈ B, b.length ≤ 128) (k : Nat) : (frB (B.take k)).length ≤ 135 * B.length := by
  have h1 := frB_len (B := B.take k) (fun b hb => hB b (List.mem_of_mem_take hb))
  have h2 : (B.take k).length ≤ B.length := by rw [List.length_take]; omega
  have := Nat.mul_le_mul_left 135 h2
  omega
theorem stands_bd {B : List (List UInt8)} {x : Int × Int × Int} {t : List UInt8} (h : Stands B x t) (hB : ∀ b ∈ B, b.length ≤ 128) (hl : B.length ≤ 1000) : bd x.1 ∧ bd x.2.1 ∧ bd x.2.2 ∧ t.length ≤ 128 := by
  obtain ⟨n, a, z, h1, rfl, h3, h4⟩ := h
  have hb : (B.getD n []).length ≤ 128 := hB _ (by rw [List.getD, List.getElem?_eq_getElem h1]; exact List.getElem_mem _)
  rw [h3, List.length_append, List.length_append] at hb
  unfold bd
  simp only
  refine ⟨?_, ?_, ?_, ?_⟩ <;> omega
theorem plB_bd {pre : List UInt8} {B : List (List UInt8)} (hB : ∀ b ∈ B, b.length ≤ 128) (hl : B.length ≤ 1000) (hp : pre.length ≤ 1000) (k : Nat) : ∀ x ∈ plB pre B k, bd x := fun x hx => by
  obtain ⟨j, _, rfl⟩ := List.mem_map.1 hx
  have := frB_take hB j
  unfold bd
  omega
def OutB (lo hi : Nat) (o : Option Addr) : Prop := ∀ a, o = some a → a.block < lo ∨ hi ≤ a.block
def FbJ (p : Nat) (w5 : World) (M : List (List UInt8)) (D0 : Nat → Prop) (i : Nat) (qs : List (Int × Int × Int)) (ts : List (List UInt8)) (hs : List Hd) (oa : Option Addr) (ca : Nat) (oi : Option Addr) (ci : Nat) (w : World) : Prop :=
  ∃ D1, PackR D1 w.heap p (stL (M.take i)) ∧ (∀ k, D1 k → w5.heap.size ≤ k ∧ k < w.heap.size) ∧ OwnM 3 askV 55 w.heap oa ca qs ∧ Own hd 30 w.heap oi ci hs ∧ RowsV D0 w.heap hs ts ∧ qs.length = ts.length ∧ qs.length ≤ i ∧
    (∀ j, j < qs.length → Stands (stL (M.take i)) (qs.getD j ask0) (ts.getD j [])) ∧ Fr w5.heap.size oa ∧ Fr w5.heap.size oi ∧ (∀ k, blk oa k → ¬ D1 k) ∧ (∀ k, blk oi k → ¬ D1 k) ∧ (∀ k, blk oa k → ¬ blk oi k) ∧ Foot nob w5 w
set_option maxHeartbeats 4000000 in
theorem fragBack_ok (D0 : Nat → Prop) (ao : Option Addr) (cap : Nat) (hs : List Hd) (L : List (List UInt8)) (bo : Option Addr) (bc : Nat) (b0 : List UInt8) (W : World) (hv : Vw hd W.heap ao cap hs) (hr : RowsV D0 W.heap hs L) (hD0 : ∀ k, D0 k → k < W.heap.size) (hvb0 : Vw b8 W.heap bo bc b0) :
    Calls Try.prog 13 [.slice ao hs.length cap, .slice bo b0.length bc].toArray W (Ret fun v w' => v = .bool true ∧ Foot nob W w') := by
  obtain ⟨b, hb⟩ : ∃ b, b = b0.take 200 := ⟨_, rfl⟩
  have hbl : b.length ≤ 200 := by rw [hb, List.length_take]; omega
  have hvb : Vw b8 W.heap bo bc b := by rw [hb]; exact hvb0.take 200
  have hle0 := hvb0.le
  obtain ⟨M, hM⟩ : ∃ M, M = rowsL L := ⟨_, rfl⟩
  obtain ⟨hM60, hM200⟩ := rowsL_bd L
  rw [← hM] at hM60 hM200
  refine calls_of_sc 162 [(0, _), (1, _)] Try.func13 rfl rfl rfl (enter_slots ⟨rfl, rfl, trivial⟩) ?_
  refine Sc.seq ?_
  refine Sc.region ?_
  refine Sl.calm (Cm.assign rfl) rfl ?_
  refine Sl.nil ?_
  refine At.go ?_
  refine Sc.seq ?_
  refine Sc.region ?_
  refine Sl.call fn14 rfl (shown13_ok W) rfl ?_
  rintro _ w1 ⟨rfl, hf1⟩
  refine Sl.calm (Cm.assign rfl) rfl ?_
  refine Sl.nil ?_
  refine At.weak [(0, _), (1, _), (4, _), (5, _)] ⟨rfl, rfl, rfl, rfl, trivial⟩ ?_
  refine At.go ?_
  refine Sc.seq ?_
  refine Sc.region ?_
  refine Sl.calm (Cm.move rfl) rfl ?_
  refine Sl.call fn15 rfl (rows_ok D0 ao cap hs L w1 (hv.grow hf1) (hr.keep hf1 (fun _ _ h => h))) rfl ?_
  rintro _ w2 ⟨la, lc, ls, rfl, hlo, hlr, hlf, hf2⟩
  rw [← hM] at hlr
  have hll := hlr.1
  have hz1 := hf1.size
  have hz2 := hf2.size
  refine Sl.calm (Cm.assign rfl) rfl ?_
  refine Sl.nil ?_
  refine At.weak [(0, _), (1, _), (4, _), (5, _)] ⟨rfl, rfl, rfl, rfl, trivial⟩ ?_
  refine At.go ?_
  refine Sc.cut (β := Unit) (fun _u => [(0, .slice la ls.length lc), (1, .slice bo b.length bc), (5, .bool true)]) (fun _u w => w = w2) ?_ ?_
  ·
    refine Sc.seq ?_
    refine Sc.region ?_
    refine Sl.calm (Cm.move rfl) rfl ?_
    refine Sl.calm (Cm.len sl30 rfl) rfl ?_
    refine Sl.fork (Cm.gtr rfl rfl) rfl (fun h27 => ?_) (fun h27 => ?_)
    ·
      refine Sl.nil ?_
      refine At.weak [(0, _), (1, _), (4, _), (5, _), (27, _)] ⟨rfl, rfl, rfl, rfl, rfl, trivial⟩ ?_
      refine At.go ?_
      refine Sc.cond_t rfl ?_
      refine Sc.region ?_
      refine Sl.calm (Cm.move rfl) rfl ?_
      refine Sl.calm (Cm.sliceH sl30 rfl rfl (by omega)) rfl ?_
      refine Sl.calm (Cm.assign rfl) rfl ?_
      refine Sl.nil ?_
      refine At.cut () ⟨rfl, by rw [hb]; exact cutNb (n := 200) (by omega) 1, rfl, trivial⟩ rfl
    ·
      refine Sl.nil ?_
      refine At.weak [(0, _), (1, _), (4, _), (5, _), (27, _)] ⟨rfl, rfl, rfl, rfl, rfl, trivial⟩ ?_
      refine At.go ?_
      refine Sc.cond_f rfl ?_
      refine Sc.skip ?_
      refine At.cut () ⟨rfl, by rw [hb]; exact nocutNb (n := 200) (by omega), rfl, trivial⟩ rfl
  ·
    rintro _ wq hwq
    subst wq
    refine Sc.seq ?_
    refine Sc.region ?_
    refine Sl.call fn28 rfl (crcnew_ok w2) rfl ?_
    rintro _ w3 ⟨rfl, hf3⟩
    refine Sl.allocC zc50 rfl ?_
    intro w4 hg4 hs4 hf4
    refine Sl.storeAll (vs := tab) aggTab rfl rfl tab_one hg4 (by rw [tab_len, List.length_replicate]) ?_
    intro w5 hg5 hs5 hf5
    obtain ⟨q, hq⟩ : ∃ q, q = w3.heap.size := ⟨_, rfl⟩
    have hF25 : Foot nob w2 w5 := (hf3.trans hf4).trans_to hf5 (fun k hk => .inr (by have h : k = w3.heap.size := hk; have := hf3.size; omega))
    rw [← hq] at hg5 ⊢
    have ht5 : TbV w5.heap q := hg5
    have hF5 := (hf1.trans hf2).trans hF25
    have hql := (Array.getElem?_eq_some_iff.1 ht5).1
    have hlo5 := hlo.grow hF25
    have hlr5 := hlr.keep hF25 (fun _ _ => id)
    have hz5 := hF25.size
    refine Sl.nil ?_
    refine At.weak [(0, _), (1, _), (5, _), (6, _)] ⟨rfl, rfl, rfl, rfl, trivial⟩ ?_
    refine At.go ?_
    refine Sc.seq ?_
    refine Sc.region ?_
    refine Sl.call fn16 rfl (new_ok w5) rfl ?_
    rintro _ w6 ⟨rfl, hP6, hf6, hs6⟩
    obtain ⟨p, hp⟩ : ∃ p, p = w5.heap.size := ⟨_, rfl⟩
    rw [← hp] at hP6 ⊢
    refine Sl.calm (Cm.assign rfl) rfl ?_
    refine Sl.nil ?_
    refine At.weak [(0, _), (1, _), (5, _), (6, _), (7, _)] ⟨rfl, rfl, rfl, rfl, rfl, trivial⟩ ?_
    refine At.go ?_
    refine Sc.seq ?_
    refine Sc.seq ?_
    refine Sc.region ?_
    refine Sl.calm (Cm.move rfl) rfl ?_
    refine Sl.calm (Cm.not rfl) rfl ?_
    refine Sl.calm (Cm.move rfl) rfl ?_
    refine Sl.want rfl rfl (Cm.move rfl) rfl ?_
    refine Sl.want rfl rfl (Cm.eqlPtrNil ptr25 rfl rfl) rfl ?_
    refine Sl.calm (Cm.pick_f rfl rfl) rfl ?_
    refine Sl.nil ?_
    refine At.weak [(0, _), (1, _), (5, _), (6, _), (7, _), (37, _)] ⟨rfl, rfl, rfl, rfl, rfl, rfl, trivial⟩ ?_
    refine At.go ?_
    refine Sc.cond_f rfl ?_
    refine Sc.skip ?_
    refine At.go ?_
    refine Sc.seq ?_
    refine Sc.region ?_
    refine Sl.lit0M askV_cellsB sl47 rfl ?_
    intro w7 ho7 hs7 hf7
    obtain ⟨qa, hqa⟩ : ∃ qa, qa = w6.heap.size := ⟨_, rfl⟩
    rw [← hqa] at ho7 ⊢
    refine Sl.calm (Cm.assign rfl) rfl ?_
    refine Sl.nil ?_
    refine At.weak [(0, _), (1, _), (5, _), (6, _), (7, _), (8, _), (37, _)] ⟨rfl, rfl, rfl, rfl, rfl, rfl, rfl, trivial⟩ ?_
    refine At.go ?_
    refine Sc.seq ?_
    refine Sc.region ?_
    refine Sl.lit0 hd sl22 rfl ?_
    intro w8 ho8 hs8 hf8
    obtain ⟨qi, hqi⟩ : ∃ qi, qi = w7.heap.size := ⟨_, rfl⟩
    rw [← hqi] at ho8 ⊢
    have hf68 := hf7.trans hf8
    have hP8 := hP6.keep hf68 (fun _ _ => id)
    have hf58 := hf6.trans hf68
    refine Sl.calm (Cm.assign rfl) rfl ?_
    refine Sl.nil ?_
    refine At.weak [(0, _), (1, _), (5, _), (6, _), (7, _), (8, _), (9, _), (37, _)] ⟨rfl, rfl, rfl, rfl, rfl, rfl, rfl, rfl, trivial⟩ ?_
    refine At.go ?_
    refine Sc.seq ?_
    refine Sc.seq ?_
    refine Sc.region ?_
    refine Sl.calm (Cm.assign rfl) rfl ?_
    refine Sl.nil ?_
    refine At.go ?_
    refine Sc.block ?_
    refine Sc.loop (β := (Nat × (List (Int × Int × Int) × List (List UInt8) × List Hd)) × ((Option Addr × Nat) × (Option Addr × Nat))) (fun ⟨⟨i, qs, ts, hs2⟩, ⟨⟨oa, ca⟩, ⟨oi, ci⟩⟩⟩ => [(0, .slice la ls.length lc), (1, .slice bo b.length bc), (6, .pointer (some ⟨q, 0, none⟩)), (7, .pointer (some ⟨p, 0, none⟩)), (8, .slice oa qs.length ca), (9, .slice oi hs2.length ci), (10, .int .i64 i)]) (fun ⟨⟨i, qs, ts, hs2⟩, ⟨⟨oa, ca⟩, ⟨oi, ci⟩⟩⟩ w => i ≤ M.length ∧ FbJ p w5 M D0 i qs ts hs2 oa ca oi ci w) (fun ⟨⟨i, qs, ts, hs2⟩, ⟨⟨oa, ca⟩, ⟨oi, ci⟩⟩⟩ => M.length - i) ⟨⟨0, [], [], []⟩, ⟨⟨some ⟨qa, 0, none⟩, 0⟩, ⟨some ⟨qi, 0, none⟩, 0⟩⟩⟩ ⟨rfl, rfl, rfl, rfl, rfl, rfl, rfl, trivial⟩ ⟨Nat.zero_le _, fun k => k = p, hP8, (fun k hk => by have := hf68.size; omega), ho7.grow hf8, ho8, RowsV.nil, rfl, Nat.le_refl _, (fun j hj => by simp at hj), (fun a ha => by cases ha; show w5.heap.size ≤ qa; omega), (fun a ha => by cases ha; show w5.heap.size ≤ qi; omega), (fun k ⟨a, ha, e⟩ h => by cases ha; have e : qa = k := e; omega), (fun k ⟨a, ha, e⟩ h => by cases ha; have e : qi = k := e; have := hf7.size; omega), (fun k ⟨a, ha, e⟩ ⟨z, hz, e2⟩ => by cases ha; cases hz; have e : qa = k := e; have e2 : qi = k := e2; omega), hf58⟩ ?_
    rintro ⟨⟨i, qs, ts, hs2⟩, ⟨⟨oa, ca⟩, ⟨oi, ci⟩⟩⟩ w ⟨hi, D1, hPk, hD1, hoa, hoi, hrw, hlen, hlei, hst, hfa, hfi, had, hid, hai, hFw⟩
    have hzw := hFw.size
    refine Sc.seq ?_
    refine Sc.seq ?_
    refine Sc.region ?_
    refine Sl.calm (Cm.move rfl) rfl ?_
    refine Sl.calm (Cm.move rfl) rfl ?_
    refine Sl.calm (Cm.len sl22 rfl) rfl ?_
    refine Sl.fork (Cm.lss rfl rfl) rfl (fun h43 => ?_) (fun h43 => ?_)
    ·
      have hiM : i < M.length := by omega
      have hFw0 := hF25.trans hFw
      have hlow := hlo5.grow hFw
      have hlrw := hlr5.keep hFw (fun _ _ => id)
      obtain ⟨⟨xa, xn, xc⟩, hx, hxn, hxv, hxD⟩ := hlrw.at (i := i) (by omega)
      obtain rfl : xn = (M.getD i []).length := hxn
      have hx200 : (M.getD i []).length ≤ 200 := hM200 _ (by rw [List.getD, List.getElem?_eq_getElem (by omega : i < M.length)]; exact List.getElem_mem _)
      have hcell : cellH w.heap (adr la (i : Int).toNat) = some (.slice xa (M.getD i []).length xc) := by rw [Int.toNat_natCast]; exact hlow.vw.get i _ hx
      have hstb := stL_bd M hM200 i (by omega)
      refine Sl.nil ?_
      refine At.weak [(0, _), (1, _), (6, _), (7, _), (8, _), (9, _), (10, _), (43, _)] ⟨rfl, rfl, rfl, rfl, rfl, rfl, rfl, rfl, trivial⟩ ?_
      refine At.go ?_
      refine Sc.cond_t rfl ?_
      refine Sc.skip ?_
      refine At.go ?_
      refine Sc.seq ?_
      refine Sc.block ?_
      refine Sc.seq ?_
      refine Sc.region ?_
      refine Sl.calm (Cm.move rfl) rfl ?_
      refine Sl.calm (Cm.move rfl) rfl ?_
      refine Sl.calm (Cm.move rfl) rfl ?_
      refine Sl.calm (Cm.indexAddr1 sl22 rfl rfl hlow.vw.non (by omega)) rfl ?_
      refine Sl.calm (Cm.ld sca30 rfl hcell) rfl ?_
      refine Sl.call fn17 rfl (add_ok D1 p (stL (M.take i)) xa xc (M.getD i []) w hPk (fun k h => (hD1 k h).2) hxv (fun hne a ha h => by have h1 := hD0 _ (hxD hne _ ⟨a, ha, rfl⟩); have := (hD1 _ h).1; omega) (by omega) (by omega)) rfl ?_
      rintro _ w9 ⟨rfl, E1, hP9, hE1, hE1s, hF9⟩
      have hz9 := hF9.size
      have hF59 : Foot nob w5 w9 := hFw.trans_to hF9 (fun k h => .inr (hD1 k h).1)
      have hE1w : ∀ k, E1 k → w5.heap.size ≤ k ∧ k < w9.heap.size := fun k h => ⟨by rcases hE1 k h with h2 | h2; exact (hD1 k h2).1; have := hFw.size; omega, hE1s k h⟩
      have hoa9 := hoa.keep hF9 (fun a ha h => had _ ⟨a, ha, rfl⟩ h)
      have hoi9 := hoi.keep hF9 (fun a ha h => hid _ ⟨a, ha, rfl⟩ h)
      have hrw9 := hrw.keep hF9 (fun k h1 h2 => by have := hD0 k h1; have := (hD1 k h2).1; omega)
      have hla := hoa.lt
      have hli := hoi.lt
      have had9 : ∀ k, blk oa k → ¬ E1 k := fun k h1 h2 => by rcases hE1 k h2 with h | h; exact had k h1 h; obtain ⟨a, ha, rfl⟩ := h1; have := hla a ha; omega
      have hid9 : ∀ k, blk oi k → ¬ E1 k := fun k h1 h2 => by rcases hE1 k h2 with h | h; exact hid k h1 h; obtain ⟨a, ha, rfl⟩ := h1; have := hli a ha; omega
      have hcell9 : cellH w9.heap (adr la (i : Int).toNat) = some (.slice xa (M.getD i []).length xc) := by rw [Int.toNat_natCast]; exact (hlo5.grow hF59).vw.get i _ hx
      have hlv9 := (hlo5.grow hF59).vw
      have hst9 : ∀ j, j < qs.length → Stands (addL (stL (M.take i)) (M.getD i [])).1 (qs.getD j ask0) (ts.getD j []) := fun j hj => (hst j hj).ext (add_ext _ _)
      refine Sl.calm (Cm.move rfl) rfl ?_
      refine Sl.calm (Cm.extract rfl rfl) rfl ?_
      refine Sl.calm (Cm.extract rfl rfl) rfl ?_
      refine Sl.calm (Cm.assign rfl) rfl ?_
      refine Sl.calm (Cm.assign rfl) rfl ?_
      refine Sl.nil ?_
      refine At.weak [(0, _), (1, _), (6, _), (7, _), (8, _), (9, _), (10, _), (11, _), (12, _), (43, _)] ⟨rfl, rfl, rfl, rfl, rfl, rfl, rfl, rfl, rfl, rfl, trivial⟩ ?_
      refine At.go ?_
      refine Sc.seq ?_
      refine Sc.seq ?_
      refine Sc.region ?_
      refine Sl.calm (Cm.move rfl) rfl ?_
      refine Sl.calm (Cm.move rfl) rfl ?_
      refine Sl.calm (Cm.indexAddr1 sl22 rfl rfl hlv9.non (by omega)) rfl ?_
      refine Sl.calm (Cm.ld sca30 rfl hcell9) rfl ?_
      refine Sl.calm (Cm.len sl30 rfl) rfl ?_
      refine Sl.fork (Cm.lss rfl rfl) rfl (fun h60 => ?_) (fun h60 => ?_)
      ·
        have hbad := badT_yes (t := M.getD i []) (.inl (by omega))
        refine Sl.calm (Cm.move rfl) rfl ?_
        refine Sl.skip rfl rfl rfl rfl ?_
        refine Sl.skip rfl rfl rfl rfl ?_
        refine Sl.skip rfl rfl rfl rfl ?_
        refine Sl.skip rfl rfl rfl rfl ?_
        refine Sl.skip rfl rfl rfl rfl ?_
        refine Sl.skip rfl rfl rfl rfl ?_
        refine Sl.calm (Cm.pick_t rfl rfl) rfl ?_
        refine Sl.nil ?_
        refine At.weak [(0, _), (1, _), (6, _), (7, _), (8, _), (9, _), (10, _), (11, _), (12, _), (43, _), (68, _)] ⟨rfl, rfl, rfl, rfl, rfl, rfl, rfl, rfl, rfl, rfl, rfl, trivial⟩ ?_
        refine At.go ?_
        refine Sc.cond_t rfl ?_
        refine Sc.seq ?_
        refine Sc.seq ?_
        refine Sc.region ?_
        refine Sl.calm (Cm.move rfl) rfl ?_
        refine Sl.calm (Cm.no (Cm.neq rfl rfl) (by rw [addL_bad hbad]; exact fun h => h rfl)) rfl ?_
        refine Sl.calm (Cm.move rfl) rfl ?_
        refine Sl.want rfl rfl (Cm.move rfl) rfl ?_
        refine Sl.want rfl rfl (Cm.no (Cm.neq rfl rfl) (by rw [addL_bad hbad]; exact fun h => h rfl)) rfl ?_
        refine Sl.calm (Cm.pick_f rfl rfl) rfl ?_
        refine Sl.nil ?_
        refine At.weak [(0, _), (1, _), (6, _), (7, _), (8, _), (9, _), (10, _), (11, _), (12, _), (43, _), (68, _), (74, _)] ⟨rfl, rfl, rfl, rfl, rfl, rfl, rfl, rfl, rfl, rfl, rfl, rfl, trivial⟩ ?_
        refine At.go ?_
        refine Sc.cond_f rfl ?_
        refine Sc.skip ?_
        refine At.go ?_
        refine Sc.exit ?_
        refine At.then_exit ?_
        refine At.block_hit ?_
        refine At.go ?_
        refine Sc.region ?_
        refine Sl.calm (Cm.move rfl) rfl ?_
        refine Sl.calm (Cm.add64 rfl rfl (by omega)) rfl ?_
        refine Sl.calm (Cm.assign rfl) rfl ?_
        refine Sl.nil ?_
        exact At.again ⟨⟨i + 1, qs, ts, hs2⟩, ⟨⟨oa, ca⟩, ⟨oi, ci⟩⟩⟩ ⟨rfl, rfl, rfl, rfl, rfl, rfl, rfl, trivial⟩ ⟨by omega, E1, by rw [stL_succ M i hiM]; exact hP9, hE1w, hoa9, hoi9, hrw9, hlen, by omega, by rw [stL_succ M i hiM]; exact hst9, hfa, hfi, had9, hid9, hai, hF59⟩ (by show M.length - (i + 1) < M.length - i; omega)
      ·
        refine Sl.calm (Cm.move rfl) rfl ?_
        refine Sl.want rfl rfl (Cm.move rfl) rfl ?_
        refine Sl.want rfl rfl (Cm.move rfl) rfl ?_
        refine Sl.want rfl rfl (Cm.indexAddr1 sl22 rfl rfl hlv9.non (by omega)) rfl ?_
        refine Sl.want rfl rfl (Cm.ld sca30 rfl hcell9) rfl ?_
        refine Sl.want rfl rfl (Cm.len sl30 rfl) rfl ?_
        refine Sl.forkWant rfl rfl (Cm.geq rfl rfl) rfl (fun h67 => ?_) (fun h67 => ?_)
        ·
          have hbad := badT_yes (t := M.getD i []) (.inr (by omega))
          refine Sl.calm (Cm.pick_f rfl rfl) rfl ?_
          refine Sl.nil ?_
          refine At.weak [(0, _), (1, _), (6, _), (7, _), (8, _), (9, _), (10, _), (11, _), (12, _), (43, _), (68, _)] ⟨rfl, rfl, rfl, rfl, rfl, rfl, rfl, rfl, rfl, rfl, rfl, trivial⟩ ?_
          refine At.go ?_
          refine Sc.cond_t rfl ?_
          refine Sc.seq ?_
          refine Sc.seq ?_
          refine Sc.region ?_
          refine Sl.calm (Cm.move rfl) rfl ?_
          refine Sl.calm (Cm.no (Cm.neq rfl rfl) (by rw [addL_bad hbad]; exact fun h => h rfl)) rfl ?_
          refine Sl.calm (Cm.move rfl) rfl ?_
          refine Sl.want rfl rfl (Cm.move rfl) rfl ?_
          refine Sl.want rfl rfl (Cm.no (Cm.neq rfl rfl) (by rw [addL_bad hbad]; exact fun h => h rfl)) rfl ?_
          refine Sl.calm (Cm.pick_f rfl rfl) rfl ?_
          refine Sl.nil ?_
          refine At.weak [(0, _), (1, _), (6, _), (7, _), (8, _), (9, _), (10, _), (11, _), (12, _), (43, _), (68, _), (74, _)] ⟨rfl, rfl, rfl, rfl, rfl, rfl, rfl, rfl, rfl, rfl, rfl, rfl, trivial⟩ ?_
          refine At.go ?_
          refine Sc.cond_f rfl ?_
          refine Sc.skip ?_
          refine At.go ?_
          refine Sc.exit ?_
          refine At.then_exit ?_
          refine At.block_hit ?_
          refine At.go ?_
          refine Sc.region ?_
          refine Sl.calm (Cm.move rfl) rfl ?_
          refine Sl.calm (Cm.add64 rfl rfl (by omega)) rfl ?_
          refine Sl.calm (Cm.assign rfl) rfl ?_
          refine Sl.nil ?_
          exact At.again ⟨⟨i + 1, qs, ts, hs2⟩, ⟨⟨oa, ca⟩, ⟨oi, ci⟩⟩⟩ ⟨rfl, rfl, rfl, rfl, rfl, rfl, rfl, trivial⟩ ⟨by omega, E1, by rw [stL_succ M i hiM]; exact hP9, hE1w, hoa9, hoi9, hrw9, hlen, by omega, by rw [stL_succ M i hiM]; exact hst9, hfa, hfi, had9, hid9, hai, hF59⟩ (by show M.length - (i + 1) < M.length - i; omega)
        ·
          have hgood := badT_no (t := M.getD i []) (by omega)
          refine Sl.calm (Cm.pick_f rfl rfl) rfl ?_
          refine Sl.nil ?_
          refine At.weak [(0, _), (1, _), (6, _), (7, _), (8, _), (9, _), (10, _), (11, _), (12, _), (43, _), (68, _)] ⟨rfl, rfl, rfl, rfl, rfl, rfl, rfl, rfl, rfl, rfl, rfl, trivial⟩ ?_
          refine At.go ?_
          refine Sc.cond_f rfl ?_
          refine Sc.skip ?_
          refine At.go ?_
          refine Sc.seq ?_
          refine Sc.region ?_
          refine Sl.calm (Cm.move rfl) rfl ?_
          refine Sl.calm (Cm.move rfl) rfl ?_
          refine Sl.calm (Cm.move rfl) rfl ?_
          refine Sl.calm (Cm.move rfl) rfl ?_
          refine Sl.calm (Cm.move rfl) rfl ?_
          refine Sl.calm (Cm.indexAddr1 sl22 rfl rfl hlv9.non (by omega)) rfl ?_
          refine Sl.calm (Cm.ld sca30 rfl hcell9) rfl ?_
          refine Sl.calm (Cm.len sl30 rfl) rfl ?_
          obtain ⟨x, hxe⟩ : ∃ x : Int × Int × Int, x = ((((addL (stL (M.take i)) (M.getD i [])).2.1 : Nat) : Int), (((addL (stL (M.take i)) (M.getD i [])).2.2 : Nat) : Int), (((M.getD i []).length : Nat) : Int)) := ⟨_, rfl⟩
          refine Sl.calm (Cm.build (cs := #[.int .i64 ((addL (stL (M.take i)) (M.getD i [])).2.1 : Nat), .int .i64 ((addL (stL (M.take i)) (M.getD i [])).2.2 : Nat), .int .i64 ((M.getD i []).length : Nat)]) plc55 zc55 rfl (by kernel_rfl)) rfl ?_
          refine Sl.litG sl47 (cs := (askV x).toArray) zc55 rfl rfl rfl (by rw [hxe]; kernel_rfl) rfl ?_
          intro w10 hg10 hs10 hf10
          have ho10 : OwnM 3 askV 55 w10.heap (some ⟨w9.heap.size, 0, none⟩) 1 [x] := ownM_new (xs := [x]) askV_cellsB (by simpa using hg10) (by show 1 ≤ maxLen; decide)
          refine Sl.appendM askV_cellsB rfl sl47 rfl rfl (hoa9.grow hf10) (ho10.vw askV_cellsB) (by simp only [List.length_singleton]; omega) (by simp only [List.length_singleton]; unfold maxLen; omega) rfl ?_
          intro oa2 ca2 w11 ho11 hf11 hr11 hn11
          have hz10 := hf10.size
          have hz11 := hf11.size
          have hF11 : Foot nob w5 w11 := (hF59.trans hf10).trans_to hf11 hfa.step
          have hoi11 := (hoi9.grow hf10).keep hf11 (fun a ha h => hai _ h ⟨a, ha, rfl⟩)
          have hP11 := (hP9.keep hf10 (fun _ _ => id)).keep hf11 (fun k h1 h2 => had9 k h2 h1)
          have hrw11 := (hrw9.keep hf10 (fun _ _ => id)).keep hf11 (fun k h1 ⟨a, ha, e⟩ => by have := hD0 k h1; have := hfa a ha; omega)
          have hcell11 : cellH w11.heap (adr la (i : Int).toNat) = some (.slice xa (M.getD i []).length xc) := by rw [Int.toNat_natCast]; exact (hlo5.grow hF11).vw.get i _ hx
          have hlv11 := (hlo5.grow hF11).vw
          have hl11 := ho11.lt
          refine Sl.calm (Cm.assign rfl) rfl ?_
          refine Sl.nil ?_
          refine At.weak [(0, _), (1, _), (6, _), (7, _), (8, _), (9, _), (10, _), (11, _), (12, _), (43, _), (68, _)] ⟨rfl, rfl, rfl, rfl, rfl, rfl, rfl, rfl, rfl, rfl, rfl, trivial⟩ ?_
          refine At.go ?_
          refine Sc.region ?_
          refine Sl.calm (Cm.move rfl) rfl ?_
          refine Sl.calm (Cm.move rfl) rfl ?_
          refine Sl.calm (Cm.move rfl) rfl ?_
          refine Sl.calm (Cm.indexAddr1 sl22 rfl rfl hlv11.non (by omega)) rfl ?_
          refine Sl.calm (Cm.ld sca30 rfl hcell11) rfl ?_
          refine Sl.lit1 (enc := hd) (u := (⟨xa, (M.getD i []).length, xc⟩ : Hd)) sl22 rfl rfl rfl ?_
          intro w12 ho12 hs12 hf12
          have hz12 := hf12.size
          refine Sl.append hd_one sl22 rfl rfl (hoi11.grow hf12) ho12.vw (by rw [hrw.1]; simp only [List.length_singleton]; omega) (by rw [hrw.1]; simp only [List.length_singleton]; unfold maxLen; omega) rfl ?_
          intro oi2 ci2 w13 ho13 hf13 hr13 hn13
          have hz13 := hf13.size
          have hF13 : Foot nob w5 w13 := (hF11.trans hf12).trans_to hf13 hfi.step
          have hP13 := (hP11.keep hf12 (fun _ _ => id)).keep hf13 (fun k h1 h2 => hid9 k h2 h1)
          have hoa13 := (ho11.grow hf12).keep hf13 (fun a ha ⟨z, hz, e⟩ => by rcases hr11 a ha with h | h; exact hai _ ⟨a, h, rfl⟩ ⟨z, hz, e⟩; have := hli z hz; omega)
          have hrw13 := (hrw11.keep hf12 (fun _ _ => id)).keep hf13 (fun k h1 ⟨a, ha, e⟩ => by have := hD0 k h1; have := hfi a ha; omega)
          have hxv13 := hlr5.keep hF13 (fun _ _ => id) |>.at (i := i) (by omega)
          obtain ⟨⟨xa2, xn2, xc2⟩, hx2, hxn2, hxv2, hxD2⟩ := hxv13
          rw [hx] at hx2
          cases hx2
          refine Sl.calm (Cm.assign rfl) rfl ?_
          refine Sl.nil ?_
          refine At.block_normal ?_
          refine At.weak [(0, _), (1, _), (6, _), (7, _), (8, _), (9, _), (10, _), (11, _), (12, _), (43, _), (68, _)] ⟨rfl, rfl, rfl, rfl, rfl, rfl, rfl, rfl, rfl, rfl, rfl, trivial⟩ ?_
          refine At.go ?_
          refine Sc.region ?_
          refine Sl.calm (Cm.move rfl) rfl ?_
          refine Sl.calm (Cm.add64 rfl rfl (by omega)) rfl ?_
          refine Sl.calm (Cm.assign rfl) rfl ?_
          refine Sl.nil ?_
          refine At.again ⟨⟨i + 1, qs ++ [x], ts ++ [M.getD i []], hs2 ++ [⟨xa, (M.getD i []).length, xc⟩]⟩, ⟨⟨oa2, ca2⟩, ⟨oi2, ci2⟩⟩⟩ ⟨rfl, rfl, rfl, rfl, rfl, rfl, rfl, trivial⟩ ⟨by omega, E1, by rw [stL_succ M i hiM]; exact hP13, (fun k hk => ⟨(hE1w k hk).1, by have := (hE1w k hk).2; omega⟩), hoa13, ho13, hrw13.snoc rfl hxv2 hxD2, by simp [hlen], by simp; omega, ?_, fr_next hfa hr11 (by have := hF59.size; omega), fr_next hfi hr13 (by have := hF11.size; omega), ?_, ?_, ?_, hF13⟩ (by show M.length - (i + 1) < M.length - i; omega)
          · intro j hj
            rw [stL_succ M i hiM]
            rcases getD_snocB (d := ask0) hj with ⟨h1, h2⟩ | ⟨h1, h2⟩
            · rw [h2, getD_app_left (by omega)]; exact hst9 j h1
            · rw [h2, h1, hlen, getD_app_last, hxe]; exact add_stands hgood
          · rintro k ⟨a, ha, e⟩ hk
            rcases hr11 a ha with h | h
            · exact had9 k ⟨a, h, e⟩ hk
            · have := (hE1w k hk).2; omega
          · rintro k ⟨a, ha, e⟩ hk
            rcases hr13 a ha with h | h
            · exact hid9 k ⟨a, h, e⟩ hk
            · have := (hE1w k hk).2; omega
          · rintro k ⟨a, ha, e⟩ ⟨z, hz, e2⟩
            rcases hr13 z hz with h | h
            · rcases hr11 a ha with h2 | h2
              · exact hai k ⟨a, h2, e⟩ ⟨z, h, e2⟩
              · have := hli z h; omega
            · have := hl11 a ha; omega
    ·
      refine Sl.nil ?_
      refine At.weak [(0, _), (1, _), (6, _), (7, _), (8, _), (9, _), (10, _), (43, _)] ⟨rfl, rfl, rfl, rfl, rfl, rfl, rfl, rfl, trivial⟩ ?_
      refine At.go ?_
      refine Sc.cond_f rfl ?_
      refine Sc.exit ?_
      refine At.then_exit ?_
      refine At.then_exit ?_
      refine At.block_hit ?_
      refine At.go ?_
      refine Sc.seq ?_
      refine Sc.region ?_
      have hiM : i = M.length := by omega
      obtain ⟨B, hB⟩ : ∃ B, B = stL (M.take i) := ⟨_, rfl⟩
      have hB128 : ∀ x ∈ B, x.length ≤ 128 := by rw [hB]; exact stL_le M i hi
      have hBb := stL_bd M hM200 i hi
      rw [← hB] at hPk hst hBb
      refine Sl.lit0 b8 sl30 rfl ?_
      intro v1 hv1 hvs1 hvf1
      refine Sl.calm (Cm.move rfl) rfl ?_
      refine Sl.append b8_one sl30 rfl rfl hv1 ((hvb.grow (hF5.trans hFw)).grow hvf1) (by simp only [List.length_nil]; omega) (by simp only [List.length_nil]; unfold maxLen; omega) rfl ?_
      intro om cm v2 hom hvf2 hrm hnm
      rw [List.nil_append] at hom ⊢
      have hFv2 : Foot nob w v2 := hvf1.trans_to hvf2 (fr_at _).step
      have hfrm : Fr w.heap.size om := fr_next (fr_at _) hrm hvf1.size
      have hzv2 := hFv2.size
      refine Sl.calm (Cm.assign rfl) rfl ?_
      refine Sl.nil ?_
      refine At.weak [(0, _), (1, _), (6, _), (7, _), (8, _), (9, _), (10, _), (13, _), (43, _)] ⟨rfl, rfl, rfl, rfl, rfl, rfl, rfl, rfl, rfl, trivial⟩ ?_
      refine At.go ?_
      refine Sc.seq ?_
      refine Sc.region ?_
      refine Sl.lit0 i64 sl35 rfl ?_
      intro v3 hop hvs3 hvf3
      have hom3 := hom.grow hvf3
      have hFv3 := hFv2.trans hvf3
      have hlm := hom.lt
      refine Sl.calm (Cm.assign rfl) rfl ?_
      refine Sl.nil ?_
      refine At.weak [(0, _), (1, _), (6, _), (7, _), (8, _), (9, _), (10, _), (13, _), (14, _), (43, _)] ⟨rfl, rfl, rfl, rfl, rfl, rfl, rfl, rfl, rfl, rfl, trivial⟩ ?_
      refine At.go ?_
      refine Sc.seq ?_
      refine Sc.region ?_
      refine Sl.calm (Cm.move rfl) rfl ?_
      refine Sl.call fn19 rfl (blocks_ok D1 p B v3 (hPk.keep hFv3 (fun _ _ => id)) (by omega) (by omega)) rfl ?_
      rintro _ v4 ⟨ba, bc2, bls, rfl, hbo4, hbr4, hbf, hvf4⟩
      have hbr4 := hbr4.ltB
      have hbll := hbr4.1
      have hzv4 := hvf4.size
      have hom4 := hom3.grow hvf4
      have hop4 := hop.grow hvf4
      have hFv4 := hFv3.trans hvf4
      obtain ⟨qp, hqp⟩ : ∃ qp, qp = v2.heap.size := ⟨_, rfl⟩
      rw [← hqp] at hop4 ⊢
      have hlb := hbo4.lt
      refine Sl.calm (Cm.assign rfl) rfl ?_
      refine Sl.nil ?_
      refine At.weak [(0, _), (1, _), (6, _), (7, _), (8, _), (9, _), (10, _), (13, _), (14, _), (15, _), (43, _)] ⟨rfl, rfl, rfl, rfl, rfl, rfl, rfl, rfl, rfl, rfl, rfl, trivial⟩ ?_
      refine At.go ?_
      refine Sc.seq ?_
      refine Sc.seq ?_
      refine Sc.region ?_
      refine Sl.calm (Cm.assign rfl) rfl ?_
      refine Sl.nil ?_
      refine At.go ?_
      refine Sc.block ?_
      refine Sc.loop (β := Nat × ((Option Addr × Nat) × (Option Addr × Nat))) (fun ⟨k, ⟨⟨om, cm⟩, ⟨op, cp⟩⟩⟩ => [(6, .pointer (some ⟨q, 0, none⟩)), (8, .slice oa qs.length ca), (9, .slice oi hs2.length ci), (13, .slice om (b ++ frB (B.take k)).length cm), (14, .slice op (plB b B k).length cp), (15, .slice ba bls.length bc2), (16, .int .i64 k)]) (fun ⟨k, ⟨⟨om, cm⟩, ⟨op, cp⟩⟩⟩ u => k ≤ B.length ∧ Own b8 5 u.heap om cm (b ++ frB (B.take k)) ∧ Own i64 3 u.heap op cp (plB b B k) ∧ OutB v3.heap.size v4.heap.size om ∧ OutB v3.heap.size v4.heap.size op ∧ Fr w.heap.size om ∧ Fr w.heap.size op ∧ Ap om op ∧ Own hd 30 u.heap ba bc2 bls ∧ RowsV (fun k => v3.heap.size ≤ k ∧ k < v4.heap.size) u.heap bls B ∧ v4.heap.size ≤ u.heap.size ∧ Foot nob w u) (fun ⟨k, ⟨⟨om, cm⟩, ⟨op, cp⟩⟩⟩ => B.length - k) ⟨0, ⟨⟨om, cm⟩, ⟨some ⟨qp, 0, none⟩, 0⟩⟩⟩ ⟨rfl, rfl, rfl, (by show some (Value.slice om b.length cm) = some (Value.slice om (b ++ frB (B.take 0)).length cm); simp [frB]), rfl, rfl, rfl, trivial⟩ ⟨Nat.zero_le _, by simpa [frB] using hom4, by simpa [plB] using hop4, (fun a ha => .inl (by have := hlm a ha; omega)), (fun a ha => by cases ha; exact .inl (by show qp < v3.heap.size; omega)), hfrm, (fun a ha => by cases ha; show w.heap.size ≤ qp; omega), (fun a z ha hz e => by cases hz; have := hlm a ha; have e : a.block = qp := e; omega), hbo4, hbr4, Nat.le_refl _, hFv4⟩ ?_
      rintro ⟨k, ⟨⟨om, cm⟩, ⟨op, cp⟩⟩⟩ u ⟨hk, homu, hopu, hmo, hpo, hmf, hpf, hmp, hbou, hbru, hzu, hFu⟩
      refine Sc.seq ?_
      refine Sc.seq ?_
      refine Sc.region ?_
      refine Sl.calm (Cm.move rfl) rfl ?_
      refine Sl.calm (Cm.move rfl) rfl ?_
      refine Sl.calm (Cm.len sl22 rfl) rfl ?_
      refine Sl.fork (Cm.lss rfl rfl) rfl (fun h102 => ?_) (fun h102 => ?_)
      ·
        have hkB : k < B.length := by omega
        obtain ⟨⟨ya, yn, yc⟩, hy, hyn, hyv, hyD⟩ := hbru.at (i := k) hkB
        obtain rfl : yn = (B.getD k []).length := hyn
        have hb128 : (B.getD k []).length ≤ 128 := hB128 _ (by rw [List.getD, List.getElem?_eq_getElem hkB]; exact List.getElem_mem _)
        have hok := (take_frame hb128 []).2.1
        have hpl := (putS_len hb128).1
        have hfl := frB_take hB128 k
        have hycell : cellH u.heap (adr ba (k : Int).toNat) = some (.slice ya (B.getD k []).length yc) := by rw [Int.toNat_natCast]; exact hbou.vw.get k _ hy
        have hppl := plB_len b B k
        have hbb : ∀ a, ba = some a → v3.heap.size ≤ a.block ∧ a.block < v4.heap.size := fun a ha => ⟨hbf a ha, hlb a ha⟩
        refine Sl.nil ?_
        refine At.weak [(6, _), (8, _), (9, _), (13, _), (14, _), (15, _), (16, _), (102, _)] ⟨rfl, rfl, rfl, rfl, rfl, rfl, rfl, rfl, trivial⟩ ?_
        refine At.go ?_
        refine Sc.cond_t rfl ?_
        refine Sc.skip ?_
        refine At.go ?_
        refine Sc.seq ?_
        refine Sc.block ?_
        refine Sc.seq ?_
        refine Sc.region ?_
        refine Sl.calm (Cm.move rfl) rfl ?_
        refine Sl.calm (Cm.move rfl) rfl ?_
        refine Sl.calm (Cm.indexAddr1 sl22 rfl rfl hbou.vw.non (by omega)) rfl ?_
        refine Sl.calm (Cm.ld sca30 rfl hycell) rfl ?_
        refine Sl.call fn31 rfl (fput_ok q ya yc (B.getD k []) u ((hFw.trans hFu).obj ht5 id) hyv) rfl ?_
        rintro _ u1 ⟨ox, cx, rfl, hox, hfrx, huf1⟩
        have hzu1 := huf1.size
        refine Sl.calm (Cm.move rfl) rfl ?_
        refine Sl.calm (Cm.extract rfl rfl) rfl ?_
        refine Sl.calm (Cm.extract rfl rfl) rfl ?_
        refine Sl.calm (Cm.assign rfl) rfl ?_
        refine Sl.calm (Cm.assign rfl) rfl ?_
        refine Sl.nil ?_
        refine At.weak [(6, _), (8, _), (9, _), (13, _), (14, _), (15, _), (16, _), (17, _), (18, _), (102, _)] ⟨rfl, rfl, rfl, rfl, rfl, rfl, rfl, rfl, rfl, rfl, trivial⟩ ?_
        refine At.go ?_
        refine Sc.seq ?_
        refine Sc.seq ?_
        refine Sc.region ?_
        refine Sl.calm (Cm.move rfl) rfl ?_
        refine Sl.calm (Cm.no (Cm.neq rfl rfl) (fun h => h hok)) rfl ?_
        refine Sl.nil ?_
        refine At.weak [(6, _), (8, _), (9, _), (13, _), (14, _), (15, _), (16, _), (17, _), (18, _), (102, _), (114, _)] ⟨rfl, rfl, rfl, rfl, rfl, rfl, rfl, rfl, rfl, rfl, rfl, trivial⟩ ?_
        refine At.go ?_
        refine Sc.cond_f rfl ?_
        refine Sc.skip ?_
        refine At.go ?_
        refine Sc.seq ?_
        refine Sc.region ?_
        refine Sl.calm (Cm.move rfl) rfl ?_
        refine Sl.calm (Cm.move rfl) rfl ?_
        refine Sl.calm (Cm.len sl30 rfl) rfl ?_
        refine Sl.lit1 (enc := i64) (u := (((b ++ frB (B.take k)).length : Nat) : Int)) sl35 (i64_oneB _) rfl rfl ?_
        intro u2 ho2 hus2 huf2
        have huf02 := huf1.trans huf2
        have hzu2 := huf2.size
        have hlmm := homu.lt
        have hlpp := hopu.lt
        refine Sl.append i64_oneB sl35 rfl rfl (hopu.grow huf02) ho2.vw (by rw [hppl]; simp only [List.length_singleton]; omega) (by rw [hppl]; simp only [List.length_singleton]; unfold maxLen; omega) rfl ?_
        intro op3 cp3 u3 hop3 huf3 hrp3 hnp3
        have hzu3 := huf3.size
        rw [show (((b ++ frB (B.take k)).length : Nat) : Int) = ((b.length + (frB (B.take k)).length : Nat) : Int) by rw [List.length_append], ← plB_snoc] at hop3 ⊢
        have hom3u := (homu.grow huf02).keep huf3 (fun a ha ⟨z, hz, e⟩ => hmp a z ha hz e.symm)
        have hox3 := (hox.grow huf2).keep huf3 (fun a ha ⟨z, hz, e⟩ => by have := hfrx a ha; have := hlpp z hz; omega)
        refine Sl.calm (Cm.assign rfl) rfl ?_
        refine Sl.nil ?_
        refine At.weak [(6, _), (8, _), (9, _), (13, _), (14, _), (15, _), (16, _), (17, _), (18, _), (102, _), (114, _)] ⟨rfl, rfl, rfl, rfl, rfl, rfl, rfl, rfl, rfl, rfl, rfl, trivial⟩ ?_
        refine At.go ?_
        refine Sc.region ?_
        refine Sl.calm (Cm.move rfl) rfl ?_
        refine Sl.calm (Cm.move rfl) rfl ?_
        refine Sl.append b8_one sl30 rfl rfl hom3u hox3.vw (by rw [List.length_append]; omega) (by rw [List.length_append]; unfold maxLen; omega) rfl ?_
        intro om4 cm4 u4 hom4u huf4 hrm4 hnm4
        have hzu4 := huf4.size
        rw [List.append_assoc, ← frB_snoc B k hkB] at hom4u ⊢
        have hop4u := hop3.keep huf4 (fun a ha ⟨z, hz, e⟩ => by rcases hrp3 a ha with h | h; exact hmp z a hz h e; have := hlmm z hz; omega)
        have hFu04 : Foot nob w u4 := ((hFu.trans huf02).trans_to huf3 (fun k ⟨z, hz, e⟩ => .inr (by have := hpf z hz; omega))).trans_to huf4 (fun k ⟨z, hz, e⟩ => .inr (by have := hmf z hz; omega))
        have hbo4u := ((hbou.grow huf02).keep huf3 (fun a ha ⟨z, hz, e⟩ => by have := hbb a ha; have := hpo z hz; omega)).keep huf4 (fun a ha ⟨z, hz, e⟩ => by have := hbb a ha; have := hmo z hz; omega)
        have hbr4u := ((hbru.keep huf02 (fun _ _ => id)).keep huf3 (fun k hk ⟨z, hz, e⟩ => by have h1 := hk.1; have h2 := hk.2; have := hpo z hz; omega)).keep huf4 (fun k hk ⟨z, hz, e⟩ => by have h1 := hk.1; have h2 := hk.2; have := hmo z hz; omega)
        refine Sl.calm (Cm.assign rfl) rfl ?_
        refine Sl.nil ?_
        refine At.block_normal ?_
        refine At.weak [(6, _), (8, _), (9, _), (13, _), (14, _), (15, _), (16, _), (17, _), (18, _), (102, _), (114, _)] ⟨rfl, rfl, rfl, rfl, rfl, rfl, rfl, rfl, rfl, rfl, rfl, trivial⟩ ?_
        refine At.go ?_
        refine Sc.region ?_
        refine Sl.calm (Cm.move rfl) rfl ?_
        refine Sl.calm (Cm.add64 rfl rfl (by omega)) rfl ?_
        refine Sl.calm (Cm.assign rfl) rfl ?_
        refine Sl.nil ?_
        refine At.again ⟨k + 1, ⟨⟨om4, cm4⟩, ⟨op3, cp3⟩⟩⟩ ⟨rfl, rfl, rfl, rfl, rfl, rfl, rfl, trivial⟩ ⟨by omega, hom4u, hop4u, ?_, ?_, fr_next hmf hrm4 (by have := hFu.size; omega), fr_next hpf hrp3 (by have := hFu.size; omega), ?_, hbo4u, hbr4u, by omega, hFu04⟩ (by show B.length - (k + 1) < B.length - k; omega)
        · intro a ha
          rcases hrm4 a ha with h | h
          · exact hmo a h
          · exact .inr (by omega)
        · intro a ha
          rcases hrp3 a ha with h | h
          · exact hpo a h
          · exact .inr (by omega)
        · intro a z ha hz e
          rcases hrm4 a ha with h | h
          · rcases hrp3 z hz with h2 | h2
            · exact hmp a z h h2 e
            · have := hlmm a h; omega
          · have := hop3.lt z hz; omega
      ·
        refine Sl.nil ?_
        refine At.weak [(6, _), (8, _), (9, _), (13, _), (14, _), (15, _), (16, _), (102, _)] ⟨rfl, rfl, rfl, rfl, rfl, rfl, rfl, rfl, trivial⟩ ?_
        refine At.go ?_
        refine Sc.cond_f rfl ?_
        refine Sc.exit ?_
        refine At.then_exit ?_
        refine At.then_exit ?_
        refine At.block_hit ?_
        refine At.go ?_
        refine Sc.seq ?_
        refine Sc.seq ?_
        refine Sc.region ?_
        refine Sl.calm (Cm.assign rfl) rfl ?_
        refine Sl.nil ?_
        refine At.go ?_
        refine Sc.block ?_
        have hkB : k = B.length := by omega
        subst hkB
        rw [List.take_length] at homu ⊢
        have hoau := hoa.grow hFu
        have hoiu := hoi.grow hFu
        have hrwu := hrw.keep hFu (fun _ _ => id)
        refine Sc.loop (β := Nat) (fun j => [(6, .pointer (some ⟨q, 0, none⟩)), (8, .slice oa qs.length ca), (9, .slice oi hs2.length ci), (13, .slice om (b ++ frB B).length cm), (14, .slice op (plB b B B.length).length cp), (19, .int .i64 j)]) (fun j v => j ≤ hs2.length ∧ Foot nob u v) (fun j => hs2.length - j) 0 ⟨rfl, rfl, rfl, rfl, rfl, rfl, trivial⟩ ⟨Nat.zero_le _, Foot.refl _ _⟩ ?_
        rintro j v ⟨hj, hFv⟩
        refine Sc.seq ?_
        refine Sc.seq ?_
        refine Sc.region ?_
        refine Sl.calm (Cm.move rfl) rfl ?_
        refine Sl.calm (Cm.move rfl) rfl ?_
        refine Sl.calm (Cm.len sl22 rfl) rfl ?_
        refine Sl.fork (Cm.lss rfl rfl) rfl (fun h126 => ?_) (fun h126 => ?_)
        ·
          have hjq : j < qs.length := by have := hrw.1; omega
          have hsj := hst j hjq
          obtain ⟨x, hxe⟩ : ∃ x, x = qs.getD j ask0 := ⟨_, rfl⟩
          obtain ⟨t, hte⟩ : ∃ t, t = ts.getD j [] := ⟨_, rfl⟩
          rw [← hxe, ← hte] at hsj
          have hxj : qs[j]? = some x := by rw [hxe]; simp [List.getD, hjq]
          obtain ⟨bd1, bd2, bd3, ht128⟩ := stands_bd hsj hB128 (by omega)
          have hfrag := frag_back (pre := b) hB128 hsj
          have hav := (hoau.grow hFv).vw askV_cellsB
          have hfl := frB_len hB128
          have hpp := plB_len b B B.length
          have hFwv := (hFw.trans hFu).trans hFv
          refine Sl.nil ?_
          refine At.weak [(6, _), (8, _), (9, _), (13, _), (14, _), (19, _), (126, _)] ⟨rfl, rfl, rfl, rfl, rfl, rfl, rfl, trivial⟩ ?_
          refine At.go ?_
          refine Sc.cond_t rfl ?_
          refine Sc.skip ?_
          refine At.go ?_
          refine Sc.seq ?_
          refine Sc.block ?_
          refine Sc.seq ?_
          refine Sc.draw 23 (fun H => VwM 3 askV H oa ca qs) [17] [0, 1, 2, 3, 4, 5, 6, 7, 8, 9, 10, 11, 12, 13, 14, 15, 16, 17, 18, 19, 20, 21, 22] mixed (by kernel_rfl) (hav) ?_
          refine Sx.calm rfl rfl (Cm.move rfl) rfl ?_
          refine Sx.calm rfl rfl (Cm.move rfl) rfl ?_
          refine Sx.calm rfl rfl (Cm.move rfl) rfl ?_
          refine Sx.calm rfl rfl (Cm.move rfl) rfl ?_
          refine Sx.calm rfl rfl (Cm.indexAddr sl47 rfl rfl hav.non (by omega)) rfl ?_
          refine Sx.calm rfl rfl (Cm.field fld55_0 rfl) rfl ?_
          refine Sx.calm rfl rfl (Cm.load sca3 rfl (fun H hH => hH.rowZ j rfl hxj 0 _ rfl)) rfl ?_
          refine Sx.calm rfl rfl (Cm.move rfl) rfl ?_
          refine Sx.calm rfl rfl (Cm.move rfl) rfl ?_
          refine Sx.calm rfl rfl (Cm.indexAddr sl47 rfl rfl hav.non (by omega)) rfl ?_
          refine Sx.calm rfl rfl (Cm.field fld55_1 rfl) rfl ?_
          refine Sx.calm rfl rfl (Cm.load sca3 rfl (fun H hH => hH.rowZ j rfl hxj 1 _ rfl)) rfl ?_
          refine Sx.calm rfl rfl (Cm.move rfl) rfl ?_
          refine Sx.calm rfl rfl (Cm.move rfl) rfl ?_
          refine Sx.calm rfl rfl (Cm.indexAddr sl47 rfl rfl hav.non (by omega)) rfl ?_
          refine Sx.calm rfl rfl (Cm.field fld55_2 rfl) rfl ?_
          refine Sx.calm rfl rfl (Cm.load sca3 rfl (fun H hH => hH.rowZ j rfl hxj 2 _ rfl)) rfl ?_
          refine Sx.eff rfl rfl (Sl.call fn29 rfl (fread_ok q om cm (b ++ frB B) op cp (plB b B B.length) x.1 x.2.1 x.2.2 _ (hFwv.obj ht5 id) ((homu.grow hFv).vw) (by rw [List.length_append]; omega) ((hopu.grow hFv).vw) (plB_bd hB128 (by omega) (by omega) _) bd1 bd2 bd3) rfl ?_)
          rw [hfrag]
          intro _ x1 hP
          obtain ⟨o1, c1, rfl, ho1, hfr1, hxf1⟩ := hP
          have hxf1 := hxf1.undraw
          have hFx := hFv.trans hxf1
          have hoix := hoiu.grow hFx
          have hrwx := hrwu.keep hFx (fun _ _ => id)
          refine Sx.on (by exact (hoau.grow hFx).vw askV_cellsB) ?_
          obtain ⟨⟨za, zn, zc⟩, hz, hzn, hzv, _⟩ := hrwx.at (i := j) (by omega)
          rw [← hte] at hzn hzv
          obtain rfl : zn = t.length := hzn
          have hzcell : cellH x1.heap (adr oi (j : Int).toNat) = some (.slice za t.length zc) := by rw [Int.toNat_natCast]; exact hoix.vw.get j _ hz
          refine Sx.calm rfl rfl (Cm.move rfl) rfl ?_
          refine Sx.calm rfl rfl (Cm.extract rfl rfl) rfl ?_
          refine Sx.calm rfl rfl (Cm.extract rfl rfl) rfl ?_
          refine Sx.calm rfl rfl (Cm.assign rfl) rfl ?_
          refine Sx.calm rfl rfl (Cm.assign rfl) rfl ?_
          refine Sx.nil ?_
          refine At.weak [(6, _), (8, _), (9, _), (13, _), (14, _), (19, _), (20, _), (21, _), (126, _)] ⟨rfl, rfl, rfl, rfl, rfl, rfl, rfl, rfl, rfl, trivial⟩ ?_
          refine At.go ?_
          refine Sc.seq ?_
          refine Sc.quiet 12 [0, 1, 2, 3, 4, 5, 6, 7, 8, 9, 10, 11] mixed (by kernel_rfl) ?_
          refine Sx.calm rfl rfl (Cm.move rfl) rfl ?_
          refine Sx.calm rfl rfl (Cm.no (Cm.neq rfl rfl) (fun h => h rfl)) rfl ?_
          refine Sx.calm rfl rfl (Cm.move rfl) rfl ?_
          refine Sx.want rfl rfl rfl rfl (Cm.move rfl) rfl ?_
          refine Sx.want rfl rfl rfl rfl (Cm.strIn sl30 ty5 ty9 rfl ho1.vw) rfl ?_
          refine Sx.want rfl rfl rfl rfl (Cm.move rfl) rfl ?_
          refine Sx.want rfl rfl rfl rfl (Cm.move rfl) rfl ?_
          refine Sx.want rfl rfl rfl rfl (Cm.indexAddr1 sl22 rfl rfl hoix.vw.non (by have := hrw.1; omega)) rfl ?_
          refine Sx.want rfl rfl rfl rfl (Cm.ld sca30 rfl hzcell) rfl ?_
          refine Sx.want rfl rfl rfl rfl (Cm.strIn sl30 ty5 ty9 rfl hzv) rfl ?_
          refine Sx.want rfl rfl rfl rfl (Cm.no (Cm.neqBs rfl rfl) (fun h => h rfl)) rfl ?_
          refine Sx.calm rfl rfl (Cm.pick_f rfl rfl) rfl ?_
          refine Sx.nil ?_
          refine At.weak [(6, _), (8, _), (9, _), (13, _), (14, _), (19, _), (20, _), (21, _), (126, _), (161, _)] ⟨rfl, rfl, rfl, rfl, rfl, rfl, rfl, rfl, rfl, rfl, trivial⟩ ?_
          refine At.go ?_
          refine Sc.cond_f rfl ?_
          refine Sc.skip ?_
          refine At.block_normal ?_
          refine At.go ?_
          refine Sc.region ?_
          refine Sl.calm (Cm.move rfl) rfl ?_
          refine Sl.calm (Cm.add64 rfl rfl (by have := hrw.1; omega)) rfl ?_
          refine Sl.calm (Cm.assign rfl) rfl ?_
          refine Sl.nil ?_
          exact At.again (j + 1) ⟨rfl, rfl, rfl, rfl, rfl, rfl, trivial⟩ ⟨by omega, hFx.draws 1⟩ (by show hs2.length - (j + 1) < hs2.length - j; omega)
        ·
          refine Sl.nil ?_
          refine At.weak [(6, _), (8, _), (9, _), (13, _), (14, _), (19, _), (126, _)] ⟨rfl, rfl, rfl, rfl, rfl, rfl, rfl, trivial⟩ ?_
          refine At.go ?_
          refine Sc.cond_f rfl ?_
          refine Sc.exit ?_
          refine At.then_exit ?_
          refine At.then_exit ?_
          refine At.block_hit ?_
          refine At.go ?_
          refine Sc.seq ?_
          refine Sc.region ?_
          refine Sl.calm (Cm.assign rfl) rfl ?_
          refine Sl.nil ?_
          refine At.go ?_
          refine Sc.ret ?_
          refine At.ret1 rfl rfl ?_
          exact ⟨_, rfl, rfl, ((hF5.trans hFw).trans hFu).trans hFv⟩
end Go.Proofs.Ytapmfoogjkdffaa
