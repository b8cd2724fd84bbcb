/- frame: the law on frames in a row. No condition beyond the bounds that each states. -/
import Derived.Test.YtlpfahmkjgompaaFmF
namespace Go.Proofs.Ytlpfahmkjgompaa
open Go Go.RowKit
set_option linter.unusedVariables false

def frL (M : List (List UInt8)) : List UInt8 := (M.map (fun b => (putS b).1)).flatten
def M20 (L : List (List UInt8)) : List (List UInt8) := (L.take 20).map (·.take 128)
theorem M20_len (L : List (List UInt8)) : (M20 L).length = min 20 L.length := by simp [M20]
theorem M20_at {L : List (List UInt8)} {k : Nat} (h : k < (M20 L).length) : (M20 L).getD k [] = (L.getD k []).take 128 := by
  rw [M20_len] at h
  unfold M20
  rw [List.getD, List.getD, List.getElem?_map, List.getElem?_take, if_pos (by omega), List.getElem?_eq_getElem (by omega)]; rfl
theorem frL_snoc (M : List (List UInt8)) (b : List UInt8) : frL (M ++ [b]) = frL M ++ (putS b).1 := by unfold frL; simp
theorem take_sn {α : Type} {M : List (List α)} {k : Nat} (h : k < M.length) : M.take (k + 1) = M.take k ++ [M.getD k []] := by
  rw [List.take_succ_eq_append_getElem h, List.getD, List.getElem?_eq_getElem h]; rfl
theorem frL_split {M : List (List UInt8)} {k : Nat} (h : k < M.length) : frL M = frL (M.take k) ++ ((putS (M.getD k [])).1 ++ frL (M.drop (k + 1))) := by
  conv => lhs; rw [← List.take_append_drop k M, List.drop_eq_getElem_cons h]
  unfold frL
  rw [List.map_append, List.flatten_append, List.map_cons, List.flatten_cons]
  simp [List.getD, h]
theorem frL_len {M : List (List UInt8)} (hM : ∀ b ∈ M, b.length ≤ 128) : ∀ k, k ≤ M.length → (frL (M.take k)).length ≤ 135 * k
  | 0, _ => by simp [frL]
  | k + 1, h => by
    have ih := frL_len hM k (by omega)
    have hb : (M.getD k []).length ≤ 128 := hM _ (by rw [List.getD, List.getElem?_eq_getElem (show k < M.length by omega)]; exact List.getElem_mem _)
    have := putS_len hb
    rw [take_sn (by omega), frL_snoc, List.length_append]; omega
theorem M20_small (L : List (List UInt8)) : ∀ b ∈ M20 L, b.length ≤ 128 := by
  intro b hb
  obtain ⟨x, _, rfl⟩ := List.mem_map.1 hb
  rw [List.length_take]; omega

set_option maxHeartbeats 4000000 in
theorem frameRows_ok (D0 : Nat → Prop) (ao : Option Addr) (cap : Nat) (hs : List Hd) (L : List (List UInt8)) (W : World) (hv : Vw hd W.heap ao cap hs) (hr : RowsV D0 W.heap hs L) (hD0 : ∀ k, D0 k → k < W.heap.size) :
    Calls Try.prog 8 [.slice ao hs.length cap].toArray W (Ret fun v w' => v = .bool true ∧ Foot nob W w') := by
  have hl := hv.len63
  have hln := hr.1
  obtain ⟨M, hM⟩ : ∃ M, M = M20 L := ⟨_, rfl⟩
  have hMl : M.length = min 20 L.length := by rw [hM, M20_len]
  have hMs : ∀ b ∈ M, b.length ≤ 128 := by rw [hM]; exact M20_small L
  refine calls_of_sc 104 [(0, _)] Try.func8 rfl rfl rfl (enter_slots ⟨rfl, trivial⟩) ?_
  refine Sc.seq ?_
  refine Sc.region ?_
  refine Sl.calm (Cm.assign rfl) rfl ?_
  refine Sl.nil ?_
  refine At.go ?_
  refine Sc.seq ?_
  refine Sc.region ?_
  refine Sl.call fn14 rfl (shown04_ok W) rfl ?_
  rintro _ w1 ⟨rfl, hf1⟩
  refine Sl.calm (Cm.assign rfl) rfl ?_
  refine Sl.nil ?_
  refine At.weak [(0, _), (2, _), (3, _)] ⟨rfl, rfl, rfl, trivial⟩ ?_
  refine At.go ?_
  refine Sc.seq ?_
  refine Sc.region ?_
  refine Sl.call fn16 rfl (crcnew_ok w1) rfl ?_
  rintro _ w4 ⟨rfl, hf4⟩
  refine Sl.allocC zc27 rfl ?_
  intro w5 hg5 hs5 hf5
  refine Sl.storeAll (vs := tab) aggTab rfl rfl tab_one hg5 (by rw [tab_len, List.length_replicate]) ?_
  intro w6 hg6 hs6 hf6
  obtain ⟨p, hp⟩ : ∃ p, p = w4.heap.size := ⟨_, rfl⟩
  have hF6 : Foot nob W w6 := (hf1.trans (hf4.trans hf5)).trans_to hf6 (fun k hk => .inr (by have h : k = w4.heap.size := hk; have := (hf1.trans hf4).size; omega))
  rw [← hp] at hg6 ⊢
  have ht6 : TbV w6.heap p := hg6
  have hz6 := hF6.size
  have hpW : W.heap.size ≤ p := by have := (hf1.trans hf4).size; omega
  have hpl6 := (Array.getElem?_eq_some_iff.1 ht6).1
  refine Sl.nil ?_
  refine At.weak [(0, _), (2, _), (3, _), (4, _)] ⟨rfl, rfl, rfl, rfl, trivial⟩ ?_
  refine At.go ?_
  refine Sc.seq ?_
  refine Sc.region ?_
  refine Sl.lit0 b8 sl22 rfl ?_
  intro w7 ho7 hs7 hf7
  refine Sl.calm (Cm.assign rfl) rfl ?_
  refine Sl.nil ?_
  refine At.weak [(0, _), (2, _), (3, _), (4, _), (5, _)] ⟨rfl, rfl, rfl, rfl, rfl, trivial⟩ ?_
  refine At.go ?_
  refine Sc.seq ?_
  refine Sc.region ?_
  refine Sl.lit0 hd sl44 rfl ?_
  intro w8 ho8 hs8 hf8
  have hz7 := hf7.size
  have hf68 := hf7.trans hf8
  have hF8 := hF6.trans hf68
  refine Sl.calm (Cm.assign rfl) rfl ?_
  refine Sl.nil ?_
  refine At.weak [(0, _), (2, _), (3, _), (4, _), (5, _), (6, _)] ⟨rfl, rfl, rfl, rfl, rfl, rfl, trivial⟩ ?_
  refine At.go ?_
  refine Sc.cut (β := (Option Addr × Nat) × (Option Addr × Nat × List Hd)) (fun ⟨⟨io, ic⟩, ⟨go, gc, gs⟩⟩ => [(3, .bool true), (4, .pointer (some ⟨p, 0, none⟩)), (5, .slice io (frL M).length ic), (6, .slice go gs.length gc)]) (fun ⟨⟨io, ic⟩, ⟨go, gc, gs⟩⟩ w => Own b8 5 w.heap io ic (frL M) ∧ Own hd 22 w.heap go gc gs ∧ RowsV D0 W.heap gs M ∧ TbV w.heap p ∧ Foot nob W w) ?_ ?_
  ·
    refine Sc.seq ?_
    refine Sc.region ?_
    refine Sl.calm (Cm.assign rfl) rfl ?_
    refine Sl.nil ?_
    refine At.go ?_
    refine Sc.block ?_
    refine Sc.loop (β := Nat × (Option Addr × Nat) × (Option Addr × Nat × List Hd)) (fun ⟨k, ⟨io, ic⟩, ⟨go, gc, gs⟩⟩ => [(0, .slice ao hs.length cap), (3, .bool true), (4, .pointer (some ⟨p, 0, none⟩)), (5, .slice io (frL (M.take k)).length ic), (6, .slice go gs.length gc), (7, .int .i64 k)]) (fun ⟨k, ⟨io, ic⟩, ⟨go, gc, gs⟩⟩ w => k ≤ M.length ∧ Own b8 5 w.heap io ic (frL (M.take k)) ∧ Own hd 22 w.heap go gc gs ∧ RowsV D0 W.heap gs (M.take k) ∧ Fr w6.heap.size io ∧ Fr w6.heap.size go ∧ (∀ q, blk io q → ¬ blk go q) ∧ TbV w.heap p ∧ w6.heap.size ≤ w.heap.size ∧ Foot nob W w) (fun ⟨k, ⟨io, ic⟩, ⟨go, gc, gs⟩⟩ => M.length - k) ⟨0, ⟨some ⟨w6.heap.size, 0, none⟩, 0⟩, ⟨some ⟨w7.heap.size, 0, none⟩, 0, []⟩⟩ ⟨rfl, rfl, rfl, rfl, rfl, rfl, trivial⟩ ⟨Nat.zero_le _, ho7.grow hf8, ho8, RowsV.nil, fr_at _, (fr_at _).mono hz7, fun q ⟨a, ha, hq⟩ ⟨b, hb, hq2⟩ => by cases ha; cases hb; have h1 : w6.heap.size = q := hq; have h2 : w7.heap.size = q := hq2; omega, hf68.obj ht6 id, hf68.size, hF8⟩ ?_
    rintro ⟨k, ⟨io, ic⟩, ⟨go, gc, gs⟩⟩ w9 ⟨hk, hio, hgo, hgs, hfri, hfrg, hap, ht9, hz9, hF9⟩
    have hgl := hgs.1
    rw [List.length_take] at hgl
    refine Sc.seq ?_
    refine Sc.seq ?_
    refine Sc.region ?_
    refine Sl.calm (Cm.move rfl) rfl ?_
    refine Sl.calm (Cm.move rfl) rfl ?_
    refine Sl.calm (Cm.len sl44 rfl) rfl ?_
    refine Sl.fork (Cm.lss rfl rfl) rfl (fun h25 => ?_) (fun h25 => ?_)
    ·
      refine Sl.calm (Cm.move rfl) rfl ?_
      refine Sl.want rfl rfl (Cm.move rfl) rfl ?_
      refine Sl.forkWant rfl rfl (Cm.lss rfl rfl) rfl (fun h28 => ?_) (fun h28 => ?_)
      ·
        refine Sl.calm (Cm.pick_t rfl rfl) rfl ?_
        refine Sl.nil ?_
        refine At.weak [(0, _), (3, _), (4, _), (5, _), (6, _), (7, _), (29, _)] ⟨rfl, rfl, rfl, rfl, rfl, rfl, rfl, trivial⟩ ?_
        refine At.go ?_
        refine Sc.cond_t rfl ?_
        refine Sc.skip ?_
        refine At.go ?_
        refine Sc.seq ?_
        refine Sc.block ?_
        refine Sc.seq ?_
        refine Sc.region ?_
        refine Sl.calm (Cm.move rfl) rfl ?_
        refine Sl.calm (Cm.move rfl) rfl ?_
        have hkL : k < L.length := by omega
        have hkM : k < M.length := by omega
        obtain ⟨x, hx, hxn, hxv, hxD⟩ := hr.at hkL
        have hcell : cellH w9.heap (adr ao (k : Int).toNat) = some (hd x) := by rw [Int.toNat_natCast]; exact (hv.grow hF9).get k x hx
        refine Sl.calm (Cm.indexAddr1 sl44 rfl rfl hv.non (by omega)) rfl ?_
        refine Sl.calm (Cm.ld sca22 rfl hcell) rfl ?_
        have hhd : hd x = .slice x.a (L.getD k []).length x.c := by unfold hd; rw [hxn]
        rw [hhd]
        refine Sl.call fn15 rfl (few4_ok x.a x.c (L.getD k []) 128 w9 (hxv.grow hF9)) rfl ?_
        rintro _ wq ⟨rfl, hwq⟩
        subst wq
        have hMk : M.getD k [] = (L.getD k []).take 128 := by rw [hM] at hkM ⊢; exact M20_at hkM
        rw [← hMk]
        have hvb : Vw b8 w9.heap x.a x.c (M.getD k []) := by rw [hMk]; exact (hxv.grow hF9).take 128
        have hbl : (M.getD k []).length ≤ 128 := by rw [hMk, List.length_take]; omega
        have hpz := putS_ok hbl
        have hpl := putS_len hbl
        refine Sl.calm (Cm.assign rfl) rfl ?_
        refine Sl.nil ?_
        refine At.weak [(0, _), (3, _), (4, _), (5, _), (6, _), (7, _), (8, _), (29, _)] ⟨rfl, rfl, rfl, rfl, rfl, rfl, rfl, rfl, trivial⟩ ?_
        refine At.go ?_
        refine Sc.seq ?_
        refine Sc.region ?_
        refine Sl.calm (Cm.move rfl) rfl ?_
        refine Sl.call fn17 rfl (fput_ok p x.a x.c (M.getD k []) w9 ht9 hvb) rfl ?_
        rintro _ w10 ⟨o10, c10, rfl, ho10, hfr10, hf10⟩
        have hz10 := hf10.size
        refine Sl.calm (Cm.move rfl) rfl ?_
        refine Sl.calm (Cm.extract rfl rfl) rfl ?_
        refine Sl.calm (Cm.extract rfl rfl) rfl ?_
        refine Sl.calm (Cm.assign rfl) rfl ?_
        refine Sl.calm (Cm.assign rfl) rfl ?_
        refine Sl.nil ?_
        refine At.weak [(0, _), (3, _), (4, _), (5, _), (6, _), (7, _), (8, _), (9, _), (10, _), (29, _)] ⟨rfl, rfl, rfl, rfl, rfl, rfl, rfl, rfl, rfl, rfl, trivial⟩ ?_
        refine At.go ?_
        refine Sc.seq ?_
        refine Sc.seq ?_
        refine Sc.region ?_
        refine Sl.calm (Cm.move rfl) rfl ?_
        refine Sl.calm (Cm.no (Cm.neq rfl rfl) (fun h => h hpz)) rfl ?_
        refine Sl.nil ?_
        refine At.weak [(0, _), (3, _), (4, _), (5, _), (6, _), (7, _), (8, _), (9, _), (10, _), (29, _), (43, _)] ⟨rfl, rfl, rfl, rfl, rfl, rfl, rfl, rfl, rfl, rfl, rfl, trivial⟩ ?_
        refine At.go ?_
        refine Sc.cond_f rfl ?_
        refine Sc.skip ?_
        refine At.go ?_
        refine Sc.seq ?_
        refine Sc.region ?_
        refine Sl.calm (Cm.move rfl) rfl ?_
        refine Sl.calm (Cm.move rfl) rfl ?_
        refine Sl.append b8_one sl22 rfl rfl (hio.grow hf10) ho10.vw (by have := frL_len hMs k hk; omega) (by have := frL_len hMs k hk; unfold maxLen; omega) rfl ?_
        intro io2 ic2 w11 hio2 hf11 hri hni
        have hz11 := hf11.size
        have hzl := hio.lt
        refine Sl.calm (Cm.assign rfl) rfl ?_
        refine Sl.nil ?_
        refine At.weak [(0, _), (3, _), (4, _), (5, _), (6, _), (7, _), (8, _), (9, _), (10, _), (29, _), (43, _)] ⟨rfl, rfl, rfl, rfl, rfl, rfl, rfl, rfl, rfl, rfl, rfl, trivial⟩ ?_
        refine At.go ?_
        refine Sc.region ?_
        refine Sl.calm (Cm.move rfl) rfl ?_
        refine Sl.calm (Cm.move rfl) rfl ?_
        refine Sl.lit1 (enc := hd) (u := ⟨x.a, (M.getD k []).length, x.c⟩) sl44 rfl rfl rfl ?_
        intro w12 hoh hsh hfh
        refine Sl.append hd_one sl44 rfl rfl (((hgo.grow hf10).keep hf11 (fun a ha ⟨y, hy, h⟩ => hap _ ⟨y, hy, rfl⟩ ⟨a, ha, h.symm⟩)).grow hfh) hoh.vw (by simp only [List.length_singleton]; omega) (by simp only [List.length_singleton]; unfold maxLen; omega) rfl ?_
        intro go2 gc2 w13 hgo2 hf13 hrg hng
        have hz12 := hfh.size
        have hz13 := hf13.size
        refine Sl.calm (Cm.assign rfl) rfl ?_
        refine Sl.nil ?_
        refine At.block_normal ?_
        refine At.weak [(0, _), (3, _), (4, _), (5, _), (6, _), (7, _), (8, _), (9, _), (10, _), (29, _), (43, _)] ⟨rfl, rfl, rfl, rfl, rfl, rfl, rfl, rfl, rfl, rfl, rfl, trivial⟩ ?_
        refine At.go ?_
        refine Sc.region ?_
        refine Sl.calm (Cm.move rfl) rfl ?_
        refine Sl.calm (Cm.add64 rfl rfl (by omega)) rfl ?_
        refine Sl.calm (Cm.assign rfl) rfl ?_
        refine Sl.nil ?_
        have hne : ∀ q, blk io q → W.heap.size ≤ q := fun q ⟨a, ha, hq⟩ => by have := hfri a ha; omega
        have hneg : ∀ q, blk go q → W.heap.size ≤ q := fun q ⟨a, ha, hq⟩ => by have := hfrg a ha; omega
        have hF13 : Foot nob W w13 := (((hF9.trans hf10).trans_to hf11 (fun q h => .inr (hne q h))).trans hfh).trans_to hf13 (fun q h => .inr (hneg q h))
        refine At.again ⟨k + 1, ⟨io2, ic2⟩, ⟨go2, gc2, gs ++ [⟨x.a, (M.getD k []).length, x.c⟩]⟩⟩ ⟨rfl, rfl, rfl, by rw [take_sn hkM, frL_snoc]; rfl, rfl, rfl, trivial⟩ ⟨by omega, ?_, hgo2, ?_, fr_next hfri hri (by omega), fr_next hfrg hrg (by omega), ?_, ?_, by omega, hF13⟩ (by show M.length - (k + 1) < M.length - k; omega)
        · rw [take_sn hkM, frL_snoc]; refine (hio2.grow hfh).keep hf13 (fun a ha h => ?_); obtain ⟨y, hy, hyb⟩ := h; rcases hri a ha with h2 | h2; exact hap a.block ⟨a, h2, rfl⟩ ⟨y, hy, hyb⟩; have := hgo.lt y hy; omega
        · rw [take_sn hkM]; exact hgs.snoc rfl (by rw [hMk]; exact hxv.take 128) (fun hne2 q hq => hxD (fun e => hne2 (by rw [hMk, e]; rfl)) q hq)
        · intro q hq hq2; obtain ⟨a, ha, hqa⟩ := hq; obtain ⟨y, hy, hqy⟩ := hq2; have hal := hio2.lt a ha; rcases hri a ha with h2 | h2 <;> rcases hrg y hy with h3 | h3
          · exact hap q ⟨a, h2, hqa⟩ ⟨y, h3, hqy⟩
          · have := hzl a h2; omega
          · have := hgo.lt y h3; omega
          · omega
        · exact hf13.obj (hfh.obj (hf11.obj (hf10.obj ht9 id) (fun h => by obtain ⟨a, ha, hb⟩ := h; have := hfri a ha; omega)) id) (fun h => by obtain ⟨a, ha, hb⟩ := h; have := hfrg a ha; omega)
      ·
        refine Sl.calm (Cm.pick_t rfl rfl) rfl ?_
        refine Sl.nil ?_
        refine At.weak [(0, _), (3, _), (4, _), (5, _), (6, _), (7, _), (29, _)] ⟨rfl, rfl, rfl, rfl, rfl, rfl, rfl, trivial⟩ ?_
        refine At.go ?_
        refine Sc.cond_f rfl ?_
        refine Sc.exit ?_
        refine At.then_exit ?_
        refine At.then_exit ?_
        refine At.block_hit ?_
        have hkM : k = M.length := by omega
        subst hkM
        rw [List.take_length] at hio hgs ⊢
        exact At.cut ⟨⟨io, ic⟩, ⟨go, gc, gs⟩⟩ ⟨rfl, rfl, rfl, rfl, trivial⟩ ⟨hio, hgo, hgs, ht9, hF9⟩
    ·
      refine Sl.calm (Cm.move rfl) rfl ?_
      refine Sl.skip rfl rfl rfl rfl ?_
      refine Sl.skip rfl rfl rfl rfl ?_
      refine Sl.calm (Cm.pick_f rfl rfl) rfl ?_
      refine Sl.nil ?_
      refine At.weak [(0, _), (3, _), (4, _), (5, _), (6, _), (7, _), (29, _)] ⟨rfl, rfl, rfl, rfl, rfl, rfl, rfl, trivial⟩ ?_
      refine At.go ?_
      refine Sc.cond_f rfl ?_
      refine Sc.exit ?_
      refine At.then_exit ?_
      refine At.then_exit ?_
      refine At.block_hit ?_
      have hkM : k = M.length := by omega
      subst hkM
      rw [List.take_length] at hio hgs ⊢
      exact At.cut ⟨⟨io, ic⟩, ⟨go, gc, gs⟩⟩ ⟨rfl, rfl, rfl, rfl, trivial⟩ ⟨hio, hgo, hgs, ht9, hF9⟩
  ·
    rintro ⟨⟨io, ic⟩, ⟨go, gc, gs⟩⟩ w14 ⟨hio14, hgo14, hgs, ht14, hF14⟩
    have hfl := frL_len hMs M.length (Nat.le_refl _)
    rw [List.take_length] at hfl
    have hgl := hgs.1
    refine Sc.seq ?_
    refine Sc.region ?_
    refine Sl.calm (Cm.assign rfl) rfl ?_
    refine Sl.nil ?_
    refine At.go ?_
    refine Sc.seq ?_
    refine Sc.seq ?_
    refine Sc.region ?_
    refine Sl.calm (Cm.assign rfl) rfl ?_
    refine Sl.nil ?_
    refine At.go ?_
    refine Sc.block ?_
    refine Sc.loop (β := Nat) (fun i => [(3, .bool true), (4, .pointer (some ⟨p, 0, none⟩)), (5, .slice io (frL M).length ic), (6, .slice go gs.length gc), (11, .int .i64 (frL (M.take i)).length), (12, .int .i64 i)]) (fun i w => i ≤ M.length ∧ Foot nob w14 w) (fun i => M.length - i) 0 ⟨rfl, rfl, rfl, rfl, rfl, rfl, trivial⟩ ⟨Nat.zero_le _, Foot.refl _ _⟩ ?_
    rintro i w15 ⟨hi, hf1415⟩
    have hio15 := hio14.grow hf1415
    have hgo15 := hgo14.grow hf1415
    have ht15 : TbV w15.heap p := hf1415.obj ht14 id
    have hF15 := hF14.trans hf1415
    refine Sc.seq ?_
    refine Sc.seq ?_
    refine Sc.region ?_
    refine Sl.calm (Cm.move rfl) rfl ?_
    refine Sl.calm (Cm.move rfl) rfl ?_
    refine Sl.calm (Cm.len sl44 rfl) rfl ?_
    refine Sl.fork (Cm.lss rfl rfl) rfl (fun h54 => ?_) (fun h54 => ?_)
    ·
      have hiM : i < M.length := by omega
      refine Sl.nil ?_
      refine At.weak [(3, _), (4, _), (5, _), (6, _), (11, _), (12, _), (54, _)] ⟨rfl, rfl, rfl, rfl, rfl, rfl, rfl, trivial⟩ ?_
      refine At.go ?_
      refine Sc.cond_t rfl ?_
      refine Sc.skip ?_
      refine At.go ?_
      refine Sc.seq ?_
      refine Sc.block ?_
      refine Sc.seq ?_
      refine Sc.region ?_
      refine Sl.calm (Cm.move rfl) rfl ?_
      refine Sl.calm (Cm.move rfl) rfl ?_
      have hsp := frL_split (M := M) (k := i) hiM
      have hbl : (M.getD i []).length ≤ 128 := hMs _ (by rw [List.getD, List.getElem?_eq_getElem hiM]; exact List.getElem_mem _)
      obtain ⟨tk1, tk2⟩ := takeS_put hbl (frL (M.take i)) (frL (M.drop (i + 1)))
      rw [← hsp] at tk1 tk2
      have hpl := putS_len hbl
      have hil := frL_len hMs i (by omega)
      refine Sl.call fn19 rfl (ftake_ok p io ic (frL M) (frL (M.take i)).length w15 ht15 hio15.vw (by omega) (by omega)) rfl ?_
      rw [tk1]
      intro _ w16 hP
      have hP : ∃ o c, _ = Value.tuple #[.slice o (M.getD i []).length c, .int .i64 (((frL (M.take i)).length : Int) + (putS (M.getD i [])).1.length), .int .i64 0] ∧ Own b8 5 w16.heap o c (M.getD i []) ∧ Fr w15.heap.size o ∧ Foot nob w15 w16 := hP
      obtain ⟨o16, c16, rfl, ho16, hfr16, hf16⟩ := hP
      refine Sl.calm (Cm.move rfl) rfl ?_
      refine Sl.calm (Cm.extract rfl rfl) rfl ?_
      refine Sl.calm (Cm.extract rfl rfl) rfl ?_
      refine Sl.calm (Cm.extract rfl rfl) rfl ?_
      refine Sl.calm (Cm.assign rfl) rfl ?_
      refine Sl.calm (Cm.assign rfl) rfl ?_
      refine Sl.calm (Cm.assign rfl) rfl ?_
      refine Sl.nil ?_
      refine At.weak [(3, _), (4, _), (5, _), (6, _), (11, _), (12, _), (13, _), (14, _), (15, _), (54, _)] ⟨rfl, rfl, rfl, rfl, rfl, rfl, rfl, rfl, rfl, rfl, trivial⟩ ?_
      refine At.go ?_
      refine Sc.seq ?_
      refine Sc.region ?_
      refine Sl.calm (Cm.move rfl) rfl ?_
      refine Sl.calm (Cm.move rfl) rfl ?_
      refine Sl.call fn21 rfl (fskip_ok io ic (frL M) (frL (M.take i)).length w16 (hio15.grow hf16).vw (by omega) (by omega)) rfl ?_
      rw [tk2]
      intro _ w17 hP
      have hP : _ = Value.tuple #[.int .i64 (((frL (M.take i)).length : Int) + (putS (M.getD i [])).1.length), .int .i64 0] ∧ Foot nob w16 w17 := hP
      obtain ⟨rfl, hf17⟩ := hP
      have ho17 := ho16.grow hf17
      have hF1517 := hf16.trans hf17
      have hgo17 := hgo15.grow hF1517
      obtain ⟨x, hx, hxn, hxv, hxD⟩ := (hgs.at hiM)
      have hF17 := hF15.trans hF1517
      have hxv17 := hxv.grow hF17
      have hcell : cellH w17.heap (adr go (i : Int).toNat) = some (.slice x.a (M.getD i []).length x.c) := by rw [Int.toNat_natCast, ← hxn]; exact hgo17.vw.get i x hx
      refine Sl.calm (Cm.move rfl) rfl ?_
      refine Sl.calm (Cm.extract rfl rfl) rfl ?_
      refine Sl.calm (Cm.extract rfl rfl) rfl ?_
      refine Sl.calm (Cm.assign rfl) rfl ?_
      refine Sl.calm (Cm.assign rfl) rfl ?_
      refine Sl.nil ?_
      refine At.weak [(3, _), (4, _), (5, _), (6, _), (11, _), (12, _), (13, _), (14, _), (15, _), (16, _), (17, _), (54, _)] ⟨rfl, rfl, rfl, rfl, rfl, rfl, rfl, rfl, rfl, rfl, rfl, rfl, trivial⟩ ?_
      refine At.go ?_
      refine Sc.seq ?_
      refine Sc.seq ?_
      refine Sc.quiet 26 [0, 1, 2, 3, 4, 5, 6, 7, 8, 9, 10, 11, 12, 13, 14, 15, 16, 17, 18, 19, 20, 21, 22, 23, 24, 25] mixed (by kernel_rfl) ?_
      refine Sx.calm rfl rfl (Cm.move rfl) rfl ?_
      refine Sx.calm rfl rfl (Cm.no (Cm.neq rfl rfl) (fun h => h rfl)) rfl ?_
      refine Sx.calm rfl rfl (Cm.move rfl) rfl ?_
      refine Sx.want rfl rfl rfl rfl (Cm.move rfl) rfl ?_
      refine Sx.want rfl rfl rfl rfl (Cm.no (Cm.neq rfl rfl) (fun h => h rfl)) rfl ?_
      refine Sx.calm rfl rfl (Cm.pick_f rfl rfl) rfl ?_
      refine Sx.calm rfl rfl (Cm.move rfl) rfl ?_
      refine Sx.want rfl rfl rfl rfl (Cm.move rfl) rfl ?_
      refine Sx.want rfl rfl rfl rfl (Cm.strIn sl22 ty5 ty9 rfl ho17.vw) rfl ?_
      refine Sx.want rfl rfl rfl rfl (Cm.move rfl) rfl ?_
      refine Sx.want rfl rfl rfl rfl (Cm.move rfl) rfl ?_
      refine Sx.want rfl rfl rfl rfl (Cm.indexAddr1 sl44 rfl rfl hgo17.vw.non (by omega)) rfl ?_
      refine Sx.want rfl rfl rfl rfl (Cm.ld sca22 rfl hcell) rfl ?_
      refine Sx.want rfl rfl rfl rfl (Cm.strIn sl22 ty5 ty9 rfl hxv17) rfl ?_
      refine Sx.want rfl rfl rfl rfl (Cm.no (Cm.neqBs rfl rfl) (fun h => h rfl)) rfl ?_
      refine Sx.calm rfl rfl (Cm.pick_f rfl rfl) rfl ?_
      refine Sx.calm rfl rfl (Cm.move rfl) rfl ?_
      refine Sx.want rfl rfl rfl rfl (Cm.move rfl) rfl ?_
      refine Sx.want rfl rfl rfl rfl (Cm.move rfl) rfl ?_
      refine Sx.want rfl rfl rfl rfl (Cm.no (Cm.neq rfl rfl) (fun h => h rfl)) rfl ?_
      refine Sx.calm rfl rfl (Cm.pick_f rfl rfl) rfl ?_
      refine Sx.calm rfl rfl (Cm.move rfl) rfl ?_
      refine Sx.want rfl rfl rfl rfl (Cm.move rfl) rfl ?_
      refine Sx.want rfl rfl rfl rfl (Cm.move rfl) rfl ?_
      refine Sx.want rfl rfl rfl rfl (Cm.no (Cm.leq rfl rfl) (by omega)) rfl ?_
      refine Sx.calm rfl rfl (Cm.pick_f rfl rfl) rfl ?_
      refine Sx.nil ?_
      refine At.weak [(3, _), (4, _), (5, _), (6, _), (11, _), (12, _), (13, _), (14, _), (15, _), (16, _), (17, _), (54, _), (95, _)] ⟨rfl, rfl, rfl, rfl, rfl, rfl, rfl, rfl, rfl, rfl, rfl, rfl, rfl, trivial⟩ ?_
      refine At.go ?_
      refine Sc.cond_f rfl ?_
      refine Sc.skip ?_
      refine At.go ?_
      refine Sc.region ?_
      refine Sl.calm (Cm.move rfl) rfl ?_
      refine Sl.calm (Cm.assign rfl) rfl ?_
      refine Sl.nil ?_
      refine At.block_normal ?_
      refine At.weak [(3, _), (4, _), (5, _), (6, _), (11, _), (12, _), (13, _), (14, _), (15, _), (16, _), (17, _), (54, _), (95, _)] ⟨rfl, rfl, rfl, rfl, rfl, rfl, rfl, rfl, rfl, rfl, rfl, rfl, rfl, trivial⟩ ?_
      refine At.go ?_
      refine Sc.region ?_
      refine Sl.calm (Cm.move rfl) rfl ?_
      refine Sl.calm (Cm.add64 rfl rfl (by omega)) rfl ?_
      refine Sl.calm (Cm.assign rfl) rfl ?_
      refine Sl.nil ?_
      refine At.again (i + 1) ⟨rfl, rfl, rfl, rfl, ?_, rfl, trivial⟩ ⟨by omega, (hf1415.trans hF1517).draws 1⟩ (by show M.length - (i + 1) < M.length - i; omega)
      show some (Value.int .i64 _) = some (Value.int .i64 _)
      rw [take_sn hiM, frL_snoc, List.length_append]; congr 2
    ·
      refine Sl.nil ?_
      refine At.weak [(3, _), (4, _), (5, _), (6, _), (11, _), (12, _), (54, _)] ⟨rfl, rfl, rfl, rfl, rfl, rfl, rfl, trivial⟩ ?_
      refine At.go ?_
      refine Sc.cond_f rfl ?_
      refine Sc.exit ?_
      refine At.then_exit ?_
      refine At.then_exit ?_
      refine At.block_hit ?_
      refine At.go ?_
      refine Sc.seq ?_
      refine Sc.region ?_
      refine Sl.calm (Cm.move rfl) rfl ?_
      refine Sl.calm (Cm.move rfl) rfl ?_
      refine Sl.want rfl rfl (Cm.move rfl) rfl ?_
      refine Sl.want rfl rfl (Cm.move rfl) rfl ?_
      refine Sl.want rfl rfl (Cm.len sl22 rfl) rfl ?_
      refine Sl.want rfl rfl (Cm.yes (Cm.eql rfl rfl) (by rw [show i = M.length by omega, List.take_length])) rfl ?_
      refine Sl.calm (Cm.pick_t rfl rfl) rfl ?_
      refine Sl.calm (Cm.assign rfl) rfl ?_
      refine Sl.nil ?_
      refine At.weak [(2, _), (3, _), (4, _), (5, _), (6, _), (11, _), (12, _), (54, _)] ⟨rfl, rfl, rfl, rfl, rfl, rfl, rfl, rfl, trivial⟩ ?_
      refine At.go ?_
      refine Sc.ret ?_
      refine At.ret1 rfl rfl ?_
      exact ⟨_, rfl, rfl, hF15⟩
end Go.Proofs.Ytlpfahmkjgompaa
