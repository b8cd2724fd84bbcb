/- merge: Merge, the reference's. No condition beyond the bounds that each states. -/
import Derived.Test.YtpamandneifemaaKM
namespace Go.Proofs.Ytpamandneifemaa
open Go Go.RowKit Go.Maps
set_option linter.unusedVariables false

theorem fst_hit {ps : List (NdH × Nd)} {z : Int} {j : Nat} {q : NdH × Nd} (h : ps[j]? = some q) (hq : q.2.ino = z) (hno : ∀ (a : Nat) (r : NdH × Nd), a < j → ps[a]? = some r → r.2.ino ≠ z) : fstI ps z = j := by
  have hj := (List.getElem?_eq_some_iff.1 h).1
  unfold fstI
  rw [List.findIdx_eq hj]
  refine ⟨by rw [(List.getElem?_eq_some_iff.1 h).2, decide_eq_true hq], fun a ha => ?_⟩
  exact decide_eq_false (hno a _ ha (List.getElem?_eq_getElem (by omega)))
variable {D : Nat → Prop}
set_option maxHeartbeats 2000000 in
theorem number_ok (lo : Option Addr) (lc : Nat) (hs : List Hd) (Ls : Lys) (i k : Nat) (p : NdH × Nd) (W : World) (hv : LysV D W.heap lo lc hs Ls) (hL : Ls.length ≤ 1000) (hT : offL Ls Ls.length ≤ 1000) (hi : i < Ls.length) (hp : (lyA Ls i)[k]? = some p) :
    Calls Try.prog 38 [.slice lo Ls.length lc, .int .i64 i, .int .i64 k].toArray W (Ret fun v w' => v = .int .i64 (numR Ls i p.2.ino) ∧ Foot nob W w') := by
  have hkl := (List.getElem?_eq_some_iff.1 hp).1
  have hoi := offL_le Ls (show i ≤ Ls.length by omega)
  have hoi2 := offL_le Ls (show i + 1 ≤ Ls.length by omega)
  have hsi := offL_succ Ls hi
  obtain ⟨h, hh, hps, hn, hvn⟩ := hv.lay hi
  refine calls_of_sc 50 [(0, _), (1, _), (2, _)] Try.func38 rfl rfl rfl (enter_slots ⟨rfl, rfl, rfl, trivial⟩) ?_
  refine Sc.seq ?_
  refine Sc.region ?_
  refine Sl.calm (Cm.assign rfl) rfl ?_
  refine Sl.nil ?_
  refine At.go ?_
  refine Sc.seq ?_
  refine Sc.region ?_
  refine Sl.calm (Cm.assign rfl) rfl ?_
  refine Sl.nil ?_
  refine At.go ?_
  refine Sc.seq ?_
  refine Sc.seq ?_
  refine Sc.region ?_
  refine Sl.calm (Cm.assign rfl) rfl ?_
  refine Sl.nil ?_
  refine At.go ?_
  refine Sc.block ?_
  refine Sc.loop (β := Nat) (fun j => [(0, .slice lo Ls.length lc), (1, .int .i64 i), (2, .int .i64 k), (7, .int .i64 (offL Ls j)), (8, .int .i64 j)]) (fun j w => j ≤ i ∧ w = W) (fun j => i - j) 0 ⟨rfl, rfl, rfl, rfl, rfl, trivial⟩ ⟨Nat.zero_le _, rfl⟩ ?_
  rintro j w ⟨hj, ew⟩
  subst w
  refine Sc.seq ?_
  refine Sc.seq ?_
  refine Sc.region ?_
  refine Sl.calm (Cm.move rfl) rfl ?_
  refine Sl.calm (Cm.move rfl) rfl ?_
  refine Sl.fork (Cm.lss rfl rfl) rfl (fun h12 => ?_) (fun h12 => ?_)
  ·
    have hjl : j < Ls.length := by omega
    obtain ⟨h2, hh2, _, hn2, _⟩ := hv.lay hjl
    have hs2 := offL_succ Ls hjl
    have ho2 := offL_le Ls (show j + 1 ≤ Ls.length by omega)
    refine Sl.nil ?_
    refine At.weak [(0, _), (1, _), (2, _), (7, _), (8, _), (12, _)] ⟨rfl, rfl, rfl, rfl, rfl, rfl, trivial⟩ ?_
    refine At.go ?_
    refine Sc.cond_t rfl ?_
    refine Sc.skip ?_
    refine At.go ?_
    refine Sc.seq ?_
    refine Sc.block ?_
    refine Sc.region ?_
    refine Sl.calm (Cm.move rfl) rfl ?_
    refine Sl.calm (Cm.move rfl) rfl ?_
    refine Sl.calm (Cm.move rfl) rfl ?_
    refine Sl.calm (Cm.indexAddr1 sl22 rfl rfl hv.non (by omega)) rfl ?_
    refine Sl.calm (Cm.ofEq (u := .slice h2.a (lyA Ls j).length h2.c) (Cm.ld sca25 rfl (hv.1.get j h2 hh2)) (by rw [← hn2]; rfl)) rfl ?_
    refine Sl.calm (Cm.len sl25 rfl) rfl ?_
    refine Sl.calm (Cm.add64 rfl rfl (by omega)) rfl ?_
    refine Sl.calm (Cm.assign rfl) rfl ?_
    refine Sl.nil ?_
    refine At.block_normal ?_
    refine At.weak [(0, _), (1, _), (2, _), (7, _), (8, _), (12, _)] ⟨rfl, rfl, rfl, rfl, rfl, rfl, trivial⟩ ?_
    refine At.go ?_
    refine Sc.region ?_
    refine Sl.calm (Cm.move rfl) rfl ?_
    refine Sl.calm (Cm.add64 rfl rfl (by omega)) rfl ?_
    refine Sl.calm (Cm.assign rfl) rfl ?_
    refine Sl.nil ?_
    exact At.again (j + 1) ⟨rfl, rfl, rfl, congrArg (fun z : Int => some (Value.int .i64 z)) (by rw [hs2]; omega), rfl, trivial⟩ ⟨by omega, rfl⟩ (by show i - (j + 1) < i - j; omega)
  ·
    have hje : i = j := by omega
    subst hje
    refine Sl.nil ?_
    refine At.weak [(0, _), (1, _), (2, _), (7, _), (8, _), (12, _)] ⟨rfl, rfl, rfl, rfl, rfl, rfl, trivial⟩ ?_
    refine At.go ?_
    refine Sc.cond_f rfl ?_
    refine Sc.exit ?_
    refine At.then_exit ?_
    refine At.then_exit ?_
    refine At.block_hit ?_
    refine At.go ?_
    refine Sc.seq ?_
    refine Sc.seq ?_
    refine Sc.region ?_
    refine Sl.calm (Cm.assign rfl) rfl ?_
    refine Sl.nil ?_
    refine At.go ?_
    refine Sc.block ?_
    refine Sc.loop (β := Nat) (fun a => [(0, .slice lo Ls.length lc), (1, .int .i64 i), (2, .int .i64 k), (7, .int .i64 (offL Ls i)), (9, .int .i64 a)]) (fun a w => a ≤ k ∧ (∀ (b : Nat) (r : NdH × Nd), b < a → (lyA Ls i)[b]? = some r → r.2.ino ≠ p.2.ino) ∧ Foot nob W w) (fun a => k - a) 0 ⟨rfl, rfl, rfl, rfl, rfl, trivial⟩ ⟨Nat.zero_le _, fun b r h => by omega, Foot.refl _ _⟩ ?_
    rintro a w2 ⟨ha, hno, hF2⟩
    refine Sc.seq ?_
    refine Sc.seq ?_
    refine Sc.region ?_
    refine Sl.calm (Cm.move rfl) rfl ?_
    refine Sl.calm (Cm.move rfl) rfl ?_
    refine Sl.fork (Cm.lss rfl rfl) rfl (fun h24 => ?_) (fun h24 => ?_)
    ·
      have hal : a < k := by omega
      obtain ⟨q, hq⟩ : ∃ q, (lyA Ls i)[a]? = some q := ⟨_, List.getElem?_eq_getElem (by omega)⟩
      have hv2 := hv.grow hF2
      have hvn2 := hvn.grow hF2
      refine Sl.nil ?_
      refine At.weak [(0, _), (1, _), (2, _), (7, _), (9, _), (24, _)] ⟨rfl, rfl, rfl, rfl, rfl, rfl, trivial⟩ ?_
      refine At.go ?_
      refine Sc.cond_t rfl ?_
      refine Sc.skip ?_
      refine At.go ?_
      refine Sc.seq ?_
      refine Sc.block ?_
      refine Sc.seq ?_
      refine Sc.draw 17 (fun H => Vw hd H lo lc hs ∧ VwM 10 encN H h.a h.c (lyA Ls i)) [] [0, 1, 2, 3, 4, 5, 6, 7, 8, 9, 10, 11, 12, 13, 14, 15, 16] mixed (by kernel_rfl) (⟨hv2.1, hvn2.1⟩) ?_
      refine Sx.calm rfl rfl (Cm.move rfl) rfl ?_
      refine Sx.calm rfl rfl (Cm.move rfl) rfl ?_
      refine Sx.calm rfl rfl (Cm.indexAddr1 sl22 rfl rfl hv2.non (by omega)) rfl ?_
      refine Sx.calm rfl rfl (Cm.ofEq (u := .slice h.a (lyA Ls i).length h.c) (Cm.load sca25 rfl (fun H hH => hH.1.get i h hh)) (by rw [← hn]; rfl)) rfl ?_
      refine Sx.calm rfl rfl (Cm.move rfl) rfl ?_
      refine Sx.calm rfl rfl (Cm.indexAddr sl25 rfl rfl hvn2.1.non (by omega)) rfl ?_
      refine Sx.calm rfl rfl (Cm.field fld35_1 rfl) rfl ?_
      refine Sx.calm rfl rfl (Cm.load sca3 rfl (fun H hH => hH.2.rowZ a rfl hq 1 _ rfl)) rfl ?_
      refine Sx.calm rfl rfl (Cm.move rfl) rfl ?_
      refine Sx.calm rfl rfl (Cm.move rfl) rfl ?_
      refine Sx.calm rfl rfl (Cm.indexAddr1 sl22 rfl rfl hv2.non (by omega)) rfl ?_
      refine Sx.calm rfl rfl (Cm.ofEq (u := .slice h.a (lyA Ls i).length h.c) (Cm.load sca25 rfl (fun H hH => hH.1.get i h hh)) (by rw [← hn]; rfl)) rfl ?_
      refine Sx.calm rfl rfl (Cm.move rfl) rfl ?_
      refine Sx.calm rfl rfl (Cm.indexAddr sl25 rfl rfl hvn2.1.non (by omega)) rfl ?_
      refine Sx.calm rfl rfl (Cm.field fld35_1 rfl) rfl ?_
      refine Sx.calm rfl rfl (Cm.load sca3 rfl (fun H hH => hH.2.rowZ k rfl hp 1 _ rfl)) rfl ?_
      refine Sx.fork rfl rfl (Cm.eql rfl rfl) rfl (fun h43 => ?_) (fun h43 => ?_)
      ·
        refine Sx.nil ?_
        refine At.weak [(0, _), (1, _), (2, _), (7, _), (9, _), (24, _), (43, _)] ⟨rfl, rfl, rfl, rfl, rfl, rfl, rfl, trivial⟩ ?_
        refine At.go ?_
        refine Sc.cond_t rfl ?_
        refine Sc.seq ?_
        refine Sc.region ?_
        refine Sl.calm (Cm.move rfl) rfl ?_
        refine Sl.calm (Cm.move rfl) rfl ?_
        refine Sl.calm (Cm.add64 rfl rfl (by omega)) rfl ?_
        refine Sl.calm (Cm.assign rfl) rfl ?_
        refine Sl.nil ?_
        refine At.weak [(0, _), (1, _), (2, _), (6, _), (7, _), (9, _), (24, _), (43, _)] ⟨rfl, rfl, rfl, rfl, rfl, rfl, rfl, rfl, trivial⟩ ?_
        refine At.go ?_
        refine Sc.ret ?_
        refine At.block_ret ?_
        refine At.then_ret ?_
        refine At.then_ret ?_
        refine At.block_ret ?_
        refine At.then_ret ?_
        refine At.ret1 rfl rfl ?_
        first
          | exact ⟨_, rfl, by unfold numR; rw [fst_hit hq h43 hno]; rfl, hF2.draws 1⟩
          | exact ⟨_, rfl, by unfold numR; rw [fst_hit hp rfl hno]; rfl, hF2⟩
      ·
        refine Sx.nil ?_
        refine At.weak [(0, _), (1, _), (2, _), (7, _), (9, _), (24, _), (43, _)] ⟨rfl, rfl, rfl, rfl, rfl, rfl, rfl, trivial⟩ ?_
        refine At.go ?_
        refine Sc.cond_f rfl ?_
        refine Sc.skip ?_
        refine At.block_normal ?_
        refine At.go ?_
        refine Sc.region ?_
        refine Sl.calm (Cm.move rfl) rfl ?_
        refine Sl.calm (Cm.add64 rfl rfl (by omega)) rfl ?_
        refine Sl.calm (Cm.assign rfl) rfl ?_
        refine Sl.nil ?_
        refine At.again (a + 1) ⟨rfl, rfl, rfl, rfl, rfl, trivial⟩ ⟨by omega, fun b r hb hr => ?_, hF2.draws 1⟩ (by show k - (a + 1) < k - a; omega)
        by_cases e : b = a
        · subst e; rw [hq] at hr; cases hr; exact h43
        · exact hno b r (by omega) hr
    ·
      have hae : a = k := by omega
      subst hae
      refine Sl.nil ?_
      refine At.weak [(0, _), (1, _), (2, _), (7, _), (9, _), (24, _)] ⟨rfl, rfl, rfl, rfl, rfl, rfl, trivial⟩ ?_
      refine At.go ?_
      refine Sc.cond_f rfl ?_
      refine Sc.exit ?_
      refine At.then_exit ?_
      refine At.then_exit ?_
      refine At.block_hit ?_
      refine At.go ?_
      refine Sc.seq ?_
      refine Sc.region ?_
      refine Sl.calm (Cm.move rfl) rfl ?_
      refine Sl.calm (Cm.move rfl) rfl ?_
      refine Sl.calm (Cm.add64 rfl rfl (by omega)) rfl ?_
      refine Sl.calm (Cm.assign rfl) rfl ?_
      refine Sl.nil ?_
      refine At.weak [(0, _), (1, _), (2, _), (6, _), (7, _), (9, _), (24, _)] ⟨rfl, rfl, rfl, rfl, rfl, rfl, rfl, trivial⟩ ?_
      refine At.go ?_
      refine Sc.ret ?_
      refine At.ret1 rfl rfl ?_
      first
        | exact ⟨_, rfl, by unfold numR; rw [fst_hit hq h43 hno]; rfl, hF2.draws 1⟩
        | exact ⟨_, rfl, by unfold numR; rw [fst_hit hp rfl hno]; rfl, hF2⟩
/-! all that is seen -/
theorem refI_snoc {Ls : Lys} {i k : Nat} {p : NdH × Nd} (hp : (lyA Ls i)[k]? = some p) : refI Ls i ((lyA Ls i).take (k + 1)) = refI Ls i ((lyA Ls i).take k) ++ if (srcs Ls p.2.names).head? = some i then [visQ Ls i p] else [] := by
  unfold refI
  rw [tkL hp, List.filter_append, List.map_append]
  congr 1
  by_cases h : (srcs Ls p.2.names).head? = some i
  · rw [if_pos h]; simp [h]
  · rw [if_neg h]; simp [h]
theorem refL_succ {Ls : Lys} (i : Nat) : refL Ls (i + 1) = refL Ls i ++ refI Ls i (lyA Ls i) := by
  unfold refL
  rw [List.range_succ, List.flatMap_append]; simp
theorem refI_mem {Ls : Lys} {i : Nat} {ps : List (NdH × Nd)} {x : NdH × Nd} (h : x ∈ refI Ls i ps) : ∃ p ∈ ps, x = visQ Ls i p := by
  unfold refI at h
  obtain ⟨p, hp, e⟩ := List.mem_map.1 h
  exact ⟨p, (List.mem_filter.1 hp).1, e.symm⟩
theorem refL_mem {Ls : Lys} {i : Nat} {x : NdH × Nd} (h : x ∈ refL Ls i) : ∃ j p, j < i ∧ p ∈ lyA Ls j ∧ x = visQ Ls j p := by
  obtain ⟨j, hj, hx⟩ := List.mem_flatMap.1 h
  obtain ⟨p, hp, e⟩ := refI_mem hx
  exact ⟨j, p, List.mem_range.1 hj, hp, e⟩
theorem refI_len (Ls : Lys) (i : Nat) (ps : List (NdH × Nd)) : (refI Ls i ps).length ≤ ps.length := by unfold refI; rw [List.length_map]; exact List.length_filter_le _ _
theorem refL_len (Ls : Lys) : ∀ i, i ≤ Ls.length → (refL Ls i).length ≤ offL Ls i
  | 0, _ => Nat.zero_le _
  | i + 1, h => by
    rw [refL_succ, List.length_append, offL_succ Ls (by omega)]
    have := refL_len Ls i (by omega)
    have := refI_len Ls i (lyA Ls i)
    omega
theorem top_head {Ls : Lys} {s : List (List UInt8)} {i : Nat} : (topZ Ls s).1 = (i : Int) ↔ (srcs Ls s).head? = some i := by
  unfold topZ
  split
  · rename_i h; rw [h]; simp
  · rename_i j r h; rw [h]; simp; omega
theorem top_kat {Ls : Lys} {s : List (List UInt8)} {i : Nat} (h : (srcs Ls s).head? = some i) : (topZ Ls s).2 = kAt Ls i s := by
  rcases e : srcs Ls s with _ | ⟨j, r⟩
  · rw [e] at h; cases h
  · rw [e] at h; cases h; rw [topZ_cons e]
set_option maxHeartbeats 4000000 in
theorem rmerge_ok (lo : Option Addr) (lc : Nat) (hs : List Hd) (Ls : Lys) (W : World) (hv : LysV D W.heap lo lc hs Ls) (hg : GdA Ls) (hL : Ls.length ≤ 1000) (hT : offL Ls Ls.length ≤ 1000) :
    Calls Try.prog 13 [.slice lo Ls.length lc].toArray W (Ret fun v w' => ∃ o c, v = .slice o (canP (visL Ls)).length c ∧ OwnM 10 encN 35 w'.heap o c (canP (visL Ls)) ∧ NodesV D w'.heap o c (canP (visL Ls)) ∧ Fr W.heap.size o ∧ Foot nob W w') := by
  refine calls_of_sc 60 [(0, _)] Try.func13 rfl rfl rfl (enter_slots ⟨rfl, trivial⟩) ?_
  refine Sc.seq ?_
  refine Sc.region ?_
  refine Sl.calm (Cm.assign rfl) rfl ?_
  refine Sl.nil ?_
  refine At.go ?_
  refine Sc.seq ?_
  refine Sc.region ?_
  refine Sl.lit0M encN_cells sl25 rfl ?_
  intro w1 ho1 hs1 hf1
  refine Sl.calm (Cm.assign rfl) rfl ?_
  refine Sl.nil ?_
  refine At.weak [(0, _), (2, _), (3, _)] ⟨rfl, rfl, rfl, trivial⟩ ?_
  refine At.go ?_
  refine Sc.seq ?_
  refine Sc.seq ?_
  refine Sc.region ?_
  refine Sl.calm (Cm.assign rfl) rfl ?_
  refine Sl.nil ?_
  refine At.go ?_
  refine Sc.block ?_
  refine Sc.loop (β := Nat × Option Addr × Nat) (fun ⟨i, o, c⟩ => [(0, .slice lo Ls.length lc), (3, .slice o (refL Ls i).length c), (4, .int .i64 i)]) (fun ⟨i, o, c⟩ w => i ≤ Ls.length ∧ OwnM 10 encN 35 w.heap o c (refL Ls i) ∧ Fr W.heap.size o ∧ Foot nob W w) (fun ⟨i, o, c⟩ => Ls.length - i) ⟨0, some ⟨W.heap.size, 0, none⟩, 0⟩ ⟨rfl, rfl, rfl, trivial⟩ ⟨Nat.zero_le _, ho1, fun a ha => by cases ha; exact Nat.le_refl _, hf1⟩ ?_
  rintro ⟨i, o, c⟩ w2 ⟨hi, ho2, hfo, hF2⟩
  have hvR : i = Ls.length → NodesV D w2.heap o c (refL Ls i) := fun _ => ⟨ho2.vw encN_cells, fun x hx => by
    obtain ⟨j, p, h1, h2, e⟩ := refL_mem hx
    obtain ⟨h, _, _, _, hvn⟩ := (hv.grow hF2).lay (show j < Ls.length by omega)
    rw [e]; exact hvn.2 p h2⟩
  refine Sc.seq ?_
  refine Sc.seq ?_
  refine Sc.region ?_
  refine Sl.calm (Cm.move rfl) rfl ?_
  refine Sl.calm (Cm.move rfl) rfl ?_
  refine Sl.calm (Cm.len sl22 rfl) rfl ?_
  refine Sl.fork (Cm.lss rfl rfl) rfl (fun h13 => ?_) (fun h13 => ?_)
  ·
    have hil : i < Ls.length := by omega
    have hli := refL_len Ls i (by omega)
    have hoi := offL_le Ls (show i ≤ Ls.length by omega)
    have hoi2 := offL_le Ls (show i + 1 ≤ Ls.length by omega)
    have hsi := offL_succ Ls hil
    have hgi := hg.at i
    refine Sl.nil ?_
    refine At.weak [(0, _), (3, _), (4, _), (13, _)] ⟨rfl, rfl, rfl, rfl, trivial⟩ ?_
    refine At.go ?_
    refine Sc.cond_t rfl ?_
    refine Sc.skip ?_
    refine At.go ?_
    refine Sc.seq ?_
    refine Sc.block ?_
    refine Sc.seq ?_
    refine Sc.region ?_
    refine Sl.calm (Cm.assign rfl) rfl ?_
    refine Sl.nil ?_
    refine At.go ?_
    refine Sc.block ?_
    refine Sc.loop (β := Nat × Option Addr × Nat) (fun ⟨k, o, c⟩ => [(0, .slice lo Ls.length lc), (3, .slice o (refL Ls i ++ refI Ls i ((lyA Ls i).take k)).length c), (4, .int .i64 i), (5, .int .i64 k)]) (fun ⟨k, o, c⟩ w => k ≤ (lyA Ls i).length ∧ OwnM 10 encN 35 w.heap o c (refL Ls i ++ refI Ls i ((lyA Ls i).take k)) ∧ Fr W.heap.size o ∧ Foot nob W w) (fun ⟨k, o, c⟩ => (lyA Ls i).length - k) ⟨0, o, c⟩ ⟨rfl, (congrArg (fun n => some (Value.slice o n c)) (by simp [refI])), rfl, rfl, trivial⟩ ⟨Nat.zero_le _, by rw [show refI Ls i ((lyA Ls i).take 0) = [] from rfl, List.append_nil]; exact ho2, hfo, hF2⟩ ?_
    rintro ⟨k, o, c⟩ w3 ⟨hk, ho3, hfo, hF3⟩
    refine Sc.seq ?_
    refine Sc.seq ?_
    refine Sc.region ?_
    refine Sl.calm (Cm.move rfl) rfl ?_
    refine Sl.calm (Cm.move rfl) rfl ?_
    refine Sl.calm (Cm.move rfl) rfl ?_
    have hv3 := hv.grow hF3
    obtain ⟨h, hh, hps, hn, hvn⟩ := hv3.lay hil
    refine Sl.calm (Cm.indexAddr1 sl22 rfl rfl hv3.non (by omega)) rfl ?_
    refine Sl.calm (Cm.ofEq (u := .slice h.a (lyA Ls i).length h.c) (Cm.ld sca25 rfl (hv3.1.get i h hh)) (by rw [← hn]; rfl)) rfl ?_
    refine Sl.calm (Cm.len sl25 rfl) rfl ?_
    refine Sl.fork (Cm.lss rfl rfl) rfl (fun h22 => ?_) (fun h22 => ?_)
    ·
      have hkl : k < (lyA Ls i).length := by omega
      obtain ⟨p, hp⟩ : ∃ p, (lyA Ls i)[k]? = some p := ⟨_, List.getElem?_eq_getElem hkl⟩
      have hpm := List.mem_of_getElem? hp
      have hlk := refI_len Ls i ((lyA Ls i).take k)
      rw [List.length_take] at hlk
      have hrs := refI_snoc hp
      refine Sl.nil ?_
      refine At.weak [(0, _), (3, _), (4, _), (5, _), (22, _)] ⟨rfl, rfl, rfl, rfl, rfl, trivial⟩ ?_
      refine At.go ?_
      refine Sc.cond_t rfl ?_
      refine Sc.skip ?_
      refine At.go ?_
      refine Sc.seq ?_
      refine Sc.block ?_
      refine Sc.seq ?_
      refine Sc.region ?_
      refine Sl.calm (Cm.move rfl) rfl ?_
      refine Sl.calm (Cm.move rfl) rfl ?_
      refine Sl.calm (Cm.indexAddr1 sl22 rfl rfl hv3.non (by omega)) rfl ?_
      refine Sl.calm (Cm.ofEq (u := .slice h.a (lyA Ls i).length h.c) (Cm.ld sca25 rfl (hv3.1.get i h hh)) (by rw [← hn]; rfl)) rfl ?_
      refine Sl.calm (Cm.move rfl) rfl ?_
      refine Sl.calm (Cm.indexAddr sl25 rfl rfl hvn.1.non (by omega)) rfl ?_
      refine Sl.calm (Cm.ldM (cs := encN p) agg35 rfl (fun j v hj => hvn.1.rowZ k rfl hp j v hj)) rfl ?_
      refine Sl.allocC zc35 rfl ?_
      intro w4 hg4 hs4 hf4
      obtain ⟨r, er⟩ : ∃ r, r = w3.heap.size := ⟨_, rfl⟩
      rw [← er] at hg4 ⊢
      refine Sl.storeAll (vs := encN p) agg35 rfl rfl (encN_cells p).2 hg4 rfl ?_
      intro w5 hg5 hs5 hf5
      have hf35 : Foot nob w3 w5 := hf4.trans_to hf5 (fun k e => .inr (by have e : k = r := e; omega))
      have hF5 := hF3.trans hf35
      have hv5 := hv.grow hF5
      have hnm := (hvn.2 p hpm).1.keep hf35 (fun _ _ => id)
      refine Sl.nil ?_
      refine At.weak [(0, _), (3, _), (4, _), (5, _), (6, _), (22, _)] ⟨rfl, rfl, rfl, rfl, rfl, rfl, trivial⟩ ?_
      refine At.go ?_
      refine Sc.seq ?_
      refine Sc.region ?_
      refine Sl.calm (Cm.move rfl) rfl ?_
      refine Sl.calm (Cm.field fld35_0 rfl) rfl ?_
      refine Sl.calm (Cm.ofEq (u := .slice p.1.names.a p.2.names.length p.1.names.c) (Cm.ld sca29 rfl (cellF hg5 rfl)) (by rw [← hnm.1]; rfl)) rfl ?_
      refine Sl.call fn25 rfl (rtop_ok lo lc hs Ls p.1.names.a p.1.names.c p.2.names w5 hv5 hL hnm.2.1) rfl ?_
      rintro _ w6 ⟨rfl, hf6⟩
      have ho6 := (ho3.grow hf35).grow hf6
      have hF6 := hF5.trans hf6
      have hg6 := hf6.obj hg5 id
      refine Sl.calm (Cm.move rfl) rfl ?_
      refine Sl.calm (Cm.extract rfl rfl) rfl ?_
      refine Sl.calm (Cm.extract rfl rfl) rfl ?_
      refine Sl.calm (Cm.assign rfl) rfl ?_
      refine Sl.calm (Cm.assign rfl) rfl ?_
      refine Sl.nil ?_
      refine At.weak [(0, _), (3, _), (4, _), (5, _), (6, _), (7, _), (8, _), (22, _)] ⟨rfl, rfl, rfl, rfl, rfl, rfl, rfl, rfl, trivial⟩ ?_
      refine At.go ?_
      refine Sc.seq ?_
      refine Sc.seq ?_
      refine Sc.region ?_
      refine Sl.calm (Cm.move rfl) rfl ?_
      refine Sl.calm (Cm.move rfl) rfl ?_
      refine Sl.fork (Cm.neq rfl rfl) rfl (fun h41 => ?_) (fun h41 => ?_)
      ·
        have hnv : ¬ (srcs Ls p.2.names).head? = some i := fun e => h41 (top_head.2 e)
        rw [if_neg hnv, List.append_nil] at hrs
        refine Sl.calm (Cm.move rfl) rfl ?_
        refine Sl.skip rfl rfl rfl rfl ?_
        refine Sl.skip rfl rfl rfl rfl ?_
        refine Sl.skip rfl rfl rfl rfl ?_
        refine Sl.calm (Cm.pick_t rfl rfl) rfl ?_
        refine Sl.nil ?_
        refine At.weak [(0, _), (3, _), (4, _), (5, _), (6, _), (7, _), (8, _), (22, _), (46, _)] ⟨rfl, rfl, rfl, rfl, rfl, rfl, rfl, rfl, rfl, trivial⟩ ?_
        refine At.go ?_
        refine Sc.cond_t rfl ?_
        refine Sc.exit ?_
        refine At.then_exit ?_
        refine At.block_hit ?_
        refine At.go ?_
        refine Sc.region ?_
        refine Sl.calm (Cm.move rfl) rfl ?_
        refine Sl.calm (Cm.add64 rfl rfl (by omega)) rfl ?_
        refine Sl.calm (Cm.assign rfl) rfl ?_
        refine Sl.nil ?_
        first
          | exact At.again ⟨k + 1, oB, cB⟩ ⟨rfl, rfl, rfl, rfl, trivial⟩ ⟨by omega, hoB, hfoB, hFB⟩ (by show (lyA Ls i).length - (k + 1) < (lyA Ls i).length - k; omega)
          | exact At.again ⟨k + 1, o, c⟩ ⟨rfl, congrArg (fun n => some (Value.slice o n c)) (by rw [hrs]), rfl, rfl, trivial⟩ ⟨by omega, by rw [hrs]; exact ho6, hfo, hF6⟩ (by show (lyA Ls i).length - (k + 1) < (lyA Ls i).length - k; omega)
      ·
        have hvs : (srcs Ls p.2.names).head? = some i := top_head.1 (Decidable.not_not.1 h41)
        rw [if_pos hvs] at hrs
        have hkk : (topZ Ls p.2.names).2 = (k : Int) := by rw [top_kat hvs]; exact find_in hgi.tw hp
        refine Sl.calm (Cm.move rfl) rfl ?_
        refine Sl.want rfl rfl (Cm.move rfl) rfl ?_
        refine Sl.want rfl rfl (Cm.move rfl) rfl ?_
        refine Sl.want rfl rfl (Cm.no (Cm.neq rfl rfl) (fun h => h hkk)) rfl ?_
        refine Sl.calm (Cm.pick_f rfl rfl) rfl ?_
        refine Sl.nil ?_
        refine At.weak [(0, _), (3, _), (4, _), (5, _), (6, _), (7, _), (8, _), (22, _), (46, _)] ⟨rfl, rfl, rfl, rfl, rfl, rfl, rfl, rfl, rfl, trivial⟩ ?_
        refine At.go ?_
        refine Sc.cond_f rfl ?_
        refine Sc.skip ?_
        refine At.go ?_
        refine Sc.seq ?_
        refine Sc.region ?_
        refine Sl.calm (Cm.field fld35_7 rfl) rfl ?_
        refine Sl.store sca4 rfl rfl rfl hg6 rfl ?_
        intro w7 hg7 hs7 hf7
        refine Sl.nil ?_
        refine At.weak [(0, _), (3, _), (4, _), (5, _), (6, _), (7, _), (8, _), (22, _), (46, _)] ⟨rfl, rfl, rfl, rfl, rfl, rfl, rfl, rfl, rfl, trivial⟩ ?_
        refine At.go ?_
        refine Sc.seq ?_
        refine Sc.region ?_
        refine Sl.calm (Cm.move rfl) rfl ?_
        refine Sl.calm (Cm.move rfl) rfl ?_
        refine Sl.calm (Cm.move rfl) rfl ?_
        refine Sl.call fn38 rfl (number_ok lo lc hs Ls i k p w7 (hv.grow (hF6.trans_to hf7 (fun k e => .inr (by have e : k = r := e; have := hF3.size; omega)))) hL hT hil hp) rfl ?_
        rintro _ w8 ⟨rfl, hf8⟩
        have hg8 := hf8.obj hg7 id
        refine Sl.calm (Cm.field fld35_1 rfl) rfl ?_
        refine Sl.store sca3 rfl rfl rfl hg8 rfl ?_
        intro w9 hg9 hs9 hf9
        obtain ⟨y, hy⟩ : ∃ y, y = visQ Ls i p := ⟨_, rfl⟩
        have hgy : w9.heap[r]? = some (.cells (encN y).toArray 35 (0, 0)) := by rw [hy]; exact hg9
        have hf69 : Foot (· = r) w6 w9 := (hf7.trans (hf8.mono (fun _ h => h.elim))).trans hf9
        have ho9 := ho6.keep hf69 (fun a ha e => by have e : a.block = r := e; have := ho3.lt a ha; omega)
        have hF9 := hF6.trans_to hf69 (fun k e => .inr (by have e : k = r := e; have := hF3.size; omega))
        refine Sl.nil ?_
        refine At.weak [(0, _), (3, _), (4, _), (5, _), (6, _), (7, _), (8, _), (22, _), (46, _)] ⟨rfl, rfl, rfl, rfl, rfl, rfl, rfl, rfl, rfl, trivial⟩ ?_
        refine At.go ?_
        refine Sc.region ?_
        refine Sl.calm (Cm.move rfl) rfl ?_
        refine Sl.calm (Cm.ldM (cs := encN y) agg35 rfl (cellsF hgy 0 rfl)) rfl ?_
        refine Sl.litG sl25 (cs := (encN y).toArray) zc35 rfl rfl rfl (by kernel_rfl) rfl ?_
        intro wA hgA hsA hfA
        have hoA : OwnM 10 encN 35 wA.heap (some ⟨w9.heap.size, 0, none⟩) 1 [y] := ownM_new (xs := [y]) encN_cells (by simpa using hgA) (by show 1 ≤ maxLen; decide)
        refine Sl.appendM encN_cells rfl sl25 rfl rfl (ho9.grow hfA) (hoA.vw encN_cells) (by simp only [List.length_singleton, List.length_append]; omega) (by simp only [List.length_singleton, List.length_append]; unfold maxLen; omega) rfl ?_
        intro oB cB wB hoB hfB hrB hnB
        rw [List.append_assoc, hy, ← hrs] at hoB ⊢
        have hFB : Foot nob W wB := (hF9.trans hfA).trans_to hfB hfo.step
        have hfoB : Fr W.heap.size oB := fr_app hfo hrB (by have := hF9.size; have := hfA.size; omega)
        refine Sl.calm (Cm.assign rfl) rfl ?_
        refine Sl.nil ?_
        refine At.block_normal ?_
        refine At.weak [(0, _), (3, _), (4, _), (5, _), (6, _), (7, _), (8, _), (22, _), (46, _)] ⟨rfl, rfl, rfl, rfl, rfl, rfl, rfl, rfl, rfl, trivial⟩ ?_
        refine At.go ?_
        refine Sc.region ?_
        refine Sl.calm (Cm.move rfl) rfl ?_
        refine Sl.calm (Cm.add64 rfl rfl (by omega)) rfl ?_
        refine Sl.calm (Cm.assign rfl) rfl ?_
        refine Sl.nil ?_
        first
          | exact At.again ⟨k + 1, oB, cB⟩ ⟨rfl, rfl, rfl, rfl, trivial⟩ ⟨by omega, hoB, hfoB, hFB⟩ (by show (lyA Ls i).length - (k + 1) < (lyA Ls i).length - k; omega)
          | exact At.again ⟨k + 1, o, c⟩ ⟨rfl, congrArg (fun n => some (Value.slice o n c)) (by rw [hrs]), rfl, rfl, trivial⟩ ⟨by omega, by rw [hrs]; exact ho6, hfo, hF6⟩ (by show (lyA Ls i).length - (k + 1) < (lyA Ls i).length - k; omega)
    ·
      have hke : k = (lyA Ls i).length := by omega
      subst hke
      rw [List.take_length] at ho3
      refine Sl.nil ?_
      refine At.weak [(0, _), (3, _), (4, _), (5, _), (22, _)] ⟨rfl, rfl, rfl, rfl, rfl, trivial⟩ ?_
      refine At.go ?_
      refine Sc.cond_f rfl ?_
      refine Sc.exit ?_
      refine At.then_exit ?_
      refine At.then_exit ?_
      refine At.block_hit ?_
      refine At.block_normal ?_
      refine At.go ?_
      refine Sc.region ?_
      refine Sl.calm (Cm.move rfl) rfl ?_
      refine Sl.calm (Cm.add64 rfl rfl (by omega)) rfl ?_
      refine Sl.calm (Cm.assign rfl) rfl ?_
      refine Sl.nil ?_
      exact At.again ⟨i + 1, o, c⟩ ⟨rfl, congrArg (fun n => some (Value.slice o n c)) (by rw [refL_succ, List.take_length]), rfl, trivial⟩ ⟨by omega, by rw [refL_succ]; exact ho3, hfo, hF3⟩ (by show Ls.length - (i + 1) < Ls.length - i; omega)
  ·
    have hie : i = Ls.length := by omega
    subst hie
    have hlr := refL_len Ls Ls.length (Nat.le_refl _)
    refine Sl.nil ?_
    refine At.weak [(0, _), (3, _), (4, _), (13, _)] ⟨rfl, rfl, rfl, rfl, trivial⟩ ?_
    refine At.go ?_
    refine Sc.cond_f rfl ?_
    refine Sc.exit ?_
    refine At.then_exit ?_
    refine At.then_exit ?_
    refine At.block_hit ?_
    refine At.go ?_
    refine Sc.seq ?_
    refine Sc.region ?_
    refine Sl.calm (Cm.move rfl) rfl ?_
    refine Sl.call fn16 rfl (rsorted_ok o c (refL Ls Ls.length) w2 (hvR rfl) (by omega)) rfl ?_
    rintro _ w3 ⟨o3, c3, ys, rfl, ho3, hfo3, hyp, hys, hf3⟩
    have hey : ys = srtP (refL Ls Ls.length) := srt_uniq (by rw [ref_ren hg]; exact twice_ren (visL_tw hg)) hyp hys
    have hcan : numP ys = canP (visL Ls) := by rw [hey]; exact ref_can hg
    have hyl := hyp.length_eq
    refine Sl.call fn15 rfl (rnum_ok o3 c3 ys w3 (ho3.vw encN_cells) (by omega)) rfl ?_
    rintro _ w4 ⟨o4, c4, rfl, ho4, hfo4, hf4⟩
    rw [hcan] at ho4 ⊢
    refine Sl.calm (Cm.assign rfl) rfl ?_
    refine Sl.nil ?_
    refine At.weak [(0, _), (2, _), (3, _), (4, _), (13, _)] ⟨rfl, rfl, rfl, rfl, rfl, trivial⟩ ?_
    refine At.go ?_
    refine Sc.ret ?_
    refine At.ret1 rfl rfl ?_
    have hF4 := hF2.trans (hf3.trans hf4)
    refine ⟨_, rfl, o4, c4, rfl, ho4, ⟨ho4.vw encN_cells, fun x hx => ?_⟩, hfo4.mono (Nat.le_trans hF2.size hf3.size), hF4⟩
    rw [← hcan] at hx
    refine num_v (D := D) (fun y hy => ?_) x hx
    obtain ⟨j, p, h1, h2, e⟩ := refL_mem (hyp.mem_iff.1 hy)
    obtain ⟨h, _, _, _, hvn⟩ := (hv.grow hF4).lay h1
    rw [e]; exact hvn.2 p h2
end Go.Proofs.Ytpamandneifemaa
