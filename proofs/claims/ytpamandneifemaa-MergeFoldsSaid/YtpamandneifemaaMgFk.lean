/- merge: the trees that a law looks at. No condition beyond the bounds that each states. -/
import Derived.Test.YtpamandneifemaaMgEk
namespace Go.Proofs.Ytpamandneifemaa
open Go Go.RowKit Go.Maps
set_option linter.unusedVariables false

def cutN (n : Nd) : Nd := { n with names := n.names.take 18 }
def cutP (p : NdH × Nd) : NdH × Nd := (⟨cutHd p.1.names 18, p.1.data, p.1.xs⟩, cutN p.2)
theorem cutP_tk {ps : List (NdH × Nd)} {i : Nat} {p : NdH × Nd} (hp : ps[i]? = some p) : (ps.take (i + 1)).map cutP = (ps.take i).map cutP ++ [cutP p] := by rw [tkL hp]; simp
theorem NdV.cutP {D : Nat → Prop} {H : Array Obj} {p : NdH × Nd} (v : NdV D H p) : NdV D H (Go.Proofs.Ytpamandneifemaa.cutP p) := ⟨v.1.cut 18, v.2⟩
theorem smN.cutN {n : Nd} (h : smN n) : smN (Go.Proofs.Ytpamandneifemaa.cutN n) := ⟨h.1, fun s hs => h.2.1 s (List.mem_of_mem_take hs), h.2.2⟩
/-- a tree of a law -/
def GdU (ps : List (NdH × Nd)) : Prop := okU (nds ps) ∧ ps.length ≤ 25 ∧ ∀ p ∈ ps, okN p.2
theorem GdU.gd {ps : List (NdH × Nd)} (h : GdU ps) : GdL ps := ⟨plc_nmd0 h.1.1, h.2.2, by have := h.2.1; omega⟩
theorem tags_ne {α β : Type} {enc : α → Value} {enc' : β → List Value} {K : Nat} {e e' : TypeId} {H : Array Obj} {o o' : Option Addr} {c c' : Nat} {xs : List α} {ys : List β} (h : Own enc e H o c xs) (h' : OwnM K enc' e' H o' c' ys) (hne : e ≠ e') : ∀ a b, o = some a → o' = some b → a.block ≠ b.block := fun a b ha hb he => by
  obtain ⟨c1, h1⟩ := h.cells ha
  obtain ⟨c2, h2⟩ := h'.cells hb
  rw [he, h2] at h1
  exact hne (by simpa using (Obj.cells.inj (Option.some.inj h1)).2.1.symm)
variable {D : Nat → Prop}
set_option maxHeartbeats 4000000 in
theorem fewU_ok (lo : Option Addr) (lc : Nat) (hs : List Hd) (Ls : Lys) (W : World) (hv : LysV D W.heap lo lc hs Ls) (hw : ∀ ps ∈ Ls, ∀ p ∈ ps, okN p.2 ∧ smN p.2) :
    Calls Try.prog 11 [.slice lo Ls.length lc].toArray W (Ret fun v w' => ∃ o c hs' Ls', v = .slice o (List.length (α := List (NdH × Nd)) Ls') c ∧ LysV D w'.heap o c hs' Ls' ∧ (∀ ps ∈ Ls', GdU ps) ∧ Ls'.length ≤ 5 ∧ Ls'.length ≤ Ls.length ∧ Foot nob W w') := by
  have h63 : (Ls.length : Int) ≤ 9223372036854775807 := by have := hv.1.len63; have := hv.2.1; omega
  refine calls_of_sc 60 [(0, _)] Try.func11 rfl rfl rfl (enter_slots ⟨rfl, trivial⟩) ?_
  refine Sc.seq ?_
  refine Sc.region ?_
  refine Sl.calm (Cm.assign rfl) rfl ?_
  refine Sl.nil ?_
  refine At.go ?_
  refine Sc.seq ?_
  refine Sc.region ?_
  refine Sl.lit0 hd sl22 rfl ?_
  intro w1 ho1 hs1 hf1
  refine Sl.calm (Cm.assign rfl) rfl ?_
  refine Sl.nil ?_
  refine At.weak [(0, _), (2, _), (3, _)] ⟨rfl, rfl, rfl, trivial⟩ ?_
  refine At.go ?_
  refine Sc.seq ?_
  refine Sc.seq ?_
  refine Sc.region ?_
  refine Sl.calm (Cm.assign rfl) rfl ?_
  refine Sl.nil ?_
  refine At.go ?_
  refine Sc.block ?_
  refine Sc.loop (β := Nat × Option Addr × Nat × List Hd × Lys) (fun ⟨i, o, c, hs2, L2⟩ => [(0, .slice lo Ls.length lc), (3, .slice o hs2.length c), (4, .int .i64 i)]) (fun ⟨i, o, c, hs2, L2⟩ w => i ≤ Ls.length ∧ i ≤ 5 ∧ hs2.length ≤ i ∧ Own hd 25 w.heap o c hs2 ∧ Fr W.heap.size o ∧ hs2.length = L2.length ∧ (∀ (j : Nat) (h : Hd) (ps : List (NdH × Nd)), hs2[j]? = some h → L2[j]? = some ps → h.n = ps.length ∧ OwnM 10 encN 35 w.heap h.a h.c ps ∧ (∀ p ∈ ps, NdV D W.heap p) ∧ GdU ps) ∧ Foot nob W w) (fun ⟨i, o, c, hs2, L2⟩ => Ls.length - i) ⟨0, some ⟨W.heap.size, 0, none⟩, 0, [], []⟩ ⟨rfl, rfl, rfl, trivial⟩ ⟨Nat.zero_le _, Nat.zero_le _, Nat.le_refl _, ho1, fun a ha => by cases ha; exact Nat.le_refl _, rfl, fun j h ps hj => by simp at hj, hf1⟩ ?_
  rintro ⟨i, o, c, hs2, L2⟩ w2 ⟨hi, hi5, hhi, ho2, hfo, hhl, hall, hF2⟩
  refine Sc.seq ?_
  refine Sc.seq ?_
  refine Sc.region ?_
  refine Sl.calm (Cm.move rfl) rfl ?_
  refine Sl.calm (Cm.move rfl) rfl ?_
  refine Sl.calm (Cm.len sl22 rfl) rfl ?_
  refine Sl.fork (Cm.lss rfl rfl) rfl (fun h12 => ?_) (fun h12 => ?_)
  ·
    have hil : i < Ls.length := by omega
    obtain ⟨h, hh, hps, hn, hvW⟩ := hv.lay hil
    obtain ⟨ps, eps⟩ : ∃ ps, ps = lyA Ls i := ⟨_, rfl⟩
    rw [← eps] at hps hn hvW
    have hwp := hw ps (List.mem_of_getElem? hps)
    have hll := hv.2.1
    refine Sl.calm (Cm.move rfl) rfl ?_
    refine Sl.want rfl rfl (Cm.move rfl) rfl ?_
    refine Sl.forkWant rfl rfl (Cm.lss rfl rfl) rfl (fun h15 => ?_) (fun h15 => ?_)
    ·
      refine Sl.calm (Cm.pick_t rfl rfl) rfl ?_
      refine Sl.nil ?_
      refine At.weak [(0, _), (3, _), (4, _), (16, _)] ⟨rfl, rfl, rfl, rfl, trivial⟩ ?_
      refine At.go ?_
      refine Sc.cond_t rfl ?_
      refine Sc.skip ?_
      refine At.go ?_
      refine Sc.seq ?_
      refine Sc.block ?_
      refine Sc.seq ?_
      refine Sc.region ?_
      refine Sl.lit0M encN_cells sl25 rfl ?_
      intro w3 hot3 hs3 hf3
      have hF3 := hF2.trans hf3
      refine Sl.calm (Cm.assign rfl) rfl ?_
      refine Sl.nil ?_
      refine At.weak [(0, _), (3, _), (4, _), (5, _), (16, _)] ⟨rfl, rfl, rfl, rfl, rfl, trivial⟩ ?_
      refine At.go ?_
      refine Sc.seq ?_
      refine Sc.seq ?_
      refine Sc.region ?_
      refine Sl.calm (Cm.assign rfl) rfl ?_
      refine Sl.nil ?_
      refine At.go ?_
      refine Sc.block ?_
      refine Sc.loop (β := Nat × Option Addr × Nat) (fun ⟨k, ot, ct⟩ => [(0, .slice lo Ls.length lc), (3, .slice o hs2.length c), (4, .int .i64 i), (5, .slice ot ((ps.take k).map cutP).length ct), (6, .int .i64 k)]) (fun ⟨k, ot, ct⟩ w => k ≤ ps.length ∧ k ≤ 25 ∧ OwnM 10 encN 35 w.heap ot ct ((ps.take k).map cutP) ∧ (∀ a, ot = some a → w2.heap.size ≤ a.block) ∧ Foot nob w2 w) (fun ⟨k, ot, ct⟩ => ps.length - k) ⟨0, some ⟨w2.heap.size, 0, none⟩, 0⟩ ⟨rfl, rfl, rfl, rfl, rfl, trivial⟩ ⟨Nat.zero_le _, Nat.zero_le _, hot3, fun a ha => by cases ha; exact Nat.le_refl _, hf3⟩ ?_
      rintro ⟨k, ot, ct⟩ w4 ⟨hk, hk25, hot, hfot, hF24⟩
      have hF4 := hF2.trans hF24
      refine Sc.seq ?_
      refine Sc.seq ?_
      refine Sc.region ?_
      refine Sl.calm (Cm.move rfl) rfl ?_
      refine Sl.calm (Cm.move rfl) rfl ?_
      refine Sl.calm (Cm.move rfl) rfl ?_
      have hv4 := hv.grow hF4
      have hvn4 := hvW.grow hF4
      refine Sl.calm (Cm.indexAddr1 sl22 rfl rfl hv4.non (by omega)) rfl ?_
      refine Sl.calm (Cm.ofEq (u := .slice h.a ps.length h.c) (Cm.ld sca25 rfl (hv4.1.get i h hh)) (by rw [← hn]; rfl)) rfl ?_
      refine Sl.calm (Cm.len sl25 rfl) rfl ?_
      refine Sl.fork (Cm.lss rfl rfl) rfl (fun h26 => ?_) (fun h26 => ?_)
      ·
        have hkl : k < ps.length := by omega
        obtain ⟨p, hp⟩ : ∃ p, ps[k]? = some p := ⟨_, List.getElem?_eq_getElem hkl⟩
        have hpm := List.mem_of_getElem? hp
        refine Sl.calm (Cm.move rfl) rfl ?_
        refine Sl.want rfl rfl (Cm.move rfl) rfl ?_
        refine Sl.forkWant rfl rfl (Cm.lss rfl rfl) rfl (fun h29 => ?_) (fun h29 => ?_)
        ·
          refine Sl.calm (Cm.pick_t rfl rfl) rfl ?_
          refine Sl.nil ?_
          refine At.weak [(0, _), (3, _), (4, _), (5, _), (6, _), (30, _)] ⟨rfl, rfl, rfl, rfl, rfl, rfl, trivial⟩ ?_
          refine At.go ?_
          refine Sc.cond_t rfl ?_
          refine Sc.skip ?_
          refine At.go ?_
          refine Sc.seq ?_
          refine Sc.block ?_
          refine Sc.seq ?_
          refine Sc.region ?_
          refine Sl.calm (Cm.move rfl) rfl ?_
          refine Sl.calm (Cm.move rfl) rfl ?_
          refine Sl.calm (Cm.indexAddr1 sl22 rfl rfl hv4.non (by omega)) rfl ?_
          refine Sl.calm (Cm.ofEq (u := .slice h.a ps.length h.c) (Cm.ld sca25 rfl (hv4.1.get i h hh)) (by rw [← hn]; rfl)) rfl ?_
          refine Sl.calm (Cm.move rfl) rfl ?_
          refine Sl.calm (Cm.indexAddr sl25 rfl rfl hvn4.1.non (by omega)) rfl ?_
          refine Sl.calm (Cm.ldM (cs := encN p) agg35 rfl (fun j v hj => hvn4.1.rowZ k rfl hp j v hj)) rfl ?_
          refine Sl.allocC zc35 rfl ?_
          intro w5 hg5 hs5 hf5
          obtain ⟨q, hq⟩ : ∃ q, q = w4.heap.size := ⟨_, rfl⟩
          rw [← hq] at hg5 ⊢
          have hqW : w2.heap.size ≤ q := by rw [hq]; exact hF24.size
          refine Sl.storeAll (vs := encN p) agg35 rfl rfl (encN_cells p).2 hg5 rfl ?_
          intro w6 hg6 hs6 hf6
          have hf46 : Foot nob w4 w6 := hf5.trans_to hf6 (fun k e => .inr (by have e : k = q := e; omega))
          have hn6 := ((hvW.grow hF4).grow hf46).2 p hpm
          have hot6 := hot.grow hf46
          have hotq : ∀ a, ot = some a → ¬ a.block = q := fun a ha => by have := hot.lt a ha; omega
          refine Sl.nil ?_
          refine At.weak [(0, _), (3, _), (4, _), (5, _), (6, _), (7, _), (30, _)] ⟨rfl, rfl, rfl, rfl, rfl, rfl, rfl, trivial⟩ ?_
          refine At.go ?_
          refine Sc.seq ?_
          refine Sc.seq ?_
          refine Sc.region ?_
          refine Sl.calm (Cm.field fld35_0 rfl) rfl ?_
          refine Sl.calm (Cm.ld sca29 rfl (cellF hg6 rfl)) rfl ?_
          refine Sl.calm (Cm.len sl29 rfl) rfl ?_
          refine Sl.fork (Cm.gtr rfl rfl) rfl (fun h43 => ?_) (fun h43 => ?_)
          ·
            refine Sl.nil ?_
            refine At.weak [(0, _), (3, _), (4, _), (5, _), (6, _), (7, _), (30, _), (43, _)] ⟨rfl, rfl, rfl, rfl, rfl, rfl, rfl, rfl, trivial⟩ ?_
            refine At.go ?_
            refine Sc.cond_t rfl ?_
            refine Sc.region ?_
            refine Sl.calm (Cm.field fld35_0 rfl) rfl ?_
            refine Sl.calm (Cm.ld sca29 rfl (cellF hg6 rfl)) rfl ?_
            refine Sl.calm (Cm.ofEq (u := hd ⟨p.1.names.a, 18, p.1.names.c⟩) (Cm.sliceH sl29 rfl rfl (by have := hn6.1.2.1.le; have := hn6.1.1; omega)) (by rw [cutAo_zero]; rfl)) rfl ?_
            refine Sl.calm (Cm.field fld35_0 rfl) rfl ?_
            refine Sl.store sca29 rfl rfl rfl hg6 rfl ?_
            intro w7 hg7 hs7 hf7
            have hgC : w7.heap[q]? = some (.cells (encN (cutP p)).toArray 35 (0, 0)) := by unfold cutP; rw [cutHd_yes (by omega)]; exact hg7
            have hf47 : Foot nob w4 w7 := hf46.trans_to hf7 (fun k e => .inr (by have e : k = q := e; omega))
            have hot7 := hot6.keep hf7 hotq
            refine Sl.nil ?_
            refine At.weak [(0, _), (3, _), (4, _), (5, _), (6, _), (7, _), (30, _), (43, _)] ⟨rfl, rfl, rfl, rfl, rfl, rfl, rfl, rfl, trivial⟩ ?_
            refine At.go ?_
            refine Sc.region ?_
            refine Sl.calm (Cm.move rfl) rfl ?_
            refine Sl.calm (Cm.ldM (cs := encN (cutP p)) agg35 rfl (cellsF hgC 0 rfl)) rfl ?_
            obtain ⟨y, hy⟩ : ∃ y, y = cutP p := ⟨_, rfl⟩
            rw [← hy]
            refine Sl.litG sl25 (cs := (encN y).toArray) zc35 rfl rfl rfl (by kernel_rfl) rfl ?_
            intro w8 hg8 hs8 hf8
            have ho8 : OwnM 10 encN 35 w8.heap (some ⟨w7.heap.size, 0, none⟩) 1 [y] := ownM_new (xs := [y]) encN_cells (by simpa using hg8) (by show 1 ≤ maxLen; decide)
            refine Sl.appendM encN_cells rfl sl25 rfl rfl (hot7.grow hf8) (ho8.vw encN_cells) (by simp only [List.length_singleton, List.length_map, List.length_take]; omega) (by simp only [List.length_singleton, List.length_map, List.length_take]; unfold maxLen; omega) rfl ?_
            intro o9 c9 w9 ho9 hf9 hr9 hn9
            rw [hy, ← cutP_tk hp] at ho9 ⊢
            have hfot : Fr w2.heap.size ot := hfot
            have hF39 : Foot nob w2 w9 := (hF24.trans (hf47.trans hf8)).trans_to hf9 hfot.step
            have hfo9 : Fr w2.heap.size o9 := fr_app hfot hr9 (by have := hF24.size; have := hf47.size; have := hf8.size; omega)
            refine Sl.calm (Cm.assign rfl) rfl ?_
            refine Sl.nil ?_
            refine At.block_normal ?_
            refine At.weak [(0, _), (3, _), (4, _), (5, _), (6, _), (7, _), (30, _), (43, _)] ⟨rfl, rfl, rfl, rfl, rfl, rfl, rfl, rfl, trivial⟩ ?_
            refine At.go ?_
            refine Sc.region ?_
            refine Sl.calm (Cm.move rfl) rfl ?_
            refine Sl.calm (Cm.add64 rfl rfl (by omega)) rfl ?_
            refine Sl.calm (Cm.assign rfl) rfl ?_
            refine Sl.nil ?_
            exact At.again ⟨k + 1, o9, c9⟩ ⟨rfl, rfl, rfl, rfl, rfl, trivial⟩ ⟨by omega, by omega, ho9, hfo9, hF39⟩ (by show ps.length - (k + 1) < ps.length - k; omega)
          ·
            have hgC : w6.heap[q]? = some (.cells (encN (cutP p)).toArray 35 (0, 0)) := by unfold cutP; rw [cutHd_no (by omega)]; exact hg6
            have hf47 := hf46
            have hot7 := hot6
            rename World => w7
            refine Sl.nil ?_
            refine At.weak [(0, _), (3, _), (4, _), (5, _), (6, _), (7, _), (30, _), (43, _)] ⟨rfl, rfl, rfl, rfl, rfl, rfl, rfl, rfl, trivial⟩ ?_
            refine At.go ?_
            refine Sc.cond_f rfl ?_
            refine Sc.skip ?_
            refine At.go ?_
            refine Sc.region ?_
            refine Sl.calm (Cm.move rfl) rfl ?_
            refine Sl.calm (Cm.ldM (cs := encN (cutP p)) agg35 rfl (cellsF hgC 0 rfl)) rfl ?_
            obtain ⟨y, hy⟩ : ∃ y, y = cutP p := ⟨_, rfl⟩
            rw [← hy]
            refine Sl.litG sl25 (cs := (encN y).toArray) zc35 rfl rfl rfl (by kernel_rfl) rfl ?_
            intro w8 hg8 hs8 hf8
            have ho8 : OwnM 10 encN 35 w8.heap (some ⟨w7.heap.size, 0, none⟩) 1 [y] := ownM_new (xs := [y]) encN_cells (by simpa using hg8) (by show 1 ≤ maxLen; decide)
            refine Sl.appendM encN_cells rfl sl25 rfl rfl (hot7.grow hf8) (ho8.vw encN_cells) (by simp only [List.length_singleton, List.length_map, List.length_take]; omega) (by simp only [List.length_singleton, List.length_map, List.length_take]; unfold maxLen; omega) rfl ?_
            intro o9 c9 w9 ho9 hf9 hr9 hn9
            rw [hy, ← cutP_tk hp] at ho9 ⊢
            have hfot : Fr w2.heap.size ot := hfot
            have hF39 : Foot nob w2 w9 := (hF24.trans (hf47.trans hf8)).trans_to hf9 hfot.step
            have hfo9 : Fr w2.heap.size o9 := fr_app hfot hr9 (by have := hF24.size; have := hf47.size; have := hf8.size; omega)
            refine Sl.calm (Cm.assign rfl) rfl ?_
            refine Sl.nil ?_
            refine At.block_normal ?_
            refine At.weak [(0, _), (3, _), (4, _), (5, _), (6, _), (7, _), (30, _), (43, _)] ⟨rfl, rfl, rfl, rfl, rfl, rfl, rfl, rfl, trivial⟩ ?_
            refine At.go ?_
            refine Sc.region ?_
            refine Sl.calm (Cm.move rfl) rfl ?_
            refine Sl.calm (Cm.add64 rfl rfl (by omega)) rfl ?_
            refine Sl.calm (Cm.assign rfl) rfl ?_
            refine Sl.nil ?_
            exact At.again ⟨k + 1, o9, c9⟩ ⟨rfl, rfl, rfl, rfl, rfl, trivial⟩ ⟨by omega, by omega, ho9, hfo9, hF39⟩ (by show ps.length - (k + 1) < ps.length - k; omega)
        ·
          refine Sl.calm (Cm.pick_t rfl rfl) rfl ?_
          refine Sl.nil ?_
          refine At.weak [(0, _), (3, _), (4, _), (5, _), (6, _), (30, _)] ⟨rfl, rfl, rfl, rfl, rfl, rfl, trivial⟩ ?_
          refine At.go ?_
          refine Sc.cond_f rfl ?_
          refine Sc.exit ?_
          refine At.then_exit ?_
          refine At.then_exit ?_
          refine At.block_hit ?_
          refine At.go ?_
          refine Sc.seq ?_
          refine Sc.region ?_
          refine Sl.calm (Cm.move rfl) rfl ?_
          obtain ⟨qs, eqs⟩ : ∃ qs, qs = (ps.take k).map cutP := ⟨_, rfl⟩
          have hql : qs.length ≤ 25 := by rw [eqs, List.length_map, List.length_take]; omega
          have hqv : ∀ y ∈ qs, okN y.2 ∧ smN y.2 ∧ NdV D W.heap y := fun y hy => by
            rw [eqs] at hy
            obtain ⟨x, hx, rfl⟩ := List.mem_map.1 hy
            have hx := List.mem_of_mem_take hx
            exact ⟨(hwp x hx).1, (hwp x hx).2.cutN, (hvW.2 x hx).cutP⟩
          rw [← eqs] at hot ⊢
          refine Sl.call fn30 rfl (checkU_ok ot ct qs w4 ⟨hot.vw encN_cells, fun y hy => (hqv y hy).2.2.grow hF4⟩ (fun y hy => (hqv y hy).2.1)) rfl ?_
          rintro _ w5 ⟨z, rfl, hz, hf5⟩
          have hF5 := hF4.trans hf5
          have hF25 : Foot nob w2 w5 := hF24.trans hf5
          have ho5 := ho2.grow hF25
          have hot5 := hot.grow hf5
          refine Sl.fork (Cm.eql rfl rfl) rfl (fun h54 => ?_) (fun h54 => ?_)
          ·
            have hgu : GdU qs := ⟨hz.1 h54, hql, fun y hy => (hqv y hy).1⟩
            refine Sl.nil ?_
            refine At.weak [(0, _), (3, _), (4, _), (5, _), (6, _), (30, _), (54, _)] ⟨rfl, rfl, rfl, rfl, rfl, rfl, rfl, trivial⟩ ?_
            refine At.go ?_
            refine Sc.cond_t rfl ?_
            refine Sc.region ?_
            refine Sl.calm (Cm.move rfl) rfl ?_
            refine Sl.calm (Cm.move rfl) rfl ?_
            refine Sl.lit1 (enc := hd) (u := ⟨ot, qs.length, ct⟩) sl22 (hd_one _) rfl rfl ?_
            intro w6 ho6 hs6 hf6
            refine Sl.append hd_one sl22 rfl rfl (ho5.grow hf6) ho6.vw (by simp only [List.length_singleton]; omega) (by simp only [List.length_singleton]; unfold maxLen; omega) rfl ?_
            intro o7 c7 w7 ho7 hf7 hr7 hn7
            have hF7 : Foot nob W w7 := (hF5.trans hf6).trans_to hf7 hfo.step
            have hfo7 : Fr W.heap.size o7 := fr_app hfo hr7 (by have := hF5.size; have := hf6.size; omega)
            refine Sl.calm (Cm.assign rfl) rfl ?_
            refine Sl.nil ?_
            refine At.block_normal ?_
            refine At.weak [(0, _), (3, _), (4, _), (5, _), (6, _), (30, _), (54, _)] ⟨rfl, rfl, rfl, rfl, rfl, rfl, rfl, trivial⟩ ?_
            refine At.go ?_
            refine Sc.region ?_
            refine Sl.calm (Cm.move rfl) rfl ?_
            refine Sl.calm (Cm.add64 rfl rfl (by omega)) rfl ?_
            refine Sl.calm (Cm.assign rfl) rfl ?_
            refine Sl.nil ?_
            first
              | (refine At.again ⟨i + 1, o7, c7, hs2 ++ [⟨ot, qs.length, ct⟩], L2 ++ [qs]⟩ ⟨rfl, rfl, rfl, trivial⟩ ⟨by omega, by omega, by rw [List.length_append, List.length_singleton]; omega, ho7, hfo7, by rw [List.length_append, List.length_append, hhl]; rfl, fun j h1 p1 hj1 hj2 => ?_, hF7⟩ (by show Ls.length - (i + 1) < Ls.length - i; omega)
                 have hkp : ∀ {a : Option Addr} {cc : Nat} {pp : List (NdH × Nd)}, OwnM 10 encN 35 w5.heap a cc pp → OwnM 10 encN 35 w7.heap a cc pp := fun h => (h.grow hf6).keep hf7 (fun x hx ⟨y, hy, e⟩ => tags_ne (ho5.grow hf6) (h.grow hf6) (by decide) y x hy hx e)
                 by_cases e : j < hs2.length
                 · rw [List.getElem?_append_left e] at hj1
                   rw [List.getElem?_append_left (by omega)] at hj2
                   obtain ⟨q1, q2, q3, q4⟩ := hall j h1 p1 hj1 hj2
                   exact ⟨q1, hkp (q2.grow hF25), q3, q4⟩
                 · have hjl := (List.getElem?_eq_some_iff.1 hj1).1
                   rw [List.length_append, List.length_singleton] at hjl
                   have e2 : j = hs2.length := by omega
                   subst e2
                   rw [List.getElem?_append_right (Nat.le_refl _), Nat.sub_self] at hj1
                   rw [List.getElem?_append_right (by omega), show hs2.length - L2.length = 0 by omega] at hj2
                   cases hj1; cases hj2
                   exact ⟨rfl, hkp hot5, fun y hy => (hqv y hy).2.2, hgu⟩)
              | exact At.again ⟨i + 1, o, c, hs2, L2⟩ ⟨rfl, rfl, rfl, trivial⟩ ⟨by omega, by omega, by omega, ho5, hfo, hhl, fun j h1 p1 hj1 hj2 => by obtain ⟨q1, q2, q3, q4⟩ := hall j h1 p1 hj1 hj2; exact ⟨q1, q2.grow hF25, q3, q4⟩, hF5⟩ (by show Ls.length - (i + 1) < Ls.length - i; omega)
          ·
            refine Sl.nil ?_
            refine At.weak [(0, _), (3, _), (4, _), (5, _), (6, _), (30, _), (54, _)] ⟨rfl, rfl, rfl, rfl, rfl, rfl, rfl, trivial⟩ ?_
            refine At.go ?_
            refine Sc.cond_f rfl ?_
            refine Sc.skip ?_
            refine At.block_normal ?_
            refine At.go ?_
            refine Sc.region ?_
            refine Sl.calm (Cm.move rfl) rfl ?_
            refine Sl.calm (Cm.add64 rfl rfl (by omega)) rfl ?_
            refine Sl.calm (Cm.assign rfl) rfl ?_
            refine Sl.nil ?_
            first
              | (refine At.again ⟨i + 1, o7, c7, hs2 ++ [⟨ot, qs.length, ct⟩], L2 ++ [qs]⟩ ⟨rfl, rfl, rfl, trivial⟩ ⟨by omega, by omega, by rw [List.length_append, List.length_singleton]; omega, ho7, hfo7, by rw [List.length_append, List.length_append, hhl]; rfl, fun j h1 p1 hj1 hj2 => ?_, hF7⟩ (by show Ls.length - (i + 1) < Ls.length - i; omega)
                 have hkp : ∀ {a : Option Addr} {cc : Nat} {pp : List (NdH × Nd)}, OwnM 10 encN 35 w5.heap a cc pp → OwnM 10 encN 35 w7.heap a cc pp := fun h => (h.grow hf6).keep hf7 (fun x hx ⟨y, hy, e⟩ => tags_ne (ho5.grow hf6) (h.grow hf6) (by decide) y x hy hx e)
                 by_cases e : j < hs2.length
                 · rw [List.getElem?_append_left e] at hj1
                   rw [List.getElem?_append_left (by omega)] at hj2
                   obtain ⟨q1, q2, q3, q4⟩ := hall j h1 p1 hj1 hj2
                   exact ⟨q1, hkp (q2.grow hF25), q3, q4⟩
                 · have hjl := (List.getElem?_eq_some_iff.1 hj1).1
                   rw [List.length_append, List.length_singleton] at hjl
                   have e2 : j = hs2.length := by omega
                   subst e2
                   rw [List.getElem?_append_right (Nat.le_refl _), Nat.sub_self] at hj1
                   rw [List.getElem?_append_right (by omega), show hs2.length - L2.length = 0 by omega] at hj2
                   cases hj1; cases hj2
                   exact ⟨rfl, hkp hot5, fun y hy => (hqv y hy).2.2, hgu⟩)
              | exact At.again ⟨i + 1, o, c, hs2, L2⟩ ⟨rfl, rfl, rfl, trivial⟩ ⟨by omega, by omega, by omega, ho5, hfo, hhl, fun j h1 p1 hj1 hj2 => by obtain ⟨q1, q2, q3, q4⟩ := hall j h1 p1 hj1 hj2; exact ⟨q1, q2.grow hF25, q3, q4⟩, hF5⟩ (by show Ls.length - (i + 1) < Ls.length - i; omega)
      ·
        refine Sl.calm (Cm.move rfl) rfl ?_
        refine Sl.skip rfl rfl rfl rfl ?_
        refine Sl.skip rfl rfl rfl rfl ?_
        refine Sl.calm (Cm.pick_f rfl rfl) rfl ?_
        refine Sl.nil ?_
        refine At.weak [(0, _), (3, _), (4, _), (5, _), (6, _), (30, _)] ⟨rfl, rfl, rfl, rfl, rfl, rfl, trivial⟩ ?_
        refine At.go ?_
        refine Sc.cond_f rfl ?_
        refine Sc.exit ?_
        refine At.then_exit ?_
        refine At.then_exit ?_
        refine At.block_hit ?_
        refine At.go ?_
        refine Sc.seq ?_
        refine Sc.region ?_
        refine Sl.calm (Cm.move rfl) rfl ?_
        obtain ⟨qs, eqs⟩ : ∃ qs, qs = (ps.take k).map cutP := ⟨_, rfl⟩
        have hql : qs.length ≤ 25 := by rw [eqs, List.length_map, List.length_take]; omega
        have hqv : ∀ y ∈ qs, okN y.2 ∧ smN y.2 ∧ NdV D W.heap y := fun y hy => by
          rw [eqs] at hy
          obtain ⟨x, hx, rfl⟩ := List.mem_map.1 hy
          have hx := List.mem_of_mem_take hx
          exact ⟨(hwp x hx).1, (hwp x hx).2.cutN, (hvW.2 x hx).cutP⟩
        rw [← eqs] at hot ⊢
        refine Sl.call fn30 rfl (checkU_ok ot ct qs w4 ⟨hot.vw encN_cells, fun y hy => (hqv y hy).2.2.grow hF4⟩ (fun y hy => (hqv y hy).2.1)) rfl ?_
        rintro _ w5 ⟨z, rfl, hz, hf5⟩
        have hF5 := hF4.trans hf5
        have hF25 : Foot nob w2 w5 := hF24.trans hf5
        have ho5 := ho2.grow hF25
        have hot5 := hot.grow hf5
        refine Sl.fork (Cm.eql rfl rfl) rfl (fun h54 => ?_) (fun h54 => ?_)
        ·
          have hgu : GdU qs := ⟨hz.1 h54, hql, fun y hy => (hqv y hy).1⟩
          refine Sl.nil ?_
          refine At.weak [(0, _), (3, _), (4, _), (5, _), (6, _), (30, _), (54, _)] ⟨rfl, rfl, rfl, rfl, rfl, rfl, rfl, trivial⟩ ?_
          refine At.go ?_
          refine Sc.cond_t rfl ?_
          refine Sc.region ?_
          refine Sl.calm (Cm.move rfl) rfl ?_
          refine Sl.calm (Cm.move rfl) rfl ?_
          refine Sl.lit1 (enc := hd) (u := ⟨ot, qs.length, ct⟩) sl22 (hd_one _) rfl rfl ?_
          intro w6 ho6 hs6 hf6
          refine Sl.append hd_one sl22 rfl rfl (ho5.grow hf6) ho6.vw (by simp only [List.length_singleton]; omega) (by simp only [List.length_singleton]; unfold maxLen; omega) rfl ?_
          intro o7 c7 w7 ho7 hf7 hr7 hn7
          have hF7 : Foot nob W w7 := (hF5.trans hf6).trans_to hf7 hfo.step
          have hfo7 : Fr W.heap.size o7 := fr_app hfo hr7 (by have := hF5.size; have := hf6.size; omega)
          refine Sl.calm (Cm.assign rfl) rfl ?_
          refine Sl.nil ?_
          refine At.block_normal ?_
          refine At.weak [(0, _), (3, _), (4, _), (5, _), (6, _), (30, _), (54, _)] ⟨rfl, rfl, rfl, rfl, rfl, rfl, rfl, trivial⟩ ?_
          refine At.go ?_
          refine Sc.region ?_
          refine Sl.calm (Cm.move rfl) rfl ?_
          refine Sl.calm (Cm.add64 rfl rfl (by omega)) rfl ?_
          refine Sl.calm (Cm.assign rfl) rfl ?_
          refine Sl.nil ?_
          first
            | (refine At.again ⟨i + 1, o7, c7, hs2 ++ [⟨ot, qs.length, ct⟩], L2 ++ [qs]⟩ ⟨rfl, rfl, rfl, trivial⟩ ⟨by omega, by omega, by rw [List.length_append, List.length_singleton]; omega, ho7, hfo7, by rw [List.length_append, List.length_append, hhl]; rfl, fun j h1 p1 hj1 hj2 => ?_, hF7⟩ (by show Ls.length - (i + 1) < Ls.length - i; omega)
               have hkp : ∀ {a : Option Addr} {cc : Nat} {pp : List (NdH × Nd)}, OwnM 10 encN 35 w5.heap a cc pp → OwnM 10 encN 35 w7.heap a cc pp := fun h => (h.grow hf6).keep hf7 (fun x hx ⟨y, hy, e⟩ => tags_ne (ho5.grow hf6) (h.grow hf6) (by decide) y x hy hx e)
               by_cases e : j < hs2.length
               · rw [List.getElem?_append_left e] at hj1
                 rw [List.getElem?_append_left (by omega)] at hj2
                 obtain ⟨q1, q2, q3, q4⟩ := hall j h1 p1 hj1 hj2
                 exact ⟨q1, hkp (q2.grow hF25), q3, q4⟩
               · have hjl := (List.getElem?_eq_some_iff.1 hj1).1
                 rw [List.length_append, List.length_singleton] at hjl
                 have e2 : j = hs2.length := by omega
                 subst e2
                 rw [List.getElem?_append_right (Nat.le_refl _), Nat.sub_self] at hj1
                 rw [List.getElem?_append_right (by omega), show hs2.length - L2.length = 0 by omega] at hj2
                 cases hj1; cases hj2
                 exact ⟨rfl, hkp hot5, fun y hy => (hqv y hy).2.2, hgu⟩)
            | exact At.again ⟨i + 1, o, c, hs2, L2⟩ ⟨rfl, rfl, rfl, trivial⟩ ⟨by omega, by omega, by omega, ho5, hfo, hhl, fun j h1 p1 hj1 hj2 => by obtain ⟨q1, q2, q3, q4⟩ := hall j h1 p1 hj1 hj2; exact ⟨q1, q2.grow hF25, q3, q4⟩, hF5⟩ (by show Ls.length - (i + 1) < Ls.length - i; omega)
        ·
          refine Sl.nil ?_
          refine At.weak [(0, _), (3, _), (4, _), (5, _), (6, _), (30, _), (54, _)] ⟨rfl, rfl, rfl, rfl, rfl, rfl, rfl, trivial⟩ ?_
          refine At.go ?_
          refine Sc.cond_f rfl ?_
          refine Sc.skip ?_
          refine At.block_normal ?_
          refine At.go ?_
          refine Sc.region ?_
          refine Sl.calm (Cm.move rfl) rfl ?_
          refine Sl.calm (Cm.add64 rfl rfl (by omega)) rfl ?_
          refine Sl.calm (Cm.assign rfl) rfl ?_
          refine Sl.nil ?_
          first
            | (refine At.again ⟨i + 1, o7, c7, hs2 ++ [⟨ot, qs.length, ct⟩], L2 ++ [qs]⟩ ⟨rfl, rfl, rfl, trivial⟩ ⟨by omega, by omega, by rw [List.length_append, List.length_singleton]; omega, ho7, hfo7, by rw [List.length_append, List.length_append, hhl]; rfl, fun j h1 p1 hj1 hj2 => ?_, hF7⟩ (by show Ls.length - (i + 1) < Ls.length - i; omega)
               have hkp : ∀ {a : Option Addr} {cc : Nat} {pp : List (NdH × Nd)}, OwnM 10 encN 35 w5.heap a cc pp → OwnM 10 encN 35 w7.heap a cc pp := fun h => (h.grow hf6).keep hf7 (fun x hx ⟨y, hy, e⟩ => tags_ne (ho5.grow hf6) (h.grow hf6) (by decide) y x hy hx e)
               by_cases e : j < hs2.length
               · rw [List.getElem?_append_left e] at hj1
                 rw [List.getElem?_append_left (by omega)] at hj2
                 obtain ⟨q1, q2, q3, q4⟩ := hall j h1 p1 hj1 hj2
                 exact ⟨q1, hkp (q2.grow hF25), q3, q4⟩
               · have hjl := (List.getElem?_eq_some_iff.1 hj1).1
                 rw [List.length_append, List.length_singleton] at hjl
                 have e2 : j = hs2.length := by omega
                 subst e2
                 rw [List.getElem?_append_right (Nat.le_refl _), Nat.sub_self] at hj1
                 rw [List.getElem?_append_right (by omega), show hs2.length - L2.length = 0 by omega] at hj2
                 cases hj1; cases hj2
                 exact ⟨rfl, hkp hot5, fun y hy => (hqv y hy).2.2, hgu⟩)
            | exact At.again ⟨i + 1, o, c, hs2, L2⟩ ⟨rfl, rfl, rfl, trivial⟩ ⟨by omega, by omega, by omega, ho5, hfo, hhl, fun j h1 p1 hj1 hj2 => by obtain ⟨q1, q2, q3, q4⟩ := hall j h1 p1 hj1 hj2; exact ⟨q1, q2.grow hF25, q3, q4⟩, hF5⟩ (by show Ls.length - (i + 1) < Ls.length - i; omega)
    ·
      refine Sl.calm (Cm.pick_t rfl rfl) rfl ?_
      refine Sl.nil ?_
      refine At.weak [(0, _), (3, _), (4, _), (16, _)] ⟨rfl, rfl, rfl, rfl, trivial⟩ ?_
      refine At.go ?_
      refine Sc.cond_f rfl ?_
      refine Sc.exit ?_
      refine At.then_exit ?_
      refine At.then_exit ?_
      refine At.block_hit ?_
      refine At.go ?_
      refine Sc.seq ?_
      refine Sc.region ?_
      refine Sl.calm (Cm.move rfl) rfl ?_
      refine Sl.calm (Cm.assign rfl) rfl ?_
      refine Sl.nil ?_
      refine At.weak [(0, _), (2, _), (3, _), (4, _), (16, _)] ⟨rfl, rfl, rfl, rfl, rfl, trivial⟩ ?_
      refine At.go ?_
      refine Sc.ret ?_
      refine At.ret1 rfl rfl ?_
      exact ⟨_, rfl, o, c, hs2, L2, by rw [hhl], ⟨ho2.vw, hhl, fun j h ps h1 h2 => by obtain ⟨q1, q2, q3, q4⟩ := hall j h ps h1 h2; exact ⟨q1, q2.vw encN_cells, fun p hp => (q3 p hp).grow hF2⟩⟩, fun ps hps => by obtain ⟨j, hj⟩ := List.getElem?_of_mem hps; obtain ⟨h, hh⟩ : ∃ h, hs2[j]? = some h := ⟨_, List.getElem?_eq_getElem (by have := (List.getElem?_eq_some_iff.1 hj).1; omega)⟩; exact (hall j h ps hh hj).2.2.2, by omega, by omega, hF2⟩
  ·
    refine Sl.calm (Cm.move rfl) rfl ?_
    refine Sl.skip rfl rfl rfl rfl ?_
    refine Sl.skip rfl rfl rfl rfl ?_
    refine Sl.calm (Cm.pick_f rfl rfl) rfl ?_
    refine Sl.nil ?_
    refine At.weak [(0, _), (3, _), (4, _), (16, _)] ⟨rfl, rfl, rfl, rfl, trivial⟩ ?_
    refine At.go ?_
    refine Sc.cond_f rfl ?_
    refine Sc.exit ?_
    refine At.then_exit ?_
    refine At.then_exit ?_
    refine At.block_hit ?_
    refine At.go ?_
    refine Sc.seq ?_
    refine Sc.region ?_
    refine Sl.calm (Cm.move rfl) rfl ?_
    refine Sl.calm (Cm.assign rfl) rfl ?_
    refine Sl.nil ?_
    refine At.weak [(0, _), (2, _), (3, _), (4, _), (16, _)] ⟨rfl, rfl, rfl, rfl, rfl, trivial⟩ ?_
    refine At.go ?_
    refine Sc.ret ?_
    refine At.ret1 rfl rfl ?_
    exact ⟨_, rfl, o, c, hs2, L2, by rw [hhl], ⟨ho2.vw, hhl, fun j h ps h1 h2 => by obtain ⟨q1, q2, q3, q4⟩ := hall j h ps h1 h2; exact ⟨q1, q2.vw encN_cells, fun p hp => (q3 p hp).grow hF2⟩⟩, fun ps hps => by obtain ⟨j, hj⟩ := List.getElem?_of_mem hps; obtain ⟨h, hh⟩ : ∃ h, hs2[j]? = some h := ⟨_, List.getElem?_eq_getElem (by have := (List.getElem?_eq_some_iff.1 hj).1; omega)⟩; exact (hall j h ps hh hj).2.2.2, by omega, by omega, hF2⟩
end Go.Proofs.Ytpamandneifemaa
