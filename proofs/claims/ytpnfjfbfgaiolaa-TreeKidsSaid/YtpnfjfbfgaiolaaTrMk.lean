/- tree laws: the examples; few. No condition beyond the bounds that each states. -/
import Derived.Test.YtpnfjfbfgaiolaaTrLk
import Derived.Test.YtpnfjfbfgaiolaaGdk
namespace Go.Proofs.Ytpnfjfbfgaiolaa
open Go Go.RowKit Go.Maps
set_option linter.unusedVariables false

section
variable {P : Program} {N : Nt} {Q : Exit → Act → World → Prop} {l : SF} {w : World} {ops : Array Oper} {rest : List Oper} {op : Op} {ty : TypeId} {pos : String} {aft : Array Edge} {d : Nat}
theorem Sl.wanted {j s : Nat} {b : Bool} (hj : (ops[j]?).bind (·.dst) = some s) (hs : lk l s = some (.bool b)) (h : Sl P N ops Q (⟨some d, op, ty, pos, aft, none⟩ :: rest) l w) :
    Sl P N ops Q (⟨some d, op, ty, pos, aft, some (j, b)⟩ :: rest) l w := fun a ha => by
  have h1 := h a ha
  unfold wpList at h1 ⊢
  rw [if_pos (by simp [Region.wanted])] at h1
  rw [if_pos (by simp [Region.wanted, yielded_of ha hj hs])]
  exact h1
end
theorem fr_app {B n : Nat} {o o' : Option Addr} (h : Fr B o) (hr : ∀ a, o' = some a → o = some a ∨ n ≤ a.block) (hn : B ≤ n) : Fr B o' := fun a ha => by
  rcases hr a ha with h1 | h1
  · exact h a h1
  · omega

/-! few -/
def cutHd (h : Hd) (n : Nat) : Hd := if n < h.n then ⟨h.a, n, h.c⟩ else h
theorem cutHd_yes {h : Hd} {n : Nat} (k : n < h.n) : cutHd h n = ⟨h.a, n, h.c⟩ := if_pos k
theorem cutHd_no {h : Hd} {n : Nat} (k : ¬ n < h.n) : cutHd h n = h := if_neg k
def fewN (n : Nd) : Nd := { n with names := n.names.take 20, data := n.data.take 5000, xs := n.xs.take 10 }
def fewP (p : NdH × Nd) : NdH × Nd := (⟨cutHd p.1.names 20, cutHd p.1.data 5000, cutHd p.1.xs 10⟩, fewN p.2)
def fewL (ps : List (NdH × Nd)) : List (NdH × Nd) := (ps.take 60).map fewP
variable {D : Nat → Prop}
theorem take_ne {α : Type} {l : List α} {n : Nat} (h : l.take n ≠ []) : l ≠ [] := fun e => h (by rw [e]; exact List.take_nil)
theorem NmV.cut {H : Array Obj} {h : Hd} {l : List (List UInt8)} (v : NmV D H h l) (n : Nat) : NmV D H (cutHd h n) (l.take n) := by
  by_cases k : n < h.n
  · rw [cutHd_yes k]
    exact ⟨by have := v.1; rw [List.length_take]; show n = _; omega, v.2.1.take n, fun hne => v.2.2 (take_ne hne)⟩
  · rw [cutHd_no k, List.take_of_length_le (by have := v.1; omega)]; exact v
theorem ByV.cut {H : Array Obj} {h : Hd} {l : List UInt8} (v : ByV D H h l) (n : Nat) : ByV D H (cutHd h n) (l.take n) := by
  by_cases k : n < h.n
  · rw [cutHd_yes k]
    exact ⟨by have := v.1; rw [List.length_take]; show n = _; omega, v.2.1.take n, fun hne => v.2.2 (take_ne hne)⟩
  · rw [cutHd_no k, List.take_of_length_le (by have := v.1; omega)]; exact v
theorem XsV.cut {H : Array Obj} {h : Hd} {X : List Xa} (v : XsV D H h X) (n : Nat) : XsV D H (cutHd h n) (X.take n) := by
  by_cases k : n < h.n
  · rw [cutHd_yes k]
    obtain ⟨h1, ys, h2, h3, h4, h5⟩ := v
    refine ⟨by rw [List.length_take]; show n = _; omega, ys.take n, h2.take n, by simp [h3], fun hne => h4 (take_ne hne), fun i x y hx hy => ?_⟩
    rw [List.getElem?_take] at hx hy
    by_cases hi : i < n
    · rw [if_pos hi] at hx hy; exact h5 i x y hx hy
    · rw [if_neg hi] at hx; cases hx
  · rw [cutHd_no k, List.take_of_length_le (by have := v.1; omega)]; exact v
theorem NdV.few {H : Array Obj} {p : NdH × Nd} (v : NdV D H p) : NdV D H (fewP p) := ⟨v.1.cut 20, v.2.1.cut 5000, v.2.2.cut 10⟩
theorem smN.few {n : Nd} (h : smN n) : smN (fewN n) := ⟨h.1, fun s hs => h.2.1 s (List.mem_of_mem_take hs), fun x hx => h.2.2 x (List.mem_of_mem_take hx)⟩
theorem few_all {R : Nd → Prop} {ps : List (NdH × Nd)} (h : ∀ p ∈ ps, R (fewN p.2)) : ∀ p ∈ fewL ps, R p.2 := by
  intro p hp
  obtain ⟨q, hq, rfl⟩ := List.mem_map.1 hp
  exact h q (List.mem_of_mem_take hq)
theorem few_len (ps : List (NdH × Nd)) : (fewL ps).length ≤ 60 := by unfold fewL; rw [List.length_map, List.length_take]; omega
theorem mapTk {ps : List (NdH × Nd)} {i : Nat} {p : NdH × Nd} (hp : ps[i]? = some p) : (ps.take (i + 1)).map fewP = (ps.take i).map fewP ++ [fewP p] := by rw [tkL hp]; simp
set_option maxHeartbeats 4000000 in
theorem few_ok (lo : Option Addr) (lc : Nat) (ps : List (NdH × Nd)) (W : World) (hv : NodesV D W.heap lo lc ps) :
    Calls Try.prog 11 [.slice lo ps.length lc].toArray W (Ret fun v w' => ∃ o c, v = .slice o (fewL ps).length c ∧ OwnM 10 encN 34 w'.heap o c (fewL ps) ∧ Fr W.heap.size o ∧ Foot nob W w' ∧ NodesV D w'.heap o c (fewL ps)) := by
  have h63 := hv.1.len63
  refine calls_of_sc 50 [(0, _)] Try.func11 rfl rfl rfl (enter_slots ⟨rfl, trivial⟩) ?_
  refine Sc.seq ?_
  refine Sc.region ?_
  refine Sl.calm (Cm.assign rfl) rfl ?_
  refine Sl.nil ?_
  refine At.go ?_
  refine Sc.seq ?_
  refine Sc.region ?_
  refine Sl.lit0M encN_cells sl22 rfl ?_
  intro w1 ho1 hs1 hf1
  refine Sl.calm (Cm.assign rfl) rfl ?_
  refine Sl.nil ?_
  refine At.weak [(0, _), (2, _), (3, _)] ⟨rfl, rfl, rfl, trivial⟩ ?_
  refine At.go ?_
  refine Sc.seq ?_
  refine Sc.seq ?_
  refine Sc.region ?_
  refine Sl.calm (Cm.assign rfl) rfl ?_
  refine Sl.nil ?_
  refine At.go ?_
  refine Sc.block ?_
  refine Sc.loop (β := Nat × Option Addr × Nat) (fun ⟨i, o, c⟩ => [(0, .slice lo ps.length lc), (3, .slice o ((ps.take i).map fewP).length c), (4, .int .i64 i)]) (fun ⟨i, o, c⟩ w => i ≤ ps.length ∧ i ≤ 60 ∧ OwnM 10 encN 34 w.heap o c ((ps.take i).map fewP) ∧ Fr W.heap.size o ∧ Foot nob W w) (fun ⟨i, o, c⟩ => ps.length - i) ⟨0, some ⟨W.heap.size, 0, none⟩, 0⟩ ⟨rfl, rfl, rfl, trivial⟩ ⟨Nat.zero_le _, Nat.zero_le _, ho1, fun a ha => by cases ha; exact Nat.le_refl _, hf1⟩ ?_
  rintro ⟨i, o, c⟩ w2 ⟨hi, hi60, ho2, hfo, hF2⟩
  refine Sc.seq ?_
  refine Sc.seq ?_
  refine Sc.region ?_
  refine Sl.calm (Cm.move rfl) rfl ?_
  refine Sl.calm (Cm.move rfl) rfl ?_
  refine Sl.calm (Cm.len sl22 rfl) rfl ?_
  refine Sl.fork (Cm.lss rfl rfl) rfl (fun h10 => ?_) (fun h10 => ?_)
  ·
    refine Sl.calm (Cm.move rfl) rfl ?_
    refine Sl.want rfl rfl (Cm.move rfl) rfl ?_
    refine Sl.forkWant rfl rfl (Cm.lss rfl rfl) rfl (fun h13 => ?_) (fun h13 => ?_)
    ·
      have hil : i < ps.length := by omega
      obtain ⟨p, hp⟩ : ∃ p, ps[i]? = some p := ⟨_, List.getElem?_eq_getElem hil⟩
      have hpm := List.mem_of_getElem? hp
      have hv2 := hv.grow hF2
      refine Sl.calm (Cm.pick_t rfl rfl) rfl ?_
      refine Sl.nil ?_
      refine At.weak [(0, _), (3, _), (4, _), (14, _)] ⟨rfl, rfl, rfl, rfl, trivial⟩ ?_
      refine At.go ?_
      refine Sc.cond_t rfl ?_
      refine Sc.skip ?_
      refine At.go ?_
      refine Sc.seq ?_
      refine Sc.block ?_
      refine Sc.seq ?_
      refine Sc.region ?_
      refine Sl.calm (Cm.move rfl) rfl ?_
      refine Sl.calm (Cm.move rfl) rfl ?_
      refine Sl.calm (Cm.indexAddr sl22 rfl rfl hv2.1.non (by omega)) rfl ?_
      refine Sl.calm (Cm.ldM (cs := encN p) agg34 rfl (fun j v hj => hv2.1.rowZ i rfl hp j v hj)) rfl ?_
      refine Sl.allocC zc34 rfl ?_
      intro w3 hg3 hs3 hf3
      obtain ⟨q, hq⟩ : ∃ q, q = w2.heap.size := ⟨_, rfl⟩
      rw [← hq] at hg3 ⊢
      have hqW : W.heap.size ≤ q := by rw [hq]; exact hF2.size
      refine Sl.storeAll (vs := encN p) agg34 rfl rfl (encN_cells p).2 hg3 rfl ?_
      intro w4 hg4 hs4 hf4
      have hf24 : Foot nob w2 w4 := hf3.trans_to hf4 (fun k e => .inr (by have e : k = q := e; omega))
      have hF4 : Foot nob W w4 := hF2.trans hf24
      have hn4 := (hv.grow hF4).2 p hpm
      have ho4 := ho2.grow hf24
      have hoq : ∀ a, o = some a → ¬ a.block = q := fun a ha => by have := ho2.lt a ha; omega
      refine Sl.nil ?_
      refine At.weak [(0, _), (3, _), (4, _), (5, _), (14, _)] ⟨rfl, rfl, rfl, rfl, rfl, trivial⟩ ?_
      refine At.go ?_
      refine Sc.seq ?_
      refine Sc.seq ?_
      refine Sc.region ?_
      refine Sl.calm (Cm.field fld34_0 rfl) rfl ?_
      refine Sl.calm (Cm.ld sca28 rfl (cellF hg4 rfl)) rfl ?_
      refine Sl.calm (Cm.len sl28 rfl) rfl ?_
      refine Sl.fork (Cm.gtr rfl rfl) rfl (fun h24 => ?_) (fun h24 => ?_)
      ·
        refine Sl.nil ?_
        refine At.weak [(0, _), (3, _), (4, _), (5, _), (14, _), (24, _)] ⟨rfl, rfl, rfl, rfl, rfl, rfl, trivial⟩ ?_
        refine At.go ?_
        refine Sc.cond_t rfl ?_
        refine Sc.region ?_
        refine Sl.calm (Cm.field fld34_0 rfl) rfl ?_
        refine Sl.calm (Cm.ld sca28 rfl (cellF hg4 rfl)) rfl ?_
        refine Sl.calm (Cm.ofEq (u := hd ⟨p.1.names.a, 20, p.1.names.c⟩) (Cm.sliceH sl28 rfl rfl (by have := hn4.1.2.1.le; have := hn4.1.1; omega)) (by rw [cutAo_zero]; rfl)) rfl ?_
        refine Sl.calm (Cm.field fld34_0 rfl) rfl ?_
        refine Sl.store sca28 rfl rfl rfl hg4 rfl ?_
        intro w5 hg5 hs5 hf5
        have hgA : w5.heap[q]? = some (.cells (encN ((⟨cutHd p.1.names 20, p.1.data, p.1.xs⟩ : NdH), p.2)).toArray 34 (0, 0)) := by rw [cutHd_yes (by omega)]; exact hg5
        have hF5 : Foot nob W w5 := hF4.trans_to hf5 (fun k e => .inr (by have e : k = q := e; omega))
        have ho5 := ho4.keep hf5 hoq
        refine Sl.nil ?_
        refine At.weak [(0, _), (3, _), (4, _), (5, _), (14, _), (24, _)] ⟨rfl, rfl, rfl, rfl, rfl, rfl, trivial⟩ ?_
        refine At.go ?_
        refine Sc.seq ?_
        refine Sc.seq ?_
        refine Sc.region ?_
        refine Sl.calm (Cm.field fld34_4 rfl) rfl ?_
        have hn5 := (hv.grow hF5).2 p hpm
        refine Sl.calm (Cm.ofEq (u := hd p.1.data) (Cm.ld sca31 rfl (cellF hgA rfl)) rfl) rfl ?_
        refine Sl.calm (Cm.len sl31 rfl) rfl ?_
        refine Sl.fork (Cm.gtr rfl rfl) rfl (fun h32 => ?_) (fun h32 => ?_)
        ·
          refine Sl.nil ?_
          refine At.weak [(0, _), (3, _), (4, _), (5, _), (14, _), (24, _), (32, _)] ⟨rfl, rfl, rfl, rfl, rfl, rfl, rfl, trivial⟩ ?_
          refine At.go ?_
          refine Sc.cond_t rfl ?_
          refine Sc.region ?_
          refine Sl.calm (Cm.field fld34_4 rfl) rfl ?_
          refine Sl.calm (Cm.ofEq (u := hd p.1.data) (Cm.ld sca31 rfl (cellF hgA rfl)) rfl) rfl ?_
          refine Sl.calm (Cm.ofEq (u := hd ⟨p.1.data.a, 5000, p.1.data.c⟩) (Cm.sliceH sl31 rfl rfl (by have := hn5.2.1.2.1.le; have := hn5.2.1.1; omega)) (by rw [cutAo_zero]; rfl)) rfl ?_
          refine Sl.calm (Cm.field fld34_4 rfl) rfl ?_
          refine Sl.store sca31 rfl rfl rfl hgA rfl ?_
          intro w6 hg6 hs6 hf6
          have hgB : w6.heap[q]? = some (.cells (encN ((⟨cutHd p.1.names 20, cutHd p.1.data 5000, p.1.xs⟩ : NdH), p.2)).toArray 34 (0, 0)) := by rw [cutHd_yes (n := 5000) (by omega)]; exact hg6
          have hF6 : Foot nob W w6 := hF5.trans_to hf6 (fun k e => .inr (by have e : k = q := e; omega))
          have ho6 := ho5.keep hf6 hoq
          refine Sl.nil ?_
          refine At.weak [(0, _), (3, _), (4, _), (5, _), (14, _), (24, _), (32, _)] ⟨rfl, rfl, rfl, rfl, rfl, rfl, rfl, trivial⟩ ?_
          refine At.go ?_
          refine Sc.seq ?_
          refine Sc.seq ?_
          refine Sc.region ?_
          refine Sl.calm (Cm.field fld34_6 rfl) rfl ?_
          have hn6 := (hv.grow hF6).2 p hpm
          refine Sl.calm (Cm.ofEq (u := hd p.1.xs) (Cm.ld sca32 rfl (cellF hgB rfl)) rfl) rfl ?_
          refine Sl.calm (Cm.len sl32 rfl) rfl ?_
          refine Sl.fork (Cm.gtr rfl rfl) rfl (fun h40 => ?_) (fun h40 => ?_)
          ·
            refine Sl.nil ?_
            refine At.weak [(0, _), (3, _), (4, _), (5, _), (14, _), (24, _), (32, _), (40, _)] ⟨rfl, rfl, rfl, rfl, rfl, rfl, rfl, rfl, trivial⟩ ?_
            refine At.go ?_
            refine Sc.cond_t rfl ?_
            refine Sc.region ?_
            refine Sl.calm (Cm.field fld34_6 rfl) rfl ?_
            refine Sl.calm (Cm.ofEq (u := hd p.1.xs) (Cm.ld sca32 rfl (cellF hgB rfl)) rfl) rfl ?_
            refine Sl.calm (Cm.ofEq (u := hd ⟨p.1.xs.a, 10, p.1.xs.c⟩) (Cm.sliceH sl32 rfl rfl (by obtain ⟨k1, ys, k2, k3, _⟩ := hn6.2.2; have := k2.le; omega)) (by rw [cutAo_zero]; rfl)) rfl ?_
            refine Sl.calm (Cm.field fld34_6 rfl) rfl ?_
            refine Sl.store sca32 rfl rfl rfl hgB rfl ?_
            intro w7 hg7 hs7 hf7
            have hgC : w7.heap[q]? = some (.cells (encN (fewP p)).toArray 34 (0, 0)) := by unfold fewP; rw [cutHd_yes (n := 10) (by omega)]; exact hg7
            have hF7 : Foot nob W w7 := hF6.trans_to hf7 (fun k e => .inr (by have e : k = q := e; omega))
            have ho7 := ho6.keep hf7 hoq
            refine Sl.nil ?_
            refine At.weak [(0, _), (3, _), (4, _), (5, _), (14, _), (24, _), (32, _), (40, _)] ⟨rfl, rfl, rfl, rfl, rfl, rfl, rfl, rfl, trivial⟩ ?_
            refine At.go ?_
            refine Sc.region ?_
            refine Sl.calm (Cm.move rfl) rfl ?_
            refine Sl.calm (Cm.ldM (cs := encN (fewP p)) agg34 rfl (cellsF hgC 0 rfl)) rfl ?_
            obtain ⟨y, hy⟩ : ∃ y, y = fewP p := ⟨_, rfl⟩
            rw [← hy]
            refine Sl.litG sl22 (cs := (encN y).toArray) zc34 rfl rfl rfl (by kernel_rfl) rfl ?_
            intro w8 hg8 hs8 hf8
            have ho8 : OwnM 10 encN 34 w8.heap (some ⟨w7.heap.size, 0, none⟩) 1 [y] := ownM_new (xs := [y]) encN_cells (by simpa using hg8) (by show 1 ≤ maxLen; decide)
            refine Sl.appendM encN_cells rfl sl22 rfl rfl (ho7.grow hf8) (ho8.vw encN_cells) (by simp only [List.length_singleton, List.length_map, List.length_take]; omega) (by simp only [List.length_singleton, List.length_map, List.length_take]; unfold maxLen; omega) rfl ?_
            intro o9 c9 w9 ho9 hf9 hr9 hn9
            rw [hy, ← mapTk hp] at ho9 ⊢
            have hF9 : Foot nob W w9 := (hF7.trans hf8).trans_to hf9 hfo.step
            have hfo9 : Fr W.heap.size o9 := fr_app hfo hr9 (by have := hF7.size; have := hf8.size; omega)
            refine Sl.calm (Cm.assign rfl) rfl ?_
            refine Sl.nil ?_
            refine At.block_normal ?_
            refine At.weak [(0, _), (3, _), (4, _), (5, _), (14, _), (24, _), (32, _), (40, _)] ⟨rfl, rfl, rfl, rfl, rfl, rfl, rfl, rfl, trivial⟩ ?_
            refine At.go ?_
            refine Sc.region ?_
            refine Sl.calm (Cm.move rfl) rfl ?_
            refine Sl.calm (Cm.add64 rfl rfl (by omega)) rfl ?_
            refine Sl.calm (Cm.assign rfl) rfl ?_
            refine Sl.nil ?_
            exact At.again ⟨i + 1, o9, c9⟩ ⟨rfl, rfl, rfl, trivial⟩ ⟨by omega, by omega, ho9, hfo9, hF9⟩ (by show ps.length - (i + 1) < ps.length - i; omega)
          ·
            have hgC : w6.heap[q]? = some (.cells (encN (fewP p)).toArray 34 (0, 0)) := by unfold fewP; rw [cutHd_no (n := 10) (by omega)]; exact hgB
            have hF7 := hF6
            have ho7 := ho6
            rename World => w7
            refine Sl.nil ?_
            refine At.weak [(0, _), (3, _), (4, _), (5, _), (14, _), (24, _), (32, _), (40, _)] ⟨rfl, rfl, rfl, rfl, rfl, rfl, rfl, rfl, trivial⟩ ?_
            refine At.go ?_
            refine Sc.cond_f rfl ?_
            refine Sc.skip ?_
            refine At.go ?_
            refine Sc.region ?_
            refine Sl.calm (Cm.move rfl) rfl ?_
            refine Sl.calm (Cm.ldM (cs := encN (fewP p)) agg34 rfl (cellsF hgC 0 rfl)) rfl ?_
            obtain ⟨y, hy⟩ : ∃ y, y = fewP p := ⟨_, rfl⟩
            rw [← hy]
            refine Sl.litG sl22 (cs := (encN y).toArray) zc34 rfl rfl rfl (by kernel_rfl) rfl ?_
            intro w8 hg8 hs8 hf8
            have ho8 : OwnM 10 encN 34 w8.heap (some ⟨w7.heap.size, 0, none⟩) 1 [y] := ownM_new (xs := [y]) encN_cells (by simpa using hg8) (by show 1 ≤ maxLen; decide)
            refine Sl.appendM encN_cells rfl sl22 rfl rfl (ho7.grow hf8) (ho8.vw encN_cells) (by simp only [List.length_singleton, List.length_map, List.length_take]; omega) (by simp only [List.length_singleton, List.length_map, List.length_take]; unfold maxLen; omega) rfl ?_
            intro o9 c9 w9 ho9 hf9 hr9 hn9
            rw [hy, ← mapTk hp] at ho9 ⊢
            have hF9 : Foot nob W w9 := (hF7.trans hf8).trans_to hf9 hfo.step
            have hfo9 : Fr W.heap.size o9 := fr_app hfo hr9 (by have := hF7.size; have := hf8.size; omega)
            refine Sl.calm (Cm.assign rfl) rfl ?_
            refine Sl.nil ?_
            refine At.block_normal ?_
            refine At.weak [(0, _), (3, _), (4, _), (5, _), (14, _), (24, _), (32, _), (40, _)] ⟨rfl, rfl, rfl, rfl, rfl, rfl, rfl, rfl, trivial⟩ ?_
            refine At.go ?_
            refine Sc.region ?_
            refine Sl.calm (Cm.move rfl) rfl ?_
            refine Sl.calm (Cm.add64 rfl rfl (by omega)) rfl ?_
            refine Sl.calm (Cm.assign rfl) rfl ?_
            refine Sl.nil ?_
            exact At.again ⟨i + 1, o9, c9⟩ ⟨rfl, rfl, rfl, trivial⟩ ⟨by omega, by omega, ho9, hfo9, hF9⟩ (by show ps.length - (i + 1) < ps.length - i; omega)
        ·
          have hgB : w5.heap[q]? = some (.cells (encN ((⟨cutHd p.1.names 20, cutHd p.1.data 5000, p.1.xs⟩ : NdH), p.2)).toArray 34 (0, 0)) := by rw [cutHd_no (n := 5000) (by omega)]; exact hgA
          have hF6 := hF5
          have ho6 := ho5
          rename World => w6
          refine Sl.nil ?_
          refine At.weak [(0, _), (3, _), (4, _), (5, _), (14, _), (24, _), (32, _)] ⟨rfl, rfl, rfl, rfl, rfl, rfl, rfl, trivial⟩ ?_
          refine At.go ?_
          refine Sc.cond_f rfl ?_
          refine Sc.skip ?_
          refine At.go ?_
          refine Sc.seq ?_
          refine Sc.seq ?_
          refine Sc.region ?_
          refine Sl.calm (Cm.field fld34_6 rfl) rfl ?_
          have hn6 := (hv.grow hF6).2 p hpm
          refine Sl.calm (Cm.ofEq (u := hd p.1.xs) (Cm.ld sca32 rfl (cellF hgB rfl)) rfl) rfl ?_
          refine Sl.calm (Cm.len sl32 rfl) rfl ?_
          refine Sl.fork (Cm.gtr rfl rfl) rfl (fun h40 => ?_) (fun h40 => ?_)
          ·
            refine Sl.nil ?_
            refine At.weak [(0, _), (3, _), (4, _), (5, _), (14, _), (24, _), (32, _), (40, _)] ⟨rfl, rfl, rfl, rfl, rfl, rfl, rfl, rfl, trivial⟩ ?_
            refine At.go ?_
            refine Sc.cond_t rfl ?_
            refine Sc.region ?_
            refine Sl.calm (Cm.field fld34_6 rfl) rfl ?_
            refine Sl.calm (Cm.ofEq (u := hd p.1.xs) (Cm.ld sca32 rfl (cellF hgB rfl)) rfl) rfl ?_
            refine Sl.calm (Cm.ofEq (u := hd ⟨p.1.xs.a, 10, p.1.xs.c⟩) (Cm.sliceH sl32 rfl rfl (by obtain ⟨k1, ys, k2, k3, _⟩ := hn6.2.2; have := k2.le; omega)) (by rw [cutAo_zero]; rfl)) rfl ?_
            refine Sl.calm (Cm.field fld34_6 rfl) rfl ?_
            refine Sl.store sca32 rfl rfl rfl hgB rfl ?_
            intro w7 hg7 hs7 hf7
            have hgC : w7.heap[q]? = some (.cells (encN (fewP p)).toArray 34 (0, 0)) := by unfold fewP; rw [cutHd_yes (n := 10) (by omega)]; exact hg7
            have hF7 : Foot nob W w7 := hF6.trans_to hf7 (fun k e => .inr (by have e : k = q := e; omega))
            have ho7 := ho6.keep hf7 hoq
            refine Sl.nil ?_
            refine At.weak [(0, _), (3, _), (4, _), (5, _), (14, _), (24, _), (32, _), (40, _)] ⟨rfl, rfl, rfl, rfl, rfl, rfl, rfl, rfl, trivial⟩ ?_
            refine At.go ?_
            refine Sc.region ?_
            refine Sl.calm (Cm.move rfl) rfl ?_
            refine Sl.calm (Cm.ldM (cs := encN (fewP p)) agg34 rfl (cellsF hgC 0 rfl)) rfl ?_
            obtain ⟨y, hy⟩ : ∃ y, y = fewP p := ⟨_, rfl⟩
            rw [← hy]
            refine Sl.litG sl22 (cs := (encN y).toArray) zc34 rfl rfl rfl (by kernel_rfl) rfl ?_
            intro w8 hg8 hs8 hf8
            have ho8 : OwnM 10 encN 34 w8.heap (some ⟨w7.heap.size, 0, none⟩) 1 [y] := ownM_new (xs := [y]) encN_cells (by simpa using hg8) (by show 1 ≤ maxLen; decide)
            refine Sl.appendM encN_cells rfl sl22 rfl rfl (ho7.grow hf8) (ho8.vw encN_cells) (by simp only [List.length_singleton, List.length_map, List.length_take]; omega) (by simp only [List.length_singleton, List.length_map, List.length_take]; unfold maxLen; omega) rfl ?_
            intro o9 c9 w9 ho9 hf9 hr9 hn9
            rw [hy, ← mapTk hp] at ho9 ⊢
            have hF9 : Foot nob W w9 := (hF7.trans hf8).trans_to hf9 hfo.step
            have hfo9 : Fr W.heap.size o9 := fr_app hfo hr9 (by have := hF7.size; have := hf8.size; omega)
            refine Sl.calm (Cm.assign rfl) rfl ?_
            refine Sl.nil ?_
            refine At.block_normal ?_
            refine At.weak [(0, _), (3, _), (4, _), (5, _), (14, _), (24, _), (32, _), (40, _)] ⟨rfl, rfl, rfl, rfl, rfl, rfl, rfl, rfl, trivial⟩ ?_
            refine At.go ?_
            refine Sc.region ?_
            refine Sl.calm (Cm.move rfl) rfl ?_
            refine Sl.calm (Cm.add64 rfl rfl (by omega)) rfl ?_
            refine Sl.calm (Cm.assign rfl) rfl ?_
            refine Sl.nil ?_
            exact At.again ⟨i + 1, o9, c9⟩ ⟨rfl, rfl, rfl, trivial⟩ ⟨by omega, by omega, ho9, hfo9, hF9⟩ (by show ps.length - (i + 1) < ps.length - i; omega)
          ·
            have hgC : w6.heap[q]? = some (.cells (encN (fewP p)).toArray 34 (0, 0)) := by unfold fewP; rw [cutHd_no (n := 10) (by omega)]; exact hgB
            have hF7 := hF6
            have ho7 := ho6
            rename World => w7
            refine Sl.nil ?_
            refine At.weak [(0, _), (3, _), (4, _), (5, _), (14, _), (24, _), (32, _), (40, _)] ⟨rfl, rfl, rfl, rfl, rfl, rfl, rfl, rfl, trivial⟩ ?_
            refine At.go ?_
            refine Sc.cond_f rfl ?_
            refine Sc.skip ?_
            refine At.go ?_
            refine Sc.region ?_
            refine Sl.calm (Cm.move rfl) rfl ?_
            refine Sl.calm (Cm.ldM (cs := encN (fewP p)) agg34 rfl (cellsF hgC 0 rfl)) rfl ?_
            obtain ⟨y, hy⟩ : ∃ y, y = fewP p := ⟨_, rfl⟩
            rw [← hy]
            refine Sl.litG sl22 (cs := (encN y).toArray) zc34 rfl rfl rfl (by kernel_rfl) rfl ?_
            intro w8 hg8 hs8 hf8
            have ho8 : OwnM 10 encN 34 w8.heap (some ⟨w7.heap.size, 0, none⟩) 1 [y] := ownM_new (xs := [y]) encN_cells (by simpa using hg8) (by show 1 ≤ maxLen; decide)
            refine Sl.appendM encN_cells rfl sl22 rfl rfl (ho7.grow hf8) (ho8.vw encN_cells) (by simp only [List.length_singleton, List.length_map, List.length_take]; omega) (by simp only [List.length_singleton, List.length_map, List.length_take]; unfold maxLen; omega) rfl ?_
            intro o9 c9 w9 ho9 hf9 hr9 hn9
            rw [hy, ← mapTk hp] at ho9 ⊢
            have hF9 : Foot nob W w9 := (hF7.trans hf8).trans_to hf9 hfo.step
            have hfo9 : Fr W.heap.size o9 := fr_app hfo hr9 (by have := hF7.size; have := hf8.size; omega)
            refine Sl.calm (Cm.assign rfl) rfl ?_
            refine Sl.nil ?_
            refine At.block_normal ?_
            refine At.weak [(0, _), (3, _), (4, _), (5, _), (14, _), (24, _), (32, _), (40, _)] ⟨rfl, rfl, rfl, rfl, rfl, rfl, rfl, rfl, trivial⟩ ?_
            refine At.go ?_
            refine Sc.region ?_
            refine Sl.calm (Cm.move rfl) rfl ?_
            refine Sl.calm (Cm.add64 rfl rfl (by omega)) rfl ?_
            refine Sl.calm (Cm.assign rfl) rfl ?_
            refine Sl.nil ?_
            exact At.again ⟨i + 1, o9, c9⟩ ⟨rfl, rfl, rfl, trivial⟩ ⟨by omega, by omega, ho9, hfo9, hF9⟩ (by show ps.length - (i + 1) < ps.length - i; omega)
      ·
        have hgA : w4.heap[q]? = some (.cells (encN ((⟨cutHd p.1.names 20, p.1.data, p.1.xs⟩ : NdH), p.2)).toArray 34 (0, 0)) := by rw [cutHd_no (by omega)]; exact hg4
        have hF5 := hF4
        have ho5 := ho4
        rename World => w5
        refine Sl.nil ?_
        refine At.weak [(0, _), (3, _), (4, _), (5, _), (14, _), (24, _)] ⟨rfl, rfl, rfl, rfl, rfl, rfl, trivial⟩ ?_
        refine At.go ?_
        refine Sc.cond_f rfl ?_
        refine Sc.skip ?_
        refine At.go ?_
        refine Sc.seq ?_
        refine Sc.seq ?_
        refine Sc.region ?_
        refine Sl.calm (Cm.field fld34_4 rfl) rfl ?_
        have hn5 := (hv.grow hF5).2 p hpm
        refine Sl.calm (Cm.ofEq (u := hd p.1.data) (Cm.ld sca31 rfl (cellF hgA rfl)) rfl) rfl ?_
        refine Sl.calm (Cm.len sl31 rfl) rfl ?_
        refine Sl.fork (Cm.gtr rfl rfl) rfl (fun h32 => ?_) (fun h32 => ?_)
        ·
          refine Sl.nil ?_
          refine At.weak [(0, _), (3, _), (4, _), (5, _), (14, _), (24, _), (32, _)] ⟨rfl, rfl, rfl, rfl, rfl, rfl, rfl, trivial⟩ ?_
          refine At.go ?_
          refine Sc.cond_t rfl ?_
          refine Sc.region ?_
          refine Sl.calm (Cm.field fld34_4 rfl) rfl ?_
          refine Sl.calm (Cm.ofEq (u := hd p.1.data) (Cm.ld sca31 rfl (cellF hgA rfl)) rfl) rfl ?_
          refine Sl.calm (Cm.ofEq (u := hd ⟨p.1.data.a, 5000, p.1.data.c⟩) (Cm.sliceH sl31 rfl rfl (by have := hn5.2.1.2.1.le; have := hn5.2.1.1; omega)) (by rw [cutAo_zero]; rfl)) rfl ?_
          refine Sl.calm (Cm.field fld34_4 rfl) rfl ?_
          refine Sl.store sca31 rfl rfl rfl hgA rfl ?_
          intro w6 hg6 hs6 hf6
          have hgB : w6.heap[q]? = some (.cells (encN ((⟨cutHd p.1.names 20, cutHd p.1.data 5000, p.1.xs⟩ : NdH), p.2)).toArray 34 (0, 0)) := by rw [cutHd_yes (n := 5000) (by omega)]; exact hg6
          have hF6 : Foot nob W w6 := hF5.trans_to hf6 (fun k e => .inr (by have e : k = q := e; omega))
          have ho6 := ho5.keep hf6 hoq
          refine Sl.nil ?_
          refine At.weak [(0, _), (3, _), (4, _), (5, _), (14, _), (24, _), (32, _)] ⟨rfl, rfl, rfl, rfl, rfl, rfl, rfl, trivial⟩ ?_
          refine At.go ?_
          refine Sc.seq ?_
          refine Sc.seq ?_
          refine Sc.region ?_
          refine Sl.calm (Cm.field fld34_6 rfl) rfl ?_
          have hn6 := (hv.grow hF6).2 p hpm
          refine Sl.calm (Cm.ofEq (u := hd p.1.xs) (Cm.ld sca32 rfl (cellF hgB rfl)) rfl) rfl ?_
          refine Sl.calm (Cm.len sl32 rfl) rfl ?_
          refine Sl.fork (Cm.gtr rfl rfl) rfl (fun h40 => ?_) (fun h40 => ?_)
          ·
            refine Sl.nil ?_
            refine At.weak [(0, _), (3, _), (4, _), (5, _), (14, _), (24, _), (32, _), (40, _)] ⟨rfl, rfl, rfl, rfl, rfl, rfl, rfl, rfl, trivial⟩ ?_
            refine At.go ?_
            refine Sc.cond_t rfl ?_
            refine Sc.region ?_
            refine Sl.calm (Cm.field fld34_6 rfl) rfl ?_
            refine Sl.calm (Cm.ofEq (u := hd p.1.xs) (Cm.ld sca32 rfl (cellF hgB rfl)) rfl) rfl ?_
            refine Sl.calm (Cm.ofEq (u := hd ⟨p.1.xs.a, 10, p.1.xs.c⟩) (Cm.sliceH sl32 rfl rfl (by obtain ⟨k1, ys, k2, k3, _⟩ := hn6.2.2; have := k2.le; omega)) (by rw [cutAo_zero]; rfl)) rfl ?_
            refine Sl.calm (Cm.field fld34_6 rfl) rfl ?_
            refine Sl.store sca32 rfl rfl rfl hgB rfl ?_
            intro w7 hg7 hs7 hf7
            have hgC : w7.heap[q]? = some (.cells (encN (fewP p)).toArray 34 (0, 0)) := by unfold fewP; rw [cutHd_yes (n := 10) (by omega)]; exact hg7
            have hF7 : Foot nob W w7 := hF6.trans_to hf7 (fun k e => .inr (by have e : k = q := e; omega))
            have ho7 := ho6.keep hf7 hoq
            refine Sl.nil ?_
            refine At.weak [(0, _), (3, _), (4, _), (5, _), (14, _), (24, _), (32, _), (40, _)] ⟨rfl, rfl, rfl, rfl, rfl, rfl, rfl, rfl, trivial⟩ ?_
            refine At.go ?_
            refine Sc.region ?_
            refine Sl.calm (Cm.move rfl) rfl ?_
            refine Sl.calm (Cm.ldM (cs := encN (fewP p)) agg34 rfl (cellsF hgC 0 rfl)) rfl ?_
            obtain ⟨y, hy⟩ : ∃ y, y = fewP p := ⟨_, rfl⟩
            rw [← hy]
            refine Sl.litG sl22 (cs := (encN y).toArray) zc34 rfl rfl rfl (by kernel_rfl) rfl ?_
            intro w8 hg8 hs8 hf8
            have ho8 : OwnM 10 encN 34 w8.heap (some ⟨w7.heap.size, 0, none⟩) 1 [y] := ownM_new (xs := [y]) encN_cells (by simpa using hg8) (by show 1 ≤ maxLen; decide)
            refine Sl.appendM encN_cells rfl sl22 rfl rfl (ho7.grow hf8) (ho8.vw encN_cells) (by simp only [List.length_singleton, List.length_map, List.length_take]; omega) (by simp only [List.length_singleton, List.length_map, List.length_take]; unfold maxLen; omega) rfl ?_
            intro o9 c9 w9 ho9 hf9 hr9 hn9
            rw [hy, ← mapTk hp] at ho9 ⊢
            have hF9 : Foot nob W w9 := (hF7.trans hf8).trans_to hf9 hfo.step
            have hfo9 : Fr W.heap.size o9 := fr_app hfo hr9 (by have := hF7.size; have := hf8.size; omega)
            refine Sl.calm (Cm.assign rfl) rfl ?_
            refine Sl.nil ?_
            refine At.block_normal ?_
            refine At.weak [(0, _), (3, _), (4, _), (5, _), (14, _), (24, _), (32, _), (40, _)] ⟨rfl, rfl, rfl, rfl, rfl, rfl, rfl, rfl, trivial⟩ ?_
            refine At.go ?_
            refine Sc.region ?_
            refine Sl.calm (Cm.move rfl) rfl ?_
            refine Sl.calm (Cm.add64 rfl rfl (by omega)) rfl ?_
            refine Sl.calm (Cm.assign rfl) rfl ?_
            refine Sl.nil ?_
            exact At.again ⟨i + 1, o9, c9⟩ ⟨rfl, rfl, rfl, trivial⟩ ⟨by omega, by omega, ho9, hfo9, hF9⟩ (by show ps.length - (i + 1) < ps.length - i; omega)
          ·
            have hgC : w6.heap[q]? = some (.cells (encN (fewP p)).toArray 34 (0, 0)) := by unfold fewP; rw [cutHd_no (n := 10) (by omega)]; exact hgB
            have hF7 := hF6
            have ho7 := ho6
            rename World => w7
            refine Sl.nil ?_
            refine At.weak [(0, _), (3, _), (4, _), (5, _), (14, _), (24, _), (32, _), (40, _)] ⟨rfl, rfl, rfl, rfl, rfl, rfl, rfl, rfl, trivial⟩ ?_
            refine At.go ?_
            refine Sc.cond_f rfl ?_
            refine Sc.skip ?_
            refine At.go ?_
            refine Sc.region ?_
            refine Sl.calm (Cm.move rfl) rfl ?_
            refine Sl.calm (Cm.ldM (cs := encN (fewP p)) agg34 rfl (cellsF hgC 0 rfl)) rfl ?_
            obtain ⟨y, hy⟩ : ∃ y, y = fewP p := ⟨_, rfl⟩
            rw [← hy]
            refine Sl.litG sl22 (cs := (encN y).toArray) zc34 rfl rfl rfl (by kernel_rfl) rfl ?_
            intro w8 hg8 hs8 hf8
            have ho8 : OwnM 10 encN 34 w8.heap (some ⟨w7.heap.size, 0, none⟩) 1 [y] := ownM_new (xs := [y]) encN_cells (by simpa using hg8) (by show 1 ≤ maxLen; decide)
            refine Sl.appendM encN_cells rfl sl22 rfl rfl (ho7.grow hf8) (ho8.vw encN_cells) (by simp only [List.length_singleton, List.length_map, List.length_take]; omega) (by simp only [List.length_singleton, List.length_map, List.length_take]; unfold maxLen; omega) rfl ?_
            intro o9 c9 w9 ho9 hf9 hr9 hn9
            rw [hy, ← mapTk hp] at ho9 ⊢
            have hF9 : Foot nob W w9 := (hF7.trans hf8).trans_to hf9 hfo.step
            have hfo9 : Fr W.heap.size o9 := fr_app hfo hr9 (by have := hF7.size; have := hf8.size; omega)
            refine Sl.calm (Cm.assign rfl) rfl ?_
            refine Sl.nil ?_
            refine At.block_normal ?_
            refine At.weak [(0, _), (3, _), (4, _), (5, _), (14, _), (24, _), (32, _), (40, _)] ⟨rfl, rfl, rfl, rfl, rfl, rfl, rfl, rfl, trivial⟩ ?_
            refine At.go ?_
            refine Sc.region ?_
            refine Sl.calm (Cm.move rfl) rfl ?_
            refine Sl.calm (Cm.add64 rfl rfl (by omega)) rfl ?_
            refine Sl.calm (Cm.assign rfl) rfl ?_
            refine Sl.nil ?_
            exact At.again ⟨i + 1, o9, c9⟩ ⟨rfl, rfl, rfl, trivial⟩ ⟨by omega, by omega, ho9, hfo9, hF9⟩ (by show ps.length - (i + 1) < ps.length - i; omega)
        ·
          have hgB : w5.heap[q]? = some (.cells (encN ((⟨cutHd p.1.names 20, cutHd p.1.data 5000, p.1.xs⟩ : NdH), p.2)).toArray 34 (0, 0)) := by rw [cutHd_no (n := 5000) (by omega)]; exact hgA
          have hF6 := hF5
          have ho6 := ho5
          rename World => w6
          refine Sl.nil ?_
          refine At.weak [(0, _), (3, _), (4, _), (5, _), (14, _), (24, _), (32, _)] ⟨rfl, rfl, rfl, rfl, rfl, rfl, rfl, trivial⟩ ?_
          refine At.go ?_
          refine Sc.cond_f rfl ?_
          refine Sc.skip ?_
          refine At.go ?_
          refine Sc.seq ?_
          refine Sc.seq ?_
          refine Sc.region ?_
          refine Sl.calm (Cm.field fld34_6 rfl) rfl ?_
          have hn6 := (hv.grow hF6).2 p hpm
          refine Sl.calm (Cm.ofEq (u := hd p.1.xs) (Cm.ld sca32 rfl (cellF hgB rfl)) rfl) rfl ?_
          refine Sl.calm (Cm.len sl32 rfl) rfl ?_
          refine Sl.fork (Cm.gtr rfl rfl) rfl (fun h40 => ?_) (fun h40 => ?_)
          ·
            refine Sl.nil ?_
            refine At.weak [(0, _), (3, _), (4, _), (5, _), (14, _), (24, _), (32, _), (40, _)] ⟨rfl, rfl, rfl, rfl, rfl, rfl, rfl, rfl, trivial⟩ ?_
            refine At.go ?_
            refine Sc.cond_t rfl ?_
            refine Sc.region ?_
            refine Sl.calm (Cm.field fld34_6 rfl) rfl ?_
            refine Sl.calm (Cm.ofEq (u := hd p.1.xs) (Cm.ld sca32 rfl (cellF hgB rfl)) rfl) rfl ?_
            refine Sl.calm (Cm.ofEq (u := hd ⟨p.1.xs.a, 10, p.1.xs.c⟩) (Cm.sliceH sl32 rfl rfl (by obtain ⟨k1, ys, k2, k3, _⟩ := hn6.2.2; have := k2.le; omega)) (by rw [cutAo_zero]; rfl)) rfl ?_
            refine Sl.calm (Cm.field fld34_6 rfl) rfl ?_
            refine Sl.store sca32 rfl rfl rfl hgB rfl ?_
            intro w7 hg7 hs7 hf7
            have hgC : w7.heap[q]? = some (.cells (encN (fewP p)).toArray 34 (0, 0)) := by unfold fewP; rw [cutHd_yes (n := 10) (by omega)]; exact hg7
            have hF7 : Foot nob W w7 := hF6.trans_to hf7 (fun k e => .inr (by have e : k = q := e; omega))
            have ho7 := ho6.keep hf7 hoq
            refine Sl.nil ?_
            refine At.weak [(0, _), (3, _), (4, _), (5, _), (14, _), (24, _), (32, _), (40, _)] ⟨rfl, rfl, rfl, rfl, rfl, rfl, rfl, rfl, trivial⟩ ?_
            refine At.go ?_
            refine Sc.region ?_
            refine Sl.calm (Cm.move rfl) rfl ?_
            refine Sl.calm (Cm.ldM (cs := encN (fewP p)) agg34 rfl (cellsF hgC 0 rfl)) rfl ?_
            obtain ⟨y, hy⟩ : ∃ y, y = fewP p := ⟨_, rfl⟩
            rw [← hy]
            refine Sl.litG sl22 (cs := (encN y).toArray) zc34 rfl rfl rfl (by kernel_rfl) rfl ?_
            intro w8 hg8 hs8 hf8
            have ho8 : OwnM 10 encN 34 w8.heap (some ⟨w7.heap.size, 0, none⟩) 1 [y] := ownM_new (xs := [y]) encN_cells (by simpa using hg8) (by show 1 ≤ maxLen; decide)
            refine Sl.appendM encN_cells rfl sl22 rfl rfl (ho7.grow hf8) (ho8.vw encN_cells) (by simp only [List.length_singleton, List.length_map, List.length_take]; omega) (by simp only [List.length_singleton, List.length_map, List.length_take]; unfold maxLen; omega) rfl ?_
            intro o9 c9 w9 ho9 hf9 hr9 hn9
            rw [hy, ← mapTk hp] at ho9 ⊢
            have hF9 : Foot nob W w9 := (hF7.trans hf8).trans_to hf9 hfo.step
            have hfo9 : Fr W.heap.size o9 := fr_app hfo hr9 (by have := hF7.size; have := hf8.size; omega)
            refine Sl.calm (Cm.assign rfl) rfl ?_
            refine Sl.nil ?_
            refine At.block_normal ?_
            refine At.weak [(0, _), (3, _), (4, _), (5, _), (14, _), (24, _), (32, _), (40, _)] ⟨rfl, rfl, rfl, rfl, rfl, rfl, rfl, rfl, trivial⟩ ?_
            refine At.go ?_
            refine Sc.region ?_
            refine Sl.calm (Cm.move rfl) rfl ?_
            refine Sl.calm (Cm.add64 rfl rfl (by omega)) rfl ?_
            refine Sl.calm (Cm.assign rfl) rfl ?_
            refine Sl.nil ?_
            exact At.again ⟨i + 1, o9, c9⟩ ⟨rfl, rfl, rfl, trivial⟩ ⟨by omega, by omega, ho9, hfo9, hF9⟩ (by show ps.length - (i + 1) < ps.length - i; omega)
          ·
            have hgC : w6.heap[q]? = some (.cells (encN (fewP p)).toArray 34 (0, 0)) := by unfold fewP; rw [cutHd_no (n := 10) (by omega)]; exact hgB
            have hF7 := hF6
            have ho7 := ho6
            rename World => w7
            refine Sl.nil ?_
            refine At.weak [(0, _), (3, _), (4, _), (5, _), (14, _), (24, _), (32, _), (40, _)] ⟨rfl, rfl, rfl, rfl, rfl, rfl, rfl, rfl, trivial⟩ ?_
            refine At.go ?_
            refine Sc.cond_f rfl ?_
            refine Sc.skip ?_
            refine At.go ?_
            refine Sc.region ?_
            refine Sl.calm (Cm.move rfl) rfl ?_
            refine Sl.calm (Cm.ldM (cs := encN (fewP p)) agg34 rfl (cellsF hgC 0 rfl)) rfl ?_
            obtain ⟨y, hy⟩ : ∃ y, y = fewP p := ⟨_, rfl⟩
            rw [← hy]
            refine Sl.litG sl22 (cs := (encN y).toArray) zc34 rfl rfl rfl (by kernel_rfl) rfl ?_
            intro w8 hg8 hs8 hf8
            have ho8 : OwnM 10 encN 34 w8.heap (some ⟨w7.heap.size, 0, none⟩) 1 [y] := ownM_new (xs := [y]) encN_cells (by simpa using hg8) (by show 1 ≤ maxLen; decide)
            refine Sl.appendM encN_cells rfl sl22 rfl rfl (ho7.grow hf8) (ho8.vw encN_cells) (by simp only [List.length_singleton, List.length_map, List.length_take]; omega) (by simp only [List.length_singleton, List.length_map, List.length_take]; unfold maxLen; omega) rfl ?_
            intro o9 c9 w9 ho9 hf9 hr9 hn9
            rw [hy, ← mapTk hp] at ho9 ⊢
            have hF9 : Foot nob W w9 := (hF7.trans hf8).trans_to hf9 hfo.step
            have hfo9 : Fr W.heap.size o9 := fr_app hfo hr9 (by have := hF7.size; have := hf8.size; omega)
            refine Sl.calm (Cm.assign rfl) rfl ?_
            refine Sl.nil ?_
            refine At.block_normal ?_
            refine At.weak [(0, _), (3, _), (4, _), (5, _), (14, _), (24, _), (32, _), (40, _)] ⟨rfl, rfl, rfl, rfl, rfl, rfl, rfl, rfl, trivial⟩ ?_
            refine At.go ?_
            refine Sc.region ?_
            refine Sl.calm (Cm.move rfl) rfl ?_
            refine Sl.calm (Cm.add64 rfl rfl (by omega)) rfl ?_
            refine Sl.calm (Cm.assign rfl) rfl ?_
            refine Sl.nil ?_
            exact At.again ⟨i + 1, o9, c9⟩ ⟨rfl, rfl, rfl, trivial⟩ ⟨by omega, by omega, ho9, hfo9, hF9⟩ (by show ps.length - (i + 1) < ps.length - i; omega)
    ·
      refine Sl.calm (Cm.pick_t rfl rfl) rfl ?_
      refine Sl.nil ?_
      refine At.weak [(0, _), (3, _), (4, _), (14, _)] ⟨rfl, rfl, rfl, rfl, trivial⟩ ?_
      refine At.go ?_
      refine Sc.cond_f rfl ?_
      refine Sc.exit ?_
      refine At.then_exit ?_
      refine At.then_exit ?_
      refine At.block_hit ?_
      refine At.go ?_
      refine Sc.seq ?_
      refine Sc.region ?_
      refine Sl.calm (Cm.move rfl) rfl ?_
      refine Sl.calm (Cm.assign rfl) rfl ?_
      refine Sl.nil ?_
      refine At.weak [(0, _), (2, _), (3, _), (4, _), (14, _)] ⟨rfl, rfl, rfl, rfl, rfl, trivial⟩ ?_
      refine At.go ?_
      refine Sc.ret ?_
      refine At.ret1 rfl rfl ?_
      have e : ps.take i = ps.take 60 := by
        by_cases k : i = 60
        · rw [k]
        · rw [List.take_of_length_le (by omega), List.take_of_length_le (by omega)]
      rw [e] at ho2 ⊢
      refine ⟨_, rfl, o, c, rfl, ho2, hfo, hF2, ho2.vw encN_cells, fun p hp => ?_⟩
      obtain ⟨r, hr, rfl⟩ := List.mem_map.1 hp
      exact ((hv.grow hF2).2 r (List.mem_of_mem_take hr)).few
  ·
    refine Sl.calm (Cm.move rfl) rfl ?_
    refine Sl.skip rfl rfl rfl rfl ?_
    refine Sl.skip rfl rfl rfl rfl ?_
    refine Sl.calm (Cm.pick_f rfl rfl) rfl ?_
    refine Sl.nil ?_
    refine At.weak [(0, _), (3, _), (4, _), (14, _)] ⟨rfl, rfl, rfl, rfl, trivial⟩ ?_
    refine At.go ?_
    refine Sc.cond_f rfl ?_
    refine Sc.exit ?_
    refine At.then_exit ?_
    refine At.then_exit ?_
    refine At.block_hit ?_
    refine At.go ?_
    refine Sc.seq ?_
    refine Sc.region ?_
    refine Sl.calm (Cm.move rfl) rfl ?_
    refine Sl.calm (Cm.assign rfl) rfl ?_
    refine Sl.nil ?_
    refine At.weak [(0, _), (2, _), (3, _), (4, _), (14, _)] ⟨rfl, rfl, rfl, rfl, rfl, trivial⟩ ?_
    refine At.go ?_
    refine Sc.ret ?_
    refine At.ret1 rfl rfl ?_
    have e : ps.take i = ps.take 60 := by
      by_cases k : i = 60
      · rw [k]
      · rw [List.take_of_length_le (by omega), List.take_of_length_le (by omega)]
    rw [e] at ho2 ⊢
    refine ⟨_, rfl, o, c, rfl, ho2, hfo, hF2, ho2.vw encN_cells, fun p hp => ?_⟩
    obtain ⟨r, hr, rfl⟩ := List.mem_map.1 hp
    exact ((hv.grow hF2).2 r (List.mem_of_mem_take hr)).few

/-! the examples -/
def rootP : NdH × Nd := (ndh0, { nd0 with ino := 1, kind := 1 })
def kidP (g : Nat) : NdH × Nd := (⟨⟨some ⟨g, 0, none⟩, 2, 2⟩, hd0, hd0⟩, { nd0 with names := [[97], [98]], ino := 2, kind := 2 })
theorem chk_root : chk (nds [rootP]) = 0 := by decide +kernel
theorem chk_none : chk (nds []) = 4 := by decide +kernel
theorem chk_kid (g : Nat) : chk (nds [rootP, kidP g]) = 5 := by show chk [{ nd0 with ino := 1, kind := 1 }, { nd0 with names := [[97], [98]], ino := 2, kind := 2 }] = 5; decide +kernel
theorem nil_v (H : Array Obj) : NdV (fun _ => True) H rootP :=
  ⟨⟨rfl, Vw.nil 0 (Nat.zero_le _), fun _ _ _ => trivial⟩, ⟨rfl, Vw.nil 0 (Nat.zero_le _), fun _ _ _ => trivial⟩, ⟨rfl, [], ⟨Nat.zero_le _, Nat.zero_le _, fun h => absurd rfl h, fun i x hx => by simp at hx⟩, rfl, fun _ _ _ => trivial, fun i x y hx => by simp at hx⟩⟩
theorem root_sm : smN rootP.2 := ⟨Nat.zero_le _, by simp [rootP, nd0], by simp [rootP, nd0]⟩
theorem root_ok : okN rootP.2 := by simp [okN, rootP, nd0]
theorem kid_v (g : Nat) {H : Array Obj} (h : Vw strE H (some ⟨g, 0, none⟩) 2 [[97], [98]]) : NdV (fun _ => True) H (kidP g) :=
  ⟨⟨rfl, h, fun _ _ _ => trivial⟩, (nil_v H).2⟩
theorem kid_sm (g : Nat) : smN (kidP g).2 := ⟨Nat.zero_le _, by simp [kidP]; decide, by simp [kidP, nd0]⟩
theorem kid_ok (g : Nat) : okN (kidP g).2 := by simp [okN, kidP, nd0]
set_option maxHeartbeats 4000000 in
theorem shown_ok (W : World) : Calls Try.prog 10 #[] W (Ret fun v w' => v = .bool true ∧ Foot nob W w') := by
  refine calls_of_sc 19 [] Try.func10 rfl rfl rfl (enter_slots trivial) ?_
  refine Sc.seq ?_
  refine Sc.region ?_
  refine Sl.calm (Cm.assign rfl) rfl ?_
  refine Sl.nil ?_
  refine At.go ?_
  refine Sc.seq ?_
  refine Sc.region ?_
  refine Sl.calm (Cm.build (cs := (encN rootP).toArray) plc34 zc34 rfl (by kernel_rfl)) rfl ?_
  refine Sl.allocC zc34 rfl ?_
  intro w1 hg1 hs1 hf1
  obtain ⟨q, hq⟩ : ∃ q, q = W.heap.size := ⟨_, rfl⟩
  rw [← hq] at hg1 ⊢
  refine Sl.storeAll (vs := encN rootP) agg34 rfl rfl (encN_cells _).2 hg1 rfl ?_
  intro w2 hg2 hs2 hf2
  have hF2 : Foot nob W w2 := hf1.trans_to hf2 (fun k e => .inr (by have e : k = q := e; omega))
  refine Sl.nil ?_
  refine At.weak [(0, _), (1, _)] ⟨rfl, rfl, trivial⟩ ?_
  refine At.go ?_
  refine Sc.seq ?_
  refine Sc.region ?_
  refine Sl.calm (Cm.ldM (cs := encN rootP) agg34 rfl (cellsF hg2 0 rfl)) rfl ?_
  refine Sl.litG sl22 (cs := (encN rootP).toArray) zc34 rfl rfl rfl (by kernel_rfl) rfl ?_
  intro w3 hg3 hs3 hf3
  have ho3 : OwnM 10 encN 34 w3.heap (some ⟨w2.heap.size, 0, none⟩) 1 [rootP] := ownM_new (xs := [rootP]) encN_cells (by simpa using hg3) (by show 1 ≤ maxLen; decide)
  refine Sl.call fn12 rfl (check_ok (D := fun _ => True) (some ⟨w2.heap.size, 0, none⟩) 1 [rootP] w3 ⟨ho3.vw encN_cells, by simp only [List.mem_singleton]; rintro p rfl; exact nil_v _⟩ (by simp only [List.mem_singleton]; rintro p rfl; exact root_sm) (by simp only [List.mem_singleton]; rintro p rfl; exact root_ok)) rfl ?_
  rintro _ w4 ⟨rfl, hf4⟩
  refine Sl.calm (Cm.yes (Cm.eql rfl rfl) chk_root) rfl ?_
  refine Sl.calm (Cm.move rfl) rfl ?_
  refine Sl.callWant rfl rfl fn12 rfl (check_ok (D := fun _ => True) none 0 [] w4 ⟨⟨Nat.zero_le _, Nat.zero_le _, fun h => absurd rfl h, fun i x hx => by simp at hx⟩, by simp⟩ (by simp) (by simp)) rfl ?_
  rintro _ w5 ⟨rfl, hf5⟩
  refine Sl.want rfl rfl (Cm.yes (Cm.eql rfl rfl) chk_none) rfl ?_
  refine Sl.calm (Cm.pick_t rfl rfl) rfl ?_
  refine Sl.calm (Cm.move rfl) rfl ?_
  refine Sl.want rfl rfl (Cm.ldM (cs := encN rootP) agg34 rfl (cellsF ((hf3.trans (hf4.trans hf5)).obj hg2 id) 0 rfl)) rfl ?_
  refine Sl.wanted rfl rfl ?_
  refine Sl.lit2 (enc := strE) (u := ([97] : List UInt8)) (u' := [98]) sl28 strE_one rfl rfl rfl ?_
  intro w6 ho6 hs6 hf6
  obtain ⟨g, hg⟩ : ∃ g, g = w5.heap.size := ⟨_, rfl⟩
  rw [← hg] at ho6 ⊢
  refine Sl.want rfl rfl (Cm.build (cs := (encN (kidP g)).toArray) plc34 zc34 rfl (by kernel_rfl)) rfl ?_
  refine Sl.wanted rfl rfl ?_
  refine Sl.litG sl22 (cs := (encN rootP ++ encN (kidP g)).toArray) zc34 rfl rfl rfl (by kernel_rfl) rfl ?_
  intro w7 hg7 hs7 hf7
  have ho7 : OwnM 10 encN 34 w7.heap (some ⟨w6.heap.size, 0, none⟩) 2 [rootP, kidP g] := ownM_new (xs := [rootP, kidP g]) encN_cells (by simpa using hg7) (by show 2 ≤ maxLen; decide)
  refine Sl.callWant rfl rfl fn12 rfl (check_ok (D := fun _ => True) (some ⟨w6.heap.size, 0, none⟩) 2 [rootP, kidP g] w7 ⟨ho7.vw encN_cells, by simp only [List.mem_cons, List.not_mem_nil, or_false]; rintro p (rfl | rfl); exact nil_v _; exact kid_v g (ho6.vw.grow hf7)⟩ (by simp only [List.mem_cons, List.not_mem_nil, or_false]; rintro p (rfl | rfl); exact root_sm; exact kid_sm g) (by simp only [List.mem_cons, List.not_mem_nil, or_false]; rintro p (rfl | rfl); exact root_ok; exact kid_ok g)) rfl ?_
  rintro _ w8 ⟨rfl, hf8⟩
  refine Sl.want rfl rfl (Cm.yes (Cm.eql rfl rfl) (chk_kid g)) rfl ?_
  refine Sl.calm (Cm.pick_t rfl rfl) rfl ?_
  refine Sl.calm (Cm.assign rfl) rfl ?_
  refine Sl.nil ?_
  refine At.weak [(0, _), (1, _)] ⟨rfl, rfl, trivial⟩ ?_
  refine At.go ?_
  refine Sc.ret ?_
  refine At.ret1 rfl rfl ?_
  exact ⟨_, rfl, rfl, ((((hF2.trans hf3).trans hf4).trans hf5).trans hf6).trans (hf7.trans hf8)⟩
end Go.Proofs.Ytpnfjfbfgaiolaa
