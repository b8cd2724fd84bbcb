/- merge: the law MergeHides. No condition beyond the bounds that it states. -/
import Derived.Test.YtpamandneifemaaMgYk
import Derived.Test.YtpamandneifemaaMgHk
namespace Go.Proofs.Ytpamandneifemaa
open Go Go.RowKit Go.Maps
set_option linter.unusedVariables false

theorem Vw.drop1 {α : Type} {en : α → Value} {H : Array Obj} {ao : Option Addr} {c : Nat} {x : α} {b : List α} (h : Vw en H ao c (x :: b)) : Vw en H (cutAo ao c 1 1) (c - 1) b := by
  have := h.cut (l := 1) (h := b.length + 1) (m := c) (by omega) (by simp) h.le (Nat.le_refl _)
  rw [show b.length + 1 - 1 = b.length by omega] at this
  simpa using this
theorem off25 {Ls : Lys} (h : ∀ ps ∈ Ls, ps.length ≤ 25) (hl : Ls.length ≤ 6) : offL Ls Ls.length ≤ 150 := by
  unfold offL
  rw [List.take_length]
  have := sum_le (l := Ls.map List.length) (k := 25) (fun x hx => by obtain ⟨ps, hp, rfl⟩ := List.mem_map.1 hx; exact h ps hp)
  rw [List.length_map] at this
  have h2 := Nat.mul_le_mul_right 25 hl
  omega
def opL (i : Nat) (ps : List (NdH × Nd)) : List (NdH × Nd) := (ps.take i).map opR ++ ps.drop i
theorem opL_len (i : Nat) (ps : List (NdH × Nd)) : (opL i ps).length = ps.length := by unfold opL; rw [List.length_append, List.length_map, List.length_take, List.length_drop]; omega
theorem opL_zero (ps : List (NdH × Nd)) : opL 0 ps = ps := rfl
theorem opL_end (ps : List (NdH × Nd)) : opL ps.length ps = ps.map opR := by unfold opL; rw [List.take_length, List.drop_length, List.append_nil]
theorem opL_at {ps : List (NdH × Nd)} {i : Nat} {p : NdH × Nd} (h : ps[i]? = some p) : (opL i ps)[i]? = some p := by
  have hl := (List.getElem?_eq_some_iff.1 h).1
  unfold opL
  rw [List.getElem?_append_right (by rw [List.length_map, List.length_take]; omega), List.getElem?_drop, ← h]
  congr 1
  rw [List.length_map, List.length_take]; omega
theorem opL_set {ps : List (NdH × Nd)} {i : Nat} {p : NdH × Nd} (h : ps[i]? = some p) : (opL i ps).set i (opR p) = opL (i + 1) ps := by
  obtain ⟨hl, e⟩ := List.getElem?_eq_some_iff.1 h
  have h1 : ((ps.take i).map opR).length = i := by rw [List.length_map, List.length_take]; omega
  unfold opL
  rw [List.set_append, if_neg (by omega), h1, Nat.sub_self, List.drop_eq_getElem_cons hl, List.set_cons_zero, tkL h, List.map_append, List.append_assoc]; rfl
theorem opL_skip {ps : List (NdH × Nd)} {i : Nat} {p : NdH × Nd} (h : ps[i]? = some p) (e : opR p = p) : opL (i + 1) ps = opL i ps := by
  rw [← opL_set h, e]
  have := opL_at h
  obtain ⟨hl, g⟩ := List.getElem?_eq_some_iff.1 this
  rw [← g]
  exact List.set_getElem_self hl
theorem opR_yes {p : NdH × Nd} (h : p.2.names = []) : opR p = (p.1, { p.2 with opq := true }) := by unfold opR; rw [if_pos h]
theorem opR_no {p : NdH × Nd} (h : p.2.names ≠ []) : opR p = p := by unfold opR; rw [if_neg h]
theorem opR_v {D : Nat → Prop} {H : Array Obj} {p : NdH × Nd} (h : NdV D H p) : NdV D H (opR p) := by
  unfold opR; simp only; split
  · exact h
  · exact h
theorem root_at {l : List (NdH × Nd)} (h : GdU l) : ∃ q ∈ l, q.2.names = [] ∧ q.2.kind = 1 := by
  obtain ⟨m, hm, h1, h2⟩ := (plc0_up h.1.1).1
  obtain ⟨q, hq, rfl⟩ := List.mem_map.1 hm
  exact ⟨q, hq, h1, h2⟩
theorem lysC {D : Nat → Prop} {H : Array Obj} {o : Option Addr} {c : Nat} {x : Hd} {hs : List Hd} {p : List (NdH × Nd)} {Ls : Lys} (ho : Vw hd H o c (x :: hs)) (n : x.n = p.length) (v : NodesV D H x.a x.c p) (hl : hs.length = Ls.length) (r : ∀ (i : Nat) (h : Hd) (ps : List (NdH × Nd)), hs[i]? = some h → Ls[i]? = some ps → h.n = ps.length ∧ NodesV D H h.a h.c ps) : LysV D H o c (x :: hs) (p :: Ls) :=
  ⟨ho, by simp [hl], fun i h ps e1 e2 => by
    match i, e1, e2 with
    | 0, e1, e2 => cases e1; cases e2; exact ⟨n, v⟩
    | i + 1, e1, e2 => exact r i h ps e1 e2⟩
variable {D D' : Nat → Prop}
theorem mergeH_ok (lo : Option Addr) (lc : Nat) (hs : List Hd) (Ls : Lys) (W : World) (hv : LysV D W.heap lo lc hs Ls) (hg : GdA Ls) (hL : Ls.length ≤ 1000) (hT : offL Ls Ls.length ≤ 100000) :
    Calls Try.prog 12 [.slice lo hs.length lc].toArray W (Ret fun v w' => ∃ o c zs, v = .slice o (List.length (α := NdH × Nd) zs) c ∧ OwnM 10 encN 35 w'.heap o c zs ∧ nds zs = nds (canP (visL Ls)) ∧ (∀ z ∈ zs, NdV (fun k => ¬ blk o k ∧ k < w'.heap.size) w'.heap z) ∧ Fr W.heap.size o ∧ Foot nob W w') := by
  rw [hv.2.1]; exact merge_ok lo lc hs Ls W hv hg hL hT
set_option maxHeartbeats 8000000 in
theorem mergeHides_ok (lo : Option Addr) (lc : Nat) (hs : List Hd) (Ls : Lys) (W : World) (hv : LysV D W.heap lo lc hs Ls) (hw : ∀ ps ∈ Ls, ∀ p ∈ ps, okN p.2 ∧ smN p.2) :
    Calls Try.prog 5 [.slice lo Ls.length lc].toArray W (Ret fun v w' => v = .bool true ∧ Foot nob W w') := by
  refine calls_of_sc 126 [(0, _)] Try.func5 rfl rfl rfl (enter_slots ⟨rfl, trivial⟩) ?_
  refine Sc.seq ?_
  refine Sc.region ?_
  refine Sl.calm (Cm.assign rfl) rfl ?_
  refine Sl.nil ?_
  refine At.go ?_
  refine Sc.seq ?_
  refine Sc.region ?_
  refine Sl.call fn10 rfl (mshown_ok W) rfl ?_
  rintro _ w1 ⟨rfl, hf1⟩
  refine Sl.calm (Cm.assign rfl) rfl ?_
  refine Sl.nil ?_
  refine At.weak [(0, _), (2, _), (3, _)] ⟨rfl, rfl, rfl, trivial⟩ ?_
  refine At.go ?_
  refine Sc.seq ?_
  refine Sc.region ?_
  refine Sl.calm (Cm.move rfl) rfl ?_
  refine Sl.call fn11 rfl (fewU_ok lo lc hs Ls w1 (hv.grow hf1) hw) rfl ?_
  rintro _ w2 ⟨o, c, hs2, L2, rfl, hv2, hgu, hl5, hl1, hf2⟩
  have hg := gduA hgu
  have hF2 := hf1.trans hf2
  rw [← hv2.2.1]
  have hll := hv2.2.1
  refine Sl.calm (Cm.assign rfl) rfl ?_
  refine Sl.nil ?_
  refine At.weak [(0, _), (2, _), (3, _)] ⟨rfl, rfl, rfl, trivial⟩ ?_
  refine At.go ?_
  refine Sc.seq ?_
  refine Sc.seq ?_
  refine Sc.region ?_
  refine Sl.calm (Cm.move rfl) rfl ?_
  refine Sl.calm (Cm.len sl22 rfl) rfl ?_
  refine Sl.fork (Cm.eql rfl rfl) rfl (fun h23 => ?_) (fun h23 => ?_)
  ·
    refine Sl.nil ?_
    refine At.weak [(0, _), (2, _), (3, _), (23, _)] ⟨rfl, rfl, rfl, rfl, trivial⟩ ?_
    refine At.go ?_
    refine Sc.cond_t rfl ?_
    refine Sc.seq ?_
    refine Sc.region ?_
    refine Sl.calm (Cm.move rfl) rfl ?_
    refine Sl.calm (Cm.assign rfl) rfl ?_
    refine Sl.nil ?_
    refine At.weak [(0, _), (2, _), (3, _), (23, _)] ⟨rfl, rfl, rfl, rfl, trivial⟩ ?_
    refine At.go ?_
    refine Sc.ret ?_
    refine At.then_ret ?_
    refine At.ret1 rfl rfl ?_
    first
      | exact ⟨_, rfl, rfl, hF2.trans (hF17.trans hF18)⟩
      | exact ⟨_, rfl, rfl, hF2⟩
  ·
    obtain ⟨h, ht, rfl⟩ : ∃ h ht, hs2 = h :: ht := by
      rcases hs2 with _ | ⟨a, b⟩
      · exact absurd rfl h23
      · exact ⟨a, b, rfl⟩
    obtain ⟨ps, rest, rfl⟩ : ∃ ps rest, L2 = ps :: rest := by
      rcases L2 with _ | ⟨a, b⟩
      · simp at hll
      · exact ⟨a, b, rfl⟩
    have hll : ht.length = rest.length := by simpa using hll
    have hl5 : rest.length + 1 ≤ 5 := hl5
    obtain ⟨hn, hvn⟩ := hv2.2.2 0 h ps rfl rfl
    have hgp := hgu ps (by simp)
    have hp25 := hgp.2.1
    obtain ⟨q, hqm, hq1, hq2⟩ := root_at hgp
    obtain ⟨k, hk⟩ := List.getElem?_of_mem hqm
    have hfk : findP ps [] = (k : Int) := by
      have := find_in hgp.gd.tw hk
      rw [hq1] at this; exact this
    have hkl := (List.getElem?_eq_some_iff.1 hk).1
    have hro := opR_gd hgp.gd
    have hoA : GdA (ps.map opR :: rest) := fun x hx => by
      rcases List.mem_cons.1 hx with rfl | hx
      · exact hro
      · exact hg x (by simp [hx])
    have ho1 : GdA [ps.map opR] := fun x hx => by
      rw [List.mem_singleton] at hx; subst hx; exact hro
    have hvis := hide_vis (rest := rest) hro.tw ⟨opR q, List.mem_map.2 ⟨q, hqm, rfl⟩, by rw [opR_yes hq1]; exact ⟨hq1, hq2, rfl⟩⟩
    have hoe : GdA ([offP q] :: ps :: rest) := fun x hx => by
      rcases List.mem_cons.1 hx with rfl | hx
      · exact em_gd hq1 (hgp.2.2 q hqm)
      · exact hg x hx
    refine Sl.nil ?_
    refine At.weak [(0, _), (2, _), (3, _), (23, _)] ⟨rfl, rfl, rfl, rfl, trivial⟩ ?_
    refine At.go ?_
    refine Sc.cond_f rfl ?_
    refine Sc.skip ?_
    refine At.go ?_
    refine Sc.seq ?_
    refine Sc.region ?_
    refine Sl.lit0M encN_cells sl25 rfl ?_
    intro w3 ho3 hs3 hf3
    refine Sl.calm (Cm.move rfl) rfl ?_
    have hv3 := hv2.grow hf3
    have hvn3 := hvn.grow hf3
    refine Sl.calm (Cm.indexAddr1 sl22 rfl rfl hv3.1.non (by simp)) rfl ?_
    refine Sl.calm (Cm.ofEq (u := .slice h.a ps.length h.c) (Cm.ld sca25 rfl (hv3.1.get 0 h rfl)) (by rw [← hn]; rfl)) rfl ?_
    refine Sl.appendM encN_cells rfl sl25 rfl rfl ho3 hvn3.1 (by simp only [List.length_nil]; omega) (by simp only [List.length_nil]; unfold maxLen; omega) rfl ?_
    intro oB cB w4 hoB hfB hrB hnB
    rw [List.nil_append] at hoB ⊢
    have hF4 : Foot nob w2 w4 := hf3.trans_to hfB (fr_at2 _).step
    have hfoB : Fr w2.heap.size oB := fr_app (fr_at2 _) hrB hf3.size
    refine Sl.calm (Cm.assign rfl) rfl ?_
    refine Sl.nil ?_
    refine At.weak [(0, _), (2, _), (3, _), (4, _), (23, _)] ⟨rfl, rfl, rfl, rfl, rfl, trivial⟩ ?_
    refine At.go ?_
    refine Sc.seq ?_
    refine Sc.seq ?_
    refine Sc.region ?_
    refine Sl.calm (Cm.assign rfl) rfl ?_
    refine Sl.nil ?_
    refine At.go ?_
    refine Sc.block ?_
    refine Sc.loop (β := Nat) (fun i => [(0, .slice o (h :: ht).length c), (3, .bool true), (4, .slice oB ps.length cB), (5, .int .i64 i)]) (fun i w => i ≤ ps.length ∧ OwnM 10 encN 35 w.heap oB cB (opL i ps) ∧ Foot nob w2 w) (fun i => ps.length - i) 0 ⟨rfl, rfl, rfl, rfl, trivial⟩ ⟨Nat.zero_le _, hoB, hF4⟩ ?_
    rintro i w5 ⟨hi, ho5, hF5⟩
    refine Sc.seq ?_
    refine Sc.seq ?_
    refine Sc.region ?_
    refine Sl.calm (Cm.move rfl) rfl ?_
    refine Sl.calm (Cm.move rfl) rfl ?_
    refine Sl.calm (Cm.len sl25 rfl) rfl ?_
    refine Sl.fork (Cm.lss rfl rfl) rfl (fun h33 => ?_) (fun h33 => ?_)
    ·
      have hil : i < ps.length := by omega
      obtain ⟨p, hp⟩ : ∃ p, ps[i]? = some p := ⟨_, List.getElem?_eq_getElem hil⟩
      have hpL := opL_at hp
      have hv5 := ho5.vw encN_cells
      have hpn := (hvn.2 p (List.mem_of_getElem? hp)).1.1
      refine Sl.nil ?_
      refine At.weak [(0, _), (3, _), (4, _), (5, _), (33, _)] ⟨rfl, rfl, rfl, rfl, rfl, trivial⟩ ?_
      refine At.go ?_
      refine Sc.cond_t rfl ?_
      refine Sc.skip ?_
      refine At.go ?_
      refine Sc.seq ?_
      refine Sc.block ?_
      refine Sc.seq ?_
      refine Sc.region ?_
      refine Sl.calm (Cm.move rfl) rfl ?_
      refine Sl.calm (Cm.move rfl) rfl ?_
      refine Sl.calm (Cm.indexAddr sl25 rfl rfl (fun e => hv5.non (by rw [opL_len]; exact e)) (by omega)) rfl ?_
      refine Sl.calm (Cm.field fld35_0 rfl) rfl ?_
      refine Sl.calm (Cm.ld sca29 rfl (hv5.rowZ i rfl hpL 0 _ rfl)) rfl ?_
      refine Sl.calm (Cm.len sl29 rfl) rfl ?_
      refine Sl.fork (Cm.eql rfl rfl) rfl (fun h42 => ?_) (fun h42 => ?_)
      ·
        have hpe : p.2.names = [] := List.length_eq_zero_iff.1 (by omega)
        refine Sl.nil ?_
        refine At.weak [(0, _), (3, _), (4, _), (5, _), (33, _), (42, _)] ⟨rfl, rfl, rfl, rfl, rfl, rfl, trivial⟩ ?_
        refine At.go ?_
        refine Sc.cond_t rfl ?_
        refine Sc.region ?_
        refine Sl.calm (Cm.move rfl) rfl ?_
        refine Sl.calm (Cm.move rfl) rfl ?_
        refine Sl.calm (Cm.indexAddr sl25 rfl rfl (fun e => hv5.non (by rw [opL_len]; exact e)) (by omega)) rfl ?_
        refine Sl.calm (Cm.field fld35_7 rfl) rfl ?_
        refine Sl.storeF encN_cells (i := i) (j := 9) (x' := (p.1, { p.2 with opq := true })) hpL (by decide) rfl sca4 rfl rfl rfl rfl ho5 ?_
        intro w6 ho6 hs6 hf6
        have ho6 : OwnM 10 encN 35 w6.heap oB cB (opL (i + 1) ps) := by rw [← opL_set hp, opR_yes hpe]; exact ho6
        have hF6 : Foot nob w2 w6 := hF5.trans_to hf6 hfoB.step
        refine Sl.nil ?_
        refine At.block_normal ?_
        refine At.weak [(0, _), (3, _), (4, _), (5, _), (33, _), (42, _)] ⟨rfl, rfl, rfl, rfl, rfl, rfl, trivial⟩ ?_
        refine At.go ?_
        refine Sc.region ?_
        refine Sl.calm (Cm.move rfl) rfl ?_
        refine Sl.calm (Cm.add64 rfl rfl (by omega)) rfl ?_
        refine Sl.calm (Cm.assign rfl) rfl ?_
        refine Sl.nil ?_
        first
          | exact At.again (i + 1) ⟨rfl, rfl, rfl, rfl, trivial⟩ ⟨by omega, ho6, hF6⟩ (by show ps.length - (i + 1) < ps.length - i; omega)
          | exact At.again (i + 1) ⟨rfl, rfl, rfl, rfl, trivial⟩ ⟨by omega, by rw [opL_skip hp (opR_no hpe)]; exact ho5, hF5⟩ (by show ps.length - (i + 1) < ps.length - i; omega)
      ·
        have hpe : p.2.names ≠ [] := fun e => h42 (by rw [hpn, e]; rfl)
        refine Sl.nil ?_
        refine At.weak [(0, _), (3, _), (4, _), (5, _), (33, _), (42, _)] ⟨rfl, rfl, rfl, rfl, rfl, rfl, trivial⟩ ?_
        refine At.go ?_
        refine Sc.cond_f rfl ?_
        refine Sc.skip ?_
        refine At.block_normal ?_
        refine At.go ?_
        refine Sc.region ?_
        refine Sl.calm (Cm.move rfl) rfl ?_
        refine Sl.calm (Cm.add64 rfl rfl (by omega)) rfl ?_
        refine Sl.calm (Cm.assign rfl) rfl ?_
        refine Sl.nil ?_
        first
          | exact At.again (i + 1) ⟨rfl, rfl, rfl, rfl, trivial⟩ ⟨by omega, ho6, hF6⟩ (by show ps.length - (i + 1) < ps.length - i; omega)
          | exact At.again (i + 1) ⟨rfl, rfl, rfl, rfl, trivial⟩ ⟨by omega, by rw [opL_skip hp (opR_no hpe)]; exact ho5, hF5⟩ (by show ps.length - (i + 1) < ps.length - i; omega)
    ·
      have hie : i = ps.length := by omega
      subst hie
      rw [opL_end] at ho5
      refine Sl.nil ?_
      refine At.weak [(0, _), (3, _), (4, _), (5, _), (33, _)] ⟨rfl, rfl, rfl, rfl, rfl, trivial⟩ ?_
      refine At.go ?_
      refine Sc.cond_f rfl ?_
      refine Sc.exit ?_
      refine At.then_exit ?_
      refine At.then_exit ?_
      refine At.block_hit ?_
      refine At.go ?_
      refine Sc.seq ?_
      refine Sc.region ?_
      refine Sl.calm (Cm.move rfl) rfl ?_
      refine Sl.lit1 (enc := hd) (u := ⟨oB, ps.length, cB⟩) sl22 (hd_one _) rfl rfl ?_
      intro w6 ho6 hs6 hf6
      have hF6 := hF5.trans hf6
      have hv6 := hv2.grow hF6
      refine Sl.calm (Cm.move rfl) rfl ?_
      refine Sl.calm (Cm.ofEq (u := .slice (cutAo o c 1 1) ht.length (c - 1)) (Cm.sliceL sl22 rfl rfl (by simp only [List.length_cons]; omega)) (by simp)) rfl ?_
      refine Sl.append hd_one sl22 rfl rfl ho6 (Vw.drop1 hv6.1) (by simp only [List.length_singleton]; omega) (by simp only [List.length_singleton]; unfold maxLen; omega) rfl ?_
      intro o7 c7 w7 ho7 hf7 hr7 hn7
      rw [List.singleton_append] at ho7 ⊢
      have hF67 : Foot nob w5 w7 := hf6.trans_to hf7 (fr_at2 _).step
      have hF7 := hF5.trans hF67
      have hvf : NodesV D w7.heap oB cB (ps.map opR) := ⟨(ho5.grow hF67).vw encN_cells, fun x hx => by
        obtain ⟨y, hy, rfl⟩ := List.mem_map.1 hx
        exact opR_v ((hvn.grow hF7).2 y hy)⟩
      have hv7 := hv2.grow hF7
      have hva : LysV D w7.heap o7 c7 (⟨oB, ps.length, cB⟩ :: ht) (ps.map opR :: rest) := lysC ho7.vw (by simp) hvf hll (fun i h ps e1 e2 => hv7.2.2 (i + 1) h ps e1 e2)
      have hr25 : ∀ x ∈ rest, x.length ≤ 25 := fun x hx => (hgu x (by simp [hx])).2.1
      refine Sl.calm (Cm.assign rfl) rfl ?_
      refine Sl.nil ?_
      refine At.weak [(0, _), (3, _), (4, _), (5, _), (6, _), (33, _)] ⟨rfl, rfl, rfl, rfl, rfl, rfl, trivial⟩ ?_
      refine At.go ?_
      refine Sc.seq ?_
      refine Sc.region ?_
      refine Sl.calm (Cm.move rfl) rfl ?_
      refine Sl.call fn12 rfl (mergeH_ok o7 c7 _ _ w7 hva hoA (by simp only [List.length_cons]; omega) (by have := off25 (Ls := ps.map opR :: rest) (fun x hx => by rcases List.mem_cons.1 hx with rfl | hx; rw [List.length_map]; exact hp25; exact hr25 x hx) (by simp only [List.length_cons]; omega); omega)) rfl ?_
      rintro _ w8 ⟨o8, c8, xs, rfl, hox, hxn, hxv, hfx, hf8⟩
      have hv8 : LysV D w8.heap o7 c7 [⟨oB, ps.length, cB⟩] [ps.map opR] := lysC ((ho7.grow hf8).vw.take 1) (by simp) (hvf.grow hf8) rfl (fun i h ps e1 e2 => by simp at e1)
      have hc7 := ho7.vw.le
      refine Sl.calm (Cm.assign rfl) rfl ?_
      refine Sl.nil ?_
      refine At.weak [(0, _), (3, _), (4, _), (5, _), (6, _), (7, _), (33, _)] ⟨rfl, rfl, rfl, rfl, rfl, rfl, rfl, trivial⟩ ?_
      refine At.go ?_
      refine Sc.seq ?_
      refine Sc.region ?_
      refine Sl.calm (Cm.move rfl) rfl ?_
      refine Sl.calm (Cm.ofEq (u := .slice o7 [(⟨oB, ps.length, cB⟩ : Hd)].length c7) (Cm.sliceH sl22 rfl rfl (by simp only [List.length_cons] at hc7; omega)) (by rw [cutAo_zero]; rfl)) rfl ?_
      refine Sl.call fn12 rfl (mergeH_ok o7 c7 _ _ w8 hv8 ho1 (by simp) (by have := off25 (Ls := [ps.map opR]) (fun x hx => by rw [List.mem_singleton] at hx; subst hx; rw [List.length_map]; exact hp25) (by simp); omega)) rfl ?_
      rintro _ w9 ⟨o9, c9, ys, rfl, hoy, hyn, hyv, hfy, hf9⟩
      refine Sl.calm (Cm.assign rfl) rfl ?_
      refine Sl.nil ?_
      refine At.weak [(0, _), (3, _), (4, _), (5, _), (6, _), (7, _), (8, _), (33, _)] ⟨rfl, rfl, rfl, rfl, rfl, rfl, rfl, rfl, trivial⟩ ?_
      refine At.go ?_
      refine Sc.seq ?_
      refine Sc.region ?_
      refine Sl.calm (Cm.move rfl) rfl ?_
      refine Sl.calm (Cm.move rfl) rfl ?_
      refine Sl.call fn14 rfl (rsameN_ok (D := fun _ => True) (D' := fun _ => True) o8 o9 c8 c9 xs ys w9 ((NodesV.all hox hxv).grow hf9) (NodesV.all hoy hyv)) rfl ?_
      rintro v10 w10 ⟨hb, _, hf10⟩
      obtain rfl := hb.2 (by rw [hxn, hyn, hvis])
      have hF10 : Foot nob w2 w10 := hF7.trans (hf8.trans (hf9.trans hf10))
      have hvA := hv2.grow hF10
      have hvnA := hvn.grow hF10
      refine Sl.calm (Cm.assign rfl) rfl ?_
      refine Sl.nil ?_
      refine At.weak [(0, _), (3, _), (4, _), (5, _), (6, _), (7, _), (8, _), (9, _), (33, _)] ⟨rfl, rfl, rfl, rfl, rfl, rfl, rfl, rfl, rfl, trivial⟩ ?_
      refine At.go ?_
      refine Sc.seq ?_
      refine Sc.region ?_
      refine Sl.calm (Cm.move rfl) rfl ?_
      refine Sl.calm (Cm.indexAddr1 sl22 rfl rfl hvA.1.non (by simp)) rfl ?_
      refine Sl.calm (Cm.ofEq (u := .slice h.a ps.length h.c) (Cm.ld sca25 rfl (hvA.1.get 0 h rfl)) (by rw [← hn]; rfl)) rfl ?_
      refine Sl.call fn17 rfl (rfind_ok h.a h.c ps none 0 [] w10 hvnA (Vw.nil 0 (Nat.zero_le _))) rfl ?_
      rintro _ w11 ⟨rfl, hf11⟩
      rw [hfk]
      have hF11 := hF10.trans hf11
      have hvB := hv2.grow hF11
      have hvnB := hvn.grow hF11
      refine Sl.calm (Cm.assign rfl) rfl ?_
      refine Sl.nil ?_
      refine At.weak [(0, _), (3, _), (4, _), (5, _), (6, _), (7, _), (8, _), (9, _), (10, _), (33, _)] ⟨rfl, rfl, rfl, rfl, rfl, rfl, rfl, rfl, rfl, rfl, trivial⟩ ?_
      refine At.go ?_
      refine Sc.seq ?_
      refine Sc.region ?_
      refine Sl.calm (Cm.move rfl) rfl ?_
      refine Sl.calm (Cm.indexAddr1 sl22 rfl rfl hvB.1.non (by simp)) rfl ?_
      refine Sl.calm (Cm.ofEq (u := .slice h.a ps.length h.c) (Cm.ld sca25 rfl (hvB.1.get 0 h rfl)) (by rw [← hn]; rfl)) rfl ?_
      refine Sl.calm (Cm.move rfl) rfl ?_
      refine Sl.calm (Cm.indexAddr sl25 rfl rfl hvnB.1.non (by omega)) rfl ?_
      refine Sl.calm (Cm.ldM (cs := encN q) agg35 rfl (fun j v hj => hvnB.1.rowZ k rfl hk j v hj)) rfl ?_
      refine Sl.litG sl25 (cs := (encN q).toArray) zc35 rfl rfl rfl (by kernel_rfl) rfl ?_
      intro w12 hg12 hs12 hf12
      have hoq : OwnM 10 encN 35 w12.heap (some ⟨w11.heap.size, 0, none⟩) 1 [q] := ownM_new (xs := [q]) encN_cells (by simpa using hg12) (by show 1 ≤ maxLen; decide)
      refine Sl.calm (Cm.assign rfl) rfl ?_
      refine Sl.nil ?_
      refine At.weak [(0, _), (3, _), (4, _), (5, _), (6, _), (7, _), (8, _), (9, _), (10, _), (11, _), (33, _)] ⟨rfl, rfl, rfl, rfl, rfl, rfl, rfl, rfl, rfl, rfl, rfl, trivial⟩ ?_
      refine At.go ?_
      refine Sc.seq ?_
      refine Sc.region ?_
      refine Sl.calm (Cm.move rfl) rfl ?_
      refine Sl.calm (Cm.indexAddr sl25 rfl rfl (fun _ => by simp) (by decide)) rfl ?_
      refine Sl.calm (Cm.field fld35_7 rfl) rfl ?_
      refine Sl.storeF encN_cells (i := 0) (j := 9) (xs := [q]) (x0 := q) (x' := offP q) rfl (by decide) rfl sca4 rfl rfl rfl rfl hoq ?_
      intro w13 ho13 hs13 hf13
      have ho13 : OwnM 10 encN 35 w13.heap (some ⟨w11.heap.size, 0, none⟩) 1 [offP q] := ho13
      have hf113 : Foot nob w11 w13 := hf12.trans_to hf13 (fr_at2 _).step
      have hF13 := hF11.trans hf113
      refine Sl.nil ?_
      refine At.weak [(0, _), (3, _), (4, _), (5, _), (6, _), (7, _), (8, _), (9, _), (10, _), (11, _), (33, _)] ⟨rfl, rfl, rfl, rfl, rfl, rfl, rfl, rfl, rfl, rfl, rfl, trivial⟩ ?_
      refine At.go ?_
      refine Sc.seq ?_
      refine Sc.region ?_
      refine Sl.calm (Cm.move rfl) rfl ?_
      refine Sl.lit1 (enc := hd) (u := ⟨some ⟨w11.heap.size, 0, none⟩, 1, 1⟩) sl22 (hd_one _) rfl rfl ?_
      intro w14 ho14 hs14 hf14
      have hF14 := hF13.trans hf14
      refine Sl.calm (Cm.move rfl) rfl ?_
      refine Sl.append hd_one sl22 rfl rfl ho14 (hv2.grow hF14).1 (by simp only [List.length_nil, List.length_cons]; omega) (by simp only [List.length_nil, List.length_cons]; unfold maxLen; omega) rfl ?_
      intro o15 c15 w15 ho15 hf15 hr15 hn15
      rw [List.singleton_append] at ho15 ⊢
      have hF135 : Foot nob w13 w15 := hf14.trans_to hf15 (fr_at2 _).step
      have hF15 := hF13.trans hF135
      have hvE := hv2.grow hF15
      have hvq : NodesV D w15.heap (some ⟨w11.heap.size, 0, none⟩) 1 [offP q] := ⟨(ho13.grow hF135).vw encN_cells, fun x hx => by
        rw [List.mem_singleton] at hx; subst hx; exact (hvn.grow hF15).2 q hqm⟩
      have hve : LysV D w15.heap o15 c15 (⟨some ⟨w11.heap.size, 0, none⟩, 1, 1⟩ :: h :: ht) ([offP q] :: ps :: rest) := lysC ho15.vw rfl hvq hvE.2.1 hvE.2.2
      refine Sl.call fn12 rfl (mergeH_ok o15 c15 _ _ w15 hve hoe (by simp only [List.length_cons]; omega) (by have := off25 (Ls := [offP q] :: ps :: rest) (fun x hx => by rcases List.mem_cons.1 hx with rfl | hx; simp; exact (hgu x hx).2.1) (by simp only [List.length_cons]; omega); omega)) rfl ?_
      rintro _ w16 ⟨o16, c16, as1, rfl, hoa, han, hav, hfa, hf16⟩
      have hF16 := hF15.trans hf16
      refine Sl.calm (Cm.assign rfl) rfl ?_
      refine Sl.nil ?_
      refine At.weak [(0, _), (3, _), (4, _), (5, _), (6, _), (7, _), (8, _), (9, _), (10, _), (11, _), (12, _), (33, _)] ⟨rfl, rfl, rfl, rfl, rfl, rfl, rfl, rfl, rfl, rfl, rfl, rfl, trivial⟩ ?_
      refine At.go ?_
      refine Sc.seq ?_
      refine Sc.region ?_
      refine Sl.calm (Cm.move rfl) rfl ?_
      refine Sl.call fn12 rfl (mergeH_ok o c _ _ w16 (hv2.grow hF16) hg (by simp only [List.length_cons]; omega) (by have := offU hgu hl5; omega)) rfl ?_
      rintro _ w17 ⟨o17, c17, bs1, rfl, hob, hbn, hbv, hfb, hf17⟩
      have hF17 := hF16.trans hf17
      have hsame := em_same (q := offP q) ⟨hq1, hq2, rfl⟩ (hgp.2.2 q hqm) hg (fun x hx => root_at (hgu x hx)) (by simp) han hbn
      have hva17 := (NodesV.all hoa hav).grow hf17
      have hvb17 := NodesV.all hob hbv
      have h63a := hva17.1.len63
      refine Sl.calm (Cm.assign rfl) rfl ?_
      refine Sl.nil ?_
      refine At.weak [(0, _), (3, _), (4, _), (5, _), (6, _), (7, _), (8, _), (9, _), (10, _), (11, _), (12, _), (13, _), (33, _)] ⟨rfl, rfl, rfl, rfl, rfl, rfl, rfl, rfl, rfl, rfl, rfl, rfl, rfl, trivial⟩ ?_
      refine At.go ?_
      refine Sc.seq ?_
      refine Sc.region ?_
      refine Sl.calm (Cm.move rfl) rfl ?_
      refine Sl.calm (Cm.len sl25 rfl) rfl ?_
      refine Sl.calm (Cm.move rfl) rfl ?_
      refine Sl.calm (Cm.len sl25 rfl) rfl ?_
      refine Sl.calm (Cm.yes (Cm.eql rfl rfl) (by rw [hsame.1])) rfl ?_
      refine Sl.calm (Cm.assign rfl) rfl ?_
      refine Sl.nil ?_
      refine At.weak [(0, _), (3, _), (4, _), (5, _), (6, _), (7, _), (8, _), (9, _), (10, _), (11, _), (12, _), (13, _), (14, _), (33, _)] ⟨rfl, rfl, rfl, rfl, rfl, rfl, rfl, rfl, rfl, rfl, rfl, rfl, rfl, rfl, trivial⟩ ?_
      refine At.go ?_
      refine Sc.seq ?_
      refine Sc.seq ?_
      refine Sc.region ?_
      refine Sl.calm (Cm.assign rfl) rfl ?_
      refine Sl.nil ?_
      refine At.go ?_
      refine Sc.block ?_
      refine Sc.loop (β := Nat) (fun i => [(3, .bool true), (9, .bool true), (12, .slice o16 as1.length c16), (13, .slice o17 bs1.length c17), (14, .bool true), (15, .int .i64 i)]) (fun i w => 1 ≤ i ∧ (i ≤ as1.length ∨ i = 1) ∧ Foot nob w17 w) (fun i => as1.length - i) 1 ⟨rfl, rfl, rfl, rfl, rfl, rfl, trivial⟩ ⟨Nat.le_refl _, .inr rfl, Foot.refl _ _⟩ ?_
      rintro i w18 ⟨hi, hi2, hF18⟩
      refine Sc.seq ?_
      refine Sc.seq ?_
      refine Sc.region ?_
      refine Sl.calm (Cm.move rfl) rfl ?_
      refine Sl.calm (Cm.move rfl) rfl ?_
      refine Sl.calm (Cm.len sl25 rfl) rfl ?_
      refine Sl.fork (Cm.lss rfl rfl) rfl (fun h89 => ?_) (fun h89 => ?_)
      ·
        have hil : i < as1.length := by omega
        obtain ⟨p, hp⟩ : ∃ p, as1[i]? = some p := ⟨_, List.getElem?_eq_getElem hil⟩
        obtain ⟨r, hr⟩ : ∃ r, bs1[i]? = some r := ⟨_, List.getElem?_eq_getElem (by have := hsame.1; omega)⟩
        have hpr := hsame.2 i p r hi hp hr
        have hpm := List.mem_of_getElem? hp
        have hrm := List.mem_of_getElem? hr
        have hpa := hva17.grow hF18
        have hpb := hvb17.grow hF18
        have hpn := (hpa.2 p hpm).1
        have hrn := (hpb.2 r hrm).1
        refine Sl.calm (Cm.move rfl) rfl ?_
        refine Sl.want rfl rfl (Cm.move rfl) rfl ?_
        refine Sl.calm (Cm.pick_t rfl rfl) rfl ?_
        refine Sl.nil ?_
        refine At.weak [(3, _), (9, _), (12, _), (13, _), (14, _), (15, _), (92, _)] ⟨rfl, rfl, rfl, rfl, rfl, rfl, rfl, trivial⟩ ?_
        refine At.go ?_
        refine Sc.cond_t rfl ?_
        refine Sc.skip ?_
        refine At.go ?_
        refine Sc.seq ?_
        refine Sc.block ?_
        refine Sc.seq ?_
        refine Sc.draw 12 (fun H => VwM 10 encN H o16 c16 as1 ∧ VwM 10 encN H o17 c17 bs1) [10] [0, 1, 2, 3, 4, 5, 6, 7, 8, 9, 10, 11] mixed (by kernel_rfl) (⟨hpa.1, hpb.1⟩) ?_
        refine Sx.calm rfl rfl (Cm.move rfl) rfl ?_
        refine Sx.calm rfl rfl (Cm.move rfl) rfl ?_
        refine Sx.calm rfl rfl (Cm.indexAddr sl25 rfl rfl hpa.1.non (by omega)) rfl ?_
        refine Sx.calm rfl rfl (Cm.field fld35_0 rfl) rfl ?_
        refine Sx.calm rfl rfl (Cm.load sca29 rfl (fun H hH => hH.1.rowZ i rfl hp 0 _ rfl)) rfl ?_
        refine Sx.calm rfl rfl (Cm.move rfl) rfl ?_
        refine Sx.calm rfl rfl (Cm.move rfl) rfl ?_
        refine Sx.calm rfl rfl (Cm.indexAddr sl25 rfl rfl hpb.1.non (by have := hsame.1; omega)) rfl ?_
        refine Sx.calm rfl rfl (Cm.field fld35_0 rfl) rfl ?_
        refine Sx.calm rfl rfl (Cm.load sca29 rfl (fun H hH => hH.2.rowZ i rfl hr 0 _ rfl)) rfl ?_
        refine Sx.eff rfl rfl (Sl.call fn18 rfl ((by show Calls _ _ [Value.slice p.1.names.a p.1.names.n p.1.names.c, Value.slice r.1.names.a r.1.names.n r.1.names.c].toArray _ _; rw [hpn.1, hrn.1]; exact rsame_ok _ _ _ _ p.2.names r.2.names _ hpn.2.1 hrn.2.1)) rfl ?_)
        rintro v19 w19 ⟨hb19, hf19⟩
        obtain rfl : v19 = .bool true := by rw [hb19, decide_eq_true hpr.1]
        have hF19 := (hF18.draws 1).trans hf19
        have hpc := hva17.grow hF19
        have hpd := hvb17.grow hF19
        refine Sx.on (by exact ⟨hpc.1, hpd.1⟩) ?_
        refine Sx.calm rfl rfl (Cm.assign rfl) rfl ?_
        refine Sx.nil ?_
        refine At.weak [(3, _), (9, _), (12, _), (13, _), (14, _), (15, _), (16, _), (92, _)] ⟨rfl, rfl, rfl, rfl, rfl, rfl, rfl, rfl, trivial⟩ ?_
        refine At.go ?_
        refine Sc.seq ?_
        refine Sc.draw 10 (fun H => VwM 10 encN H o16 c16 as1 ∧ VwM 10 encN H o17 c17 bs1) [8] [0, 1, 2, 3, 4, 5, 6, 7, 8, 9] mixed (by kernel_rfl) (⟨hpc.1, hpd.1⟩) ?_
        refine Sx.calm rfl rfl (Cm.move rfl) rfl ?_
        refine Sx.calm rfl rfl (Cm.move rfl) rfl ?_
        refine Sx.calm rfl rfl (Cm.indexAddr sl25 rfl rfl hpc.1.non (by omega)) rfl ?_
        refine Sx.calm rfl rfl (Cm.loadM (cs := encN p) agg35 rfl (fun H hH j v hj => hH.1.rowZ i rfl hp j v hj)) rfl ?_
        refine Sx.calm rfl rfl (Cm.move rfl) rfl ?_
        refine Sx.calm rfl rfl (Cm.move rfl) rfl ?_
        refine Sx.calm rfl rfl (Cm.indexAddr sl25 rfl rfl hpd.1.non (by have := hsame.1; omega)) rfl ?_
        refine Sx.calm rfl rfl (Cm.loadM (cs := encN r) agg35 rfl (fun H hH j v hj => hH.2.rowZ i rfl hr j v hj)) rfl ?_
        refine Sx.eff rfl rfl (Sl.call fn19 rfl (ralike_ok p r _ (hpc.2 p hpm) (hpd.2 r hrm)) rfl ?_)
        rintro v20 w20 ⟨hb20, hf20⟩
        obtain rfl : v20 = .bool true := by rw [hb20, decide_eq_true hpr.2]
        have hF20 := (hF19.draws 1).trans hf20
        refine Sx.on (by exact ⟨(hva17.grow hF20).1, (hvb17.grow hF20).1⟩) ?_
        refine Sx.calm rfl rfl (Cm.assign rfl) rfl ?_
        refine Sx.nil ?_
        refine At.weak [(3, _), (9, _), (12, _), (13, _), (14, _), (15, _), (16, _), (17, _), (92, _)] ⟨rfl, rfl, rfl, rfl, rfl, rfl, rfl, rfl, rfl, trivial⟩ ?_
        refine At.go ?_
        refine Sc.region ?_
        refine Sl.calm (Cm.move rfl) rfl ?_
        refine Sl.calm (Cm.move rfl) rfl ?_
        refine Sl.want rfl rfl (Cm.move rfl) rfl ?_
        refine Sl.calm (Cm.pick_t rfl rfl) rfl ?_
        refine Sl.calm (Cm.assign rfl) rfl ?_
        refine Sl.nil ?_
        refine At.block_normal ?_
        refine At.weak [(3, _), (9, _), (12, _), (13, _), (14, _), (15, _), (16, _), (17, _), (92, _)] ⟨rfl, rfl, rfl, rfl, rfl, rfl, rfl, rfl, rfl, trivial⟩ ?_
        refine At.go ?_
        refine Sc.region ?_
        refine Sl.calm (Cm.move rfl) rfl ?_
        refine Sl.calm (Cm.add64 rfl rfl (by omega)) rfl ?_
        refine Sl.calm (Cm.assign rfl) rfl ?_
        refine Sl.nil ?_
        exact At.again (i + 1) ⟨rfl, rfl, rfl, rfl, rfl, rfl, trivial⟩ ⟨by omega, .inl (by omega), hF20⟩ (by show as1.length - (i + 1) < as1.length - i; omega)
      ·
        refine Sl.calm (Cm.move rfl) rfl ?_
        refine Sl.skip rfl rfl rfl rfl ?_
        refine Sl.calm (Cm.pick_f rfl rfl) rfl ?_
        refine Sl.nil ?_
        refine At.weak [(3, _), (9, _), (12, _), (13, _), (14, _), (15, _), (92, _)] ⟨rfl, rfl, rfl, rfl, rfl, rfl, rfl, trivial⟩ ?_
        refine At.go ?_
        refine Sc.cond_f rfl ?_
        refine Sc.exit ?_
        refine At.then_exit ?_
        refine At.then_exit ?_
        refine At.block_hit ?_
        refine At.go ?_
        refine Sc.seq ?_
        refine Sc.region ?_
        refine Sl.calm (Cm.move rfl) rfl ?_
        refine Sl.calm (Cm.move rfl) rfl ?_
        refine Sl.want rfl rfl (Cm.move rfl) rfl ?_
        refine Sl.calm (Cm.pick_t rfl rfl) rfl ?_
        refine Sl.calm (Cm.move rfl) rfl ?_
        refine Sl.want rfl rfl (Cm.move rfl) rfl ?_
        refine Sl.calm (Cm.pick_t rfl rfl) rfl ?_
        refine Sl.calm (Cm.assign rfl) rfl ?_
        refine Sl.nil ?_
        refine At.weak [(2, _), (3, _), (9, _), (12, _), (13, _), (14, _), (15, _), (92, _)] ⟨rfl, rfl, rfl, rfl, rfl, rfl, rfl, rfl, trivial⟩ ?_
        refine At.go ?_
        refine Sc.ret ?_
        refine At.ret1 rfl rfl ?_
        first
          | exact ⟨_, rfl, rfl, hF2.trans (hF17.trans hF18)⟩
          | exact ⟨_, rfl, rfl, hF2⟩
end Go.Proofs.Ytpamandneifemaa
