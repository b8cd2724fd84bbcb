/- meta: the reference's writer. No condition beyond the bounds that each states. -/
import Derived.Test.YtlpfahmkjgompaaMtA
namespace Go.Proofs.Ytlpfahmkjgompaa
open Go Go.RowKit
set_option linter.unusedVariables false

def rwC (fo : Option Addr) (fn fc : Nat) (to : Option Addr) (tn tc : Nat) : List Value := [.slice fo fn fc, .slice to tn tc]
/-- the reference's writer in memory: its frames, its rest; its blocks are of D -/
def RwO (D : Nat → Prop) (H : Array Obj) (g : Nat) (f t : List UInt8) : Prop :=
  ∃ fo fc to tc, H[g]? = some (.cells (rwC fo f.length fc to t.length tc).toArray 51 (0, 0)) ∧ Own b8 5 H fo fc f ∧ Own b8 5 H to tc t ∧ ¬ blk fo g ∧ ¬ blk to g ∧ Ap fo to ∧ D g ∧ (∀ k, blk fo k → D k) ∧ (∀ k, blk to k → D k)
section
variable {D : Nat → Prop} {g : Nat} {f t : List UInt8}
theorem RwO.lt {H : Array Obj} (h : RwO D H g f t) : g < H.size := by obtain ⟨fo, fc, to, tc, hg, _⟩ := h; exact (Array.getElem?_eq_some_iff.1 hg).1
theorem RwO.keep {S : Nat → Prop} {w w' : World} (h : RwO D w.heap g f t) (hf : Foot S w w') (hs : ∀ k, D k → ¬ S k) : RwO D w'.heap g f t := by
  obtain ⟨fo, fc, to, tc, hg, h1, h2, h3, h4, h5, h6, h7, h8⟩ := h
  exact ⟨fo, fc, to, tc, hf.obj hg (hs g h6), h1.keep hf (fun a ha => hs _ (h7 _ ⟨a, ha, rfl⟩)), h2.keep hf (fun a ha => hs _ (h8 _ ⟨a, ha, rfl⟩)), h3, h4, h5, h6, h7, h8⟩
theorem RwO.grow {w w' : World} (h : RwO D w.heap g f t) (hf : Foot nob w w') : RwO D w'.heap g f t := h.keep hf (fun _ _ => id)
theorem RwO.shrink {S : Nat → Prop} {w w' : World} (h : RwO D w.heap g f t) (hf : Foot S w w') (hs : ∀ k, D k → ¬ S k) : RwO (fun k => D k ∧ (k < w.heap.size ∨ w'.heap.size ≤ k)) w'.heap g f t := by
  have hl := h.lt
  obtain ⟨fo, fc, to, tc, hg, h1, h2, h3, h4, h5, h6, h7, h8⟩ := h
  exact ⟨fo, fc, to, tc, hf.obj hg (hs g h6), h1.keep hf (fun a ha => hs _ (h7 _ ⟨a, ha, rfl⟩)), h2.keep hf (fun a ha => hs _ (h8 _ ⟨a, ha, rfl⟩)), h3, h4, h5, ⟨h6, .inl hl⟩,
    fun k ⟨a, ha, hb⟩ => ⟨h7 k ⟨a, ha, hb⟩, .inl (by have := h1.lt a ha; omega)⟩, fun k ⟨a, ha, hb⟩ => ⟨h8 k ⟨a, ha, hb⟩, .inl (by have := h2.lt a ha; omega)⟩⟩
end
theorem Vw.keepN {α : Type} {enc : α → Value} {ao : Option Addr} {cap : Nat} {xs : List α} {w w' : World} {S : Nat → Prop} (h : Vw enc w.heap ao cap xs) (f : Foot S w w') (hs : xs ≠ [] → ∀ a, ao = some a → ¬ S a.block) : Vw enc w'.heap ao cap xs := h.keep' f hs
theorem rw_rest {D : Nat → Prop} {W w1 w2 : World} {g : Nat} {f t t' : List UInt8} {fo to to' : Option Addr} {fc tc tc' : Nat} (hD : ∀ k, W.heap.size ≤ k → D k)
    (hg : W.heap[g]? = some (.cells (rwC fo f.length fc to t.length tc).toArray 51 (0, 0))) (h1 : Own b8 5 W.heap fo fc f) (h3 : ¬ blk fo g) (h4 : ¬ blk to g) (h5 : Ap fo to) (h6 : D g) (h7 : ∀ k, blk fo k → D k) (h8 : ∀ k, blk to k → D k)
    (ho : Own b8 5 w1.heap to' tc' t') (hf1 : Foot (blk to) W w1) (hr : ∀ a, to' = some a → to = some a ∨ W.heap.size ≤ a.block)
    (hg2 : w2.heap[g]? = some (.cells (rwC fo f.length fc to' t'.length tc').toArray 51 (0, 0))) (hf2 : Foot (· = g) w1 w2) :
    RwO D w2.heap g f t' ∧ Foot D W w2 := by
  have hgl := (Array.getElem?_eq_some_iff.1 hg).1
  have hD1 : Foot D W w1 := hf1.mono h8
  have hD2 : Foot D W w2 := hD1.trans (hf2.mono (fun k h => by have h : k = g := h; subst h; exact h6))
  have hn : ¬ blk to' g := fun ⟨a, ha, hb⟩ => by
    rcases hr a ha with h | h
    · exact h4 ⟨a, h, hb⟩
    · omega
  refine ⟨⟨fo, fc, to', tc', hg2, (h1.keep hf1 (fun a ha ⟨b, hb, h⟩ => h5 a b ha hb h.symm)).keep hf2 (fun a ha h => h3 ⟨a, ha, h⟩), ho.keep hf2 (fun a ha h => hn ⟨a, ha, h⟩), h3, hn, fun a b ha hb e => ?_, h6, h7, fun k ⟨a, ha, hb⟩ => ?_⟩, hD2⟩
  · rcases hr b hb with h | h
    · exact h5 a b ha h e
    · have := h1.lt a ha; omega
  · rcases hr a ha with h | h
    · exact h8 k ⟨a, h, hb⟩
    · exact hD k (by omega)
theorem rw_full {D : Nat → Prop} {W w1 w2 : World} {g : Nat} {f t f' : List UInt8} {fo to fo' : Option Addr} {fc tc fc' : Nat} (hD : ∀ k, W.heap.size ≤ k → D k)
    (hg : W.heap[g]? = some (.cells (rwC fo f.length fc to t.length tc).toArray 51 (0, 0))) (h2 : Own b8 5 W.heap to tc t) (h3 : ¬ blk fo g) (h4 : ¬ blk to g) (h5 : Ap fo to) (h6 : D g) (h7 : ∀ k, blk fo k → D k) (h8 : ∀ k, blk to k → D k)
    (ho : Own b8 5 w1.heap fo' fc' f') (hf1 : Foot (blk fo) W w1) (hr : ∀ a, fo' = some a → fo = some a ∨ W.heap.size ≤ a.block)
    (hg2 : w2.heap[g]? = some (.cells (rwC fo' f'.length fc' to t.length tc).toArray 51 (0, 0))) (hf2 : Foot (· = g) w1 w2) :
    RwO D w2.heap g f' t ∧ Foot D W w2 := by
  have hgl := (Array.getElem?_eq_some_iff.1 hg).1
  have hD1 : Foot D W w1 := hf1.mono h7
  have hD2 : Foot D W w2 := hD1.trans (hf2.mono (fun k h => by have h : k = g := h; subst h; exact h6))
  have hn : ¬ blk fo' g := fun ⟨a, ha, hb⟩ => by
    rcases hr a ha with h | h
    · exact h3 ⟨a, h, hb⟩
    · omega
  refine ⟨⟨fo', fc', to, tc, hg2, ho.keep hf2 (fun a ha h => hn ⟨a, ha, h⟩), (h2.keep hf1 (fun a ha ⟨b, hb, h⟩ => h5 b a hb ha h)).keep hf2 (fun a ha h => h4 ⟨a, ha, h⟩), hn, h4, fun a b ha hb e => ?_, h6, fun k ⟨a, ha, hb⟩ => ?_, h8⟩, hD2⟩
  · rcases hr a ha with h | h
    · exact h5 a b h hb e
    · have := h2.lt b hb; omega
  · rcases hr a ha with h | h
    · exact h7 k ⟨a, h, hb⟩
    · exact hD k (by omega)
theorem rw_nil {D : Nat → Prop} {W w2 : World} {g : Nat} {f t : List UInt8} {fo to : Option Addr} {fc tc : Nat}
    (hg : W.heap[g]? = some (.cells (rwC fo f.length fc to t.length tc).toArray 51 (0, 0))) (h1 : Own b8 5 W.heap fo fc f) (h3 : ¬ blk fo g) (h6 : D g) (h7 : ∀ k, blk fo k → D k)
    (hg2 : w2.heap[g]? = some (.cells (rwC fo f.length fc none 0 0).toArray 51 (0, 0))) (hf2 : Foot (· = g) W w2) :
    RwO D w2.heap g f [] ∧ Foot D W w2 :=
  ⟨⟨fo, fc, none, 0, hg2, h1.keep hf2 (fun a ha h => h3 ⟨a, ha, h⟩), Own.nil, h3, (fun ⟨a, ha, _⟩ => by cases ha), Ap.none_right, h6, h7, (fun k ⟨a, ha, _⟩ => by cases ha)⟩, hf2.mono (fun k h => by have h : k = g := h; subst h; exact h6)⟩
theorem cutW_snoc (f t : List UInt8) (x : UInt8) : cutW f (t ++ [x]) = if ((cutW f t).2 ++ [x]).length = 128 then ((cutW f t).1 ++ (putS ((cutW f t).2 ++ [x])).1, []) else ((cutW f t).1, (cutW f t).2 ++ [x]) := by
  have h := cutW_rest f t
  rw [cutW_app]
  split
  · rename_i h1; rw [cutW_full h1]
  · rename_i h1; rw [cutW_small (by rw [List.length_append] at h1 ⊢; simp at h1 ⊢; omega)]
theorem tk_snoc {b : List UInt8} {i : Nat} (h : i < b.length) : b.take (i + 1) = b.take i ++ [b.getD i 0] := by
  rw [List.take_succ_eq_append_getElem h, List.getD, List.getElem?_eq_getElem h]; rfl

set_option maxHeartbeats 2000000 in
theorem rmadd_ok (D : Nat → Prop) (g : Nat) (f t : List UInt8) (bo : Option Addr) (bc : Nat) (b : List UInt8) (W : World) (hM : RwO D W.heap g f t) (hD : ∀ k, W.heap.size ≤ k → D k) (hv : Vw b8 W.heap bo bc b) (hbD : b ≠ [] → ∀ k, blk bo k → ¬ D k) (htl : t.length < 128) (hb : f.length + 2 * (t.length + b.length) ≤ 1099511627776) :
    Calls Try.prog 27 [.pointer (some ⟨g, 0, none⟩), .slice bo b.length bc].toArray W
      (Ret fun v w' => v = .int .i64 (256 * f.length + t.length : Nat) ∧ RwO D w'.heap g (cutW f (t ++ b)).1 (cutW f (t ++ b)).2 ∧ Foot D W w') := by
  have hM0 := hM
  obtain ⟨fo, fc, to, tc, hg, h1, h2, h3, h4, h5, h6, h7, h8⟩ := hM
  have hvl := hv.len63
  refine calls_of_sc 67 [(0, _), (1, _)] Try.func27 rfl rfl rfl (enter_slots ⟨rfl, rfl, trivial⟩) ?_
  refine Sc.seq ?_
  refine Sc.region ?_
  refine Sl.calm (Cm.assign rfl) rfl ?_
  refine Sl.nil ?_
  refine At.go ?_
  refine Sc.seq ?_
  refine Sc.quiet 13 [0, 1, 2, 3, 4, 5, 6, 7, 8, 9, 10, 11, 12] mixed (by kernel_rfl) ?_
  refine Sx.calm rfl rfl (Cm.move rfl) rfl ?_
  refine Sx.calm rfl rfl (Cm.nilCheck rfl) rfl ?_
  refine Sx.calm rfl rfl (Cm.field fld51_0 rfl) rfl ?_
  refine Sx.calm rfl rfl (Cm.ld sca22 rfl (cellF hg rfl)) rfl ?_
  refine Sx.calm rfl rfl (Cm.len sl22 rfl) rfl ?_
  refine Sx.calm rfl rfl (Cm.mul64 rfl rfl (by omega)) rfl ?_
  refine Sx.calm rfl rfl (Cm.move rfl) rfl ?_
  refine Sx.calm rfl rfl (Cm.nilCheck rfl) rfl ?_
  refine Sx.calm rfl rfl (Cm.field fld51_1 rfl) rfl ?_
  refine Sx.calm rfl rfl (Cm.ld sca22 rfl (cellF hg rfl)) rfl ?_
  refine Sx.calm rfl rfl (Cm.len sl22 rfl) rfl ?_
  refine Sx.calm rfl rfl (Cm.add64 rfl rfl (by omega)) rfl ?_
  refine Sx.calm rfl rfl (Cm.assign rfl) rfl ?_
  refine Sx.nil ?_
  refine At.weak [(0, _), (1, _), (4, _), (5, _)] ⟨rfl, rfl, rfl, rfl, trivial⟩ ?_
  refine At.go ?_
  refine Sc.seq ?_
  refine Sc.seq ?_
  refine Sc.region ?_
  refine Sl.calm (Cm.assign rfl) rfl ?_
  refine Sl.nil ?_
  refine At.go ?_
  refine Sc.block ?_
  refine Sc.loop (β := Nat × (List UInt8 × List UInt8)) (fun ⟨i, ⟨f9, t9⟩⟩ => [(0, .pointer (some ⟨g, 0, none⟩)), (1, .slice bo b.length bc), (5, .int .i64 (256 * f.length + t.length : Nat)), (6, .int .i64 i)]) (fun ⟨i, ⟨f9, t9⟩⟩ w => i ≤ b.length ∧ cutW f (t ++ b.take i) = (f9, t9) ∧ RwO D w.heap g f9 t9 ∧ Foot D W w) (fun ⟨i, ⟨f9, t9⟩⟩ => b.length - i) ⟨0, ⟨f, t⟩⟩ ⟨rfl, rfl, rfl, rfl, trivial⟩ ⟨Nat.zero_le _, by rw [List.take_zero, List.append_nil, cutW_small htl], hM0, (Foot.refl _ _).draws 1⟩ ?_
  rintro ⟨i, ⟨f9, t9⟩⟩ w3 ⟨hi, hcw, hM3, hF3⟩
  obtain ⟨hoA, hcap, ko, kc, kg, k1, k2, k3, k4, k5, k6, k7, k8⟩ := hM3
  have hM3 : RwO D w3.heap g f9 t9 := ⟨hoA, hcap, ko, kc, kg, k1, k2, k3, k4, k5, k6, k7, k8⟩
  have hv9 : Vw b8 w3.heap bo bc b := hv.keepN hF3 (fun hne a ha h => hbD hne _ ⟨a, ha, rfl⟩ h)
  refine Sc.seq ?_
  refine Sc.seq ?_
  refine Sc.region ?_
  refine Sl.calm (Cm.move rfl) rfl ?_
  refine Sl.calm (Cm.move rfl) rfl ?_
  refine Sl.calm (Cm.len sl22 rfl) rfl ?_
  refine Sl.fork (Cm.lss rfl rfl) rfl (fun h24 => ?_) (fun h24 => ?_)
  ·
    have hib : i < b.length := by omega
    have hsn := cutW_snoc f (t ++ b.take i) (b.getD i 0)
    rw [List.append_assoc, ← tk_snoc hib, hcw] at hsn
    have hsn : cutW f (t ++ b.take (i + 1)) = if (t9 ++ [b.getD i 0]).length = 128 then (f9 ++ (putS (t9 ++ [b.getD i 0])).1, []) else (f9, t9 ++ [b.getD i 0]) := hsn
    have hln := cutW_len f (t ++ b.take i)
    rw [hcw, List.length_append, List.length_take] at hln
    have hrl := cutW_rest f (t ++ b.take i)
    rw [hcw] at hrl
    have hln : f9.length + 2 * t9.length ≤ f.length + 2 * (t.length + min i b.length) := hln
    have hrl : t9.length < 128 := hrl
    refine Sl.nil ?_
    refine At.weak [(0, _), (1, _), (5, _), (6, _), (24, _)] ⟨rfl, rfl, rfl, rfl, rfl, trivial⟩ ?_
    refine At.go ?_
    refine Sc.cond_t rfl ?_
    refine Sc.skip ?_
    refine At.go ?_
    refine Sc.cut (β := List UInt8 × List UInt8) (fun ⟨f8, t8⟩ => [(0, .pointer (some ⟨g, 0, none⟩)), (1, .slice bo b.length bc), (5, .int .i64 (256 * f.length + t.length : Nat)), (6, .int .i64 i)]) (fun ⟨f8, t8⟩ w => cutW f (t ++ b.take (i + 1)) = (f8, t8) ∧ RwO D w.heap g f8 t8 ∧ Foot D W w) ?_ ?_
    ·
      refine Sc.block ?_
      refine Sc.seq ?_
      refine Sc.draw 13 (fun H => Vw b8 H bo bc b ∧ H[g]? = some (.cells (rwC hoA f9.length hcap ko t9.length kc).toArray 51 (0, 0))) [9, 10, 13] [0, 1, 2, 3, 4, 5, 6, 7, 8, 9, 10, 11, 12, 13] mixed (by kernel_rfl) (⟨hv9, kg⟩) ?_
      refine Sx.calm rfl rfl (Cm.move rfl) rfl ?_
      refine Sx.calm rfl rfl (Cm.move rfl) rfl ?_
      refine Sx.calm rfl rfl (Cm.nilCheck rfl) rfl ?_
      refine Sx.calm rfl rfl (Cm.field fld51_1 rfl) rfl ?_
      refine Sx.calm rfl rfl (Cm.load sca22 rfl (fun H hH => cellF hH.2 rfl)) rfl ?_
      refine Sx.calm rfl rfl (Cm.move rfl) rfl ?_
      refine Sx.calm rfl rfl (Cm.move rfl) rfl ?_
      refine Sx.calm rfl rfl (Cm.indexAddr1 sl22 rfl rfl hv.non (by omega)) rfl ?_
      refine Sx.calm rfl rfl (Cm.load sca5 rfl (fun H hH => hH.1.gd 0 hib)) rfl ?_
      refine Sx.eff rfl rfl (Sl.lit1 (enc := b8) (u := b.getD i 0) sl22 (b8_one _) rfl rfl ?_)
      intro w4 ho4 hs4 hf4
      have hf4 := hf4.undraw
      refine Sx.on (by exact ⟨(hv9).grow hf4, hf4.obj kg id⟩) ?_
      refine Sx.eff rfl rfl (Sl.append b8_one sl22 rfl rfl (k2.grow hf4) ho4.vw (by simp only [List.length_singleton]; omega) (by simp only [List.length_singleton]; unfold maxLen; omega) rfl ?_)
      intro to5 tc5 w5 ho5 hf5 hr5 hn5
      have hg5 := hf5.obj (hf4.obj kg id) k4
      have hv5 : Vw b8 w5.heap bo bc b := (hv9.grow hf4).keepN hf5 (fun hne a ha h => hbD hne _ ⟨a, ha, rfl⟩ (k8 _ h))
      refine Sx.on (by exact ⟨hv5, hg5⟩) ?_
      refine Sx.calm rfl rfl (Cm.nilCheck rfl) rfl ?_
      refine Sx.calm rfl rfl (Cm.field fld51_1 rfl) rfl ?_
      refine Sx.eff rfl rfl (Sl.store sca22 rfl rfl rfl hg5 rfl ?_)
      intro w6 hg6 hs6 hf6
      refine Sx.last rfl ?_
      obtain ⟨hM6, hF6⟩ := rw_rest (hf_lt hf4 (hf_lt hF3 hD)) (hf4.obj kg id) (k1.grow hf4) k3 k4 k5 k6 k7 k8 ho5 hf5 hr5 hg6 hf6
      have hF6 := hf4.any.trans hF6
      obtain ⟨jo, jc, lo, lc, jg, j1, j2, j3, j4, j5, j6, j7, j8⟩ := hM6
      have hz6 := hF6.size
      refine Sx.nil ?_
      refine At.weak [(0, _), (1, _), (5, _), (6, _), (24, _)] ⟨rfl, rfl, rfl, rfl, rfl, trivial⟩ ?_
      refine At.go ?_
      refine Sc.seq ?_
      refine Sc.region ?_
      refine Sl.calm (Cm.move rfl) rfl ?_
      refine Sl.calm (Cm.nilCheck rfl) rfl ?_
      refine Sl.calm (Cm.field fld51_1 rfl) rfl ?_
      refine Sl.calm (Cm.ld sca22 rfl (cellF jg rfl)) rfl ?_
      refine Sl.calm (Cm.len sl22 rfl) rfl ?_
      refine Sl.fork (Cm.eql rfl rfl) rfl (fun h45 => ?_) (fun h45 => ?_)
      ·
        rw [if_pos (by omega)] at hsn
        have hps := putS_len (b := t9 ++ [b.getD i 0]) (by omega)
        refine Sl.nil ?_
        refine At.weak [(0, _), (1, _), (5, _), (6, _), (24, _), (45, _)] ⟨rfl, rfl, rfl, rfl, rfl, rfl, trivial⟩ ?_
        refine At.go ?_
        refine Sc.cond_t rfl ?_
        refine Sc.seq ?_
        refine Sc.region ?_
        refine Sl.calm (Cm.move rfl) rfl ?_
        refine Sl.calm (Cm.nilCheck rfl) rfl ?_
        refine Sl.calm (Cm.field fld51_1 rfl) rfl ?_
        refine Sl.calm (Cm.ld sca22 rfl (cellF jg rfl)) rfl ?_
        refine Sl.call fn18 rfl (rfput_ok lo lc (t9 ++ [b.getD i 0]) w6 j2.vw) rfl ?_
        rintro _ w7 ⟨o7, c7, rfl, ho7, hfr7, hf7⟩
        have hg7 := hf7.obj jg id
        refine Sl.calm (Cm.move rfl) rfl ?_
        refine Sl.calm (Cm.extract rfl rfl) rfl ?_
        refine Sl.calm (Cm.extract rfl rfl) rfl ?_
        refine Sl.calm (Cm.assign rfl) rfl ?_
        refine Sl.calm (Cm.assign rfl) rfl ?_
        refine Sl.nil ?_
        refine At.weak [(0, _), (1, _), (5, _), (6, _), (7, _), (24, _), (45, _)] ⟨rfl, rfl, rfl, rfl, rfl, rfl, rfl, trivial⟩ ?_
        refine At.go ?_
        refine Sc.seq ?_
        refine Sc.region ?_
        refine Sl.calm (Cm.move rfl) rfl ?_
        refine Sl.calm (Cm.move rfl) rfl ?_
        refine Sl.calm (Cm.nilCheck rfl) rfl ?_
        refine Sl.calm (Cm.field fld51_0 rfl) rfl ?_
        refine Sl.calm (Cm.ld sca22 rfl (cellF hg7 rfl)) rfl ?_
        refine Sl.calm (Cm.move rfl) rfl ?_
        refine Sl.append b8_one sl22 rfl rfl (j1.grow hf7) ho7.vw (by omega) (by unfold maxLen; omega) rfl ?_
        intro fo8 fc8 w8 ho8 hf8 hr8 hn8
        have hg8 := hf8.obj hg7 j3
        refine Sl.calm (Cm.nilCheck rfl) rfl ?_
        refine Sl.calm (Cm.field fld51_0 rfl) rfl ?_
        refine Sl.store sca22 rfl rfl rfl hg8 rfl ?_
        intro w9 hg9 hs9 hf9
        obtain ⟨hM9, hF9⟩ := rw_full (hf_lt hf7 (hf_lt hF6 (hf_lt hF3 hD))) hg7 (j2.grow hf7) j3 j4 j5 j6 j7 j8 ho8 hf8 hr8 hg9 hf9
        obtain ⟨io, ic, mo, mc, ig, i1, i2, i3, i4, i5, i6, i7, i8⟩ := hM9
        refine Sl.nil ?_
        refine At.weak [(0, _), (1, _), (5, _), (6, _), (7, _), (24, _), (45, _)] ⟨rfl, rfl, rfl, rfl, rfl, rfl, rfl, trivial⟩ ?_
        refine At.go ?_
        refine Sc.region ?_
        refine Sl.calm (Cm.move rfl) rfl ?_
        refine Sl.calm (Cm.nilCheck rfl) rfl ?_
        refine Sl.calm (Cm.field fld51_1 rfl) rfl ?_
        refine Sl.store sca22 rfl rfl rfl ig rfl ?_
        intro w10 hg10 hs10 hf10
        obtain ⟨hM10, hF10⟩ := rw_nil ig i1 i3 i6 i7 hg10 hf10
        refine Sl.nil ?_
        refine At.block_normal ?_
        exact At.cut ⟨f9 ++ (putS (t9 ++ [b.getD i 0])).1, []⟩ ⟨rfl, rfl, rfl, rfl, trivial⟩ ⟨hsn, hM10, (((hF3.trans hF6).trans hf7.any).trans hF9).trans hF10⟩
      ·
        rw [if_neg (by omega)] at hsn
        refine Sl.nil ?_
        refine At.weak [(0, _), (1, _), (5, _), (6, _), (24, _), (45, _)] ⟨rfl, rfl, rfl, rfl, rfl, rfl, trivial⟩ ?_
        refine At.go ?_
        refine Sc.cond_f rfl ?_
        refine Sc.skip ?_
        refine At.block_normal ?_
        exact At.cut ⟨f9, t9 ++ [b.getD i 0]⟩ ⟨rfl, rfl, rfl, rfl, trivial⟩ ⟨hsn, ⟨jo, jc, lo, lc, jg, j1, j2, j3, j4, j5, j6, j7, j8⟩, hF3.trans hF6⟩
    ·
      rintro ⟨f8, t8⟩ w12 ⟨hcw12, hM12, hF12⟩
      refine Sc.region ?_
      refine Sl.calm (Cm.move rfl) rfl ?_
      refine Sl.calm (Cm.add64 rfl rfl (by omega)) rfl ?_
      refine Sl.calm (Cm.assign rfl) rfl ?_
      refine Sl.nil ?_
      exact At.again ⟨i + 1, ⟨f8, t8⟩⟩ ⟨rfl, rfl, rfl, rfl, trivial⟩ ⟨by omega, hcw12, hM12, hF12⟩ (by show b.length - (i + 1) < b.length - i; omega)
  ·
    have hib : i = b.length := by omega
    subst hib
    rw [List.take_length] at hcw
    refine Sl.nil ?_
    refine At.weak [(0, _), (1, _), (5, _), (6, _), (24, _)] ⟨rfl, rfl, rfl, rfl, rfl, trivial⟩ ?_
    refine At.go ?_
    refine Sc.cond_f rfl ?_
    refine Sc.exit ?_
    refine At.then_exit ?_
    refine At.then_exit ?_
    refine At.block_hit ?_
    refine At.go ?_
    refine Sc.seq ?_
    refine Sc.region ?_
    refine Sl.calm (Cm.move rfl) rfl ?_
    refine Sl.calm (Cm.assign rfl) rfl ?_
    refine Sl.nil ?_
    refine At.weak [(0, _), (1, _), (4, _), (5, _), (6, _), (24, _)] ⟨rfl, rfl, rfl, rfl, rfl, rfl, trivial⟩ ?_
    refine At.go ?_
    refine Sc.ret ?_
    refine At.ret1 rfl rfl ?_
    rw [hcw]
    exact ⟨_, rfl, rfl, hM3, hF3⟩
set_option maxHeartbeats 1000000 in
theorem rmdone_ok (D : Nat → Prop) (g : Nat) (f t : List UInt8) (W : World) (hM : RwO D W.heap g f t) (hb : f.length ≤ 1099511627000) (htl : t.length < 128) :
    Calls Try.prog 29 [.pointer (some ⟨g, 0, none⟩)].toArray W (Ret (CloneP W (doneW f t))) := by
  obtain ⟨fo, fc, to, tc, hg, h1, h2, h3, h4, h5, h6, h7, h8⟩ := hM
  refine calls_of_sc 30 [(0, _)] Try.func29 rfl rfl rfl (enter_slots ⟨rfl, trivial⟩) ?_
  refine Sc.seq ?_
  refine Sc.region ?_
  refine Sl.calm (Cm.assign rfl) rfl ?_
  refine Sl.nil ?_
  refine At.go ?_
  refine Sc.seq ?_
  refine Sc.region ?_
  refine Sl.lit0 b8 sl22 rfl ?_
  intro w1 ho1 hs1 hf1
  have hg1 := hf1.obj hg id
  refine Sl.calm (Cm.move rfl) rfl ?_
  refine Sl.calm (Cm.nilCheck rfl) rfl ?_
  refine Sl.calm (Cm.field fld51_0 rfl) rfl ?_
  refine Sl.calm (Cm.ld sca22 rfl (cellF hg1 rfl)) rfl ?_
  refine Sl.append b8_one sl22 rfl rfl ho1 (h1.grow hf1).vw (by simp only [List.length_nil]; omega) (by simp only [List.length_nil]; unfold maxLen; omega) rfl ?_
  intro o2 c2 w2 ho2 hf2 hr2 hn2
  rw [List.nil_append] at ho2 ⊢
  have hF2 : Foot nob W w2 := hf1.trans_to hf2 (fr_at _).step
  have hfr2 : Fr W.heap.size o2 := fr_next (fr_at _) hr2 hf1.size
  have hg2 := hF2.obj hg id
  refine Sl.calm (Cm.assign rfl) rfl ?_
  refine Sl.nil ?_
  refine At.weak [(0, _), (2, _), (3, _)] ⟨rfl, rfl, rfl, trivial⟩ ?_
  refine At.go ?_
  refine Sc.seq ?_
  refine Sc.seq ?_
  refine Sc.region ?_
  refine Sl.calm (Cm.move rfl) rfl ?_
  refine Sl.calm (Cm.nilCheck rfl) rfl ?_
  refine Sl.calm (Cm.field fld51_1 rfl) rfl ?_
  refine Sl.calm (Cm.ld sca22 rfl (cellF hg2 rfl)) rfl ?_
  refine Sl.calm (Cm.len sl22 rfl) rfl ?_
  refine Sl.fork (Cm.gtr rfl rfl) rfl (fun h17 => ?_) (fun h17 => ?_)
  ·
    have e : doneW f t = f ++ (putS t).1 := by unfold doneW; rw [if_neg (by omega)]
    have hps := putS_len (b := t) (by omega)
    refine Sl.nil ?_
    refine At.weak [(0, _), (2, _), (3, _), (17, _)] ⟨rfl, rfl, rfl, rfl, trivial⟩ ?_
    refine At.go ?_
    refine Sc.cond_t rfl ?_
    refine Sc.seq ?_
    refine Sc.region ?_
    refine Sl.calm (Cm.move rfl) rfl ?_
    refine Sl.calm (Cm.nilCheck rfl) rfl ?_
    refine Sl.calm (Cm.field fld51_1 rfl) rfl ?_
    refine Sl.calm (Cm.ld sca22 rfl (cellF hg2 rfl)) rfl ?_
    refine Sl.call fn18 rfl (rfput_ok to tc t w2 (h2.grow hF2).vw) rfl ?_
    rintro _ w3 ⟨o3, c3, rfl, ho3, hfr3, hf3⟩
    refine Sl.calm (Cm.move rfl) rfl ?_
    refine Sl.calm (Cm.extract rfl rfl) rfl ?_
    refine Sl.calm (Cm.extract rfl rfl) rfl ?_
    refine Sl.calm (Cm.assign rfl) rfl ?_
    refine Sl.calm (Cm.assign rfl) rfl ?_
    refine Sl.nil ?_
    refine At.weak [(0, _), (2, _), (3, _), (4, _), (17, _)] ⟨rfl, rfl, rfl, rfl, rfl, trivial⟩ ?_
    refine At.go ?_
    refine Sc.region ?_
    refine Sl.calm (Cm.move rfl) rfl ?_
    refine Sl.calm (Cm.move rfl) rfl ?_
    refine Sl.append b8_one sl22 rfl rfl (ho2.grow hf3) ho3.vw (by omega) (by unfold maxLen; omega) rfl ?_
    intro o4 c4 w4 ho4 hf4 hr4 hn4
    refine Sl.calm (Cm.assign rfl) rfl ?_
    refine Sl.nil ?_
    refine At.weak [(0, _), (2, _), (3, _), (4, _), (17, _)] ⟨rfl, rfl, rfl, rfl, rfl, trivial⟩ ?_
    refine At.go ?_
    refine Sc.seq ?_
    refine Sc.region ?_
    refine Sl.calm (Cm.move rfl) rfl ?_
    refine Sl.calm (Cm.assign rfl) rfl ?_
    refine Sl.nil ?_
    refine At.weak [(0, _), (2, _), (3, _), (4, _), (17, _)] ⟨rfl, rfl, rfl, rfl, rfl, trivial⟩ ?_
    refine At.go ?_
    refine Sc.ret ?_
    refine At.ret1 rfl rfl ?_
    rw [e]
    first
      | exact ⟨_, rfl, o2, c2, rfl, ho2, hfr2, hF2⟩
      | exact ⟨_, rfl, o4, c4, rfl, ho4, fr_next hfr2 hr4 (hF2.trans hf3).size, (hF2.trans hf3).trans_to hf4 hfr2.step⟩
  ·
    have e : doneW f t = f := by unfold doneW; rw [if_pos (by omega)]
    refine Sl.nil ?_
    refine At.weak [(0, _), (2, _), (3, _), (17, _)] ⟨rfl, rfl, rfl, rfl, trivial⟩ ?_
    refine At.go ?_
    refine Sc.cond_f rfl ?_
    refine Sc.skip ?_
    refine At.go ?_
    refine Sc.seq ?_
    refine Sc.region ?_
    refine Sl.calm (Cm.move rfl) rfl ?_
    refine Sl.calm (Cm.assign rfl) rfl ?_
    refine Sl.nil ?_
    refine At.weak [(0, _), (2, _), (3, _), (17, _)] ⟨rfl, rfl, rfl, rfl, trivial⟩ ?_
    refine At.go ?_
    refine Sc.ret ?_
    refine At.ret1 rfl rfl ?_
    rw [e]
    first
      | exact ⟨_, rfl, o2, c2, rfl, ho2, hfr2, hF2⟩
      | exact ⟨_, rfl, o4, c4, rfl, ho4, fr_next hfr2 hr4 (hF2.trans hf3).size, (hF2.trans hf3).trans_to hf4 hfr2.step⟩
end Go.Proofs.Ytlpfahmkjgompaa
