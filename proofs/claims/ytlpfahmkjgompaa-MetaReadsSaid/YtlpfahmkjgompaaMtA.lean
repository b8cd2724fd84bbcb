/- meta: the program's writer. No condition beyond the bounds that each states. -/
import Derived.Test.YtlpfahmkjgompaaMtP
import Derived.Test.YtlpfahmkjgompaaGc
namespace Go.Proofs.Ytlpfahmkjgompaa
open Go Go.RowKit
set_option linter.unusedVariables false

def mwC (p : Nat) (fo : Option Addr) (fn fc : Nat) (to : Option Addr) (tn tc : Nat) : List Value := [.pointer (some ⟨p, 0, none⟩), .slice fo fn fc, .slice to tn tc]
theorem mwC_one (p : Nat) (fo : Option Addr) (fn fc : Nat) (to : Option Addr) (tn tc : Nat) : ∀ v ∈ mwC p fo fn fc to tn tc, v.oneCell' = true := by
  intro v hv
  simp only [mwC, List.mem_cons, List.not_mem_nil, or_false] at hv
  rcases hv with rfl | rfl | rfl <;> rfl
/-- a writer in memory: its table, its frames, its rest; its blocks are of D -/
def MwO (D : Nat → Prop) (H : Array Obj) (g p : Nat) (f t : List UInt8) : Prop :=
  ∃ fo fc to tc, H[g]? = some (.cells (mwC p fo f.length fc to t.length tc).toArray 92 (0, 0)) ∧ Own b8 5 H fo fc f ∧ Own b8 5 H to tc t ∧ ¬ blk fo g ∧ ¬ blk to g ∧ Ap fo to ∧ D g ∧ (∀ k, blk fo k → D k) ∧ (∀ k, blk to k → D k) ∧ TbV H p ∧ ¬ D p
section
variable {D : Nat → Prop} {g p : Nat} {f t : List UInt8}
theorem MwO.lt {H : Array Obj} (h : MwO D H g p f t) : g < H.size := by obtain ⟨fo, fc, to, tc, hg, _⟩ := h; exact (Array.getElem?_eq_some_iff.1 hg).1
theorem MwO.keep {S : Nat → Prop} {w w' : World} (h : MwO D w.heap g p f t) (hf : Foot S w w') (hs : ∀ k, D k → ¬ S k) (hp : ¬ S p) : MwO D w'.heap g p f t := by
  obtain ⟨fo, fc, to, tc, hg, h1, h2, h3, h4, h5, h6, h7, h8, h9, h10⟩ := h
  exact ⟨fo, fc, to, tc, hf.obj hg (hs g h6), h1.keep hf (fun a ha => hs _ (h7 _ ⟨a, ha, rfl⟩)), h2.keep hf (fun a ha => hs _ (h8 _ ⟨a, ha, rfl⟩)), h3, h4, h5, h6, h7, h8, hf.obj h9 hp, h10⟩
theorem MwO.grow {w w' : World} (h : MwO D w.heap g p f t) (hf : Foot nob w w') : MwO D w'.heap g p f t := h.keep hf (fun _ _ => id) id
theorem MwO.mono {D' : Nat → Prop} {H : Array Obj} (h : MwO D H g p f t) (hd : ∀ k, D k → D' k) (hp : ¬ D' p) : MwO D' H g p f t := by
  obtain ⟨fo, fc, to, tc, hg, h1, h2, h3, h4, h5, h6, h7, h8, h9, h10⟩ := h
  exact ⟨fo, fc, to, tc, hg, h1, h2, h3, h4, h5, hd _ h6, fun k hk => hd _ (h7 k hk), fun k hk => hd _ (h8 k hk), h9, hp⟩
theorem MwO.shrink {S : Nat → Prop} {w w' : World} (h : MwO D w.heap g p f t) (hf : Foot S w w') (hs : ∀ k, D k → ¬ S k) (hp : ¬ S p) : MwO (fun k => D k ∧ (k < w.heap.size ∨ w'.heap.size ≤ k)) w'.heap g p f t := by
  have hk := h.keep hf hs hp
  have hl := h.lt
  obtain ⟨fo, fc, to, tc, hg, h1, h2, h3, h4, h5, h6, h7, h8, h9, h10⟩ := h
  exact ⟨fo, fc, to, tc, hf.obj hg (hs g h6), h1.keep hf (fun a ha => hs _ (h7 _ ⟨a, ha, rfl⟩)), h2.keep hf (fun a ha => hs _ (h8 _ ⟨a, ha, rfl⟩)), h3, h4, h5, ⟨h6, .inl hl⟩,
    fun k ⟨a, ha, hb⟩ => ⟨h7 k ⟨a, ha, hb⟩, .inl (by have := h1.lt a ha; omega)⟩, fun k ⟨a, ha, hb⟩ => ⟨h8 k ⟨a, ha, hb⟩, .inl (by have := h2.lt a ha; omega)⟩, hf.obj h9 hp, fun h => h10 h.1⟩
end

theorem mnew_ok (p : Nat) (W : World) (ht : TbV W.heap p) :
    Calls Try.prog 25 [.pointer (some ⟨p, 0, none⟩)].toArray W (Ret fun v w' => v = .pointer (some ⟨W.heap.size, 0, none⟩) ∧ MwO (fun k => W.heap.size ≤ k) w'.heap W.heap.size p [] [] ∧ Foot nob W w') := by
  refine calls_of_sc 6 [(0, _)] Try.func25 rfl rfl rfl (enter_slots ⟨rfl, trivial⟩) ?_
  refine Sc.seq ?_
  refine Sc.region ?_
  refine Sl.calm (Cm.assign rfl) rfl ?_
  refine Sl.nil ?_
  refine At.go ?_
  refine Sc.seq ?_
  refine Sc.region ?_
  refine Sl.calm (Cm.move rfl) rfl ?_
  refine Sl.calm (Cm.build (cs := #[.pointer (some ⟨p, 0, none⟩), .slice none 0 0, .slice none 0 0]) plc92 zc92 rfl (by kernel_rfl)) rfl ?_
  refine Sl.box rfl rfl ?_
  intro w1 hg1 hs1 hf1
  refine Sl.calm (Cm.assign rfl) rfl ?_
  refine Sl.nil ?_
  refine At.weak [(0, _), (2, _)] ⟨rfl, rfl, trivial⟩ ?_
  refine At.go ?_
  refine Sc.ret ?_
  refine At.ret1 rfl rfl ?_
  have hpl := (Array.getElem?_eq_some_iff.1 ht).1
  exact ⟨_, rfl, rfl, ⟨none, 0, none, 0, hg1, Own.nil, Own.nil, (fun ⟨a, ha, _⟩ => by cases ha), (fun ⟨a, ha, _⟩ => by cases ha), Ap.none_left, Nat.le_refl _, (fun k ⟨a, ha, _⟩ => by cases ha), (fun k ⟨a, ha, _⟩ => by cases ha), hf1.obj ht id, (by omega)⟩, hf1⟩

/-- the row behind: w.rest = append(w.rest, b..) -/
theorem mw_rest {D : Nat → Prop} {W w1 w2 : World} {g p : Nat} {f t t' : List UInt8} {fo to to' : Option Addr} {fc tc tc' : Nat} (hD : ∀ k, W.heap.size ≤ k → D k)
    (hg : W.heap[g]? = some (.cells (mwC p fo f.length fc to t.length tc).toArray 92 (0, 0))) (h1 : Own b8 5 W.heap fo fc f) (h3 : ¬ blk fo g) (h4 : ¬ blk to g) (h5 : Ap fo to) (h6 : D g) (h7 : ∀ k, blk fo k → D k) (h8 : ∀ k, blk to k → D k) (h9 : TbV W.heap p) (h10 : ¬ D p)
    (ho : Own b8 5 w1.heap to' tc' t') (hf1 : Foot (blk to) W w1) (hr : ∀ a, to' = some a → to = some a ∨ W.heap.size ≤ a.block)
    (hg2 : w2.heap[g]? = some (.cells (mwC p fo f.length fc to' t'.length tc').toArray 92 (0, 0))) (hf2 : Foot (· = g) w1 w2) :
    MwO D w2.heap g p f t' ∧ Foot D W w2 := by
  have hgl := (Array.getElem?_eq_some_iff.1 hg).1
  have hpl := (Array.getElem?_eq_some_iff.1 h9).1
  have hD1 : Foot D W w1 := hf1.mono h8
  have hD2 : Foot D W w2 := hD1.trans (hf2.mono (fun k h => by have h : k = g := h; subst h; exact h6))
  have hn : ¬ blk to' g := fun ⟨a, ha, hb⟩ => by
    rcases hr a ha with h | h
    · exact h4 ⟨a, h, hb⟩
    · omega
  refine ⟨⟨fo, fc, to', tc', hg2, (h1.keep hf1 (fun a ha ⟨b, hb, h⟩ => h5 a b ha hb h.symm)).keep hf2 (fun a ha h => h3 ⟨a, ha, h⟩), ho.keep hf2 (fun a ha h => hn ⟨a, ha, h⟩), h3, hn, fun a b ha hb e => ?_, h6, h7, fun k ⟨a, ha, hb⟩ => ?_, hD2.obj h9 h10, h10⟩, hD2⟩
  · rcases hr b hb with h | h
    · exact h5 a b ha h e
    · have := h1.lt a ha; omega
  · rcases hr a ha with h | h
    · exact h8 k ⟨a, h, hb⟩
    · exact hD k (by omega)
/-- w.full = append(w.full, x..) -/
theorem mw_full {D : Nat → Prop} {W w1 w2 : World} {g p : Nat} {f t f' : List UInt8} {fo to fo' : Option Addr} {fc tc fc' : Nat} (hD : ∀ k, W.heap.size ≤ k → D k)
    (hg : W.heap[g]? = some (.cells (mwC p fo f.length fc to t.length tc).toArray 92 (0, 0))) (h2 : Own b8 5 W.heap to tc t) (h3 : ¬ blk fo g) (h4 : ¬ blk to g) (h5 : Ap fo to) (h6 : D g) (h7 : ∀ k, blk fo k → D k) (h8 : ∀ k, blk to k → D k) (h9 : TbV W.heap p) (h10 : ¬ D p)
    (ho : Own b8 5 w1.heap fo' fc' f') (hf1 : Foot (blk fo) W w1) (hr : ∀ a, fo' = some a → fo = some a ∨ W.heap.size ≤ a.block)
    (hg2 : w2.heap[g]? = some (.cells (mwC p fo' f'.length fc' to t.length tc).toArray 92 (0, 0))) (hf2 : Foot (· = g) w1 w2) :
    MwO D w2.heap g p f' t ∧ Foot D W w2 := by
  have hgl := (Array.getElem?_eq_some_iff.1 hg).1
  have hpl := (Array.getElem?_eq_some_iff.1 h9).1
  have hD1 : Foot D W w1 := hf1.mono h7
  have hD2 : Foot D W w2 := hD1.trans (hf2.mono (fun k h => by have h : k = g := h; subst h; exact h6))
  have hn : ¬ blk fo' g := fun ⟨a, ha, hb⟩ => by
    rcases hr a ha with h | h
    · exact h3 ⟨a, h, hb⟩
    · omega
  refine ⟨⟨fo', fc', to, tc, hg2, ho.keep hf2 (fun a ha h => hn ⟨a, ha, h⟩), (h2.keep hf1 (fun a ha ⟨b, hb, h⟩ => h5 b a hb ha h)).keep hf2 (fun a ha h => h4 ⟨a, ha, h⟩), hn, h4, fun a b ha hb e => ?_, h6, fun k ⟨a, ha, hb⟩ => ?_, h8, hD2.obj h9 h10, h10⟩, hD2⟩
  · rcases hr a ha with h | h
    · exact h5 a b h hb e
    · have := h2.lt b hb; omega
  · rcases hr a ha with h | h
    · exact h7 k ⟨a, h, hb⟩
    · exact hD k (by omega)
/-- w.rest = a new row -/
theorem mw_new {D : Nat → Prop} {W w1 w2 : World} {g p : Nat} {f t t' : List UInt8} {fo to to' : Option Addr} {fc tc tc' : Nat} (hD : ∀ k, W.heap.size ≤ k → D k)
    (hg : W.heap[g]? = some (.cells (mwC p fo f.length fc to t.length tc).toArray 92 (0, 0))) (h1 : Own b8 5 W.heap fo fc f) (h3 : ¬ blk fo g) (h6 : D g) (h7 : ∀ k, blk fo k → D k) (h9 : TbV W.heap p) (h10 : ¬ D p)
    (ho : Own b8 5 w1.heap to' tc' t') (hf1 : Foot nob W w1) (hr : Fr W.heap.size to')
    (hg2 : w2.heap[g]? = some (.cells (mwC p fo f.length fc to' t'.length tc').toArray 92 (0, 0))) (hf2 : Foot (· = g) w1 w2) :
    MwO D w2.heap g p f t' ∧ Foot D W w2 := by
  have hgl := (Array.getElem?_eq_some_iff.1 hg).1
  have hpl := (Array.getElem?_eq_some_iff.1 h9).1
  have hD2 : Foot D W w2 := (hf1.any).trans (hf2.mono (fun k h => by have h : k = g := h; subst h; exact h6))
  have hn : ¬ blk to' g := fun ⟨a, ha, hb⟩ => by have := hr a ha; omega
  exact ⟨⟨fo, fc, to', tc', hg2, (h1.grow hf1).keep hf2 (fun a ha h => h3 ⟨a, ha, h⟩), ho.keep hf2 (fun a ha h => hn ⟨a, ha, h⟩), h3, hn, fun a b ha hb e => (by have := h1.lt a ha; have := hr b hb; omega), h6, h7, fun k ⟨a, ha, hb⟩ => hD k (by have := hr a ha; omega), hD2.obj h9 h10, h10⟩, hD2⟩

set_option maxHeartbeats 2000000 in
theorem madd_ok (D : Nat → Prop) (g p : Nat) (f t : List UInt8) (bo : Option Addr) (bc : Nat) (b : List UInt8) (W : World) (hM : MwO D W.heap g p f t) (hD : ∀ k, W.heap.size ≤ k → D k) (hv : Vw b8 W.heap bo bc b) (hb : f.length + 2 * (t.length + b.length) ≤ 1099511627776) :
    Calls Try.prog 26 [.pointer (some ⟨g, 0, none⟩), .slice bo b.length bc].toArray W
      (Ret fun v w' => v = .int .i64 (256 * f.length + t.length : Nat) ∧ MwO D w'.heap g p (cutW f (t ++ b)).1 (cutW f (t ++ b)).2 ∧ Foot D W w') := by
  have hM0 := hM
  obtain ⟨fo, fc, to, tc, hg, h1, h2, h3, h4, h5, h6, h7, h8, h9, h10⟩ := hM
  refine calls_of_sc 67 [(0, _), (1, _)] Try.func26 rfl rfl rfl (enter_slots ⟨rfl, rfl, trivial⟩) ?_
  refine Sc.seq ?_
  refine Sc.region ?_
  refine Sl.calm (Cm.assign rfl) rfl ?_
  refine Sl.nil ?_
  refine At.go ?_
  refine Sc.seq ?_
  refine Sc.quiet 13 [0, 1, 2, 3, 4, 5, 6, 7, 8, 9, 10, 11, 12] mixed (by kernel_rfl) ?_
  refine Sx.calm rfl rfl (Cm.move rfl) rfl ?_
  refine Sx.calm rfl rfl (Cm.nilCheck rfl) rfl ?_
  refine Sx.calm rfl rfl (Cm.field fld92_1 rfl) rfl ?_
  refine Sx.calm rfl rfl (Cm.ld sca22 rfl (cellF hg rfl)) rfl ?_
  refine Sx.calm rfl rfl (Cm.len sl22 rfl) rfl ?_
  refine Sx.calm rfl rfl (Cm.mul64 rfl rfl (by omega)) rfl ?_
  refine Sx.calm rfl rfl (Cm.move rfl) rfl ?_
  refine Sx.calm rfl rfl (Cm.nilCheck rfl) rfl ?_
  refine Sx.calm rfl rfl (Cm.field fld92_2 rfl) rfl ?_
  refine Sx.calm rfl rfl (Cm.ld sca22 rfl (cellF hg rfl)) rfl ?_
  refine Sx.calm rfl rfl (Cm.len sl22 rfl) rfl ?_
  refine Sx.calm rfl rfl (Cm.add64 rfl rfl (by omega)) rfl ?_
  refine Sx.calm rfl rfl (Cm.assign rfl) rfl ?_
  refine Sx.nil ?_
  refine At.weak [(0, _), (1, _), (4, _), (5, _)] ⟨rfl, rfl, rfl, rfl, trivial⟩ ?_
  refine At.go ?_
  refine Sc.seq ?_
  refine Sc.region ?_
  refine Sl.calm (Cm.move rfl) rfl ?_
  refine Sl.calm (Cm.move rfl) rfl ?_
  refine Sl.calm (Cm.nilCheck rfl) rfl ?_
  refine Sl.calm (Cm.field fld92_2 rfl) rfl ?_
  refine Sl.calm (Cm.ld sca22 rfl (cellF hg rfl)) rfl ?_
  refine Sl.calm (Cm.move rfl) rfl ?_
  refine Sl.append b8_one sl22 rfl rfl h2 hv (by omega) (by unfold maxLen; omega) rfl ?_
  intro to1 tc1 w1 ho1 hf1 hr1 hn1
  have hf1 := hf1.undraw
  have hg1 := hf1.obj hg h4
  refine Sl.calm (Cm.nilCheck rfl) rfl ?_
  refine Sl.calm (Cm.field fld92_2 rfl) rfl ?_
  refine Sl.store sca22 rfl rfl rfl hg1 rfl ?_
  intro w2 hg2 hs2 hf2
  obtain ⟨hM2, hF2⟩ := mw_rest hD hg h1 h3 h4 h5 h6 h7 h8 h9 h10 ho1 hf1 hr1 hg2 hf2
  have hW2 := hF2.size
  refine Sl.nil ?_
  refine At.weak [(0, _), (1, _), (4, _), (5, _)] ⟨rfl, rfl, rfl, rfl, trivial⟩ ?_
  refine At.go ?_
  refine Sc.seq ?_
  refine Sc.block ?_
  refine Sc.loop (β := List UInt8 × List UInt8) (fun ⟨f9, t9⟩ => [(0, .pointer (some ⟨g, 0, none⟩)), (5, .int .i64 (256 * f.length + t.length : Nat))]) (fun ⟨f9, t9⟩ w => cutW f9 t9 = cutW f (t ++ b) ∧ MwO D w.heap g p f9 t9 ∧ Foot D W w ∧ f9.length + 2 * t9.length ≤ 1099511627776) (fun ⟨f9, t9⟩ => t9.length) ⟨f, t ++ b⟩ ⟨rfl, rfl, trivial⟩ ⟨rfl, hM2, hF2, by rw [List.length_append]; omega⟩ ?_
  rintro ⟨f9, t9⟩ w3 ⟨hcw, hM3, hF3, hb3⟩
  obtain ⟨ho, hcap, ko, kc, kg, k1, k2, k3, k4, k5, k6, k7, k8, k9, k10⟩ := hM3
  have hM3 : MwO D w3.heap g p f9 t9 := ⟨ho, hcap, ko, kc, kg, k1, k2, k3, k4, k5, k6, k7, k8, k9, k10⟩
  refine Sc.seq ?_
  refine Sc.seq ?_
  refine Sc.region ?_
  refine Sl.calm (Cm.move rfl) rfl ?_
  refine Sl.calm (Cm.nilCheck rfl) rfl ?_
  refine Sl.calm (Cm.field fld92_2 rfl) rfl ?_
  refine Sl.calm (Cm.ld sca22 rfl (cellF kg rfl)) rfl ?_
  refine Sl.calm (Cm.len sl22 rfl) rfl ?_
  refine Sl.fork (Cm.geq rfl rfl) rfl (fun h34 => ?_) (fun h34 => ?_)
  ·
    have hbig : 128 ≤ t9.length := by omega
    have htk := take_len128 hbig
    have hle3 := k2.vw.le
    have hps := putS_len (b := t9.take 128) (by omega)
    refine Sl.nil ?_
    refine At.weak [(0, _), (5, _), (34, _)] ⟨rfl, rfl, rfl, trivial⟩ ?_
    refine At.go ?_
    refine Sc.cond_t rfl ?_
    refine Sc.skip ?_
    refine At.go ?_
    refine Sc.block ?_
    refine Sc.seq ?_
    refine Sc.draw 15 (fun H => H[g]? = some (.cells (mwC p ho f9.length hcap ko t9.length kc).toArray 92 (0, 0))) [9] [0, 1, 2, 3, 4, 5, 6, 7, 8, 9, 10, 11, 12, 13, 14] mixed (by kernel_rfl) (kg) ?_
    refine Sx.calm rfl rfl (Cm.move rfl) rfl ?_
    refine Sx.calm rfl rfl (Cm.nilCheck rfl) rfl ?_
    refine Sx.calm rfl rfl (Cm.field fld92_0 rfl) rfl ?_
    refine Sx.calm rfl rfl (Cm.load sca32 rfl (fun H hH => cellF hH rfl)) rfl ?_
    refine Sx.calm rfl rfl (Cm.move rfl) rfl ?_
    refine Sx.calm rfl rfl (Cm.nilCheck rfl) rfl ?_
    refine Sx.calm rfl rfl (Cm.field fld92_2 rfl) rfl ?_
    refine Sx.calm rfl rfl (Cm.load sca22 rfl (fun H hH => cellF hH rfl)) rfl ?_
    refine Sx.calm rfl rfl (Cm.ofEq (u := .slice ko (t9.take 128).length kc) (Cm.sliceH sl22 rfl rfl (by omega)) (by rw [cutAo_zero, htk]; rfl)) rfl ?_
    refine Sx.eff rfl rfl (Sl.call fn17 rfl (fput_ok p ko kc (t9.take 128) _ k9 (k2.vw.take 128)) rfl ?_)
    rintro _ w4 ⟨o4, c4, rfl, ho4, hfr4, hf4⟩
    refine Sx.on (by exact hf4.undraw.obj kg id) ?_
    have hf4 := hf4.undraw
    have hz4 := hf4.size
    have hg4 := hf4.obj kg id
    refine Sx.calm rfl rfl (Cm.move rfl) rfl ?_
    refine Sx.calm rfl rfl (Cm.extract rfl rfl) rfl ?_
    refine Sx.calm rfl rfl (Cm.extract rfl rfl) rfl ?_
    refine Sx.calm rfl rfl (Cm.assign rfl) rfl ?_
    refine Sx.calm rfl rfl (Cm.assign rfl) rfl ?_
    refine Sx.nil ?_
    refine At.weak [(0, _), (5, _), (6, _), (34, _)] ⟨rfl, rfl, rfl, rfl, trivial⟩ ?_
    refine At.go ?_
    refine Sc.seq ?_
    refine Sc.region ?_
    refine Sl.calm (Cm.move rfl) rfl ?_
    refine Sl.calm (Cm.move rfl) rfl ?_
    refine Sl.calm (Cm.nilCheck rfl) rfl ?_
    refine Sl.calm (Cm.field fld92_1 rfl) rfl ?_
    refine Sl.calm (Cm.ld sca22 rfl (cellF hg4 rfl)) rfl ?_
    refine Sl.calm (Cm.move rfl) rfl ?_
    refine Sl.append b8_one sl22 rfl rfl (k1.grow hf4) ho4.vw (by omega) (by unfold maxLen; omega) rfl ?_
    intro fo5 fc5 w5 ho5 hf5 hr5 hn5
    have hg5 := hf5.obj hg4 k3
    refine Sl.calm (Cm.nilCheck rfl) rfl ?_
    refine Sl.calm (Cm.field fld92_1 rfl) rfl ?_
    refine Sl.store sca22 rfl rfl rfl hg5 rfl ?_
    intro w6 hg6 hs6 hf6
    obtain ⟨hM6, hF6⟩ := mw_full (hf_lt hf4 (hf_lt hF3 hD)) hg4 (k2.grow hf4) k3 k4 k5 k6 k7 k8 (hf4.obj k9 id) k10 ho5 hf5 hr5 hg6 hf6
    obtain ⟨jo, jc, lo, lc, jg, j1, j2, j3, j4, j5, j6, j7, j8, j9, j10⟩ := hM6
    have hz6 := hF6.size
    have hlej := j2.vw.le
    have hcl : (t9.drop 128).length = t9.length - 128 := List.length_drop
    refine Sl.nil ?_
    refine At.weak [(0, _), (5, _), (6, _), (34, _)] ⟨rfl, rfl, rfl, rfl, trivial⟩ ?_
    refine At.go ?_
    refine Sc.region ?_
    refine Sl.calm (Cm.move rfl) rfl ?_
    refine Sl.calm (Cm.move rfl) rfl ?_
    refine Sl.calm (Cm.nilCheck rfl) rfl ?_
    refine Sl.calm (Cm.field fld92_2 rfl) rfl ?_
    refine Sl.calm (Cm.ld sca22 rfl (cellF jg rfl)) rfl ?_
    refine Sl.calm (Cm.ofEq (u := .slice (cutAo lo lc 128 1) (t9.drop 128).length (lc - 128)) (Cm.sliceL sl22 rfl rfl (by omega)) (by rw [hcl]; rfl)) rfl ?_
    refine Sl.call fn53 rfl (sclone_ok (cutAo lo lc 128 1) (lc - 128) (t9.drop 128) w6 (by have := j2.vw.cut (l := 128) (h := t9.length) (m := lc) (by omega) (by omega) (by omega) (Nat.le_refl _); rwa [List.take_of_length_le (by omega)] at this) (by rw [hcl]; omega)) rfl ?_
    rintro _ w7 ⟨o7, c7, rfl, ho7, hfr7, hf7⟩
    have hg7 := hf7.obj jg id
    refine Sl.calm (Cm.nilCheck rfl) rfl ?_
    refine Sl.calm (Cm.field fld92_2 rfl) rfl ?_
    refine Sl.store sca22 rfl rfl rfl hg7 rfl ?_
    intro w8 hg8 hs8 hf8
    obtain ⟨hM8, hF8⟩ := mw_new (hf_lt hF6 (hf_lt hf4 (hf_lt hF3 hD))) jg j1 j3 j6 j7 j9 j10 ho7 hf7 hfr7 hg8 hf8
    refine Sl.nil ?_
    refine At.block_normal ?_
    exact At.again ⟨f9 ++ (putS (t9.take 128)).1, t9.drop 128⟩ ⟨rfl, rfl, trivial⟩ ⟨by rw [← cutW_big hbig]; exact hcw, hM8, ((hF3.trans hf4.any).trans hF6).trans hF8, by rw [List.length_append, hcl]; omega⟩ (by show (t9.drop 128).length < t9.length; omega)
  ·
    have hsm : t9.length < 128 := by omega
    refine Sl.nil ?_
    refine At.weak [(0, _), (5, _), (34, _)] ⟨rfl, rfl, rfl, trivial⟩ ?_
    refine At.go ?_
    refine Sc.cond_f rfl ?_
    refine Sc.exit ?_
    refine At.then_exit ?_
    refine At.then_exit ?_
    refine At.block_hit ?_
    refine At.go ?_
    refine Sc.seq ?_
    refine Sc.region ?_
    refine Sl.calm (Cm.move rfl) rfl ?_
    refine Sl.calm (Cm.assign rfl) rfl ?_
    refine Sl.nil ?_
    refine At.weak [(0, _), (4, _), (5, _), (34, _)] ⟨rfl, rfl, rfl, rfl, trivial⟩ ?_
    refine At.go ?_
    refine Sc.ret ?_
    refine At.ret1 rfl rfl ?_
    rw [cutW_small hsm] at hcw
    rw [← hcw]
    exact ⟨_, rfl, rfl, hM3, hF3⟩

set_option maxHeartbeats 1000000 in
theorem mdone_ok (D : Nat → Prop) (g p : Nat) (f t : List UInt8) (W : World) (hM : MwO D W.heap g p f t) (hb : f.length ≤ 1099511627000) (htl : t.length < 128) :
    Calls Try.prog 28 [.pointer (some ⟨g, 0, none⟩)].toArray W (Ret (CloneP W (doneW f t))) := by
  obtain ⟨fo, fc, to, tc, hg, h1, h2, h3, h4, h5, h6, h7, h8, h9, h10⟩ := hM
  refine calls_of_sc 35 [(0, _)] Try.func28 rfl rfl rfl (enter_slots ⟨rfl, trivial⟩) ?_
  refine Sc.seq ?_
  refine Sc.region ?_
  refine Sl.calm (Cm.assign rfl) rfl ?_
  refine Sl.nil ?_
  refine At.go ?_
  refine Sc.seq ?_
  refine Sc.seq ?_
  refine Sc.region ?_
  refine Sl.calm (Cm.move rfl) rfl ?_
  refine Sl.calm (Cm.nilCheck rfl) rfl ?_
  refine Sl.calm (Cm.field fld92_2 rfl) rfl ?_
  refine Sl.calm (Cm.ld sca22 rfl (cellF hg rfl)) rfl ?_
  refine Sl.calm (Cm.len sl22 rfl) rfl ?_
  refine Sl.fork (Cm.eql rfl rfl) rfl (fun h10 => ?_) (fun h10 => ?_)
  ·
    have e : doneW f t = f := by unfold doneW; rw [if_pos (by omega)]
    refine Sl.nil ?_
    refine At.weak [(0, _), (2, _), (10, _)] ⟨rfl, rfl, rfl, trivial⟩ ?_
    refine At.go ?_
    refine Sc.cond_t rfl ?_
    refine Sc.seq ?_
    refine Sc.region ?_
    refine Sl.calm (Cm.move rfl) rfl ?_
    refine Sl.calm (Cm.nilCheck rfl) rfl ?_
    refine Sl.calm (Cm.field fld92_1 rfl) rfl ?_
    refine Sl.calm (Cm.ld sca22 rfl (cellF hg rfl)) rfl ?_
    refine Sl.call fn53 rfl (sclone_ok fo fc f W h1.vw (by omega)) rfl ?_
    intro _ w1 hP1
    refine Sl.calm (Cm.assign rfl) rfl ?_
    refine Sl.nil ?_
    refine At.weak [(0, _), (2, _), (10, _)] ⟨rfl, rfl, rfl, trivial⟩ ?_
    refine At.go ?_
    refine Sc.ret ?_
    refine At.then_ret ?_
    refine At.ret1 rfl rfl ?_
    rw [e]
    first
      | exact ⟨_, rfl, hP1⟩
      | (have e3 : [f, (putS t).1].flatten = f ++ (putS t).1 := by simp
         rw [e3] at ho3 ⊢
         exact ⟨_, rfl, o3, c3, rfl, ho3, hfr3.mono ((hf1.trans hf2).size), (hf1.trans hf2).trans hf3⟩)
  ·
    have e : doneW f t = f ++ (putS t).1 := by unfold doneW; rw [if_neg (by omega)]
    have hps := putS_len (b := t) (by omega)
    refine Sl.nil ?_
    refine At.weak [(0, _), (2, _), (10, _)] ⟨rfl, rfl, rfl, trivial⟩ ?_
    refine At.go ?_
    refine Sc.cond_f rfl ?_
    refine Sc.skip ?_
    refine At.go ?_
    refine Sc.seq ?_
    refine Sc.draw 14 (fun H => H[g]? = some (.cells (mwC p fo f.length fc to t.length tc).toArray 92 (0, 0))) [8] [0, 1, 2, 3, 4, 5, 6, 7, 8, 9, 10, 11, 12, 13] mixed (by kernel_rfl) (hg) ?_
    refine Sx.calm rfl rfl (Cm.move rfl) rfl ?_
    refine Sx.calm rfl rfl (Cm.nilCheck rfl) rfl ?_
    refine Sx.calm rfl rfl (Cm.field fld92_0 rfl) rfl ?_
    refine Sx.calm rfl rfl (Cm.load sca32 rfl (fun H hH => cellF hH rfl)) rfl ?_
    refine Sx.calm rfl rfl (Cm.move rfl) rfl ?_
    refine Sx.calm rfl rfl (Cm.nilCheck rfl) rfl ?_
    refine Sx.calm rfl rfl (Cm.field fld92_2 rfl) rfl ?_
    refine Sx.calm rfl rfl (Cm.load sca22 rfl (fun H hH => cellF hH rfl)) rfl ?_
    refine Sx.eff rfl rfl (Sl.call fn17 rfl (fput_ok p to tc t _ h9 h2.vw) rfl ?_)
    rintro _ w1 ⟨o1, c1, rfl, ho1, hfr1, hf1⟩
    refine Sx.on (by exact hf1.undraw.obj hg id) ?_
    have hf1 := hf1.undraw
    have hg1 := hf1.obj hg id
    refine Sx.calm rfl rfl (Cm.move rfl) rfl ?_
    refine Sx.calm rfl rfl (Cm.extract rfl rfl) rfl ?_
    refine Sx.calm rfl rfl (Cm.extract rfl rfl) rfl ?_
    refine Sx.calm rfl rfl (Cm.assign rfl) rfl ?_
    refine Sx.calm rfl rfl (Cm.assign rfl) rfl ?_
    refine Sx.nil ?_
    refine At.weak [(0, _), (2, _), (3, _), (10, _)] ⟨rfl, rfl, rfl, rfl, trivial⟩ ?_
    refine At.go ?_
    refine Sc.seq ?_
    refine Sc.region ?_
    refine Sl.calm (Cm.move rfl) rfl ?_
    refine Sl.calm (Cm.nilCheck rfl) rfl ?_
    refine Sl.calm (Cm.field fld92_1 rfl) rfl ?_
    refine Sl.calm (Cm.ld sca22 rfl (cellF hg1 rfl)) rfl ?_
    refine Sl.calm (Cm.move rfl) rfl ?_
    refine Sl.lit2 (enc := hd) (u := ⟨fo, f.length, fc⟩) (u' := ⟨o1, (putS t).1.length, c1⟩) sl44 hd_one rfl rfl rfl ?_
    intro w2 ho2 hs2 hf2
    refine Sl.call fn54 rfl (sconcat_ok (fun _ => True) _ _ [⟨fo, f.length, fc⟩, ⟨o1, (putS t).1.length, c1⟩] [f, (putS t).1] w2 ho2.vw ((RowsV.nil.snoc (x := ⟨fo, f.length, fc⟩) rfl ((h1.grow hf1).grow hf2).vw (fun _ _ _ => trivial)).snoc (x := ⟨o1, (putS t).1.length, c1⟩) rfl (ho1.grow hf2).vw (fun _ _ _ => trivial)) (by simp; omega)) rfl ?_
    rintro _ w3 ⟨o3, c3, rfl, ho3, hfr3, hf3⟩
    refine Sl.calm (Cm.assign rfl) rfl ?_
    refine Sl.nil ?_
    refine At.weak [(0, _), (2, _), (3, _), (10, _)] ⟨rfl, rfl, rfl, rfl, trivial⟩ ?_
    refine At.go ?_
    refine Sc.ret ?_
    refine At.ret1 rfl rfl ?_
    rw [e]
    first
      | exact ⟨_, rfl, hP1⟩
      | (have e3 : [f, (putS t).1].flatten = f ++ (putS t).1 := by simp
         rw [e3] at ho3 ⊢
         exact ⟨_, rfl, o3, c3, rfl, ho3, hfr3.mono ((hf1.trans hf2).size), (hf1.trans hf2).trans hf3⟩)
end Go.Proofs.Ytlpfahmkjgompaa
