/- Memory in the calculus: what is read, what is written, what stays. No condition. -/
import Derived.Test.YtpnfjfbfgaiolaaOps
import Derived.IntWalk
namespace Go.Proofs.Ytpnfjfbfgaiolaa
open Go Go.RowKit

/-! ### what a piece of code leaves alone -/
/-- w is w with new blocks, and with writes to the blocks of S alone. -/
structure Foot (S : Nat → Prop) (w w' : World) : Prop where
  os : w'.os = w.os
  tape : w'.tape = w.tape
  output : w'.output = w.output
  size : w.heap.size ≤ w'.heap.size
  same : ∀ k, k < w.heap.size → ¬ S k → w'.heap[k]? = w.heap[k]?

def nob : Nat → Prop := fun _ => False

theorem Foot.refl (S : Nat → Prop) (w : World) : Foot S w w := ⟨rfl, rfl, rfl, Nat.le_refl _, fun _ _ _ => rfl⟩
theorem Foot.trans {S : Nat → Prop} {a b c : World} (h : Foot S a b) (k : Foot S b c) : Foot S a c :=
  ⟨k.os.trans h.os, k.tape.trans h.tape, k.output.trans h.output, Nat.le_trans h.size k.size,
    fun i hi hs => (k.same i (Nat.lt_of_lt_of_le hi h.size) hs).trans (h.same i hi hs)⟩
/-- The second step writes, beyond S, only what is new since the first world. -/
theorem Foot.step {S S' : Nat → Prop} {a b c : World} (h : Foot S a b) (k : Foot S' b c) (hs : ∀ i, S' i → S i ∨ a.heap.size ≤ i) : Foot S a c :=
  ⟨k.os.trans h.os, k.tape.trans h.tape, k.output.trans h.output, Nat.le_trans h.size k.size,
    fun i hi hn => (k.same i (Nat.lt_of_lt_of_le hi h.size) (fun h' => by rcases hs i h' with h1 | h1; exact hn h1; omega)).trans (h.same i hi hn)⟩
theorem Foot.trans_to {S S' : Nat → Prop} {a b c : World} (h : Foot S a b) (k : Foot S' b c) (hs : ∀ i, S' i → S i ∨ a.heap.size ≤ i) : Foot S a c := h.step k hs
theorem Foot.mono {S S' : Nat → Prop} {a b : World} (h : Foot S a b) (hs : ∀ i, S i → S' i) : Foot S' a b :=
  ⟨h.os, h.tape, h.output, h.size, fun i hi hn => h.same i hi (fun h' => hn (hs i h'))⟩
theorem Foot.draws {S : Nat → Prop} {a b : World} (h : Foot S a b) (n : Nat) : Foot S a (b.drewN n) := ⟨h.os, h.tape, h.output, h.size, h.same⟩
theorem Foot.undraw {S : Nat → Prop} {w w' : World} {n : Nat} (h : Foot S (w.drewN n) w') : Foot S w w' := ⟨h.os, h.tape, h.output, h.size, h.same⟩
theorem Foot.ofDraws {S : Nat → Prop} {w : World} (n : Nat) : Foot S w (w.drewN n) := (Foot.refl S w).draws n
theorem Foot.alloc (S : Nat → Prop) (w : World) (o : Obj) : Foot S w (w.alloc o) := ⟨rfl, rfl, rfl, by simp, fun _ hk _ => Below.heap_alloc w o _ hk⟩
theorem Foot.drawAlloc (S : Nat → Prop) (w : World) (o : Obj) : Foot S w (w.drew.alloc o) := ⟨rfl, rfl, rfl, by simp, fun _ hk _ => Below.heap_alloc w.drew o _ hk⟩
theorem Foot.below {w w' : World} (h : Foot nob w w') : Below w.heap.size w w' := ⟨h.os, h.tape, h.output, h.size, fun k hk => h.same k hk id⟩
theorem Foot.obj {S : Nat → Prop} {w w' : World} (h : Foot S w w') {g : Nat} {o : Obj} (hg : w.heap[g]? = some o) (hs : ¬ S g) : w'.heap[g]? = some o :=
  (h.same g (Array.getElem?_eq_some_iff.1 hg).1 hs).trans hg
theorem Foot.new {S : Nat → Prop} {w w' : World} (h : Foot S w w') : w.heap.size ≤ w'.heap.size := h.size

/-- the block of an address that may be none -/
def blk (ao : Option Addr) : Nat → Prop := fun k => ∃ a, ao = some a ∧ a.block = k
def Fr (B : Nat) (ao : Option Addr) : Prop := ∀ a, ao = some a → B ≤ a.block
def Lt (B : Nat) (ao : Option Addr) : Prop := ∀ a, ao = some a → a.block < B
def Ap (ao bo : Option Addr) : Prop := ∀ a b, ao = some a → bo = some b → a.block ≠ b.block
theorem Ap.symm {a b : Option Addr} (h : Ap a b) : Ap b a := fun x y hx hy e => h y x hy hx e.symm
theorem Ap.of {B : Nat} {a b : Option Addr} (h1 : Lt B a) (h2 : Fr B b) : Ap a b := fun x y hx hy e => by have := h1 x hx; have := h2 y hy; omega
theorem Ap.of' {B : Nat} {a b : Option Addr} (h1 : Fr B a) (h2 : Lt B b) : Ap a b := (Ap.of h2 h1).symm
theorem Ap.none_left {b : Option Addr} : Ap none b := fun _ _ h => by cases h
theorem Ap.none_right {b : Option Addr} : Ap b none := fun _ _ _ h => by cases h
theorem Ap.not {a b : Option Addr} (h : Ap a b) : ∀ x, a = some x → ¬ blk b x.block := fun x hx ⟨y, hy, e⟩ => h x y hx hy e.symm
theorem Fr.none {B : Nat} : Fr B none := fun _ h => by cases h
theorem Fr.mono {B B' : Nat} {a : Option Addr} (h : Fr B a) (hB : B' ≤ B) : Fr B' a := fun x hx => Nat.le_trans hB (h x hx)
theorem Fr.step {B : Nat} {a : Option Addr} (h : Fr B a) {S : Nat → Prop} : ∀ i, blk a i → S i ∨ B ≤ i := fun i ⟨x, hx, e⟩ => .inr (by have := h x hx; omega)
theorem Lt.mono {B B' : Nat} {a : Option Addr} (h : Lt B a) (hB : B ≤ B') : Lt B' a := fun x hx => Nat.lt_of_lt_of_le (h x hx) hB

/-! ### rows that are read -/
theorem add_block (a : Addr) (n : Nat) : (a.add n).block = a.block := by unfold Addr.add; split <;> rfl
theorem adr_block (a : Addr) (n : Nat) : (adr (some a) n).block = a.block := add_block a n

/-- A slice of one-cell elements that reads as xs. -/
structure Vw {α : Type} (enc : α → Value) (H : Array Obj) (ao : Option Addr) (cap : Nat) (xs : List α) : Prop where
  le : xs.length ≤ cap
  max : cap ≤ maxLen
  non : xs.length ≠ 0 → ao ≠ none
  get : ∀ i x, xs[i]? = some x → cellH H (adr ao i) = some (enc x)

def b8 (x : UInt8) : Value := .int .u8 x.toNat
def i64 (x : Int) : Value := .int .i64 x

section
variable {α : Type} {enc : α → Value} {H : Array Obj} {ao : Option Addr} {cap : Nat} {xs : List α}

theorem Vw.at (h : Vw enc H ao cap xs) {i : Nat} (hi : i < xs.length) : cellH H (adr ao i) = some (enc xs[i]) := h.get i _ (List.getElem?_eq_getElem hi)
theorem Vw.gd (h : Vw enc H ao cap xs) (dflt : α) {i : Nat} (hi : i < xs.length) : cellH H (adr ao i) = some (enc (xs.getD i dflt)) := by
  rw [h.at hi]; simp [List.getD, hi]
/-- .. at an index that is a number -/
theorem Vw.gz (h : Vw enc H ao cap xs) (dflt : α) (i : Nat) {z : Int} (hz : z = i) (hi : i < xs.length) : cellH H (adr ao z.toNat) = some (enc (xs.getD i dflt)) := by
  subst hz; exact h.gd dflt hi
theorem Vw.len63 (h : Vw enc H ao cap xs) : (xs.length : Int) ≤ 9223372036854775807 := by have := h.le; have := h.max; unfold maxLen at this; omega
theorem Vw.nil (c : Nat) (hc : c ≤ maxLen) : Vw enc H ao c [] := ⟨by simp, hc, by simp, by simp⟩
theorem Vw.lt (h : Vw enc H ao cap xs) (hne : xs ≠ []) : Lt H.size ao := fun a ha => by
  have hl : 0 < xs.length := List.length_pos_iff.2 hne
  have := h.at hl
  subst ha
  unfold cellH at this
  split at this
  · rename_i hb; rw [adr_block] at hb; exact (Array.getElem?_eq_some_iff.1 hb).1
  · cases this
theorem Vw.keep {w w' : World} {S : Nat → Prop} (h : Vw enc w.heap ao cap xs) (f : Foot S w w') (hs : ∀ a, ao = some a → ¬ S a.block) : Vw enc w'.heap ao cap xs := by
  refine ⟨h.le, h.max, h.non, fun i x hx => ?_⟩
  have h1 := h.get i x hx
  have hne : xs.length ≠ 0 := by intro e; have : xs = [] := List.eq_nil_of_length_eq_zero e; subst this; simp at hx
  cases hao : ao with
  | none => exact absurd hao (h.non hne)
  | some a =>
    rw [hao] at h1
    rw [← h1]
    unfold cellH
    rw [adr_block, f.same a.block (h.lt (fun e => hne (by simp [e])) a hao) (hs a hao)]
theorem Vw.grow {w w' : World} (h : Vw enc w.heap ao cap xs) (f : Foot nob w w') : Vw enc w'.heap ao cap xs := h.keep f (fun _ _ => id)
theorem Vw.take (h : Vw enc H ao cap xs) (n : Nat) : Vw enc H ao cap (xs.take n) :=
  ⟨by have := h.le; simp; omega, h.max, fun hn => h.non (fun e => hn (by have : xs = [] := List.eq_nil_of_length_eq_zero e; simp [this])), fun i x hx => h.get i x (by
    rw [List.getElem?_take] at hx
    split at hx
    · exact hx
    · cases hx)⟩
end

theorem adr_add (a : Addr) (i j : Nat) : (a.add i).add j = a.add (i + j) := by
  unfold Addr.add
  by_cases hi : i = 0
  · simp [hi]
  · by_cases hj : j = 0
    · simp [hj]
    · simp [hi, hj, Nat.add_assoc]

/-- the address of x[l:h:m] -/
def cutAo (ao : Option Addr) (m l size : Nat) : Option Addr := if m = l then ao else ao.map (·.add (l * size))

section
variable {α : Type} {enc : α → Value} {H : Array Obj} {ao : Option Addr} {cap : Nat} {xs : List α}
theorem Vw.cut (v : Vw enc H ao cap xs) {l h m : Nat} (hl : l ≤ h) (hh : h ≤ xs.length) (hm : h ≤ m) (hmc : m ≤ cap) :
    Vw enc H (cutAo ao m l 1) (m - l) ((xs.drop l).take (h - l)) := by
  refine ⟨by simp; omega, by have := v.max; omega, fun hne => ?_, fun i x hx => ?_⟩
  · have h0 : xs.length ≠ 0 := by simp at hne; omega
    have := v.non h0
    unfold cutAo
    split
    · exact this
    · cases ao <;> simp_all
  · have hi : i < h - l := by
      have := (List.getElem?_eq_some_iff.1 hx).1; simp at this; omega
    have hx' : xs[l + i]? = some x := by
      rw [List.getElem?_take, if_pos hi, List.getElem?_drop] at hx; exact hx
    have h1 := v.get (l + i) x hx'
    rw [← h1]
    unfold cutAo
    rw [if_neg (by omega)]
    cases ao with
    | none => exact absurd rfl (v.non (by have := (List.getElem?_eq_some_iff.1 hx').1; omega))
    | some a => simp [adr, adr_add]
theorem Lt.cut {B : Nat} (h : Lt B ao) (m l s : Nat) : Lt B (cutAo ao m l s) := by
  unfold cutAo; split
  · exact h
  · intro a ha
    cases ao with
    | none => simp at ha
    | some b => simp at ha; subst ha; rw [add_block]; exact h b rfl
theorem Fr.cut {B : Nat} (h : Fr B ao) (m l s : Nat) : Fr B (cutAo ao m l s) := by
  unfold cutAo; split
  · exact h
  · intro a ha
    cases ao with
    | none => simp at ha
    | some b => simp at ha; subst ha; rw [add_block]; exact h b rfl
theorem cutAo_zero (ao : Option Addr) (m s : Nat) : cutAo ao m 0 s = ao := by
  unfold cutAo; split
  · rfl
  · cases ao with
    | none => rfl
    | some a => simp [Addr.add]
theorem blk_cut {m l s k : Nat} (h : blk (cutAo ao m l s) k) : blk ao k := by
  obtain ⟨a, ha, rfl⟩ := h
  unfold cutAo at ha
  split at ha
  · exact ⟨a, ha, rfl⟩
  · cases ao with
    | none => simp at ha
    | some b => simp at ha; subst ha; exact ⟨b, rfl, (add_block _ _).symm⟩
theorem Ap.cut {bo : Option Addr} (h : Ap ao bo) (m l s : Nat) : Ap (cutAo ao m l s) bo := by
  intro a b ha hb e
  obtain ⟨c, hc, h1⟩ := blk_cut (ao := ao) ⟨a, ha, rfl⟩
  exact h c b hc hb (h1.trans e)
end

/-! ### rows of one's own -/
/-- A slice of one-cell elements that owns its whole block (or is nil). -/
def Own {α : Type} (enc : α → Value) (e : TypeId) (H : Array Obj) (ao : Option Addr) (cap : Nat) (xs : List α) : Prop :=
  (ao = none ∧ cap = 0 ∧ xs = []) ∨
  ∃ g cur, ao = some ⟨g, 0, none⟩ ∧ H[g]? = some (.cells cur e (0, 0)) ∧ xs.length ≤ cap ∧ cap ≤ maxLen ∧ cur.size = cap ∧ cur.toList.take xs.length = xs.map enc

section
variable {α : Type} {enc : α → Value} {e : TypeId} {H : Array Obj} {ao : Option Addr} {cap : Nat} {xs : List α}
theorem Own.nil : Own enc e H none 0 ([] : List α) := .inl ⟨rfl, rfl, rfl⟩
theorem Own.vw (h : Own enc e H ao cap xs) : Vw enc H ao cap xs := by
  rcases h with ⟨rfl, rfl, rfl⟩ | ⟨g, cur, rfl, hg, h1, h2, h3, h4⟩
  · exact Vw.nil 0 (Nat.zero_le _)
  · refine ⟨h1, h2, fun _ => by simp, fun i x hx => ?_⟩
    have hi : i < xs.length := (List.getElem?_eq_some_iff.1 hx).1
    have hadd : (adr (some ⟨g, 0, none⟩) i) = ⟨g, i, none⟩ := by
      show (⟨g, 0, none⟩ : Addr).add i = _
      rw [Addr.add_lit, Nat.zero_add]
    rw [hadd]
    simp only [cellH, hg]
    have h5 : (cur.toList.take xs.length)[i]? = some (enc x) := by rw [h4, List.getElem?_map, hx]; rfl
    rw [List.getElem?_take, if_pos hi] at h5
    simpa using h5
theorem Own.lt (h : Own enc e H ao cap xs) : Lt H.size ao := by
  intro a ha
  rcases h with ⟨rfl, _⟩ | ⟨g, cur, rfl, hg, _⟩
  · cases ha
  · cases ha; exact (Array.getElem?_eq_some_iff.1 hg).1
theorem Own.keep {w w' : World} {S : Nat → Prop} (h : Own enc e w.heap ao cap xs) (f : Foot S w w') (hs : ∀ a, ao = some a → ¬ S a.block) : Own enc e w'.heap ao cap xs := by
  rcases h with h | ⟨g, cur, rfl, hg, r⟩
  · exact .inl h
  · exact .inr ⟨g, cur, rfl, f.obj hg (hs _ rfl), r⟩
theorem Own.grow {w w' : World} (h : Own enc e w.heap ao cap xs) (f : Foot nob w w') : Own enc e w'.heap ao cap xs := h.keep f (fun _ _ => id)
theorem Own.row {w : World} (h : Own enc e w.heap ao cap xs) : w.ownsRow 0 e 1 (.slice ao xs.length cap) xs.length (xs.map enc) := by
  refine ⟨by simp, ?_⟩
  rcases h with ⟨rfl, rfl, rfl⟩ | ⟨g, cur, rfl, hg, h1, h2, h3, h4⟩
  · exact .inl ⟨rfl, rfl⟩
  · exact .inr ⟨g, cap, cur, rfl, Nat.zero_le _, hg, h1, h2, by omega, by rw [Nat.mul_one]; exact h4⟩
end

theorem Foot.ofGrown {w w' : World} {ao : Option Addr} {n c : Nat} (h : w.grownBy w' (Value.slice ao n c).ownBlock) : Foot (blk ao) w w' :=
  ⟨h.os, h.tape, h.output, h.size, fun k hk hn => h.block k hk (fun e => by
    cases ao with
    | none => simp [Value.ownBlock] at e
    | some a => simp [Value.ownBlock] at e; exact hn ⟨a, rfl, e.symm⟩)⟩

theorem run_append_nothing {P : Program} {w : World} {t ty e : TypeId} {i : TypeInfo} (ht : P.underlying t = some (.slice e)) (hi : P.info? e = some i)
    {ao : Option Addr} {n cap : Nat} (hn : n ≤ cap) {bo : Option Addr} {bcap : Nat} :
    (Builtin.append_ #[t, t] ty #[.slice ao n cap, .slice bo 0 bcap]).run P w = .ok (.slice ao n cap) w := by
  cases ao <;> cases bo <;> simp [Builtin.append_, run_underlying ht, sizeOf, typeInfo, hi, Builtin.lenOf, Builtin.firstCells, hn, storeCells, loadCells, loadCellsFrom]

/-- append(out, x..): out ones own, x whatever reads as a list. -/
theorem run_append_own1 {α : Type} {enc : α → Value} (henc : ∀ x, (enc x).oneCell' = true) {P : Program} {w : World} {t ty e : TypeId} {bytes : Nat} (ht : SliceT P t e 1 bytes)
    {ao : Option Addr} {cap : Nat} {xs : List α} (ho : Own enc e w.heap ao cap xs) {bo : Option Addr} {bcap : Nat} {ys : List α} (hy : Vw enc w.heap bo bcap ys)
    (hb : (xs.length + ys.length) * bytes ≤ 140737488355328) (hm : xs.length + ys.length ≤ maxLen) :
    ∃ ao' cap' w', (Builtin.append_ #[t, t] ty #[.slice ao xs.length cap, .slice bo ys.length bcap]).run P w = .ok (.slice ao' (xs.length + ys.length) cap') w' ∧
      Own enc e w'.heap ao' cap' (xs ++ ys) ∧ Foot (blk ao) w w' ∧ (∀ a, ao' = some a → ao = some a ∨ w.heap.size ≤ a.block) ∧ (ao' = none → ao = none ∧ ys = []) := by
  obtain ⟨i, z, hi, h1, hz, h2, h3⟩ := ht.parts
  have hnews1 : ∀ u ∈ ys.map enc, u.oneCell' = true := by intro u hu; obtain ⟨x, _, rfl⟩ := List.mem_map.1 hu; exact henc x
  have hsmall : xs.length + ys.length ≤ 9223372036854775807 := by unfold maxLen at hm; omega
  by_cases hys : ys = []
  · subst hys
    refine ⟨ao, cap, w, ?_, by simpa using ho, Foot.refl _ _, fun a ha => .inl ha, fun h => ⟨h, rfl⟩⟩
    exact run_append_nothing ht.und hi ho.vw.le
  · have hne : ys.length ≠ 0 := fun e => hys (List.eq_nil_of_length_eq_zero e)
    obtain ⟨b, rfl⟩ : ∃ b, bo = some b := Option.ne_none_iff_exists'.1 (hy.non hne)
    have hnews : ∀ j u, (ys.map enc)[j]? = some u → w.cell? (b.add j) = some u := by
      intro j u hu
      rw [List.getElem?_map] at hu
      obtain ⟨x, hx, rfl⟩ := Option.map_eq_some_iff.1 hu
      exact hy.get j x hx
    have hl : (ys.map enc).length = ys.length * i.size := by simp [h2]
    have big : ∀ (old : Nat), old < xs.length + ys.length → Own enc e (w.drew.alloc (.cells ((xs.map enc).toArray ++ (ys.map enc).toArray ++ Builtin.zeroCells z.cells (grownCap w (xs.length + ys.length) old e - (xs.length + ys.length))) e)).heap
        (some ⟨w.heap.size, 0, none⟩) (grownCap w (xs.length + ys.length) old e) (xs ++ ys) := by
      intro old _
      have hge := grownCap_ge w (xs.length + ys.length) old e
      refine .inr ⟨w.heap.size, _, rfl, heap_alloc_new w.drew _, by simpa using hge, grownCap_le_maxLen w _ old e hm, ?_, ?_⟩
      · simp only [Array.size_append, List.size_toArray, List.length_map, size_zeroCells, hz]; omega
      · simp [List.take_append]
        exact List.take_of_length_le (by simp)
    have hfoot : ∀ (old : Nat), Foot (blk ao) w (w.drew.alloc (.cells ((xs.map enc).toArray ++ (ys.map enc).toArray ++ Builtin.zeroCells z.cells (grownCap w (xs.length + ys.length) old e - (xs.length + ys.length))) e)) := fun old => Foot.drawAlloc _ _ _
    rcases ho with ⟨rfl, rfl, rfl⟩ | ⟨g, cur, rfl, hg, g1, g2, g3, g4⟩
    · have hr := run_append_nil (P := P) w t ty e i z ht.und hi h1 b ys.length bcap (ys.map enc) hl hnews (by omega) (by simp at hsmall; omega) (by simp at hb; rw [h3]; omega)
      have hB := big 0 (by simp; omega)
      have hF := hfoot 0
      simp only [List.length_nil, Nat.zero_add, List.map_nil, List.nil_append, Array.empty_append] at hB hF ⊢
      exact ⟨_, _, _, hr, hB, hF, fun a ha => .inr (by cases ha; exact Nat.le_refl _), fun h => by cases h⟩
    · have holds : ∀ j v, (xs.map enc)[j]? = some v → w.cell? ((⟨g, 0, none⟩ : Addr).add j) = some v := by
        intro j v hv
        rw [List.getElem?_map] at hv
        obtain ⟨x, hx, rfl⟩ := Option.map_eq_some_iff.1 hv
        exact (Own.vw (.inr ⟨g, cur, rfl, hg, g1, g2, g3, g4⟩ : Own enc e w.heap (some ⟨g, 0, none⟩) cap xs)).get j x hx
      by_cases hroom : xs.length + ys.length ≤ cap
      · have hr := run_append_room (P := P) w t ty e i ht.und hi g xs.length cap cur hg b ys.length bcap (ys.map enc) hl hnews hnews1 hroom (by simp [h2, g3]; omega)
        refine ⟨_, _, _, hr, .inr ⟨g, _, rfl, setRow_heap w g cur _ e _ hg, by simpa using hroom, g2, ?_, ?_⟩, ?_, fun a ha => .inl ha, fun h => by cases h⟩
        · simp [h2, g3]; omega
        · rw [h2, Nat.mul_one, g4]; simp [List.take_append]
          exact List.take_of_length_le (by simp)
        · exact ⟨rfl, rfl, rfl, by simp [World.setRow], fun k hk hn => setRow_other w g k _ (fun e => hn ⟨_, rfl, e.symm⟩)⟩
      · have hr := run_append_grow (P := P) w t ty e i z ht.und hi h1 ⟨g, 0, none⟩ xs.length cap (xs.map enc) (by simp [h2]) holds b ys.length bcap (ys.map enc) hl hnews (by omega) (by omega)
          (by rw [h3]; exact growslice_fits (by omega) hb)
        exact ⟨_, _, _, hr, big cap (by omega), hfoot cap, fun a ha => .inr (by cases ha; exact Nat.le_refl _), fun h => by cases h⟩
end Go.Proofs.Ytpnfjfbfgaiolaa
