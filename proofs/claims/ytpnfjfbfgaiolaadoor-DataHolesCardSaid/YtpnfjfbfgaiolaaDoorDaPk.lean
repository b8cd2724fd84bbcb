/- data: what is laid down, in plain Lean; a writer in memory. No condition beyond the bounds that each states. -/
import Derived.Test.YtpnfjfbfgaiolaaDoorDaBk
import Derived.Test.YtpnfjfbfgaiolaaDoorClk
import Derived.Test.YtpnfjfbfgaiolaaDoorCkBk
import Derived.Test.YtpnfjfbfgaiolaaDoorBxk
namespace Go.Proofs.YtpnfjfbfgaiolaaDoor
open Go Go.RowKit
set_option linter.unusedVariables false

def chB (b : List UInt8) (i : Nat) : List UInt8 := (b.drop (i * 128)).take 128
def hX (x : List UInt8) : List UInt8 := if holeB x then [] else x
def frB (x : List UInt8) : List UInt8 := (putS (hX x)).1
def runN (b : List UInt8) (n : Nat) : List UInt8 := ((List.range n).map fun i => frB (chB b i)).flatten
def runD (b : List UInt8) : List UInt8 := runN b (b.length / 128)
def tailD (b : List UInt8) : List UInt8 := b.drop (b.length / 128 * 128)
theorem chB_len (b : List UInt8) (i : Nat) : (chB b i).length ≤ 128 := by unfold chB; rw [List.length_take]; omega
theorem chB_len2 {b : List UInt8} {i : Nat} (h : i < b.length / 128) : (chB b i).length = 128 := by unfold chB; rw [List.length_take, List.length_drop]; omega
theorem hX_len (x : List UInt8) : (hX x).length ≤ x.length := by unfold hX; split <;> simp
theorem frB_len {x : List UInt8} (h : x.length ≤ 128) : (frB x).length ≤ 135 ∧ 3 ≤ (frB x).length := by
  have h1 := hX_len x
  have h2 := putS_len (b := hX x) (by omega)
  unfold frB
  omega
theorem runN_succ (b : List UInt8) (n : Nat) : runN b (n + 1) = runN b n ++ frB (chB b n) := by unfold runN; rw [List.range_succ]; simp
theorem runN_len (b : List UInt8) : ∀ n, (runN b n).length ≤ 135 * n ∧ 3 * n ≤ (runN b n).length
  | 0 => by simp [runN]
  | n + 1 => by
    have h := runN_len b n
    have h2 := frB_len (chB_len b n)
    rw [runN_succ, List.length_append]; omega

/-! runs by their bytes -/
abbrev SK := {s : List UInt8 // s.length ≤ maxLen}
def enS (s : SK) : Value := .string (bs s.1)
theorem keyS : KeyEnc Tryd.prog 9 enS :=
  ⟨Maps.string_keyed (by kernel_rfl), fun a => ⟨.string a.1, by
    unfold keyOf
    rw [show Tryd.prog.underlying 9 = some .string by kernel_rfl]
    have h : a.1.length ≤ maxLen := a.2
    simp [mapKey, show Tryd.prog.underlying 9 = some .string by kernel_rfl, enS, bs, ByteArray.size, h]⟩, fun a b h => Subtype.ext (bs_inj (by simpa [enS] using h))⟩
theorem mpS : MapT Tryd.prog 59 9 3 (.int .i64 0) := ⟨by kernel_rfl, z3⟩
def skOf (r : List UInt8) : SK := if h : r.length ≤ maxLen then ⟨r, h⟩ else ⟨[], by decide⟩
theorem skOf_eq {r : List UInt8} (h : r.length ≤ maxLen) : (skOf r).1 = r := by unfold skOf; rw [dif_pos h]
def vM (m : List (SK × Nat)) : List (SK × Value) := m.map fun p => (p.1, nV p.2)
def findR : List (SK × Nat) → SK → Option Nat
  | [], _ => none
  | p :: r, a => if p.1 = a then some p.2 else findR r a
theorem getM_vM (a : SK) : ∀ m : List (SK × Nat), getM (vM m) a = (findR m a).map nV
  | [] => rfl
  | p :: r => by
    unfold findR
    show (if p.1 = a then some (nV p.2) else getM (vM r) a) = _
    split
    · rfl
    · exact getM_vM a r
theorem setM_vM {m : List (SK × Nat)} {a : SK} {v : Nat} (h : findR m a = none) : setM (vM m) a (nV v) = vM (m ++ [(a, v)]) := by
  rw [setM_none _ (by rw [getM_vM, h]; rfl)]; simp [vM]
theorem findR_snoc {m : List (SK × Nat)} {a b : SK} {v : Nat} : findR (m ++ [(a, v)]) b = match findR m b with | some k => some k | none => if a = b then some v else none := by
  induction m with
  | nil => simp [findR]
  | cons p r ih =>
    simp only [List.cons_append, findR]
    split
    · rfl
    · exact ih
structure DS where
  B : List UInt8
  m : List (SK × Nat)
def addR (first : Nat) (s : DS) (r : List UInt8) : DS × Nat := match findR s.m (skOf r) with
  | some k => (s, k)
  | none => (⟨s.B ++ r, s.m ++ [(skOf r, first + s.B.length)]⟩, first + s.B.length)
def addD (first : Nat) (s : DS) (b : List UInt8) : DS × Nat := if runD b = [] then (s, 0) else addR first s (runD b)
theorem addD_none {first : Nat} {s : DS} {b : List UInt8} (h : (runD b).length = 0) : addD first s b = (s, 0) := by unfold addD; rw [if_pos (List.length_eq_zero_iff.1 h)]
theorem addD_old {first : Nat} {s : DS} {b : List UInt8} {k : Nat} (h : (runD b).length ≠ 0) (hk : findR s.m (skOf (runD b)) = some k) : addD first s b = (s, k) := by
  unfold addD addR; rw [if_neg (fun e => h (by rw [e]; rfl)), hk]
theorem addD_new {first : Nat} {s : DS} {b : List UInt8} (h : (runD b).length ≠ 0) (hk : findR s.m (skOf (runD b)) = none) : addD first s b = (⟨s.B ++ runD b, s.m ++ [(skOf (runD b), first + s.B.length)]⟩, first + s.B.length) := by
  unfold addD addR; rw [if_neg (fun e => h (by rw [e]; rfl)), hk]

/-! the program's writer -/
def dwC (p first : Nat) (bo : Option Addr) (bn bc mg : Nat) : List Value := [.pointer (some ⟨p, 0, none⟩), .int .i64 first, .slice bo bn bc, .map (some mg)]
theorem dwC_one (p first : Nat) (bo : Option Addr) (bn bc mg : Nat) : ∀ v ∈ dwC p first bo bn bc mg, v.oneCell' = true := by
  intro v hv
  simp only [dwC, List.mem_cons, List.not_mem_nil, or_false] at hv
  rcases hv with rfl | rfl | rfl | rfl <;> rfl
def DwO (D : Nat → Prop) (H : Array Obj) (g p first : Nat) (s : DS) : Prop :=
  ∃ bo bc mg, H[g]? = some (.cells (dwC p first bo s.B.length bc mg).toArray 61 (0, 0)) ∧ Own b8 5 H bo bc s.B ∧ MapL enS H mg (vM s.m) ∧ ¬ blk bo g ∧ mg ≠ g ∧ ¬ blk bo mg ∧ D g ∧ (∀ k, blk bo k → D k) ∧ D mg ∧ TbV H p ∧ ¬ D p
section
variable {D : Nat → Prop} {g p first : Nat} {s : DS}
theorem DwO.lt {H : Array Obj} (h : DwO D H g p first s) : g < H.size := by obtain ⟨bo, bc, mg, hg, _⟩ := h; exact (Array.getElem?_eq_some_iff.1 hg).1
theorem DwO.tab {H : Array Obj} (h : DwO D H g p first s) : TbV H p ∧ ¬ D p := by obtain ⟨bo, bc, mg, hg, h1, h2, h3, h4, h5, h6, h7, h8, h9, h10⟩ := h; exact ⟨h9, h10⟩
theorem DwO.mem {H : Array Obj} (h : DwO D H g p first s) : D g := by obtain ⟨bo, bc, mg, hg, h1, h2, h3, h4, h5, h6, h7, h8, h9, h10⟩ := h; exact h6
theorem DwO.keep {S : Nat → Prop} {w w' : World} (h : DwO D w.heap g p first s) (hf : Foot S w w') (hs : ∀ k, D k → ¬ S k) (hp : ¬ S p) : DwO D w'.heap g p first s := by
  obtain ⟨bo, bc, mg, hg, h1, h2, h3, h4, h5, h6, h7, h8, h9, h10⟩ := h
  exact ⟨bo, bc, mg, hf.obj hg (hs g h6), h1.keep hf (fun a ha => hs _ (h7 _ ⟨a, ha, rfl⟩)), h2.keep hf (hs _ h8), h3, h4, h5, h6, h7, h8, hf.obj h9 hp, h10⟩
theorem DwO.grow {w w' : World} (h : DwO D w.heap g p first s) (hf : Foot nob w w') : DwO D w'.heap g p first s := h.keep hf (fun _ _ => id) id
theorem DwO.mono {D' : Nat → Prop} {H : Array Obj} (h : DwO D H g p first s) (hd : ∀ k, D k → D' k) (hp : ¬ D' p) : DwO D' H g p first s := by
  obtain ⟨bo, bc, mg, hg, h1, h2, h3, h4, h5, h6, h7, h8, h9, h10⟩ := h
  exact ⟨bo, bc, mg, hg, h1, h2, h3, h4, h5, hd _ h6, fun k hk => hd _ (h7 k hk), hd _ h8, h9, hp⟩
theorem DwO.shrink {S : Nat → Prop} {w w' : World} (h : DwO D w.heap g p first s) (hf : Foot S w w') (hs : ∀ k, D k → ¬ S k) (hp : ¬ S p) : DwO (fun k => D k ∧ (k < w.heap.size ∨ w'.heap.size ≤ k)) w'.heap g p first s := by
  have hl := h.lt
  obtain ⟨bo, bc, mg, hg, h1, h2, h3, h4, h5, h6, h7, h8, h9, h10⟩ := h
  exact ⟨bo, bc, mg, hf.obj hg (hs g h6), h1.keep hf (fun a ha => hs _ (h7 _ ⟨a, ha, rfl⟩)), h2.keep hf (hs _ h8), h3, h4, h5, ⟨h6, .inl hl⟩,
    fun k ⟨a, ha, hb⟩ => ⟨h7 k ⟨a, ha, hb⟩, .inl (by have := h1.lt a ha; omega)⟩, ⟨h8, .inl h2.obj⟩, hf.obj h9 hp, fun h => h10 h.1⟩
theorem DwO.fresh {B : Nat → Prop} {w w' : World} (h : DwO D w.heap g p first s) (hf : Foot nob w w') (hB : ∀ k, k < w.heap.size → D k → B k) (hp : ¬ B p) : DwO B w'.heap g p first s := by
  have hl := h.lt
  obtain ⟨bo, bc, mg, hg, h1, h2, h3, h4, h5, h6, h7, h8, h9, h10⟩ := h
  exact ⟨bo, bc, mg, hf.obj hg id, h1.grow hf, h2.keep hf id, h3, h4, h5, hB _ hl h6, fun k ⟨a, ha, hb⟩ => hB _ (by have := h1.lt a ha; omega) (h7 k ⟨a, ha, hb⟩), hB _ h2.obj h8, hf.obj h9 id, hp⟩
/-- w.b = append(w.b, run..) -/
theorem dw_b {W w1 w2 : World} {bo bo' : Option Addr} {bc' mg : Nat} {mq : List (SK × Nat)} {Bq : List UInt8} (hD : ∀ k, W.heap.size ≤ k → D k)
    (hm : MapL enS W.heap mg (vM mq)) (h3 : ¬ blk bo g) (h4 : mg ≠ g) (h5 : ¬ blk bo mg) (h6 : D g) (h7 : ∀ k, blk bo k → D k) (h8 : D mg) (h9 : TbV W.heap p) (h10 : ¬ D p) (hgl : g < W.heap.size)
    (ho : Own b8 5 w1.heap bo' bc' Bq) (hf1 : Foot (blk bo) W w1) (hr : ∀ a, bo' = some a → bo = some a ∨ W.heap.size ≤ a.block)
    (hg2 : w2.heap[g]? = some (.cells (dwC p first bo' Bq.length bc' mg).toArray 61 (0, 0))) (hf2 : Foot (· = g) w1 w2) :
    DwO D w2.heap g p first ⟨Bq, mq⟩ ∧ Foot D W w2 := by
  have hpl := (Array.getElem?_eq_some_iff.1 h9).1
  have hD1 : Foot D W w1 := hf1.mono h7
  have hD2 : Foot D W w2 := hD1.trans (hf2.mono (fun k h => by have h : k = g := h; subst h; exact h6))
  have hml := hm.obj
  have hn : ∀ k, k < W.heap.size → ¬ blk bo k → ¬ blk bo' k := fun k hk hb ⟨a, ha, e⟩ => by
    rcases hr a ha with h | h
    · exact hb ⟨a, h, e⟩
    · omega
  refine ⟨⟨bo', bc', mg, hg2, ho.keep hf2 (fun a ha h => hn g hgl h3 ⟨a, ha, h⟩), (hm.keep hf1 h5).keep hf2 h4, hn g hgl h3, h4, hn mg hml h5, h6, fun k ⟨a, ha, hb⟩ => ?_, h8, hD2.obj h9 h10, h10⟩, hD2⟩
  rcases hr a ha with h | h
  · exact h7 k ⟨a, h, hb⟩
  · exact hD k (by omega)
end
end Go.Proofs.YtpnfjfbfgaiolaaDoor
