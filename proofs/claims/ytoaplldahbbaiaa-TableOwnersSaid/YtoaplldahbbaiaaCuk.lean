/- cursor: what is written, by the program's writer and by the reference's: both are one plain law. No condition beyond the bounds that each states. -/
import Derived.Test.YtoaplldahbbaiaaGbk
namespace Go.Proofs.Ytoaplldahbbaiaa
open Go Go.RowKit
set_option linter.unusedVariables false

/-! ### the plain law -/
/-- a numbers bytes, the lowest first -/
def le (x : Int) (n : Nat) : List UInt8 := (List.range n).map (fun i => UInt8.ofNat (x / 256 ^ i).toNat)
theorem le_length (x : Int) (n : Nat) : (le x n).length = n := by simp [le]
theorem le_take (x : Int) (n i : Nat) (h : i ≤ n) : (le x n).take i = le x i := by
  simp only [le, ← List.map_take, List.take_range, Nat.min_eq_left h]
theorem le_succ (x : Int) (i : Nat) : le x (i + 1) = le x i ++ [UInt8.ofNat (x / 256 ^ i).toNat] := by simp [le, List.range_succ]
def badN (x n : Int) : Prop := n < 1 ∨ 4 < n ∨ x < 0 ∨ x / 2 ^ (8 * n).toNat ≠ 0
instance (x n : Int) : Decidable (badN x n) := by unfold badN; exact inferInstance
def numE (E x n : Int) : Int := if E ≠ 0 then E else if badN x n then 1 else 0
def numX (E : Int) (xs : List UInt8) (x n : Int) : List UInt8 := if E ≠ 0 ∨ badN x n then xs else xs ++ le x n.toNat
def putX (E : Int) (xs ys : List UInt8) : List UInt8 := if E = 0 then xs ++ ys else xs
def txtE (E : Int) (s : List UInt8) : Int := if E ≠ 0 then E else if 255 < s.length then 3 else 0
def txtX (E : Int) (xs s : List UInt8) : List UInt8 := if E ≠ 0 ∨ 255 < s.length then xs else xs ++ UInt8.ofNat s.length :: s

theorem txtE_same {E : Int} {s : List UInt8} (h : E ≠ 0 ∨ ¬ 255 < s.length) : txtE E s = E := by
  unfold txtE
  by_cases hE : E = 0
  · rw [if_neg (by omega), if_neg (by omega), hE]
  · rw [if_pos hE]
theorem txtE_big {E : Int} {s : List UInt8} (hE : E = 0) (h : 255 < s.length) : txtE E s = 3 := by
  unfold txtE; rw [if_neg (by omega), if_pos h]
theorem txtE_zero {E : Int} {s : List UInt8} (h : txtE E s = 0) : E = 0 ∧ ¬ 255 < s.length := by
  by_cases hE : E = 0
  · by_cases hs : 255 < s.length
    · rw [txtE_big hE hs] at h; omega
    · exact ⟨hE, hs⟩
  · rw [txtE_same (.inl hE)] at h; exact absurd h hE
theorem txtX_bad {E : Int} {xs s : List UInt8} (h : txtE E s ≠ 0) : txtX E xs s = xs := by
  unfold txtX
  by_cases hE : E = 0
  · rw [if_pos (.inr (Classical.byContradiction fun hs => h (by rw [txtE_same (.inr hs)]; exact hE)))]
  · rw [if_pos (.inl hE)]
theorem numE_bad {E x n : Int} (h : E ≠ 0 ∨ badN x n) : numE E x n ≠ 0 := by unfold numE; split; assumption; rw [if_pos (h.resolve_left (by assumption))]; decide
theorem numE_good {E x n : Int} (h : ¬ (E ≠ 0 ∨ badN x n)) : numE E x n = 0 := by
  unfold numE; rw [if_neg (fun h' => h (.inl h')), if_neg (fun h' => h (.inr h'))]
theorem numX_bad {E x n : Int} {xs : List UInt8} (h : numE E x n ≠ 0) : numX E xs x n = xs := by
  unfold numX; rw [if_pos (by apply Classical.byContradiction; intro h'; exact h (numE_good h'))]
theorem numX_good {E x n : Int} {xs : List UInt8} (h : numE E x n = 0) : numX E xs x n = xs ++ le x n.toNat := by
  unfold numX; rw [if_neg (fun h' => numE_bad h' h)]
theorem numE_zero {E x n : Int} (h : numE E x n = 0) : E = 0 ∧ ¬ badN x n := by
  have : ¬ (E ≠ 0 ∨ badN x n) := fun h' => numE_bad h' h
  exact ⟨Classical.byContradiction fun h' => this (.inl h'), fun h' => this (.inr h')⟩
theorem shift_div (x : Int) (i : Nat) : x / 2 ^ (8 * (i : Int)).toNat = x / 256 ^ i := by
  rw [show (8 * (i : Int)).toNat = 8 * i from by omega, Int.pow_mul]; rfl
theorem small_len {n : Nat} (h : n ≤ 255) : ¬ badN n 1 := by
  unfold badN
  have h2 : ((n : Int) / 2 ^ (8 * (1 : Int)).toNat) = 0 := by
    show (n : Int) / 256 = 0
    omega
  omega
theorem le_one (n : Nat) : le n 1 = [UInt8.ofNat n] := by
  simp [le, List.range_succ]
theorem byte_of {x : Int} (h : 0 ≤ x) : Value.int .u8 (IntKind.u8.wrap x) = b8 (UInt8.ofNat x.toNat) := by
  have h1 : IntKind.u8.wrap x = x % 256 := by
    show IntKind.wrap .u8 x = _
    simp [IntKind.wrap, IntKind.signed, IntKind.bits]
  rw [h1, b8, UInt8.toNat_ofNat']
  congr 1; omega

theorem wrap_byte {x : Int} (h : 0 ≤ x) : IntKind.u8.wrap x = ((UInt8.ofNat x.toNat).toNat : Int) := by
  have := byte_of h; simpa [b8] using this
theorem numE_of_bad {E x n : Int} (h : badN x n) : numE E x n = if E = 0 then 1 else E := by
  unfold numE; by_cases hE : E = 0 <;> simp [hE, h]
theorem numE_of_good {E x n : Int} (h : ¬ badN x n) : numE E x n = E := by
  unfold numE; by_cases hE : E = 0 <;> simp [hE, h]
theorem num_end {E x n : Int} {xs : List UInt8} {i : Nat} (h1 : numE E x n ≠ 0 → i = 0) (h2 : numE E x n = 0 → i = n.toNat) : xs ++ le x i = numX E xs x n := by
  by_cases h : numE E x n = 0
  · rw [numX_good h, h2 h]
  · rw [numX_bad h, h1 h]; simp [le]
theorem le_snoc {xs : List UInt8} {x : Int} {i : Nat} : xs ++ le x (i + 1) = (xs ++ le x i) ++ [UInt8.ofNat (x / 256 ^ i).toNat] := by rw [le_succ, List.append_assoc]

/-! ### the writers -/
def csL (E : Int) (s : Value) : List Value := [.int .i64 E, s]
def csR (E : Int) (s : Value) : List Value := [s, .int .i64 E]
/-- a writer in memory: its error, what it has; its blocks are of D -/
def WrO (cs : Int → Value → List Value) (T : TypeId) (D : Nat → Prop) (H : Array Obj) (p : Nat) (E : Int) (xs : List UInt8) : Prop :=
  ∃ ao c, H[p]? = some (.cells (cs E (.slice ao xs.length c)).toArray T (0, 0)) ∧ Own b8 5 H ao c xs ∧ ¬ blk ao p ∧ D p ∧ ∀ k, blk ao k → D k
abbrev WrL := WrO csL 87
abbrev WrR := WrO csR 91

section
variable {cs : Int → Value → List Value} {T : TypeId} {D : Nat → Prop} {p : Nat} {E : Int} {xs : List UInt8}
theorem WrO.lt {H : Array Obj} (h : WrO cs T D H p E xs) : p < H.size := by obtain ⟨ao, c, hg, _⟩ := h; exact (Array.getElem?_eq_some_iff.1 hg).1
theorem WrO.keep {S : Nat → Prop} {w w' : World} (h : WrO cs T D w.heap p E xs) (f : Foot S w w') (hs : ∀ k, D k → ¬ S k) : WrO cs T D w'.heap p E xs := by
  obtain ⟨ao, c, hg, ho, h1, h2, h3⟩ := h
  exact ⟨ao, c, f.obj hg (hs p h2), ho.keep f (fun a ha => hs _ (h3 _ ⟨a, ha, rfl⟩)), h1, h2, h3⟩
theorem WrO.grow {w w' : World} (h : WrO cs T D w.heap p E xs) (f : Foot nob w w') : WrO cs T D w'.heap p E xs := h.keep f (fun _ _ => id)
/-- what is laid beside it is none of its blocks -/
theorem WrO.shrink {w w' : World} (h : WrO cs T D w.heap p E xs) (f : Foot nob w w') : WrO cs T (fun k => D k ∧ (k < w.heap.size ∨ w'.heap.size ≤ k)) w'.heap p E xs := by
  have h' := h.grow f
  have hl := h.lt
  obtain ⟨ao, c, hg, ho, h1, h2, h3⟩ := h
  refine ⟨ao, c, f.obj hg id, ho.grow f, h1, ⟨h2, .inl hl⟩, fun k hk => ⟨h3 k hk, .inl ?_⟩⟩
  obtain ⟨a, ha, rfl⟩ := hk
  exact ho.lt a ha
theorem WrO.mono {D' : Nat → Prop} {H : Array Obj} (h : WrO cs T D H p E xs) (hd : ∀ k, D k → D' k) : WrO cs T D' H p E xs := by
  obtain ⟨ao, c, hg, ho, h1, h2, h3⟩ := h
  exact ⟨ao, c, hg, ho, h1, hd _ h2, fun k hk => hd k (h3 k hk)⟩
/-- an append, step by step -/
theorem wr_step {W w1 w2 w3 : World} {ys : List UInt8} {ao ao2 : Option Addr} {c2 : Nat} (hD : ∀ k, W.heap.size ≤ k → D k) (hap : ¬ blk ao p) (hDp : D p) (hDa : ∀ k, blk ao k → D k) (hpW : p < W.heap.size)
    (hf1 : Foot nob W w1) (ho2 : Own b8 5 w2.heap ao2 c2 (xs ++ ys)) (hf2 : Foot (blk ao) w1 w2) (hr2 : ∀ a, ao2 = some a → ao = some a ∨ w1.heap.size ≤ a.block)
    (hg3 : w3.heap[p]? = some (.cells (cs E (.slice ao2 (xs ++ ys).length c2)).toArray T (0, 0))) (hf3 : Foot (· = p) w2 w3) :
    WrO cs T D w3.heap p E (xs ++ ys) ∧ Foot D W w3 := by
  have h1 := hf1.size
  have hap2 : ¬ blk ao2 p := fun ⟨a, ha, hb⟩ => by
    rcases hr2 a ha with h | h
    · exact hap ⟨a, h, hb⟩
    · omega
  refine ⟨⟨ao2, c2, hg3, ho2.keep hf3 (fun a ha h => hap2 ⟨a, ha, h⟩), hap2, hDp, fun k hk => ?_⟩, ?_⟩
  · obtain ⟨a, ha, rfl⟩ := hk
    rcases hr2 a ha with h | h
    · exact hDa _ ⟨a, h, rfl⟩
    · exact hD _ (by omega)
  · exact ((hf1.mono (fun _ h => h.elim)).trans (hf2.mono (fun k h => hDa k h))).trans (hf3.mono (fun k h => by subst h; exact hDp))
end

theorem fail_ok (D : Nat → Prop) (p : Nat) (E : Int) (xs : List UInt8) (e : Int) (W : World) (hP : WrL D W.heap p E xs) :
    Calls Try.prog 72 [.pointer (some ⟨p, 0, none⟩), .int .i64 e].toArray W
      (Ret fun v w' => WrL D w'.heap p (if E = 0 then e else E) xs ∧ Foot D W w') := by
  have hPP := hP
  obtain ⟨ao, c, hobj, hown, hap, hDp, hDa⟩ := hP
  refine calls_of_sc 13 [(0, _), (1, _)] Try.func72 rfl rfl rfl (enter_slots ⟨rfl, rfl, trivial⟩) ?_
  refine Sc.seq ?_
  refine Sc.region ?_
  refine Sl.calm (Cm.move rfl) rfl ?_
  refine Sl.calm (Cm.nilCheck rfl) rfl ?_
  refine Sl.calm (Cm.field fld85_0 rfl) rfl ?_
  refine Sl.calm (Cm.ld sca26 rfl (cellF hobj rfl)) rfl ?_
  refine Sl.fork (Cm.eql rfl rfl) rfl (fun h8 => ?_) (fun h8 => ?_)
  ·
    refine Sl.nil ?_
    refine At.weak [(0, _), (1, _), (8, _)] ⟨rfl, rfl, rfl, trivial⟩ ?_
    refine At.go ?_
    refine Sc.cond_t rfl ?_
    refine Sc.region ?_
    refine Sl.calm (Cm.move rfl) rfl ?_
    refine Sl.calm (Cm.move rfl) rfl ?_
    refine Sl.calm (Cm.nilCheck rfl) rfl ?_
    refine Sl.calm (Cm.field fld85_0 rfl) rfl ?_
    refine Sl.store sca26 rfl rfl rfl hobj rfl ?_
    intro w1 hg1 hs1 hf1
    refine Sl.nil ?_
    refine At.end0 rfl ?_
    exact ⟨_, rfl, by rw [if_pos h8]; exact ⟨ao, c, hg1, hown.keep hf1 (fun a ha h => hap ⟨a, ha, h⟩), hap, hDp, hDa⟩, hf1.mono (fun k h => by subst h; exact hDp)⟩
  ·
    refine Sl.nil ?_
    refine At.weak [(0, _), (1, _), (8, _)] ⟨rfl, rfl, rfl, trivial⟩ ?_
    refine At.go ?_
    refine Sc.cond_f rfl ?_
    refine Sc.skip ?_
    refine At.end0 rfl ?_
    exact ⟨_, rfl, by rw [if_neg h8]; exact hPP, Foot.refl _ _⟩

theorem err_ok (D : Nat → Prop) (p : Nat) (E : Int) (xs : List UInt8) (W : World) (hP : WrL D W.heap p E xs) :
    Calls Try.prog 45 [.pointer (some ⟨p, 0, none⟩)].toArray W
      (Ret fun v w' => v = .int .i64 E ∧ w' = W) := by
  obtain ⟨ao, c, hobj, hown, hap, hDp, hDa⟩ := hP
  refine calls_of_sc 7 [(0, _)] Try.func45 rfl rfl rfl (enter_slots ⟨rfl, trivial⟩) ?_
  refine Sc.seq ?_
  refine Sc.region ?_
  refine Sl.calm (Cm.assign rfl) rfl ?_
  refine Sl.nil ?_
  refine At.go ?_
  refine Sc.seq ?_
  refine Sc.region ?_
  refine Sl.calm (Cm.move rfl) rfl ?_
  refine Sl.calm (Cm.nilCheck rfl) rfl ?_
  refine Sl.calm (Cm.field fld85_0 rfl) rfl ?_
  refine Sl.calm (Cm.ld sca26 rfl (cellF hobj rfl)) rfl ?_
  refine Sl.calm (Cm.assign rfl) rfl ?_
  refine Sl.nil ?_
  refine At.weak [(0, _), (2, _)] ⟨rfl, rfl, trivial⟩ ?_
  refine At.go ?_
  refine Sc.ret ?_
  refine At.ret1 rfl rfl ?_
  exact ⟨_, rfl, rfl, rfl⟩

set_option maxHeartbeats 1000000 in
theorem num_ok (D : Nat → Prop) (p : Nat) (E : Int) (xs : List UInt8) (x n : Int) (W : World) (hP : WrL D W.heap p E xs) (hD : ∀ k, W.heap.size ≤ k → D k) (hb : xs.length ≤ 1099511627776) :
    Calls Try.prog 43 [.pointer (some ⟨p, 0, none⟩), .int .i64 x, .int .i64 n].toArray W
      (Ret fun v w' => WrL D w'.heap p (numE E x n) (numX E xs x n) ∧ Foot D W w') := by
  refine calls_of_sc 55 [(0, _), (1, _), (2, _)] Try.func43 rfl rfl rfl (enter_slots ⟨rfl, rfl, rfl, trivial⟩) ?_
  refine Sc.cut (β := Unit) (fun _u => [(0, .pointer (some ⟨p, 0, none⟩)), (1, .int .i64 x), (2, .int .i64 n)]) (fun _u w => WrL D w.heap p (numE E x n) xs ∧ Foot D W w) ?_ ?_
  ·
    refine Sc.seq ?_
    refine Sc.region ?_
    refine Sl.calm (Cm.move rfl) rfl ?_
    refine Sl.fork (Cm.lss rfl rfl) rfl (fun h8 => ?_) (fun h8 => ?_)
    ·
      refine Sl.calm (Cm.move rfl) rfl ?_
      refine Sl.skip rfl rfl rfl rfl ?_
      refine Sl.skip rfl rfl rfl rfl ?_
      refine Sl.calm (Cm.pick_t rfl rfl) rfl ?_
      refine Sl.calm (Cm.move rfl) rfl ?_
      refine Sl.skip rfl rfl rfl rfl ?_
      refine Sl.skip rfl rfl rfl rfl ?_
      refine Sl.calm (Cm.pick_t rfl rfl) rfl ?_
      refine Sl.calm (Cm.move rfl) rfl ?_
      refine Sl.skip rfl rfl rfl rfl ?_
      refine Sl.skip rfl rfl rfl rfl ?_
      refine Sl.skip rfl rfl rfl rfl ?_
      refine Sl.skip rfl rfl rfl rfl ?_
      refine Sl.skip rfl rfl rfl rfl ?_
      refine Sl.calm (Cm.pick_t rfl rfl) rfl ?_
      refine Sl.nil ?_
      refine At.weak [(0, _), (1, _), (2, _), (23, _)] ⟨rfl, rfl, rfl, rfl, trivial⟩ ?_
      refine At.go ?_
      refine Sc.cond_t rfl ?_
      refine Sc.region ?_
      refine Sl.calm (Cm.move rfl) rfl ?_
      refine Sl.calm (Cm.nilCheck rfl) rfl ?_
      refine Sl.calm (Cm.field fld87_0 rfl) rfl ?_
      refine Sl.call fn72 rfl (fail_ok D p E xs 1 W hP) rfl ?_
      rintro _ w1 hw1
      refine Sl.nil ?_
      refine At.cut () ⟨rfl, rfl, rfl, trivial⟩ ?_
      first
        | exact ⟨by rw [numE_of_bad (by first | exact .inl h8 | exact .inr (.inl h11) | exact .inr (.inr (.inl h15)) | exact .inr (.inr (.inr h22)))]; exact hw1.1, hw1.2⟩
        | exact ⟨by rw [numE_of_good (by rintro (h | h | h | h); exact h8 h; exact h11 h; exact h15 h; exact h22 h)]; exact hP, Foot.refl _ _⟩
    ·
      refine Sl.calm (Cm.move rfl) rfl ?_
      refine Sl.want rfl rfl (Cm.move rfl) rfl ?_
      refine Sl.forkWant rfl rfl (Cm.gtr rfl rfl) rfl (fun h11 => ?_) (fun h11 => ?_)
      ·
        refine Sl.calm (Cm.pick_f rfl rfl) rfl ?_
        refine Sl.calm (Cm.move rfl) rfl ?_
        refine Sl.skip rfl rfl rfl rfl ?_
        refine Sl.skip rfl rfl rfl rfl ?_
        refine Sl.calm (Cm.pick_t rfl rfl) rfl ?_
        refine Sl.calm (Cm.move rfl) rfl ?_
        refine Sl.skip rfl rfl rfl rfl ?_
        refine Sl.skip rfl rfl rfl rfl ?_
        refine Sl.skip rfl rfl rfl rfl ?_
        refine Sl.skip rfl rfl rfl rfl ?_
        refine Sl.skip rfl rfl rfl rfl ?_
        refine Sl.calm (Cm.pick_t rfl rfl) rfl ?_
        refine Sl.nil ?_
        refine At.weak [(0, _), (1, _), (2, _), (23, _)] ⟨rfl, rfl, rfl, rfl, trivial⟩ ?_
        refine At.go ?_
        refine Sc.cond_t rfl ?_
        refine Sc.region ?_
        refine Sl.calm (Cm.move rfl) rfl ?_
        refine Sl.calm (Cm.nilCheck rfl) rfl ?_
        refine Sl.calm (Cm.field fld87_0 rfl) rfl ?_
        refine Sl.call fn72 rfl (fail_ok D p E xs 1 W hP) rfl ?_
        rintro _ w1 hw1
        refine Sl.nil ?_
        refine At.cut () ⟨rfl, rfl, rfl, trivial⟩ ?_
        first
          | exact ⟨by rw [numE_of_bad (by first | exact .inl h8 | exact .inr (.inl h11) | exact .inr (.inr (.inl h15)) | exact .inr (.inr (.inr h22)))]; exact hw1.1, hw1.2⟩
          | exact ⟨by rw [numE_of_good (by rintro (h | h | h | h); exact h8 h; exact h11 h; exact h15 h; exact h22 h)]; exact hP, Foot.refl _ _⟩
      ·
        refine Sl.calm (Cm.pick_f rfl rfl) rfl ?_
        refine Sl.calm (Cm.move rfl) rfl ?_
        refine Sl.want rfl rfl (Cm.move rfl) rfl ?_
        refine Sl.forkWant rfl rfl (Cm.lss rfl rfl) rfl (fun h15 => ?_) (fun h15 => ?_)
        ·
          refine Sl.calm (Cm.pick_f rfl rfl) rfl ?_
          refine Sl.calm (Cm.move rfl) rfl ?_
          refine Sl.skip rfl rfl rfl rfl ?_
          refine Sl.skip rfl rfl rfl rfl ?_
          refine Sl.skip rfl rfl rfl rfl ?_
          refine Sl.skip rfl rfl rfl rfl ?_
          refine Sl.skip rfl rfl rfl rfl ?_
          refine Sl.calm (Cm.pick_t rfl rfl) rfl ?_
          refine Sl.nil ?_
          refine At.weak [(0, _), (1, _), (2, _), (23, _)] ⟨rfl, rfl, rfl, rfl, trivial⟩ ?_
          refine At.go ?_
          refine Sc.cond_t rfl ?_
          refine Sc.region ?_
          refine Sl.calm (Cm.move rfl) rfl ?_
          refine Sl.calm (Cm.nilCheck rfl) rfl ?_
          refine Sl.calm (Cm.field fld87_0 rfl) rfl ?_
          refine Sl.call fn72 rfl (fail_ok D p E xs 1 W hP) rfl ?_
          rintro _ w1 hw1
          refine Sl.nil ?_
          refine At.cut () ⟨rfl, rfl, rfl, trivial⟩ ?_
          first
            | exact ⟨by rw [numE_of_bad (by first | exact .inl h8 | exact .inr (.inl h11) | exact .inr (.inr (.inl h15)) | exact .inr (.inr (.inr h22)))]; exact hw1.1, hw1.2⟩
            | exact ⟨by rw [numE_of_good (by rintro (h | h | h | h); exact h8 h; exact h11 h; exact h15 h; exact h22 h)]; exact hP, Foot.refl _ _⟩
        ·
          refine Sl.calm (Cm.pick_f rfl rfl) rfl ?_
          refine Sl.calm (Cm.move rfl) rfl ?_
          refine Sl.want rfl rfl (Cm.move rfl) rfl ?_
          refine Sl.want rfl rfl (Cm.move rfl) rfl ?_
          refine Sl.want rfl rfl (Cm.mul64 rfl rfl (by omega)) rfl ?_
          refine Sl.want rfl rfl (Cm.shr rfl rfl (by omega)) rfl ?_
          refine Sl.forkWant rfl rfl (Cm.neq rfl rfl) rfl (fun h22 => ?_) (fun h22 => ?_)
          ·
            refine Sl.calm (Cm.pick_f rfl rfl) rfl ?_
            refine Sl.nil ?_
            refine At.weak [(0, _), (1, _), (2, _), (23, _)] ⟨rfl, rfl, rfl, rfl, trivial⟩ ?_
            refine At.go ?_
            refine Sc.cond_t rfl ?_
            refine Sc.region ?_
            refine Sl.calm (Cm.move rfl) rfl ?_
            refine Sl.calm (Cm.nilCheck rfl) rfl ?_
            refine Sl.calm (Cm.field fld87_0 rfl) rfl ?_
            refine Sl.call fn72 rfl (fail_ok D p E xs 1 W hP) rfl ?_
            rintro _ w1 hw1
            refine Sl.nil ?_
            refine At.cut () ⟨rfl, rfl, rfl, trivial⟩ ?_
            first
              | exact ⟨by rw [numE_of_bad (by first | exact .inl h8 | exact .inr (.inl h11) | exact .inr (.inr (.inl h15)) | exact .inr (.inr (.inr h22)))]; exact hw1.1, hw1.2⟩
              | exact ⟨by rw [numE_of_good (by rintro (h | h | h | h); exact h8 h; exact h11 h; exact h15 h; exact h22 h)]; exact hP, Foot.refl _ _⟩
          ·
            refine Sl.calm (Cm.pick_f rfl rfl) rfl ?_
            refine Sl.nil ?_
            refine At.weak [(0, _), (1, _), (2, _), (23, _)] ⟨rfl, rfl, rfl, rfl, trivial⟩ ?_
            refine At.go ?_
            refine Sc.cond_f rfl ?_
            refine Sc.skip ?_
            refine At.cut () ⟨rfl, rfl, rfl, trivial⟩ ?_
            first
              | exact ⟨by rw [numE_of_bad (by first | exact .inl h8 | exact .inr (.inl h11) | exact .inr (.inr (.inl h15)) | exact .inr (.inr (.inr h22)))]; exact hw1.1, hw1.2⟩
              | exact ⟨by rw [numE_of_good (by rintro (h | h | h | h); exact h8 h; exact h11 h; exact h15 h; exact h22 h)]; exact hP, Foot.refl _ _⟩
  ·
    rintro _ w2 ⟨hP2, hF2⟩
    refine Sc.seq ?_
    refine Sc.region ?_
    refine Sl.calm (Cm.assign rfl) rfl ?_
    refine Sl.nil ?_
    refine At.go ?_
    refine Sc.block ?_
    refine Sc.loop (β := Nat) (fun i => [(0, .pointer (some ⟨p, 0, none⟩)), (1, .int .i64 x), (2, .int .i64 n), (6, .int .i64 i)]) (fun i w => (numE E x n ≠ 0 → i = 0) ∧ (numE E x n = 0 → i ≤ n.toNat) ∧ WrL D w.heap p (numE E x n) (xs ++ le x i) ∧ Foot D W w) (fun i => n.toNat - i) 0 ⟨rfl, rfl, rfl, rfl, trivial⟩ ⟨fun _ => rfl, fun _ => Nat.zero_le _, by simpa [le] using hP2, hF2⟩ ?_
    rintro i w3 ⟨hi0, hi1, hP3, hF3⟩
    refine Sc.seq ?_
    refine Sc.seq ?_
    refine Sc.region ?_
    refine Sl.calm (Cm.move rfl) rfl ?_
    refine Sl.calm (Cm.move rfl) rfl ?_
    refine Sl.fork (Cm.lss rfl rfl) rfl (fun h30 => ?_) (fun h30 => ?_)
    ·
      refine Sl.calm (Cm.move rfl) rfl ?_
      refine Sl.want rfl rfl (Cm.move rfl) rfl ?_
      refine Sl.want rfl rfl (Cm.nilCheck rfl) rfl ?_
      refine Sl.want rfl rfl (Cm.field fld87_0 rfl) rfl ?_
      refine Sl.want rfl rfl (Cm.field fld85_0 rfl) rfl ?_
      have hP2 := hP3
      obtain ⟨ao, c, hobj, hown, hap, hDp, hDa⟩ := hP3
      refine Sl.want rfl rfl (Cm.ld sca26 rfl (cellF hobj rfl)) rfl ?_
      refine Sl.forkWant rfl rfl (Cm.eql rfl rfl) rfl (fun h37 => ?_) (fun h37 => ?_)
      ·
        refine Sl.calm (Cm.pick_t rfl rfl) rfl ?_
        refine Sl.nil ?_
        refine At.weak [(0, _), (1, _), (2, _), (6, _), (38, _)] ⟨rfl, rfl, rfl, rfl, rfl, trivial⟩ ?_
        refine At.go ?_
        refine Sc.cond_t rfl ?_
        refine Sc.skip ?_
        refine At.go ?_
        refine Sc.seq ?_
        refine Sc.block ?_
        have hn4 : 1 ≤ n ∧ n ≤ 4 ∧ 0 ≤ x := by have := (numE_zero h37).2; unfold badN at this; omega
        refine Sc.draw 14 (fun H => H[p]? = some (.cells (csL (numE E x n) (.slice ao (xs ++ le x i).length c)).toArray 87 (0, 0))) [10, 11, 14] [0, 1, 2, 3, 4, 5, 6, 7, 8, 9, 10, 11, 12, 13, 14] mixed (by kernel_rfl) (hobj) ?_
        refine Sx.calm rfl rfl (Cm.move rfl) rfl ?_
        refine Sx.calm rfl rfl (Cm.move rfl) rfl ?_
        refine Sx.calm rfl rfl (Cm.nilCheck rfl) rfl ?_
        refine Sx.calm rfl rfl (Cm.field fld87_1 rfl) rfl ?_
        refine Sx.calm rfl rfl (Cm.load sca25 rfl (fun H hH => cellF hH rfl)) rfl ?_
        refine Sx.calm rfl rfl (Cm.move rfl) rfl ?_
        refine Sx.calm rfl rfl (Cm.move rfl) rfl ?_
        refine Sx.calm rfl rfl (Cm.mul64 rfl rfl (by omega)) rfl ?_
        refine Sx.calm rfl rfl (Cm.shr rfl rfl (by omega)) rfl ?_
        refine Sx.calm rfl rfl (Cm.convI_in (n := ((UInt8.ofNat (x / 256 ^ i).toNat).toNat : Int)) is3 ty5 rfl (by rw [shift_div]; exact wrap_byte (Int.ediv_nonneg hn4.2.2 (Int.pow_nonneg (by decide))))) rfl ?_
        refine Sx.eff rfl rfl (Sl.lit1 (enc := b8) (u := UInt8.ofNat (x / 256 ^ i).toNat) sl25 rfl rfl rfl ?_)
        intro w4 ho4 hs4 hf4
        refine Sx.on (by exact hf4.obj hobj (fun h => h)) ?_
        refine Sx.eff rfl rfl (Sl.append b8_one sl25 rfl rfl (hown.grow hf4.undraw) ho4.vw (by simp only [List.length_singleton, List.length_append, le_length]; omega) (by simp only [List.length_singleton, List.length_append, le_length]; unfold maxLen; omega) rfl ?_)
        intro ao5 c5 w5 ho5 hf5 hr5 hn5
        refine Sx.on (by exact hf5.obj (hf4.obj hobj (fun h => h)) hap) ?_
        refine Sx.calm rfl rfl (Cm.nilCheck rfl) rfl ?_
        refine Sx.calm rfl rfl (Cm.field fld87_1 rfl) rfl ?_
        refine Sx.eff rfl rfl (Sl.store sca25 rfl rfl rfl (hf5.obj (hf4.obj hobj (fun h => h)) hap) rfl ?_)
        intro w6 hg6 hs6 hf6
        refine Sx.last rfl ?_
        refine Sx.nil ?_
        refine At.block_normal ?_
        refine At.weak [(0, _), (1, _), (2, _), (6, _), (38, _)] ⟨rfl, rfl, rfl, rfl, rfl, trivial⟩ ?_
        refine At.go ?_
        refine Sc.region ?_
        refine Sl.calm (Cm.move rfl) rfl ?_
        refine Sl.calm (Cm.add64 rfl rfl (by omega)) rfl ?_
        refine Sl.calm (Cm.assign rfl) rfl ?_
        refine Sl.nil ?_
        obtain ⟨hP6, hF6⟩ := wr_step (cs := csL) (E := numE E x n) (hf_lt hF3 hD) hap hDp hDa hP2.lt hf4.undraw ho5 hf5 hr5 hg6 hf6
        refine At.again (i + 1) ⟨rfl, rfl, rfl, rfl, trivial⟩ ?_ (by show n.toNat - (i + 1) < n.toNat - i; omega)
        exact ⟨fun h => absurd h37 h, fun _ => by omega, by rw [le_snoc]; exact hP6, hF3.trans hF6⟩
      ·
        refine Sl.calm (Cm.pick_t rfl rfl) rfl ?_
        refine Sl.nil ?_
        refine At.weak [(0, _), (1, _), (2, _), (6, _), (38, _)] ⟨rfl, rfl, rfl, rfl, rfl, trivial⟩ ?_
        refine At.go ?_
        refine Sc.cond_f rfl ?_
        refine Sc.exit ?_
        refine At.then_exit ?_
        refine At.then_exit ?_
        refine At.block_hit ?_
        refine At.end0 rfl ?_
        first
          | exact ⟨_, rfl, by rw [← num_end (i := i) hi0 (fun h => by have := hi1 h; omega)]; exact hP3, hF3⟩
          | exact ⟨_, rfl, by rw [← num_end (i := i) hi0 (fun h => absurd h h37)]; exact hP2, hF3⟩
    ·
      refine Sl.calm (Cm.move rfl) rfl ?_
      refine Sl.skip rfl rfl rfl rfl ?_
      refine Sl.skip rfl rfl rfl rfl ?_
      refine Sl.skip rfl rfl rfl rfl ?_
      refine Sl.skip rfl rfl rfl rfl ?_
      refine Sl.skip rfl rfl rfl rfl ?_
      refine Sl.skip rfl rfl rfl rfl ?_
      refine Sl.calm (Cm.pick_f rfl rfl) rfl ?_
      refine Sl.nil ?_
      refine At.weak [(0, _), (1, _), (2, _), (6, _), (38, _)] ⟨rfl, rfl, rfl, rfl, rfl, trivial⟩ ?_
      refine At.go ?_
      refine Sc.cond_f rfl ?_
      refine Sc.exit ?_
      refine At.then_exit ?_
      refine At.then_exit ?_
      refine At.block_hit ?_
      refine At.end0 rfl ?_
      first
        | exact ⟨_, rfl, by rw [← num_end (i := i) hi0 (fun h => by have := hi1 h; omega)]; exact hP3, hF3⟩
        | exact ⟨_, rfl, by rw [← num_end (i := i) hi0 (fun h => absurd h h37)]; exact hP2, hF3⟩

set_option maxHeartbeats 1000000 in
theorem rnum_ok (D : Nat → Prop) (p : Nat) (E : Int) (xs : List UInt8) (x n : Int) (W : World) (hP : WrR D W.heap p E xs) (hD : ∀ k, W.heap.size ≤ k → D k) (hb : xs.length ≤ 1099511627776) :
    Calls Try.prog 46 [.pointer (some ⟨p, 0, none⟩), .int .i64 x, .int .i64 n].toArray W
      (Ret fun v w' => WrR D w'.heap p (numE E x n) (numX E xs x n) ∧ Foot D W w') := by
  have hP0 := hP
  obtain ⟨ao, c, hobj, hown, hap, hDp, hDa⟩ := hP
  refine calls_of_sc 51 [(0, _), (1, _), (2, _)] Try.func46 rfl rfl rfl (enter_slots ⟨rfl, rfl, rfl, trivial⟩) ?_
  refine Sc.seq ?_
  refine Sc.seq ?_
  refine Sc.region ?_
  refine Sl.calm (Cm.move rfl) rfl ?_
  refine Sl.calm (Cm.nilCheck rfl) rfl ?_
  refine Sl.calm (Cm.field fld91_1 rfl) rfl ?_
  refine Sl.calm (Cm.ld sca26 rfl (cellF hobj rfl)) rfl ?_
  refine Sl.fork (Cm.neq rfl rfl) rfl (fun h11 => ?_) (fun h11 => ?_)
  ·
    refine Sl.nil ?_
    refine At.weak [(0, _), (1, _), (2, _), (11, _)] ⟨rfl, rfl, rfl, rfl, trivial⟩ ?_
    refine At.go ?_
    refine Sc.cond_t rfl ?_
    refine Sc.ret ?_
    refine At.then_ret ?_
    refine At.ret0 rfl ?_
    have hE1 : numE E x n = E := by unfold numE; rw [if_pos h11]
    exact ⟨_, rfl, by rw [hE1, numX_bad (by rw [hE1]; exact h11)]; exact hP0, Foot.refl _ _⟩
  ·
    refine Sl.nil ?_
    refine At.weak [(0, _), (1, _), (2, _), (11, _)] ⟨rfl, rfl, rfl, rfl, trivial⟩ ?_
    refine At.go ?_
    refine Sc.cond_f rfl ?_
    refine Sc.skip ?_
    refine At.go ?_
    refine Sc.seq ?_
    refine Sc.seq ?_
    refine Sc.region ?_
    refine Sl.calm (Cm.move rfl) rfl ?_
    refine Sl.fork (Cm.lss rfl rfl) rfl (fun h13 => ?_) (fun h13 => ?_)
    ·
      refine Sl.calm (Cm.move rfl) rfl ?_
      refine Sl.skip rfl rfl rfl rfl ?_
      refine Sl.skip rfl rfl rfl rfl ?_
      refine Sl.calm (Cm.pick_t rfl rfl) rfl ?_
      refine Sl.calm (Cm.move rfl) rfl ?_
      refine Sl.skip rfl rfl rfl rfl ?_
      refine Sl.skip rfl rfl rfl rfl ?_
      refine Sl.calm (Cm.pick_t rfl rfl) rfl ?_
      refine Sl.calm (Cm.move rfl) rfl ?_
      refine Sl.skip rfl rfl rfl rfl ?_
      refine Sl.skip rfl rfl rfl rfl ?_
      refine Sl.skip rfl rfl rfl rfl ?_
      refine Sl.skip rfl rfl rfl rfl ?_
      refine Sl.skip rfl rfl rfl rfl ?_
      refine Sl.calm (Cm.pick_t rfl rfl) rfl ?_
      refine Sl.nil ?_
      refine At.weak [(0, _), (1, _), (2, _), (11, _), (28, _)] ⟨rfl, rfl, rfl, rfl, rfl, trivial⟩ ?_
      refine At.go ?_
      refine Sc.cond_t rfl ?_
      refine Sc.seq ?_
      refine Sc.region ?_
      refine Sl.calm (Cm.move rfl) rfl ?_
      refine Sl.calm (Cm.nilCheck rfl) rfl ?_
      refine Sl.calm (Cm.field fld91_1 rfl) rfl ?_
      refine Sl.store sca26 rfl rfl rfl hobj rfl ?_
      intro w1 hg1 hs1 hf1
      have hbad : badN x n := by first | exact .inl h13 | exact .inr (.inl h16) | exact .inr (.inr (.inl h20)) | exact .inr (.inr (.inr h27))
      have hE1 : numE E x n = 1 := by rw [numE_of_bad hbad, if_pos (by omega)]
      have hX1 : numX E xs x n = xs := numX_bad (by rw [hE1]; decide)
      refine Sl.nil ?_
      refine At.weak [(0, _), (1, _), (2, _), (11, _), (28, _)] ⟨rfl, rfl, rfl, rfl, rfl, trivial⟩ ?_
      refine At.go ?_
      refine Sc.ret ?_
      refine At.then_ret ?_
      refine At.ret0 rfl ?_
      exact ⟨_, rfl, by rw [hE1, hX1]; exact ⟨ao, c, hg1, hown.keep hf1 (fun a ha h => hap ⟨a, ha, h⟩), hap, hDp, hDa⟩, hf1.mono (fun k h => by subst h; exact hDp)⟩
    ·
      refine Sl.calm (Cm.move rfl) rfl ?_
      refine Sl.want rfl rfl (Cm.move rfl) rfl ?_
      refine Sl.forkWant rfl rfl (Cm.gtr rfl rfl) rfl (fun h16 => ?_) (fun h16 => ?_)
      ·
        refine Sl.calm (Cm.pick_f rfl rfl) rfl ?_
        refine Sl.calm (Cm.move rfl) rfl ?_
        refine Sl.skip rfl rfl rfl rfl ?_
        refine Sl.skip rfl rfl rfl rfl ?_
        refine Sl.calm (Cm.pick_t rfl rfl) rfl ?_
        refine Sl.calm (Cm.move rfl) rfl ?_
        refine Sl.skip rfl rfl rfl rfl ?_
        refine Sl.skip rfl rfl rfl rfl ?_
        refine Sl.skip rfl rfl rfl rfl ?_
        refine Sl.skip rfl rfl rfl rfl ?_
        refine Sl.skip rfl rfl rfl rfl ?_
        refine Sl.calm (Cm.pick_t rfl rfl) rfl ?_
        refine Sl.nil ?_
        refine At.weak [(0, _), (1, _), (2, _), (11, _), (28, _)] ⟨rfl, rfl, rfl, rfl, rfl, trivial⟩ ?_
        refine At.go ?_
        refine Sc.cond_t rfl ?_
        refine Sc.seq ?_
        refine Sc.region ?_
        refine Sl.calm (Cm.move rfl) rfl ?_
        refine Sl.calm (Cm.nilCheck rfl) rfl ?_
        refine Sl.calm (Cm.field fld91_1 rfl) rfl ?_
        refine Sl.store sca26 rfl rfl rfl hobj rfl ?_
        intro w1 hg1 hs1 hf1
        have hbad : badN x n := by first | exact .inl h13 | exact .inr (.inl h16) | exact .inr (.inr (.inl h20)) | exact .inr (.inr (.inr h27))
        have hE1 : numE E x n = 1 := by rw [numE_of_bad hbad, if_pos (by omega)]
        have hX1 : numX E xs x n = xs := numX_bad (by rw [hE1]; decide)
        refine Sl.nil ?_
        refine At.weak [(0, _), (1, _), (2, _), (11, _), (28, _)] ⟨rfl, rfl, rfl, rfl, rfl, trivial⟩ ?_
        refine At.go ?_
        refine Sc.ret ?_
        refine At.then_ret ?_
        refine At.ret0 rfl ?_
        exact ⟨_, rfl, by rw [hE1, hX1]; exact ⟨ao, c, hg1, hown.keep hf1 (fun a ha h => hap ⟨a, ha, h⟩), hap, hDp, hDa⟩, hf1.mono (fun k h => by subst h; exact hDp)⟩
      ·
        refine Sl.calm (Cm.pick_f rfl rfl) rfl ?_
        refine Sl.calm (Cm.move rfl) rfl ?_
        refine Sl.want rfl rfl (Cm.move rfl) rfl ?_
        refine Sl.forkWant rfl rfl (Cm.lss rfl rfl) rfl (fun h20 => ?_) (fun h20 => ?_)
        ·
          refine Sl.calm (Cm.pick_f rfl rfl) rfl ?_
          refine Sl.calm (Cm.move rfl) rfl ?_
          refine Sl.skip rfl rfl rfl rfl ?_
          refine Sl.skip rfl rfl rfl rfl ?_
          refine Sl.skip rfl rfl rfl rfl ?_
          refine Sl.skip rfl rfl rfl rfl ?_
          refine Sl.skip rfl rfl rfl rfl ?_
          refine Sl.calm (Cm.pick_t rfl rfl) rfl ?_
          refine Sl.nil ?_
          refine At.weak [(0, _), (1, _), (2, _), (11, _), (28, _)] ⟨rfl, rfl, rfl, rfl, rfl, trivial⟩ ?_
          refine At.go ?_
          refine Sc.cond_t rfl ?_
          refine Sc.seq ?_
          refine Sc.region ?_
          refine Sl.calm (Cm.move rfl) rfl ?_
          refine Sl.calm (Cm.nilCheck rfl) rfl ?_
          refine Sl.calm (Cm.field fld91_1 rfl) rfl ?_
          refine Sl.store sca26 rfl rfl rfl hobj rfl ?_
          intro w1 hg1 hs1 hf1
          have hbad : badN x n := by first | exact .inl h13 | exact .inr (.inl h16) | exact .inr (.inr (.inl h20)) | exact .inr (.inr (.inr h27))
          have hE1 : numE E x n = 1 := by rw [numE_of_bad hbad, if_pos (by omega)]
          have hX1 : numX E xs x n = xs := numX_bad (by rw [hE1]; decide)
          refine Sl.nil ?_
          refine At.weak [(0, _), (1, _), (2, _), (11, _), (28, _)] ⟨rfl, rfl, rfl, rfl, rfl, trivial⟩ ?_
          refine At.go ?_
          refine Sc.ret ?_
          refine At.then_ret ?_
          refine At.ret0 rfl ?_
          exact ⟨_, rfl, by rw [hE1, hX1]; exact ⟨ao, c, hg1, hown.keep hf1 (fun a ha h => hap ⟨a, ha, h⟩), hap, hDp, hDa⟩, hf1.mono (fun k h => by subst h; exact hDp)⟩
        ·
          refine Sl.calm (Cm.pick_f rfl rfl) rfl ?_
          refine Sl.calm (Cm.move rfl) rfl ?_
          refine Sl.want rfl rfl (Cm.move rfl) rfl ?_
          refine Sl.want rfl rfl (Cm.move rfl) rfl ?_
          refine Sl.want rfl rfl (Cm.mul64 rfl rfl (by omega)) rfl ?_
          refine Sl.want rfl rfl (Cm.shr rfl rfl (by omega)) rfl ?_
          refine Sl.forkWant rfl rfl (Cm.neq rfl rfl) rfl (fun h27 => ?_) (fun h27 => ?_)
          ·
            refine Sl.calm (Cm.pick_f rfl rfl) rfl ?_
            refine Sl.nil ?_
            refine At.weak [(0, _), (1, _), (2, _), (11, _), (28, _)] ⟨rfl, rfl, rfl, rfl, rfl, trivial⟩ ?_
            refine At.go ?_
            refine Sc.cond_t rfl ?_
            refine Sc.seq ?_
            refine Sc.region ?_
            refine Sl.calm (Cm.move rfl) rfl ?_
            refine Sl.calm (Cm.nilCheck rfl) rfl ?_
            refine Sl.calm (Cm.field fld91_1 rfl) rfl ?_
            refine Sl.store sca26 rfl rfl rfl hobj rfl ?_
            intro w1 hg1 hs1 hf1
            have hbad : badN x n := by first | exact .inl h13 | exact .inr (.inl h16) | exact .inr (.inr (.inl h20)) | exact .inr (.inr (.inr h27))
            have hE1 : numE E x n = 1 := by rw [numE_of_bad hbad, if_pos (by omega)]
            have hX1 : numX E xs x n = xs := numX_bad (by rw [hE1]; decide)
            refine Sl.nil ?_
            refine At.weak [(0, _), (1, _), (2, _), (11, _), (28, _)] ⟨rfl, rfl, rfl, rfl, rfl, trivial⟩ ?_
            refine At.go ?_
            refine Sc.ret ?_
            refine At.then_ret ?_
            refine At.ret0 rfl ?_
            exact ⟨_, rfl, by rw [hE1, hX1]; exact ⟨ao, c, hg1, hown.keep hf1 (fun a ha h => hap ⟨a, ha, h⟩), hap, hDp, hDa⟩, hf1.mono (fun k h => by subst h; exact hDp)⟩
          ·
            refine Sl.calm (Cm.pick_f rfl rfl) rfl ?_
            refine Sl.nil ?_
            refine At.weak [(0, _), (1, _), (2, _), (11, _), (28, _)] ⟨rfl, rfl, rfl, rfl, rfl, trivial⟩ ?_
            refine At.go ?_
            refine Sc.cond_f rfl ?_
            refine Sc.skip ?_
            refine At.go ?_
            refine Sc.seq ?_
            refine Sc.region ?_
            refine Sl.calm (Cm.assign rfl) rfl ?_
            refine Sl.nil ?_
            refine At.go ?_
            refine Sc.block ?_
            have hgood : ¬ badN x n := by rintro (h | h | h | h); exact h13 h; exact h16 h; exact h20 h; exact h27 h
            have hE0 : numE E x n = E := numE_of_good hgood
            refine Sc.loop (β := Nat) (fun i => [(0, .pointer (some ⟨p, 0, none⟩)), (1, .int .i64 x), (2, .int .i64 n), (6, .int .i64 i)]) (fun i w => i ≤ n.toNat ∧ WrR D w.heap p E (xs ++ le x i) ∧ Foot D W w) (fun i => n.toNat - i) 0 ⟨rfl, rfl, rfl, rfl, trivial⟩ ⟨Nat.zero_le _, by simpa [le] using hP0, Foot.refl _ _⟩ ?_
            rintro i w3 ⟨hi1, hP3, hF3⟩
            refine Sc.seq ?_
            refine Sc.seq ?_
            refine Sc.region ?_
            refine Sl.calm (Cm.move rfl) rfl ?_
            refine Sl.calm (Cm.move rfl) rfl ?_
            refine Sl.fork (Cm.lss rfl rfl) rfl (fun h34 => ?_) (fun h34 => ?_)
            ·
              refine Sl.nil ?_
              refine At.weak [(0, _), (1, _), (2, _), (6, _), (34, _)] ⟨rfl, rfl, rfl, rfl, rfl, trivial⟩ ?_
              refine At.go ?_
              refine Sc.cond_t rfl ?_
              refine Sc.skip ?_
              refine At.go ?_
              refine Sc.seq ?_
              refine Sc.block ?_
              have hP2 := hP3
              obtain ⟨ao, c, hobj, hown, hap, hDp, hDa⟩ := hP3
              refine Sc.draw 14 (fun H => H[p]? = some (.cells (csR E (.slice ao (xs ++ le x i).length c)).toArray 91 (0, 0))) [10, 11, 14] [0, 1, 2, 3, 4, 5, 6, 7, 8, 9, 10, 11, 12, 13, 14] mixed (by kernel_rfl) (hobj) ?_
              refine Sx.calm rfl rfl (Cm.move rfl) rfl ?_
              refine Sx.calm rfl rfl (Cm.move rfl) rfl ?_
              refine Sx.calm rfl rfl (Cm.nilCheck rfl) rfl ?_
              refine Sx.calm rfl rfl (Cm.field fld91_0 rfl) rfl ?_
              refine Sx.calm rfl rfl (Cm.load sca25 rfl (fun H hH => cellF hH rfl)) rfl ?_
              refine Sx.calm rfl rfl (Cm.move rfl) rfl ?_
              refine Sx.calm rfl rfl (Cm.move rfl) rfl ?_
              refine Sx.calm rfl rfl (Cm.mul64 rfl rfl (by omega)) rfl ?_
              refine Sx.calm rfl rfl (Cm.shr rfl rfl (by omega)) rfl ?_
              refine Sx.calm rfl rfl (Cm.convI_in (n := ((UInt8.ofNat (x / 256 ^ i).toNat).toNat : Int)) is3 ty5 rfl (by rw [shift_div]; exact wrap_byte (Int.ediv_nonneg (by omega) (Int.pow_nonneg (by decide))))) rfl ?_
              refine Sx.eff rfl rfl (Sl.lit1 (enc := b8) (u := UInt8.ofNat (x / 256 ^ i).toNat) sl25 rfl rfl rfl ?_)
              intro w4 ho4 hs4 hf4
              refine Sx.on (by exact hf4.obj hobj (fun h => h)) ?_
              refine Sx.eff rfl rfl (Sl.append b8_one sl25 rfl rfl (hown.grow hf4.undraw) ho4.vw (by simp only [List.length_singleton, List.length_append, le_length]; omega) (by simp only [List.length_singleton, List.length_append, le_length]; unfold maxLen; omega) rfl ?_)
              intro ao5 c5 w5 ho5 hf5 hr5 hn5
              refine Sx.on (by exact hf5.obj (hf4.obj hobj (fun h => h)) hap) ?_
              refine Sx.calm rfl rfl (Cm.nilCheck rfl) rfl ?_
              refine Sx.calm rfl rfl (Cm.field fld91_0 rfl) rfl ?_
              refine Sx.eff rfl rfl (Sl.store sca25 rfl rfl rfl (hf5.obj (hf4.obj hobj (fun h => h)) hap) rfl ?_)
              intro w6 hg6 hs6 hf6
              refine Sx.last rfl ?_
              refine Sx.nil ?_
              refine At.block_normal ?_
              refine At.weak [(0, _), (1, _), (2, _), (6, _), (34, _)] ⟨rfl, rfl, rfl, rfl, rfl, trivial⟩ ?_
              refine At.go ?_
              refine Sc.region ?_
              refine Sl.calm (Cm.move rfl) rfl ?_
              refine Sl.calm (Cm.add64 rfl rfl (by omega)) rfl ?_
              refine Sl.calm (Cm.assign rfl) rfl ?_
              refine Sl.nil ?_
              obtain ⟨hP6, hF6⟩ := wr_step (cs := csR) (E := E) (hf_lt hF3 hD) hap hDp hDa hP2.lt hf4.undraw ho5 hf5 hr5 hg6 hf6
              refine At.again (i + 1) ⟨rfl, rfl, rfl, rfl, trivial⟩ ?_ (by show n.toNat - (i + 1) < n.toNat - i; omega)
              exact ⟨by omega, by rw [le_snoc]; exact hP6, hF3.trans hF6⟩
            ·
              refine Sl.nil ?_
              refine At.weak [(0, _), (1, _), (2, _), (6, _), (34, _)] ⟨rfl, rfl, rfl, rfl, rfl, trivial⟩ ?_
              refine At.go ?_
              refine Sc.cond_f rfl ?_
              refine Sc.exit ?_
              refine At.then_exit ?_
              refine At.then_exit ?_
              refine At.block_hit ?_
              refine At.end0 rfl ?_
              exact ⟨_, rfl, by rw [← num_end (i := i) (fun h => absurd (by rw [hE0]; omega) h) (fun h => by omega), hE0]; exact hP3, hF3⟩

/-! bytes -/
theorem putX_len (E : Int) (xs ys : List UInt8) : (putX E xs ys).length ≤ xs.length + ys.length := by unfold putX; split <;> simp

theorem wbytes_ok (D : Nat → Prop) (p : Nat) (E : Int) (xs : List UInt8) (yo : Option Addr) (yc : Nat) (ys : List UInt8) (W : World) (hP : WrL D W.heap p E xs) (hD : ∀ k, W.heap.size ≤ k → D k) (hv : Vw b8 W.heap yo yc ys) (hb : xs.length ≤ 1099511627776) (hb2 : ys.length ≤ 1099511627776) :
    Calls Try.prog 73 [.pointer (some ⟨p, 0, none⟩), .slice yo ys.length yc].toArray W
      (Ret fun v w' => WrL D w'.heap p E (putX E xs ys) ∧ Foot D W w') := by
  have hP0 := hP
  obtain ⟨ao, c, hobj, hown, hap, hDp, hDa⟩ := hP
  refine calls_of_sc 19 [(0, _), (1, _)] Try.func73 rfl rfl rfl (enter_slots ⟨rfl, rfl, trivial⟩) ?_
  refine Sc.seq ?_
  refine Sc.region ?_
  refine Sl.calm (Cm.move rfl) rfl ?_
  refine Sl.calm (Cm.nilCheck rfl) rfl ?_
  refine Sl.calm (Cm.field fld87_0 rfl) rfl ?_
  refine Sl.calm (Cm.field fld85_0 rfl) rfl ?_
  refine Sl.calm (Cm.ld sca26 rfl (cellF hobj rfl)) rfl ?_
  refine Sl.fork (Cm.eql rfl rfl) rfl (fun h9 => ?_) (fun h9 => ?_)
  ·
    refine Sl.nil ?_
    refine At.weak [(0, _), (1, _), (9, _)] ⟨rfl, rfl, rfl, trivial⟩ ?_
    refine At.go ?_
    refine Sc.cond_t rfl ?_
    refine Sc.region ?_
    refine Sl.calm (Cm.move rfl) rfl ?_
    refine Sl.calm (Cm.move rfl) rfl ?_
    refine Sl.calm (Cm.nilCheck rfl) rfl ?_
    refine Sl.calm (Cm.field fld87_1 rfl) rfl ?_
    refine Sl.calm (Cm.ld sca25 rfl (cellF hobj rfl)) rfl ?_
    refine Sl.calm (Cm.move rfl) rfl ?_
    refine Sl.append b8_one sl25 rfl rfl hown hv (by omega) (by unfold maxLen; omega) rfl ?_
    intro ao5 c5 w5 ho5 hf5 hr5 hn5
    refine Sl.calm (Cm.nilCheck rfl) rfl ?_
    refine Sl.calm (Cm.field fld87_1 rfl) rfl ?_
    refine Sl.store sca25 rfl rfl rfl (hf5.obj hobj hap) rfl ?_
    intro w6 hg6 hs6 hf6
    refine Sl.nil ?_
    refine At.end0 rfl ?_
    obtain ⟨hP6, hF6⟩ := wr_step (cs := csL) (E := E) hD hap hDp hDa hP0.lt (Foot.refl _ _) ho5 hf5 hr5 hg6 hf6
    exact ⟨_, rfl, by unfold putX; rw [if_pos h9]; exact hP6, hF6⟩
  ·
    refine Sl.nil ?_
    refine At.weak [(0, _), (1, _), (9, _)] ⟨rfl, rfl, rfl, trivial⟩ ?_
    refine At.go ?_
    refine Sc.cond_f rfl ?_
    refine Sc.skip ?_
    refine At.end0 rfl ?_
    exact ⟨_, rfl, by unfold putX; rw [if_neg h9]; exact hP0, Foot.refl _ _⟩
theorem rbytes_ok (D : Nat → Prop) (p : Nat) (E : Int) (xs : List UInt8) (yo : Option Addr) (yc : Nat) (ys : List UInt8) (W : World) (hP : WrR D W.heap p E xs) (hD : ∀ k, W.heap.size ≤ k → D k) (hv : Vw b8 W.heap yo yc ys) (hb : xs.length ≤ 1099511627776) (hb2 : ys.length ≤ 1099511627776) :
    Calls Try.prog 75 [.pointer (some ⟨p, 0, none⟩), .slice yo ys.length yc].toArray W
      (Ret fun v w' => WrR D w'.heap p E (putX E xs ys) ∧ Foot D W w') := by
  have hP0 := hP
  obtain ⟨ao, c, hobj, hown, hap, hDp, hDa⟩ := hP
  refine calls_of_sc 18 [(0, _), (1, _)] Try.func75 rfl rfl rfl (enter_slots ⟨rfl, rfl, trivial⟩) ?_
  refine Sc.seq ?_
  refine Sc.region ?_
  refine Sl.calm (Cm.move rfl) rfl ?_
  refine Sl.calm (Cm.nilCheck rfl) rfl ?_
  refine Sl.calm (Cm.field fld91_1 rfl) rfl ?_
  refine Sl.calm (Cm.ld sca26 rfl (cellF hobj rfl)) rfl ?_
  refine Sl.fork (Cm.eql rfl rfl) rfl (fun h8 => ?_) (fun h8 => ?_)
  ·
    refine Sl.nil ?_
    refine At.weak [(0, _), (1, _), (8, _)] ⟨rfl, rfl, rfl, trivial⟩ ?_
    refine At.go ?_
    refine Sc.cond_t rfl ?_
    refine Sc.region ?_
    refine Sl.calm (Cm.move rfl) rfl ?_
    refine Sl.calm (Cm.move rfl) rfl ?_
    refine Sl.calm (Cm.nilCheck rfl) rfl ?_
    refine Sl.calm (Cm.field fld91_0 rfl) rfl ?_
    refine Sl.calm (Cm.ld sca25 rfl (cellF hobj rfl)) rfl ?_
    refine Sl.calm (Cm.move rfl) rfl ?_
    refine Sl.append b8_one sl25 rfl rfl hown hv (by omega) (by unfold maxLen; omega) rfl ?_
    intro ao5 c5 w5 ho5 hf5 hr5 hn5
    refine Sl.calm (Cm.nilCheck rfl) rfl ?_
    refine Sl.calm (Cm.field fld91_0 rfl) rfl ?_
    refine Sl.store sca25 rfl rfl rfl (hf5.obj hobj hap) rfl ?_
    intro w6 hg6 hs6 hf6
    refine Sl.nil ?_
    refine At.end0 rfl ?_
    obtain ⟨hP6, hF6⟩ := wr_step (cs := csR) (E := E) hD hap hDp hDa hP0.lt (Foot.refl _ _) ho5 hf5 hr5 hg6 hf6
    exact ⟨_, rfl, by unfold putX; rw [if_pos h8]; exact hP6, hF6⟩
  ·
    refine Sl.nil ?_
    refine At.weak [(0, _), (1, _), (8, _)] ⟨rfl, rfl, rfl, trivial⟩ ?_
    refine At.go ?_
    refine Sc.cond_f rfl ?_
    refine Sc.skip ?_
    refine At.end0 rfl ?_
    exact ⟨_, rfl, by unfold putX; rw [if_neg h8]; exact hP0, Foot.refl _ _⟩

/-! texts -/
theorem numX_len (E : Int) (xs : List UInt8) (x n : Int) (h : ¬ badN x n) : (numX E xs x n).length ≤ xs.length + 4 := by
  unfold numX; split
  · omega
  · simp only [List.length_append, le_length]; unfold badN at h; omega
theorem txt_good {E : Int} {xs s : List UInt8} (h : ¬ 255 < s.length) : numE E s.length 1 = txtE E s ∧ putX (numE E s.length 1) (numX E xs s.length 1) s = txtX E xs s := by
  have hb := small_len (n := s.length) (by omega)
  rw [numE_of_good hb]
  unfold txtE txtX putX numX
  by_cases hE : E = 0
  · simp [hE, h, hb, le_one]
  · simp [hE]

theorem wtext_ok (D : Nat → Prop) (p : Nat) (E : Int) (xs s : List UInt8) (W : World) (hP : WrL D W.heap p E xs) (hD : ∀ k, W.heap.size ≤ k → D k) (hb : xs.length ≤ 549755813888) :
    Calls Try.prog 48 [.pointer (some ⟨p, 0, none⟩), .string (bs s)].toArray W
      (Ret fun v w' => WrL D w'.heap p (txtE E s) (txtX E xs s) ∧ Foot D W w') := by
  refine calls_of_sc 19 [(0, _), (1, _)] Try.func48 rfl rfl rfl (enter_slots ⟨rfl, rfl, trivial⟩) ?_
  refine Sc.seq ?_
  refine Sc.seq ?_
  refine Sc.region ?_
  refine Sl.calm (Cm.move rfl) rfl ?_
  refine Sl.calm (Cm.lenBs ty9 rfl) rfl ?_
  refine Sl.fork (Cm.gtr rfl rfl) rfl (fun h6 => ?_) (fun h6 => ?_)
  ·
    refine Sl.nil ?_
    refine At.weak [(0, _), (1, _), (6, _)] ⟨rfl, rfl, rfl, trivial⟩ ?_
    refine At.go ?_
    refine Sc.cond_t rfl ?_
    refine Sc.seq ?_
    refine Sc.region ?_
    refine Sl.calm (Cm.move rfl) rfl ?_
    refine Sl.calm (Cm.nilCheck rfl) rfl ?_
    refine Sl.calm (Cm.field fld87_0 rfl) rfl ?_
    refine Sl.call fn72 rfl (fail_ok D p E xs 3 W hP) rfl ?_
    rintro _ w1 ⟨hP1, hF1⟩
    refine Sl.nil ?_
    refine At.weak [(0, _), (1, _), (6, _)] ⟨rfl, rfl, rfl, trivial⟩ ?_
    refine At.go ?_
    refine Sc.ret ?_
    refine At.then_ret ?_
    refine At.ret0 rfl ?_
    refine ⟨_, rfl, ?_, hF1⟩
    have h7 : 255 < s.length := by omega
    have e1 : txtE E s = if E = 0 then 3 else E := by unfold txtE; by_cases hE : E = 0 <;> simp [hE, h7]
    have e2 : txtX E xs s = xs := by unfold txtX; rw [if_pos (.inr h7)]
    rw [e1, e2]; exact hP1
  ·
    refine Sl.nil ?_
    refine At.weak [(0, _), (1, _), (6, _)] ⟨rfl, rfl, rfl, trivial⟩ ?_
    refine At.go ?_
    refine Sc.cond_f rfl ?_
    refine Sc.skip ?_
    refine At.go ?_
    refine Sc.seq ?_
    refine Sc.region ?_
    refine Sl.calm (Cm.move rfl) rfl ?_
    refine Sl.calm (Cm.move rfl) rfl ?_
    refine Sl.calm (Cm.lenBs ty9 rfl) rfl ?_
    have hs : ¬ 255 < s.length := by omega
    obtain ⟨e1, e2⟩ := txt_good (E := E) (xs := xs) hs
    have hl1 := numX_len E xs s.length 1 (small_len (by omega))
    refine Sl.call fn43 rfl (num_ok D p E xs s.length 1 W hP hD (by omega)) rfl ?_
    rintro _ w1 ⟨hP1, hF1⟩
    refine Sl.nil ?_
    refine At.weak [(0, _), (1, _), (6, _)] ⟨rfl, rfl, rfl, trivial⟩ ?_
    refine At.go ?_
    refine Sc.region ?_
    refine Sl.calm (Cm.move rfl) rfl ?_
    refine Sl.calm (Cm.move rfl) rfl ?_
    refine Sl.bytesOf ty9 sl25 ty5 rfl (by unfold maxLen; omega) rfl ?_
    intro w2 c2 hv2 hs2 hf2
    refine Sl.call fn73 rfl (wbytes_ok D p _ _ _ c2 s w2 (hP1.grow hf2) (hf_lt hf2 (hf_lt hF1 hD)) hv2 (by omega) (by omega)) rfl ?_
    rintro _ w3 ⟨hP3, hF3⟩
    refine Sl.nil ?_
    refine At.end0 rfl ?_
    rw [e2] at hP3; rw [e1] at hP3
    exact ⟨_, rfl, hP3, (hF1.trans (hf2.mono (fun _ h => h.elim))).trans hF3⟩
theorem rtext_ok (D : Nat → Prop) (p : Nat) (E : Int) (xs s : List UInt8) (W : World) (hP : WrR D W.heap p E xs) (hD : ∀ k, W.heap.size ≤ k → D k) (hb : xs.length ≤ 549755813888) (hsl : s.length ≤ 549755813888) :
    Calls Try.prog 50 [.pointer (some ⟨p, 0, none⟩), .string (bs s)].toArray W
      (Ret fun v w' => WrR D w'.heap p (txtE E s) (txtX E xs s) ∧ Foot D W w') := by
  have hP0 := hP
  obtain ⟨ao, c, hobj, hown, hap, hDp, hDa⟩ := hP
  refine calls_of_sc 26 [(0, _), (1, _)] Try.func50 rfl rfl rfl (enter_slots ⟨rfl, rfl, trivial⟩) ?_
  refine Sc.cut (β := Unit) (fun _u => [(0, .pointer (some ⟨p, 0, none⟩)), (1, .string (bs s))]) (fun _u w => WrR D w.heap p (txtE E s) xs ∧ Foot D W w) ?_ ?_
  ·
    refine Sc.seq ?_
    refine Sc.region ?_
    refine Sl.calm (Cm.move rfl) rfl ?_
    refine Sl.calm (Cm.nilCheck rfl) rfl ?_
    refine Sl.calm (Cm.field fld91_1 rfl) rfl ?_
    refine Sl.calm (Cm.ld sca26 rfl (cellF hobj rfl)) rfl ?_
    refine Sl.fork (Cm.eql rfl rfl) rfl (fun h8 => ?_) (fun h8 => ?_)
    ·
      refine Sl.calm (Cm.move rfl) rfl ?_
      refine Sl.want rfl rfl (Cm.move rfl) rfl ?_
      refine Sl.want rfl rfl (Cm.lenBs ty9 rfl) rfl ?_
      refine Sl.forkWant rfl rfl (Cm.gtr rfl rfl) rfl (fun h12 => ?_) (fun h12 => ?_)
      ·
        refine Sl.calm (Cm.pick_t rfl rfl) rfl ?_
        refine Sl.nil ?_
        refine At.weak [(0, _), (1, _), (13, _)] ⟨rfl, rfl, rfl, trivial⟩ ?_
        refine At.go ?_
        refine Sc.cond_t rfl ?_
        refine Sc.region ?_
        refine Sl.calm (Cm.move rfl) rfl ?_
        refine Sl.calm (Cm.nilCheck rfl) rfl ?_
        refine Sl.calm (Cm.field fld91_1 rfl) rfl ?_
        refine Sl.store sca26 rfl rfl rfl hobj rfl ?_
        intro w1 hg1 hs1 hf1
        refine Sl.nil ?_
        refine At.cut () ⟨rfl, rfl, trivial⟩ ?_
        first
          | exact ⟨by rw [txtE_big (by omega) (by omega)]; exact ⟨ao, c, hg1, hown.keep hf1 (fun a ha h => hap ⟨a, ha, h⟩), hap, hDp, hDa⟩, hf1.mono (fun k h => by subst h; exact hDp)⟩
          | exact ⟨by rw [txtE_same (by omega)]; exact hP0, Foot.refl _ _⟩
      ·
        refine Sl.calm (Cm.pick_t rfl rfl) rfl ?_
        refine Sl.nil ?_
        refine At.weak [(0, _), (1, _), (13, _)] ⟨rfl, rfl, rfl, trivial⟩ ?_
        refine At.go ?_
        refine Sc.cond_f rfl ?_
        refine Sc.skip ?_
        refine At.cut () ⟨rfl, rfl, trivial⟩ ?_
        first
          | exact ⟨by rw [txtE_big (by omega) (by omega)]; exact ⟨ao, c, hg1, hown.keep hf1 (fun a ha h => hap ⟨a, ha, h⟩), hap, hDp, hDa⟩, hf1.mono (fun k h => by subst h; exact hDp)⟩
          | exact ⟨by rw [txtE_same (by omega)]; exact hP0, Foot.refl _ _⟩
    ·
      refine Sl.calm (Cm.move rfl) rfl ?_
      refine Sl.skip rfl rfl rfl rfl ?_
      refine Sl.skip rfl rfl rfl rfl ?_
      refine Sl.skip rfl rfl rfl rfl ?_
      refine Sl.calm (Cm.pick_f rfl rfl) rfl ?_
      refine Sl.nil ?_
      refine At.weak [(0, _), (1, _), (13, _)] ⟨rfl, rfl, rfl, trivial⟩ ?_
      refine At.go ?_
      refine Sc.cond_f rfl ?_
      refine Sc.skip ?_
      refine At.cut () ⟨rfl, rfl, trivial⟩ ?_
      first
        | exact ⟨by rw [txtE_big (by omega) (by omega)]; exact ⟨ao, c, hg1, hown.keep hf1 (fun a ha h => hap ⟨a, ha, h⟩), hap, hDp, hDa⟩, hf1.mono (fun k h => by subst h; exact hDp)⟩
        | exact ⟨by rw [txtE_same (by omega)]; exact hP0, Foot.refl _ _⟩
  ·
    rintro _ w2 ⟨hP2, hF2⟩
    refine Sc.seq ?_
    refine Sc.region ?_
    refine Sl.calm (Cm.move rfl) rfl ?_
    refine Sl.calm (Cm.move rfl) rfl ?_
    refine Sl.calm (Cm.lenBs ty9 rfl) rfl ?_
    refine Sl.calm (Cm.rem64 rfl rfl (by omega) (by decide)) rfl ?_
    have hm : ((s.length : Int) % 256) = ((s.length % 256 : Nat) : Int) := by omega
    have hgood := small_len (n := s.length % 256) (by omega)
    have hl1 := numX_len (txtE E s) xs ((s.length : Int) % 256) 1 (by rw [hm]; exact hgood)
    refine Sl.call fn46 rfl (rnum_ok D p _ xs _ 1 w2 hP2 (hf_lt hF2 hD) (by omega)) rfl ?_
    rintro _ w3 ⟨hP3, hF3⟩
    refine Sl.nil ?_
    refine At.weak [(0, _), (1, _)] ⟨rfl, rfl, trivial⟩ ?_
    refine At.go ?_
    refine Sc.region ?_
    refine Sl.calm (Cm.move rfl) rfl ?_
    refine Sl.calm (Cm.move rfl) rfl ?_
    refine Sl.bytesOf ty9 sl25 ty5 rfl (by unfold maxLen; omega) rfl ?_
    intro w4 c4 hv4 hs4 hf4
    refine Sl.call fn75 rfl (rbytes_ok D p _ _ _ c4 s w4 (hP3.grow hf4) (hf_lt hf4 (hf_lt hF3 (hf_lt hF2 hD))) hv4 (by omega) (by omega)) rfl ?_
    rintro _ w5 ⟨hP5, hF5⟩
    refine Sl.nil ?_
    refine At.end0 rfl ?_
    refine ⟨_, rfl, ?_, ((hF2.trans hF3).trans (hf4.mono (fun _ h => h.elim))).trans hF5⟩
    rw [hm] at hP5
    rw [numE_of_good hgood] at hP5
    by_cases hE : txtE E s = 0
    · have h0 := txtE_zero hE
      have := (txt_good (E := E) (xs := xs) h0.2).2
      rw [numE_of_good (small_len (by omega))] at this
      rw [hE] at hP5 ⊢
      rw [h0.1] at this ⊢
      rw [← this, show s.length % 256 = s.length from by omega] at *
      exact hP5
    · have e2 : txtX E xs s = xs := txtX_bad hE
      rw [e2]
      have e3 : putX (txtE E s) (numX (txtE E s) xs ((s.length % 256 : Nat) : Int) 1) s = xs := by unfold putX; rw [if_neg hE]; exact numX_bad (by rw [numE_of_good hgood]; exact hE)
      rw [e3] at hP5; exact hP5

/-! a copy; what is done -/
def CloneP (W : World) (xs : List UInt8) : Value → World → Prop := fun v w' => ∃ ao' cap', v = .slice ao' xs.length cap' ∧ Own b8 5 w'.heap ao' cap' xs ∧ Fr W.heap.size ao' ∧ Foot nob W w'

theorem sclone_nil (cap : Nat) (xs : List UInt8) (W : World) (hv : Vw b8 W.heap none cap xs) : Calls Try.prog 60 [.slice none xs.length cap].toArray W (Ret (CloneP W xs)) := by
  have hx : xs = [] := List.eq_nil_of_length_eq_zero (by
    rcases Nat.eq_zero_or_pos xs.length with h | h
    · exact h
    · exact absurd rfl (hv.non (by omega)))
  subst hx
  refine calls_of_sc 8 [(0, _)] Try.func60 rfl rfl rfl (enter_slots ⟨rfl, trivial⟩) ?_
  refine Sc.seq ?_
  refine Sc.region ?_
  refine Sl.calm (Cm.assign rfl) rfl ?_
  refine Sl.nil ?_
  refine At.go ?_
  refine Sc.seq ?_
  refine Sc.seq ?_
  refine Sc.region ?_
  refine Sl.calm (Cm.move rfl) rfl ?_
  refine Sl.calm (Cm.eqlSlNil sl25 rfl rfl) rfl ?_
  refine Sl.nil ?_
  refine At.weak [(0, _), (2, _), (4, _)] ⟨rfl, rfl, rfl, trivial⟩ ?_
  refine At.go ?_
  refine Sc.cond_t rfl ?_
  refine Sc.seq ?_
  refine Sc.region ?_
  refine Sl.calm (Cm.assign rfl) rfl ?_
  refine Sl.nil ?_
  refine At.go ?_
  refine Sc.ret ?_
  refine At.then_ret ?_
  refine At.ret1 rfl rfl ?_
  exact ⟨_, rfl, none, 0, rfl, Own.nil, Fr.none, Foot.refl _ _⟩
theorem sclone_some (a : Addr) (cap : Nat) (xs : List UInt8) (W : World) (hv : Vw b8 W.heap (some a) cap xs) (hb : xs.length ≤ 140737488355328) : Calls Try.prog 60 [.slice (some a) xs.length cap].toArray W (Ret (CloneP W xs)) := by
  have hl := hv.len63
  refine calls_of_sc 8 [(0, _)] Try.func60 rfl rfl rfl (enter_slots ⟨rfl, trivial⟩) ?_
  refine Sc.seq ?_
  refine Sc.region ?_
  refine Sl.calm (Cm.assign rfl) rfl ?_
  refine Sl.nil ?_
  refine At.go ?_
  refine Sc.seq ?_
  refine Sc.seq ?_
  refine Sc.region ?_
  refine Sl.calm (Cm.move rfl) rfl ?_
  refine Sl.calm (Cm.eqlSlNil sl25 rfl rfl) rfl ?_
  refine Sl.nil ?_
  refine At.weak [(0, _), (2, _), (4, _)] ⟨rfl, rfl, rfl, trivial⟩ ?_
  refine At.go ?_
  refine Sc.cond_f rfl ?_
  refine Sc.skip ?_
  refine At.go ?_
  refine Sc.seq ?_
  refine Sc.region ?_
  refine Sl.lit0 b8 sl25 rfl ?_
  intro w1 ho1 hs1 hf1
  refine Sl.calm (Cm.move rfl) rfl ?_
  refine Sl.append b8_one sl25 rfl rfl ho1 (hv.grow hf1) (by simp only [List.length_nil]; omega) (by simp only [List.length_nil]; unfold maxLen; omega) rfl ?_
  intro ao2 c2 w2 ho2 hf2 hr2 hn2
  refine Sl.calm (Cm.assign rfl) rfl ?_
  refine Sl.nil ?_
  refine At.weak [(0, _), (2, _), (4, _)] ⟨rfl, rfl, rfl, trivial⟩ ?_
  refine At.go ?_
  refine Sc.ret ?_
  refine At.ret1 rfl rfl ?_
  have hfr := fr_at W.heap.size
  refine ⟨_, rfl, ao2, c2, rfl, ho2, fun a ha => ?_, hf1.trans_to hf2 hfr.step⟩
  rcases hr2 a ha with h | h
  · exact hfr a h
  · have := hf1.size; omega
theorem sclone_ok (ao : Option Addr) (cap : Nat) (xs : List UInt8) (W : World) (hv : Vw b8 W.heap ao cap xs) (hb : xs.length ≤ 140737488355328) : Calls Try.prog 60 [.slice ao xs.length cap].toArray W (Ret (CloneP W xs)) := by
  cases ao with
  | none => exact sclone_nil cap xs W hv
  | some a => exact sclone_some a cap xs W hv hb

def doneX (E : Int) (xs : List UInt8) : List UInt8 := if E ≠ 0 then [] else xs
theorem wdone_ok (D : Nat → Prop) (p : Nat) (E : Int) (xs : List UInt8) (W : World) (hP : WrL D W.heap p E xs) (hb : xs.length ≤ 1099511627776) :
    Calls Try.prog 44 [.pointer (some ⟨p, 0, none⟩)].toArray W (Ret (CloneP W (doneX E xs))) := by
  obtain ⟨ao, c, hobj, hown, hap, hDp, hDa⟩ := hP
  refine calls_of_sc 14 [(0, _)] Try.func44 rfl rfl rfl (enter_slots ⟨rfl, trivial⟩) ?_
  refine Sc.seq ?_
  refine Sc.region ?_
  refine Sl.calm (Cm.assign rfl) rfl ?_
  refine Sl.nil ?_
  refine At.go ?_
  refine Sc.seq ?_
  refine Sc.seq ?_
  refine Sc.region ?_
  refine Sl.calm (Cm.move rfl) rfl ?_
  refine Sl.calm (Cm.nilCheck rfl) rfl ?_
  refine Sl.calm (Cm.field fld87_0 rfl) rfl ?_
  refine Sl.calm (Cm.field fld85_0 rfl) rfl ?_
  refine Sl.calm (Cm.ld sca26 rfl (cellF hobj rfl)) rfl ?_
  refine Sl.fork (Cm.neq rfl rfl) rfl (fun h8 => ?_) (fun h8 => ?_)
  ·
    refine Sl.nil ?_
    refine At.weak [(0, _), (2, _), (8, _)] ⟨rfl, rfl, rfl, trivial⟩ ?_
    refine At.go ?_
    refine Sc.cond_t rfl ?_
    refine Sc.seq ?_
    refine Sc.region ?_
    refine Sl.calm (Cm.assign rfl) rfl ?_
    refine Sl.nil ?_
    refine At.go ?_
    refine Sc.ret ?_
    refine At.then_ret ?_
    refine At.ret1 rfl rfl ?_
    refine ⟨_, rfl, ?_⟩
    unfold doneX; rw [if_pos h8]
    exact ⟨none, 0, rfl, Own.nil, Fr.none, Foot.refl _ _⟩
  ·
    refine Sl.nil ?_
    refine At.weak [(0, _), (2, _), (8, _)] ⟨rfl, rfl, rfl, trivial⟩ ?_
    refine At.go ?_
    refine Sc.cond_f rfl ?_
    refine Sc.skip ?_
    refine At.go ?_
    refine Sc.seq ?_
    refine Sc.region ?_
    refine Sl.calm (Cm.move rfl) rfl ?_
    refine Sl.calm (Cm.nilCheck rfl) rfl ?_
    refine Sl.calm (Cm.field fld87_1 rfl) rfl ?_
    refine Sl.calm (Cm.ld sca25 rfl (cellF hobj rfl)) rfl ?_
    refine Sl.call fn60 rfl (sclone_ok ao c xs W hown.vw (by omega)) rfl ?_
    rintro _ w1 ⟨ao1, c1, rfl, ho1, hfr1, hf1⟩
    refine Sl.calm (Cm.assign rfl) rfl ?_
    refine Sl.nil ?_
    refine At.weak [(0, _), (2, _), (8, _)] ⟨rfl, rfl, rfl, trivial⟩ ?_
    refine At.go ?_
    refine Sc.ret ?_
    refine At.ret1 rfl rfl ?_
    refine ⟨_, rfl, ?_⟩
    unfold doneX; rw [if_neg h8]
    exact ⟨ao1, c1, rfl, ho1, hfr1, hf1⟩
theorem rdone_ok (D : Nat → Prop) (p : Nat) (E : Int) (xs : List UInt8) (W : World) (hP : WrR D W.heap p E xs) (hb : xs.length ≤ 1099511627776) :
    Calls Try.prog 47 [.pointer (some ⟨p, 0, none⟩)].toArray W (Ret (CloneP W (doneX E xs))) := by
  obtain ⟨ao, c, hobj, hown, hap, hDp, hDa⟩ := hP
  refine calls_of_sc 14 [(0, _)] Try.func47 rfl rfl rfl (enter_slots ⟨rfl, trivial⟩) ?_
  refine Sc.seq ?_
  refine Sc.region ?_
  refine Sl.calm (Cm.assign rfl) rfl ?_
  refine Sl.nil ?_
  refine At.go ?_
  refine Sc.seq ?_
  refine Sc.seq ?_
  refine Sc.region ?_
  refine Sl.calm (Cm.move rfl) rfl ?_
  refine Sl.calm (Cm.nilCheck rfl) rfl ?_
  refine Sl.calm (Cm.field fld91_1 rfl) rfl ?_
  refine Sl.calm (Cm.ld sca26 rfl (cellF hobj rfl)) rfl ?_
  refine Sl.fork (Cm.neq rfl rfl) rfl (fun h7 => ?_) (fun h7 => ?_)
  ·
    refine Sl.nil ?_
    refine At.weak [(0, _), (2, _), (7, _)] ⟨rfl, rfl, rfl, trivial⟩ ?_
    refine At.go ?_
    refine Sc.cond_t rfl ?_
    refine Sc.seq ?_
    refine Sc.region ?_
    refine Sl.calm (Cm.assign rfl) rfl ?_
    refine Sl.nil ?_
    refine At.go ?_
    refine Sc.ret ?_
    refine At.then_ret ?_
    refine At.ret1 rfl rfl ?_
    refine ⟨_, rfl, ?_⟩
    unfold doneX; rw [if_pos h7]
    exact ⟨none, 0, rfl, Own.nil, Fr.none, Foot.refl _ _⟩
  ·
    refine Sl.nil ?_
    refine At.weak [(0, _), (2, _), (7, _)] ⟨rfl, rfl, rfl, trivial⟩ ?_
    refine At.go ?_
    refine Sc.cond_f rfl ?_
    refine Sc.skip ?_
    refine At.go ?_
    refine Sc.seq ?_
    refine Sc.region ?_
    refine Sl.lit0 b8 sl25 rfl ?_
    intro w1 ho1 hs1 hf1
    refine Sl.calm (Cm.move rfl) rfl ?_
    refine Sl.calm (Cm.nilCheck rfl) rfl ?_
    refine Sl.calm (Cm.field fld91_0 rfl) rfl ?_
    refine Sl.calm (Cm.ld sca25 rfl (cellF (hf1.obj hobj (fun h => h)) rfl)) rfl ?_
    refine Sl.append b8_one sl25 rfl rfl ho1 (hown.grow hf1).vw (by simp only [List.length_nil]; omega) (by simp only [List.length_nil]; unfold maxLen; omega) rfl ?_
    intro ao2 c2 w2 ho2 hf2 hr2 hn2
    refine Sl.calm (Cm.assign rfl) rfl ?_
    refine Sl.nil ?_
    refine At.weak [(0, _), (2, _), (7, _)] ⟨rfl, rfl, rfl, trivial⟩ ?_
    refine At.go ?_
    refine Sc.ret ?_
    refine At.ret1 rfl rfl ?_
    refine ⟨_, rfl, ?_⟩
    unfold doneX; rw [if_neg h7]
    exact ⟨ao2, c2, rfl, ho2, fr_next (fr_at _) hr2 hf1.size, hf1.trans_to hf2 (fr_at _).step⟩
theorem WrO.zeroL {H : Array Obj} {p : Nat} (h : H[p]? = some (.cells #[.int .i64 0, .slice none 0 0] 87 (0, 0))) {D : Nat → Prop} (hD : D p) : WrL D H p 0 [] :=
  ⟨none, 0, h, Own.nil, (fun ⟨a, h, _⟩ => by cases h), hD, (fun k ⟨a, h, _⟩ => by cases h)⟩
theorem WrO.zeroR {H : Array Obj} {p : Nat} (h : H[p]? = some (.cells #[.slice none 0 0, .int .i64 0] 91 (0, 0))) {D : Nat → Prop} (hD : D p) : WrR D H p 0 [] :=
  ⟨none, 0, h, Own.nil, (fun ⟨a, h, _⟩ => by cases h), hD, (fun k ⟨a, h, _⟩ => by cases h)⟩
end Go.Proofs.Ytoaplldahbbaiaa
