/- cursor: what is read, by the program's reader and by the reference's: both are one plain law. No condition beyond the bounds that each states. -/
import Derived.Test.YtoaplldahbbaiaaCuk
namespace Go.Proofs.Ytoaplldahbbaiaa
open Go Go.RowKit
set_option linter.unusedVariables false

/-! ### the plain law -/
def cutE (E : Int) (ys : List UInt8) (n : Int) : Int := if E ≠ 0 then E else if n < 0 then 1 else if (ys.length : Int) < n then 2 else 0
def cutB (E : Int) (ys : List UInt8) (n : Int) : List UInt8 := if cutE E ys n ≠ 0 then [] else ys.take n.toNat
def cutR (E : Int) (ys : List UInt8) (n : Int) : List UInt8 := if cutE E ys n ≠ 0 then ys else ys.drop n.toNat
/-- the number that bytes are, the lowest first -/
def valB : List UInt8 → Nat
  | [] => 0
  | b :: r => b.toNat + 256 * valB r
def numE1 (E n : Int) : Int := if E ≠ 0 then E else if n < 1 ∨ 4 < n then 1 else 0
theorem numE1_eq (E n : Int) : numE1 E n = if E = 0 ∧ (n < 1 ∨ 4 < n) then 1 else E := by
  unfold numE1
  by_cases hE : E = 0
  · simp [hE]
  · simp [hE]
theorem numE1_good {n : Int} (h1 : 1 ≤ n) (h4 : n ≤ 4) (E : Int) : numE1 E n = E := by rw [numE1_eq, if_neg (by omega)]
theorem cutE_same {E : Int} {ys : List UInt8} {n : Int} (h : E ≠ 0) : cutE E ys n = E := by unfold cutE; rw [if_pos h]
theorem cutE_neg {E : Int} {ys : List UInt8} {n : Int} (h : n < 0) : cutE E ys n = if E = 0 then 1 else E := by
  unfold cutE; by_cases hE : E = 0 <;> simp [hE, h]
theorem cutE_short {E : Int} {ys : List UInt8} {n : Int} (h : ¬ n < 0) (h2 : (ys.length : Int) < n) : cutE E ys n = if E = 0 then 2 else E := by
  unfold cutE; by_cases hE : E = 0 <;> simp [hE, h, h2]
theorem cutE_good {E : Int} {ys : List UInt8} {n : Int} (h : ¬ n < 0) (h2 : ¬ (ys.length : Int) < n) : cutE E ys n = E := by
  unfold cutE; by_cases hE : E = 0 <;> simp [hE, h, h2]
theorem cutB_bad {E : Int} {ys : List UInt8} {n : Int} (h : cutE E ys n ≠ 0) : cutB E ys n = [] ∧ cutR E ys n = ys := by unfold cutB cutR; rw [if_pos h, if_pos h]; exact ⟨rfl, rfl⟩
theorem cutB_good {E : Int} {ys : List UInt8} {n : Int} (h : cutE E ys n = 0) : cutB E ys n = ys.take n.toNat ∧ cutR E ys n = ys.drop n.toNat := by unfold cutB cutR; rw [if_neg (by omega), if_neg (by omega)]; exact ⟨rfl, rfl⟩
theorem cutE_zero {E : Int} {ys : List UInt8} {n : Int} (h : cutE E ys n = 0) : E = 0 ∧ 0 ≤ n ∧ n ≤ ys.length := by
  unfold cutE at h
  split at h
  · contradiction
  · split at h
    · cases h
    · split at h
      · cases h
      · rename_i h1 h2 h3; exact ⟨by omega, by omega, by omega⟩
theorem cutB_len (E : Int) (ys : List UInt8) (n : Int) : (cutB E ys n).length ≤ n.toNat := by unfold cutB; split <;> simp; omega
theorem cutR_len (E : Int) (ys : List UInt8) (n : Int) : (cutR E ys n).length ≤ ys.length := by unfold cutR; split <;> simp

theorem valB_append : ∀ (a b : List UInt8), valB (a ++ b) = valB a + 256 ^ a.length * valB b
  | [], b => by simp [valB]
  | x :: a, b => by
    simp only [List.cons_append, valB, valB_append a b, List.length_cons, Nat.pow_succ]
    rw [Nat.mul_add, Nat.mul_assoc (256 ^ a.length) 256, Nat.mul_left_comm 256]; omega
theorem valB_lt : ∀ a : List UInt8, valB a < 256 ^ a.length
  | [] => by simp [valB]
  | x :: a => by
    have h1 := valB_lt a
    have h2 := x.toNat_lt
    simp only [valB, List.length_cons, Nat.pow_succ]; omega
theorem valB_succ (bs : List UInt8) (i : Nat) (h : i < bs.length) : valB (bs.take (i + 1)) = valB (bs.take i) ||| ((bs.getD i 0).toNat * 2 ^ (8 * i)) := by
  have e : bs.take (i + 1) = bs.take i ++ [bs.getD i 0] := by rw [List.take_succ_eq_append_getElem h]; simp [List.getD, h]
  have hl : (bs.take i).length = i := by rw [List.length_take]; omega
  rw [e, valB_append, hl]
  have hlt := valB_lt (bs.take i)
  rw [hl] at hlt
  have h3 := Nat.shiftLeft_add_eq_or_of_lt (show valB (bs.take i) < 2 ^ (8 * i) by rw [Nat.pow_mul]; exact hlt) (bs.getD i 0).toNat
  rw [Nat.shiftLeft_eq] at h3
  rw [Nat.or_comm, ← h3, Nat.pow_mul, show (2 : Nat) ^ 8 = 256 from rfl]
  simp only [valB, Nat.mul_zero, Nat.add_zero]
  rw [Nat.mul_comm (256 ^ i)]; omega
theorem valB_drop (bs : List UInt8) (i : Nat) (h : i < bs.length) : valB (bs.drop i) = 256 * valB (bs.drop (i + 1)) + (bs.getD i 0).toNat := by
  rw [List.drop_eq_getElem_cons h]
  simp [valB, List.getD, h]; omega
theorem le_valB : ∀ bs : List UInt8, le (valB bs) bs.length = bs
  | [] => rfl
  | b :: r => by
    have ih := le_valB r
    have h2 := b.toNat_lt
    unfold le at *
    simp only [List.length_cons, List.range_succ_eq_map, List.map_cons, List.map_map]
    congr 1
    · apply UInt8.toNat_inj.1
      rw [UInt8.toNat_ofNat']
      show ((((valB (b :: r) : Nat) : Int) / 256 ^ 0).toNat) % 2 ^ 8 = b.toNat
      simp only [valB, Int.pow_zero, Int.ediv_one]; omega
    · conv => rhs; rw [← ih]
      apply List.map_congr_left
      intro i _
      simp only [Function.comp]
      have e1 : ((valB (b :: r) : Nat) : Int) / 256 ^ (i + 1) = ((valB (b :: r) / 256 ^ (i + 1) : Nat) : Int) := by rw [Int.natCast_ediv]; simp
      have e2 : ((valB r : Nat) : Int) / 256 ^ i = ((valB r / 256 ^ i : Nat) : Int) := by rw [Int.natCast_ediv]; simp
      have e3 : valB (b :: r) / 256 ^ (i + 1) = valB r / 256 ^ i := by
        rw [Nat.pow_succ, Nat.mul_comm (256 ^ i) 256, ← Nat.div_div_eq_div_mul]
        simp only [valB]
        congr 1; omega
      rw [Nat.succ_eq_add_one, e1, e2, e3]

theorem le_cons (x : Int) (n : Nat) : le x (n + 1) = UInt8.ofNat x.toNat :: le (x / 256) n := by
  unfold le
  rw [List.range_succ_eq_map, List.map_cons, List.map_map]
  congr 1
  · simp
  · apply List.map_congr_left
    intro i _
    simp only [Function.comp, Nat.succ_eq_add_one]
    rw [Int.pow_succ, Int.mul_comm (256 ^ i), Int.ediv_ediv_of_nonneg (by decide)]
theorem valB_le : ∀ (n : Nat) (x : Int), 0 ≤ x → x < 256 ^ n → ((valB (le x n) : Nat) : Int) = x
  | 0, x, h0, h1 => by simp at h1; simp [le, valB]; omega
  | n + 1, x, h0, h1 => by
    rw [le_cons]
    have h2 : x / 256 < 256 ^ n := by
      rw [Int.pow_succ] at h1
      exact Int.ediv_lt_of_lt_mul (by decide) h1
    have ih := valB_le n (x / 256) (Int.ediv_nonneg h0 (by decide)) h2
    simp only [valB]
    rw [UInt8.toNat_ofNat']
    omega

/-! ### the readers -/
/-- a reader's place, its bytes: apart, and of D -/
def ApD (D : Nat → Prop) (ao : Option Addr) (p n : Nat) : Prop := D p ∧ (0 < n → ¬ blk ao p ∧ ∀ k, blk ao k → D k)
theorem keep0 {w w' : World} {S : Nat → Prop} {ao : Option Addr} {c : Nat} {ys : List UInt8} (h : Vw b8 w.heap ao c ys) (f : Foot S w w') (hs : 0 < ys.length → ∀ a, ao = some a → ¬ S a.block) : Vw b8 w'.heap ao c ys := by
  by_cases h0 : 0 < ys.length
  · exact h.keep f (hs h0)
  · have : ys = [] := List.eq_nil_of_length_eq_zero (by omega)
    subst this
    exact Vw.nil c h.max
/-- a reader in memory: its error, what is left -/
def RdO (cs : Int → Value → List Value) (T : TypeId) (D : Nat → Prop) (H : Array Obj) (p : Nat) (E : Int) (ys : List UInt8) : Prop :=
  ∃ ao c, H[p]? = some (.cells (cs E (.slice ao ys.length c)).toArray T (0, 0)) ∧ Vw b8 H ao c ys ∧ ApD D ao p ys.length
abbrev RdL := RdO csL 138
abbrev RdR := RdO csR 106
section
variable {cs : Int → Value → List Value} {T : TypeId} {D : Nat → Prop} {p : Nat} {E : Int} {ys : List UInt8}
theorem RdO.lt {H : Array Obj} (h : RdO cs T D H p E ys) : p < H.size := by obtain ⟨ao, c, hg, _⟩ := h; exact (Array.getElem?_eq_some_iff.1 hg).1
theorem RdO.grow {w w' : World} (h : RdO cs T D w.heap p E ys) (f : Foot nob w w') : RdO cs T D w'.heap p E ys := by
  obtain ⟨ao, c, hg, hv, h1⟩ := h
  exact ⟨ao, c, f.obj hg id, hv.grow f, h1⟩
end
section
variable {cs : Int → Value → List Value} {T : TypeId} {D : Nat → Prop} {p : Nat} {E : Int} {ys : List UInt8}
theorem RdO.keep {S : Nat → Prop} {w w' : World} (h : RdO cs T D w.heap p E ys) (f : Foot S w w') (hs : ∀ k, D k → ¬ S k) : RdO cs T D w'.heap p E ys := by
  obtain ⟨ao, c, hg, hv, h1⟩ := h
  exact ⟨ao, c, f.obj hg (hs p h1.1), keep0 hv f (fun hn a ha => hs _ ((h1.2 hn).2 _ ⟨a, ha, rfl⟩)), h1⟩
end
variable {D : Nat → Prop}
theorem blk_cutAo {D : Nat → Prop} {ao : Option Addr} {m l s p n n2 : Nat} (h : ApD D ao p n) (hn : n2 ≤ n) : ApD D (cutAo ao m l s) p n2 := ⟨h.1, fun h0 => ⟨fun h2 => (h.2 (by omega)).1 (blk_cut h2), fun k hk => (h.2 (by omega)).2 k (blk_cut hk)⟩⟩

theorem rfail_ok (p : Nat) (E : Int) (ys : List UInt8) (e : Int) (W : World) (hP : RdL D W.heap p E ys) :
    Calls Try.prog 72 [.pointer (some ⟨p, 0, none⟩), .int .i64 e].toArray W
      (Ret fun v w' => RdL D w'.heap p (if E = 0 then e else E) ys ∧ Foot (· = p) W w') := by
  have hPP := hP
  obtain ⟨ao, c, hobj, hv, hap⟩ := hP
  refine calls_of_sc 13 [(0, _), (1, _)] Try.func72 rfl rfl rfl (enter_slots ⟨rfl, rfl, trivial⟩) ?_
  refine Sc.seq ?_
  refine Sc.region ?_
  refine Sl.calm (Cm.move rfl) rfl ?_
  refine Sl.calm (Cm.nilCheck rfl) rfl ?_
  refine Sl.calm (Cm.field fld85_0 rfl) rfl ?_
  refine Sl.calm (Cm.ld sca26 rfl (cellF hobj rfl)) rfl ?_
  refine Sl.fork (Cm.eql rfl rfl) rfl (fun h8 => ?_) (fun h8 => ?_)
  ·
    refine Sl.nil ?_
    refine At.weak [(0, _), (1, _), (8, _)] ⟨rfl, rfl, rfl, trivial⟩ ?_
    refine At.go ?_
    refine Sc.cond_t rfl ?_
    refine Sc.region ?_
    refine Sl.calm (Cm.move rfl) rfl ?_
    refine Sl.calm (Cm.move rfl) rfl ?_
    refine Sl.calm (Cm.nilCheck rfl) rfl ?_
    refine Sl.calm (Cm.field fld85_0 rfl) rfl ?_
    refine Sl.store sca26 rfl rfl rfl hobj rfl ?_
    intro w1 hg1 hs1 hf1
    refine Sl.nil ?_
    refine At.end0 rfl ?_
    exact ⟨_, rfl, by rw [if_pos h8]; exact ⟨ao, c, hg1, keep0 hv hf1 (fun hn a ha h => (hap.2 hn).1 ⟨a, ha, h⟩), hap⟩, hf1⟩
  ·
    refine Sl.nil ?_
    refine At.weak [(0, _), (1, _), (8, _)] ⟨rfl, rfl, rfl, trivial⟩ ?_
    refine At.go ?_
    refine Sc.cond_f rfl ?_
    refine Sc.skip ?_
    refine At.end0 rfl ?_
    exact ⟨_, rfl, by rw [if_neg h8]; exact hPP, Foot.refl _ _⟩
theorem rrfail_ok (p : Nat) (E : Int) (ys : List UInt8) (e : Int) (W : World) (hP : RdR D W.heap p E ys) :
    Calls Try.prog 87 [.pointer (some ⟨p, 0, none⟩), .int .i64 e].toArray W
      (Ret fun v w' => RdR D w'.heap p (if E = 0 then e else E) ys ∧ Foot (· = p) W w') := by
  have hPP := hP
  obtain ⟨ao, c, hobj, hv, hap⟩ := hP
  refine calls_of_sc 13 [(0, _), (1, _)] Try.func87 rfl rfl rfl (enter_slots ⟨rfl, rfl, trivial⟩) ?_
  refine Sc.seq ?_
  refine Sc.region ?_
  refine Sl.calm (Cm.move rfl) rfl ?_
  refine Sl.calm (Cm.nilCheck rfl) rfl ?_
  refine Sl.calm (Cm.field fld106_1 rfl) rfl ?_
  refine Sl.calm (Cm.ld sca26 rfl (cellF hobj rfl)) rfl ?_
  refine Sl.fork (Cm.eql rfl rfl) rfl (fun h8 => ?_) (fun h8 => ?_)
  ·
    refine Sl.nil ?_
    refine At.weak [(0, _), (1, _), (8, _)] ⟨rfl, rfl, rfl, trivial⟩ ?_
    refine At.go ?_
    refine Sc.cond_t rfl ?_
    refine Sc.region ?_
    refine Sl.calm (Cm.move rfl) rfl ?_
    refine Sl.calm (Cm.move rfl) rfl ?_
    refine Sl.calm (Cm.nilCheck rfl) rfl ?_
    refine Sl.calm (Cm.field fld106_1 rfl) rfl ?_
    refine Sl.store sca26 rfl rfl rfl hobj rfl ?_
    intro w1 hg1 hs1 hf1
    refine Sl.nil ?_
    refine At.end0 rfl ?_
    exact ⟨_, rfl, by rw [if_pos h8]; exact ⟨ao, c, hg1, keep0 hv hf1 (fun hn a ha h => (hap.2 hn).1 ⟨a, ha, h⟩), hap⟩, hf1⟩
  ·
    refine Sl.nil ?_
    refine At.weak [(0, _), (1, _), (8, _)] ⟨rfl, rfl, rfl, trivial⟩ ?_
    refine At.go ?_
    refine Sc.cond_f rfl ?_
    refine Sc.skip ?_
    refine At.end0 rfl ?_
    exact ⟨_, rfl, by rw [if_neg h8]; exact hPP, Foot.refl _ _⟩
def RdP (cs : Int → Value → List Value) (T : TypeId) (D : Nat → Prop) (W : World) (p : Nat) (E : Int) (ys : List UInt8) (n : Int) : Value → World → Prop := fun v w' =>
  ∃ ao c, v = .slice ao (cutB E ys n).length c ∧ Own b8 5 w'.heap ao c (cutB E ys n) ∧ Fr W.heap.size ao ∧ RdO cs T D w'.heap p (cutE E ys n) (cutR E ys n) ∧ Foot (· = p) W w'
theorem cut_drop {H : Array Obj} {ao : Option Addr} {c : Nat} {ys : List UInt8} (h : Vw b8 H ao c ys) {n : Int} (h0 : 0 ≤ n) (h1 : n ≤ ys.length) : Vw b8 H (cutAo ao c n.toNat 1) (c - n.toNat) (ys.drop n.toNat) := by
  have := h.cut (l := n.toNat) (h := ys.length) (m := c) (by omega) (Nat.le_refl _) h.le (Nat.le_refl _)
  rwa [List.take_of_length_le (by simp)] at this

set_option maxHeartbeats 1000000 in
theorem rbyt_ok (p : Nat) (E : Int) (ys : List UInt8) (n : Int) (W : World) (hP : RdL D W.heap p E ys) (hb : ys.length ≤ 1099511627776) :
    Calls Try.prog 86 [.pointer (some ⟨p, 0, none⟩), .int .i64 n].toArray W (Ret (RdP csL 138 D W p E ys n)) := by
  have hP0 := hP
  obtain ⟨ao0, c0, hobj0, hv0, hap0⟩ := hP0
  refine calls_of_sc 48 [(0, _), (1, _)] Try.func86 rfl rfl rfl (enter_slots ⟨rfl, rfl, trivial⟩) ?_
  refine Sc.seq ?_
  refine Sc.region ?_
  refine Sl.calm (Cm.assign rfl) rfl ?_
  refine Sl.nil ?_
  refine At.go ?_
  refine Sc.cut (β := Unit) (fun _u => [(0, .pointer (some ⟨p, 0, none⟩)), (1, .int .i64 n)]) (fun _u w => RdL D w.heap p (cutE E ys n) ys ∧ Foot (· = p) W w) ?_ ?_
  ·
    refine Sc.block ?_
    refine Sc.seq ?_
    refine Sc.region ?_
    refine Sl.calm (Cm.move rfl) rfl ?_
    refine Sl.fork (Cm.lss rfl rfl) rfl (fun h8 => ?_) (fun h8 => ?_)
    ·
      refine Sl.calm (Cm.assign rfl) rfl ?_
      refine Sl.nil ?_
      refine At.weak [(0, _), (1, _), (4, _), (6, _)] ⟨rfl, rfl, rfl, rfl, trivial⟩ ?_
      refine At.go ?_
      refine Sc.cond_t rfl ?_
      refine Sc.region ?_
      refine Sl.calm (Cm.move rfl) rfl ?_
      refine Sl.calm (Cm.nilCheck rfl) rfl ?_
      refine Sl.calm (Cm.field fld138_0 rfl) rfl ?_
      refine Sl.call fn72 rfl (rfail_ok p E ys 1 W hP) rfl ?_
      rintro _ w1 ⟨hP1, hF1⟩
      refine Sl.nil ?_
      refine At.block_normal ?_
      refine At.cut () ⟨rfl, rfl, trivial⟩ ?_
      first
        | exact ⟨by rw [cutE_neg h8]; exact hP1, hF1⟩
        | exact ⟨by rw [cutE_short h8 h20]; exact hP1, hF1⟩
        | exact ⟨by rw [cutE_good h8 h20]; exact hP, Foot.refl _ _⟩
    ·
      refine Sl.calm (Cm.assign rfl) rfl ?_
      refine Sl.nil ?_
      refine At.weak [(0, _), (1, _), (4, _), (6, _)] ⟨rfl, rfl, rfl, rfl, trivial⟩ ?_
      refine At.go ?_
      refine Sc.cond_f rfl ?_
      refine Sc.seq ?_
      refine Sc.region ?_
      refine Sl.calm (Cm.move rfl) rfl ?_
      refine Sl.calm (Cm.move rfl) rfl ?_
      refine Sl.calm (Cm.nilCheck rfl) rfl ?_
      refine Sl.calm (Cm.field fld138_1 rfl) rfl ?_
      refine Sl.calm (Cm.ld sca25 rfl (cellF hobj0 rfl)) rfl ?_
      refine Sl.calm (Cm.len sl25 rfl) rfl ?_
      refine Sl.fork (Cm.gtr rfl rfl) rfl (fun h20 => ?_) (fun h20 => ?_)
      ·
        refine Sl.calm (Cm.assign rfl) rfl ?_
        refine Sl.nil ?_
        refine At.weak [(0, _), (1, _), (4, _), (6, _), (13, _)] ⟨rfl, rfl, rfl, rfl, rfl, trivial⟩ ?_
        refine At.go ?_
        refine Sc.cond_t rfl ?_
        refine Sc.region ?_
        refine Sl.calm (Cm.move rfl) rfl ?_
        refine Sl.calm (Cm.nilCheck rfl) rfl ?_
        refine Sl.calm (Cm.field fld138_0 rfl) rfl ?_
        refine Sl.call fn72 rfl (rfail_ok p E ys 2 W hP) rfl ?_
        rintro _ w1 ⟨hP1, hF1⟩
        refine Sl.nil ?_
        refine At.block_normal ?_
        refine At.cut () ⟨rfl, rfl, trivial⟩ ?_
        first
          | exact ⟨by rw [cutE_neg h8]; exact hP1, hF1⟩
          | exact ⟨by rw [cutE_short h8 h20]; exact hP1, hF1⟩
          | exact ⟨by rw [cutE_good h8 h20]; exact hP, Foot.refl _ _⟩
      ·
        refine Sl.calm (Cm.assign rfl) rfl ?_
        refine Sl.nil ?_
        refine At.weak [(0, _), (1, _), (4, _), (6, _), (13, _)] ⟨rfl, rfl, rfl, rfl, rfl, trivial⟩ ?_
        refine At.go ?_
        refine Sc.cond_f rfl ?_
        refine Sc.skip ?_
        refine At.block_normal ?_
        refine At.cut () ⟨rfl, rfl, trivial⟩ ?_
        first
          | exact ⟨by rw [cutE_neg h8]; exact hP1, hF1⟩
          | exact ⟨by rw [cutE_short h8 h20]; exact hP1, hF1⟩
          | exact ⟨by rw [cutE_good h8 h20]; exact hP, Foot.refl _ _⟩
  ·
    rintro _ w2 ⟨hP2, hF2⟩
    obtain ⟨ao, c, hobj, hv, hap⟩ := hP2
    have hlt := (RdO.lt hP)
    refine Sc.seq ?_
    refine Sc.seq ?_
    refine Sc.region ?_
    refine Sl.calm (Cm.move rfl) rfl ?_
    refine Sl.calm (Cm.nilCheck rfl) rfl ?_
    refine Sl.calm (Cm.field fld138_0 rfl) rfl ?_
    refine Sl.calm (Cm.field fld85_0 rfl) rfl ?_
    refine Sl.calm (Cm.ld sca26 rfl (cellF hobj rfl)) rfl ?_
    refine Sl.fork (Cm.neq rfl rfl) rfl (fun h30 => ?_) (fun h30 => ?_)
    ·
      refine Sl.nil ?_
      refine At.weak [(0, _), (1, _), (30, _)] ⟨rfl, rfl, rfl, trivial⟩ ?_
      refine At.go ?_
      refine Sc.cond_t rfl ?_
      refine Sc.seq ?_
      refine Sc.region ?_
      refine Sl.calm (Cm.assign rfl) rfl ?_
      refine Sl.nil ?_
      refine At.go ?_
      refine Sc.ret ?_
      refine At.then_ret ?_
      refine At.ret1 rfl rfl ?_
      have hbad : cutE E ys n ≠ 0 := h30
      obtain ⟨e1, e2⟩ := cutB_bad hbad
      exact ⟨_, rfl, none, 0, by rw [e1]; rfl, by rw [e1]; exact Own.nil, Fr.none, by rw [e2]; exact ⟨ao, c, hobj, hv, hap⟩, hF2⟩
    ·
      refine Sl.nil ?_
      refine At.weak [(0, _), (1, _), (30, _)] ⟨rfl, rfl, rfl, trivial⟩ ?_
      refine At.go ?_
      refine Sc.cond_f rfl ?_
      refine Sc.skip ?_
      refine At.go ?_
      refine Sc.seq ?_
      refine Sc.region ?_
      refine Sl.calm (Cm.move rfl) rfl ?_
      refine Sl.calm (Cm.nilCheck rfl) rfl ?_
      refine Sl.calm (Cm.field fld138_1 rfl) rfl ?_
      obtain ⟨z0, z1, z2⟩ := cutE_zero (show cutE E ys n = 0 by omega)
      have hvc := hv.le
      refine Sl.calm (Cm.ld sca25 rfl (cellF hobj rfl)) rfl ?_
      refine Sl.calm (Cm.move rfl) rfl ?_
      refine Sl.calm (Cm.sliceH sl25 rfl rfl (by omega)) rfl ?_
      have hvt := hv.take n.toNat
      have htl : (ys.take n.toNat).length = n.toNat := by rw [List.length_take]; omega
      refine Sl.call fn60 rfl (by rw [cutAo_zero, ← htl]; exact sclone_ok ao c (ys.take n.toNat) w2 hvt (by omega)) rfl ?_
      rintro _ w3 ⟨ao3, c3, rfl, ho3, hfr3, hf3⟩
      refine Sl.calm (Cm.assign rfl) rfl ?_
      refine Sl.nil ?_
      refine At.weak [(0, _), (1, _), (5, _), (30, _)] ⟨rfl, rfl, rfl, rfl, trivial⟩ ?_
      refine At.go ?_
      refine Sc.seq ?_
      refine Sc.region ?_
      refine Sl.calm (Cm.move rfl) rfl ?_
      refine Sl.calm (Cm.move rfl) rfl ?_
      refine Sl.calm (Cm.nilCheck rfl) rfl ?_
      refine Sl.calm (Cm.field fld138_1 rfl) rfl ?_
      refine Sl.calm (Cm.ld sca25 rfl (cellF (hf3.obj hobj id) rfl)) rfl ?_
      refine Sl.calm (Cm.move rfl) rfl ?_
      refine Sl.calm (Cm.sliceL sl25 rfl rfl (by omega)) rfl ?_
      refine Sl.calm (Cm.nilCheck rfl) rfl ?_
      refine Sl.calm (Cm.field fld138_1 rfl) rfl ?_
      refine Sl.store sca25 rfl rfl rfl (hf3.obj hobj id) rfl ?_
      intro w4 hg4 hs4 hf4
      refine Sl.nil ?_
      refine At.weak [(0, _), (1, _), (5, _), (30, _)] ⟨rfl, rfl, rfl, rfl, trivial⟩ ?_
      refine At.go ?_
      refine Sc.seq ?_
      refine Sc.region ?_
      refine Sl.calm (Cm.move rfl) rfl ?_
      refine Sl.calm (Cm.assign rfl) rfl ?_
      refine Sl.nil ?_
      refine At.weak [(0, _), (1, _), (4, _), (5, _), (30, _)] ⟨rfl, rfl, rfl, rfl, rfl, trivial⟩ ?_
      refine At.go ?_
      refine Sc.ret ?_
      refine At.ret1 rfl rfl ?_
      obtain ⟨e1, e2⟩ := cutB_good (show cutE E ys n = 0 by omega)
      have hs2 := hF2.size
      have hlt2 : p < w2.heap.size := by omega
      refine ⟨_, rfl, ao3, c3, by rw [e1], by rw [e1]; exact ho3.keep hf4 (fun a ha h => by have := hfr3 a ha; have h2 : a.block = p := h; omega), hfr3.mono hs2, ?_, (hF2.trans (hf3.mono (fun _ h => h.elim))).trans hf4⟩
      rw [e2]
      refine ⟨_, _, by rw [List.length_drop]; exact hg4, ?_, blk_cutAo hap (by rw [List.length_drop]; omega)⟩
      exact keep0 (cut_drop (hv.grow hf3) z1 z2) hf4 (fun hn a ha h => ((blk_cutAo (n2 := (ys.drop n.toNat).length) hap (by rw [List.length_drop]; omega)).2 hn).1 ⟨a, ha, h⟩)

set_option maxHeartbeats 1000000 in
theorem rrbyt_ok (p : Nat) (E : Int) (ys : List UInt8) (n : Int) (W : World) (hP : RdR D W.heap p E ys) (hb : ys.length ≤ 1099511627776) :
    Calls Try.prog 88 [.pointer (some ⟨p, 0, none⟩), .int .i64 n].toArray W (Ret (RdP csR 106 D W p E ys n)) := by
  have hlt := RdO.lt hP
  have hP0 := hP
  obtain ⟨ao, c, hobj, hv, hap⟩ := hP0
  refine calls_of_sc 42 [(0, _), (1, _)] Try.func88 rfl rfl rfl (enter_slots ⟨rfl, rfl, trivial⟩) ?_
  refine Sc.seq ?_
  refine Sc.region ?_
  refine Sl.calm (Cm.assign rfl) rfl ?_
  refine Sl.nil ?_
  refine At.go ?_
  refine Sc.seq ?_
  refine Sc.seq ?_
  refine Sc.region ?_
  refine Sl.calm (Cm.move rfl) rfl ?_
  refine Sl.calm (Cm.nilCheck rfl) rfl ?_
  refine Sl.calm (Cm.field fld106_1 rfl) rfl ?_
  refine Sl.calm (Cm.ld sca26 rfl (cellF hobj rfl)) rfl ?_
  refine Sl.fork (Cm.neq rfl rfl) rfl (fun h10 => ?_) (fun h10 => ?_)
  ·
    refine Sl.nil ?_
    refine At.weak [(0, _), (1, _), (4, _), (10, _)] ⟨rfl, rfl, rfl, rfl, trivial⟩ ?_
    refine At.go ?_
    refine Sc.cond_t rfl ?_
    refine Sc.seq ?_
    refine Sc.region ?_
    refine Sl.calm (Cm.assign rfl) rfl ?_
    refine Sl.nil ?_
    refine At.go ?_
    refine Sc.ret ?_
    refine At.then_ret ?_
    refine At.ret1 rfl rfl ?_
    have hbad : cutE E ys n ≠ 0 := by rw [cutE_same h10]; exact h10
    obtain ⟨e1, e2⟩ := cutB_bad hbad
    exact ⟨_, rfl, none, 0, by rw [e1]; rfl, by rw [e1]; exact Own.nil, Fr.none, by rw [e2, cutE_same h10]; exact hP, Foot.refl _ _⟩
  ·
    refine Sl.nil ?_
    refine At.weak [(0, _), (1, _), (4, _), (10, _)] ⟨rfl, rfl, rfl, rfl, trivial⟩ ?_
    refine At.go ?_
    refine Sc.cond_f rfl ?_
    refine Sc.skip ?_
    refine At.go ?_
    refine Sc.seq ?_
    refine Sc.seq ?_
    refine Sc.region ?_
    refine Sl.calm (Cm.move rfl) rfl ?_
    refine Sl.fork (Cm.lss rfl rfl) rfl (fun h12 => ?_) (fun h12 => ?_)
    ·
      refine Sl.nil ?_
      refine At.weak [(0, _), (1, _), (4, _), (10, _), (12, _)] ⟨rfl, rfl, rfl, rfl, rfl, trivial⟩ ?_
      refine At.go ?_
      refine Sc.cond_t rfl ?_
      refine Sc.seq ?_
      refine Sc.region ?_
      refine Sl.calm (Cm.move rfl) rfl ?_
      refine Sl.call fn87 rfl (rrfail_ok p E ys 1 W hP) rfl ?_
      rintro _ w1 ⟨hP1, hF1⟩
      refine Sl.nil ?_
      refine At.weak [(0, _), (1, _), (4, _), (10, _), (12, _)] ⟨rfl, rfl, rfl, rfl, rfl, trivial⟩ ?_
      refine At.go ?_
      refine Sc.seq ?_
      refine Sc.region ?_
      refine Sl.calm (Cm.assign rfl) rfl ?_
      refine Sl.nil ?_
      refine At.go ?_
      refine Sc.ret ?_
      refine At.then_ret ?_
      refine At.ret1 rfl rfl ?_
      have e0 := cutE_neg (E := E) (ys := ys) h12
      have hbad : cutE E ys n ≠ 0 := by rw [e0, if_pos (by omega)]; decide
      obtain ⟨e1, e2⟩ := cutB_bad hbad
      exact ⟨_, rfl, none, 0, by rw [e1]; rfl, by rw [e1]; exact Own.nil, Fr.none, by rw [e2, e0]; exact hP1, hF1⟩
    ·
      refine Sl.nil ?_
      refine At.weak [(0, _), (1, _), (4, _), (10, _), (12, _)] ⟨rfl, rfl, rfl, rfl, rfl, trivial⟩ ?_
      refine At.go ?_
      refine Sc.cond_f rfl ?_
      refine Sc.skip ?_
      refine At.go ?_
      refine Sc.seq ?_
      refine Sc.seq ?_
      refine Sc.region ?_
      refine Sl.calm (Cm.move rfl) rfl ?_
      refine Sl.calm (Cm.nilCheck rfl) rfl ?_
      refine Sl.calm (Cm.field fld106_0 rfl) rfl ?_
      refine Sl.calm (Cm.ld sca25 rfl (cellF hobj rfl)) rfl ?_
      refine Sl.calm (Cm.len sl25 rfl) rfl ?_
      refine Sl.calm (Cm.move rfl) rfl ?_
      refine Sl.fork (Cm.lss rfl rfl) rfl (fun h21 => ?_) (fun h21 => ?_)
      ·
        refine Sl.nil ?_
        refine At.weak [(0, _), (1, _), (4, _), (10, _), (12, _), (21, _)] ⟨rfl, rfl, rfl, rfl, rfl, rfl, trivial⟩ ?_
        refine At.go ?_
        refine Sc.cond_t rfl ?_
        refine Sc.seq ?_
        refine Sc.region ?_
        refine Sl.calm (Cm.move rfl) rfl ?_
        refine Sl.call fn87 rfl (rrfail_ok p E ys 2 W hP) rfl ?_
        rintro _ w1 ⟨hP1, hF1⟩
        refine Sl.nil ?_
        refine At.weak [(0, _), (1, _), (4, _), (10, _), (12, _), (21, _)] ⟨rfl, rfl, rfl, rfl, rfl, rfl, trivial⟩ ?_
        refine At.go ?_
        refine Sc.seq ?_
        refine Sc.region ?_
        refine Sl.calm (Cm.assign rfl) rfl ?_
        refine Sl.nil ?_
        refine At.go ?_
        refine Sc.ret ?_
        refine At.then_ret ?_
        refine At.ret1 rfl rfl ?_
        have e0 := cutE_short (E := E) (ys := ys) h12 h21
        have hbad : cutE E ys n ≠ 0 := by rw [e0, if_pos (by omega)]; decide
        obtain ⟨e1, e2⟩ := cutB_bad hbad
        exact ⟨_, rfl, none, 0, by rw [e1]; rfl, by rw [e1]; exact Own.nil, Fr.none, by rw [e2, e0]; exact hP1, hF1⟩
      ·
        refine Sl.nil ?_
        refine At.weak [(0, _), (1, _), (4, _), (10, _), (12, _), (21, _)] ⟨rfl, rfl, rfl, rfl, rfl, rfl, trivial⟩ ?_
        refine At.go ?_
        refine Sc.cond_f rfl ?_
        refine Sc.skip ?_
        refine At.go ?_
        refine Sc.seq ?_
        refine Sc.region ?_
        refine Sl.lit0 b8 sl25 rfl ?_
        intro w2 ho2 hs2 hf2
        have hvc := hv.le
        refine Sl.calm (Cm.move rfl) rfl ?_
        refine Sl.calm (Cm.nilCheck rfl) rfl ?_
        refine Sl.calm (Cm.field fld106_0 rfl) rfl ?_
        refine Sl.calm (Cm.ld sca25 rfl (cellF (hf2.obj hobj id) rfl)) rfl ?_
        refine Sl.calm (Cm.move rfl) rfl ?_
        refine Sl.calm (Cm.sliceH sl25 rfl rfl (by omega)) rfl ?_
        refine Sl.append b8_one sl25 (ys := ys.take n.toNat) rfl (by show some (Value.slice (cutAo ao c 0 1) n.toNat c) = _; rw [cutAo_zero, show (ys.take n.toNat).length = n.toNat by rw [List.length_take]; omega]) ho2 ((hv.take n.toNat).grow hf2) (by simp only [List.length_nil, List.length_take]; omega) (by simp only [List.length_nil, List.length_take]; unfold maxLen; omega) rfl ?_
        intro ao3 c3 w3 ho3 hf3 hr3 hn3
        have hap2 : ¬ blk (some (⟨W.heap.size, 0, none⟩ : Addr)) p := fun ⟨a, ha, hb⟩ => by cases ha; have : W.heap.size = p := hb; omega
        have hobj3 := hf3.obj (hf2.obj hobj id) hap2
        have hfr3 : Fr W.heap.size ao3 := fr_next (fr_at _) hr3 hf2.size
        refine Sl.calm (Cm.assign rfl) rfl ?_
        refine Sl.nil ?_
        refine At.weak [(0, _), (1, _), (4, _), (5, _), (10, _), (12, _), (21, _)] ⟨rfl, rfl, rfl, rfl, rfl, rfl, rfl, trivial⟩ ?_
        refine At.go ?_
        refine Sc.seq ?_
        refine Sc.region ?_
        refine Sl.calm (Cm.move rfl) rfl ?_
        refine Sl.calm (Cm.move rfl) rfl ?_
        refine Sl.calm (Cm.nilCheck rfl) rfl ?_
        refine Sl.calm (Cm.field fld106_0 rfl) rfl ?_
        refine Sl.calm (Cm.ld sca25 rfl (cellF hobj3 rfl)) rfl ?_
        refine Sl.calm (Cm.move rfl) rfl ?_
        refine Sl.calm (Cm.sliceL sl25 rfl rfl (by omega)) rfl ?_
        refine Sl.calm (Cm.nilCheck rfl) rfl ?_
        refine Sl.calm (Cm.field fld106_0 rfl) rfl ?_
        refine Sl.store sca25 rfl rfl rfl hobj3 rfl ?_
        intro w4 hg4 hs4 hf4
        refine Sl.nil ?_
        refine At.weak [(0, _), (1, _), (4, _), (5, _), (10, _), (12, _), (21, _)] ⟨rfl, rfl, rfl, rfl, rfl, rfl, rfl, trivial⟩ ?_
        refine At.go ?_
        refine Sc.seq ?_
        refine Sc.region ?_
        refine Sl.calm (Cm.move rfl) rfl ?_
        refine Sl.calm (Cm.assign rfl) rfl ?_
        refine Sl.nil ?_
        refine At.weak [(0, _), (1, _), (4, _), (5, _), (10, _), (12, _), (21, _)] ⟨rfl, rfl, rfl, rfl, rfl, rfl, rfl, trivial⟩ ?_
        refine At.go ?_
        refine Sc.ret ?_
        refine At.ret1 rfl rfl ?_
        have e0 := cutE_good (E := E) (ys := ys) h12 h21
        have hE : E = 0 := by omega
        obtain ⟨e1, e2⟩ := cutB_good (show cutE E ys n = 0 by omega)
        rw [List.nil_append] at ho3
        refine ⟨_, rfl, ao3, c3, by rw [e1]; rfl, by rw [e1]; exact ho3.keep hf4 (fun a ha h => by have := hfr3 a ha; have h2 : a.block = p := h; omega), hfr3, ?_, ((hf2.mono (fun _ h => h.elim)).trans_to hf3 (fr_at _).step).trans hf4⟩
        rw [e2, e0]
        refine ⟨_, _, by rw [List.length_drop]; exact hg4, ?_, blk_cutAo hap (by rw [List.length_drop]; omega)⟩
        have hv3 : Vw b8 w3.heap ao c ys := hv.grow (hf2.trans_to hf3 (fr_at _).step)
        exact keep0 (cut_drop hv3 (by omega) (by omega)) hf4 (fun hn a ha h => ((blk_cutAo (n2 := (ys.drop n.toNat).length) hap (by rw [List.length_drop]; omega)).2 hn).1 ⟨a, ha, h⟩)

def RdNP (cs : Int → Value → List Value) (T : TypeId) (D : Nat → Prop) (W : World) (p : Nat) (E : Int) (ys : List UInt8) (n : Int) : Value → World → Prop := fun v w' =>
  v = .int .i64 (valB (cutB (numE1 E n) ys n)) ∧ RdO cs T D w'.heap p (cutE (numE1 E n) ys n) (cutR (numE1 E n) ys n) ∧ Foot (· = p) W w'
theorem numB_len (E : Int) (ys : List UInt8) (n : Int) : (cutB (numE1 E n) ys n).length ≤ 4 := by
  have h1 := cutB_len (numE1 E n) ys n
  by_cases h : cutE (numE1 E n) ys n = 0
  · have h2 := (cutE_zero h).1
    unfold numE1 at h2
    split at h2
    · omega
    · split at h2
      · cases h2
      · omega
  · rw [(cutB_bad h).1]; simp
theorem pow_small {i : Nat} (h : i < 4) : 2 ^ (8 * i) ≤ 16777216 := Nat.le_trans (Nat.pow_le_pow_right (by decide) (show 8 * i ≤ 24 by omega)) (by decide)
theorem shl_small (c : UInt8) {i : Nat} (h : i < 4) : (c.toNat : Int) * 2 ^ (8 * (i : Int)).toNat = ((c.toNat * 2 ^ (8 * i) : Nat) : Int) ∧ c.toNat * 2 ^ (8 * i) < 4294967296 := by
  refine ⟨by rw [show (8 * (i : Int)).toNat = 8 * i by omega]; simp, ?_⟩
  have h1 := c.toNat_lt
  have h2 := pow_small h
  have := Nat.mul_le_mul (show c.toNat ≤ 255 by omega) h2
  omega
theorem valB_small {bs : List UInt8} (h : bs.length ≤ 4) : valB bs < 4294967296 :=
  Nat.lt_of_lt_of_le (valB_lt bs) (Nat.le_trans (Nat.pow_le_pow_right (by decide) h) (by decide))

set_option maxHeartbeats 1000000 in
theorem rdnum_ok (p : Nat) (E : Int) (ys : List UInt8) (n : Int) (W : World) (hP : RdL D W.heap p E ys) (hb : ys.length ≤ 1099511627776) :
    Calls Try.prog 55 [.pointer (some ⟨p, 0, none⟩), .int .i64 n].toArray W (Ret (RdNP csL 138 D W p E ys n)) := by
  have hbl := numB_len E ys n
  refine calls_of_sc 36 [(0, _), (1, _)] Try.func55 rfl rfl rfl (enter_slots ⟨rfl, rfl, trivial⟩) ?_
  refine Sc.seq ?_
  refine Sc.region ?_
  refine Sl.calm (Cm.assign rfl) rfl ?_
  refine Sl.nil ?_
  refine At.go ?_
  refine Sc.cut (β := Unit) (fun _u => [(0, .pointer (some ⟨p, 0, none⟩)), (1, .int .i64 n)]) (fun _u w => RdL D w.heap p (numE1 E n) ys ∧ Foot (· = p) W w) ?_ ?_
  ·
    refine Sc.seq ?_
    refine Sc.region ?_
    refine Sl.calm (Cm.move rfl) rfl ?_
    refine Sl.fork (Cm.lss rfl rfl) rfl (fun h9 => ?_) (fun h9 => ?_)
    ·
      refine Sl.calm (Cm.move rfl) rfl ?_
      refine Sl.skip rfl rfl rfl rfl ?_
      refine Sl.skip rfl rfl rfl rfl ?_
      refine Sl.calm (Cm.pick_t rfl rfl) rfl ?_
      refine Sl.nil ?_
      refine At.weak [(0, _), (1, _), (4, _), (13, _)] ⟨rfl, rfl, rfl, rfl, trivial⟩ ?_
      refine At.go ?_
      refine Sc.cond_t rfl ?_
      refine Sc.region ?_
      refine Sl.calm (Cm.move rfl) rfl ?_
      refine Sl.calm (Cm.nilCheck rfl) rfl ?_
      refine Sl.calm (Cm.field fld138_0 rfl) rfl ?_
      refine Sl.call fn72 rfl (rfail_ok p E ys 1 W hP) rfl ?_
      rintro _ w1 ⟨hP1, hF1⟩
      refine Sl.nil ?_
      refine At.cut () ⟨rfl, rfl, trivial⟩ ?_
      first
        | exact ⟨by rw [show numE1 E n = if E = 0 then 1 else E by unfold numE1; by_cases hE : E = 0; rw [if_neg (by omega), if_pos (by omega), if_pos hE]; rw [if_pos hE, if_neg hE]]; exact hP1, hF1⟩
        | exact ⟨by rw [show numE1 E n = E by rw [numE1_eq, if_neg (by omega)]]; exact hP, Foot.refl _ _⟩
    ·
      refine Sl.calm (Cm.move rfl) rfl ?_
      refine Sl.want rfl rfl (Cm.move rfl) rfl ?_
      refine Sl.forkWant rfl rfl (Cm.gtr rfl rfl) rfl (fun h12 => ?_) (fun h12 => ?_)
      ·
        refine Sl.calm (Cm.pick_f rfl rfl) rfl ?_
        refine Sl.nil ?_
        refine At.weak [(0, _), (1, _), (4, _), (13, _)] ⟨rfl, rfl, rfl, rfl, trivial⟩ ?_
        refine At.go ?_
        refine Sc.cond_t rfl ?_
        refine Sc.region ?_
        refine Sl.calm (Cm.move rfl) rfl ?_
        refine Sl.calm (Cm.nilCheck rfl) rfl ?_
        refine Sl.calm (Cm.field fld138_0 rfl) rfl ?_
        refine Sl.call fn72 rfl (rfail_ok p E ys 1 W hP) rfl ?_
        rintro _ w1 ⟨hP1, hF1⟩
        refine Sl.nil ?_
        refine At.cut () ⟨rfl, rfl, trivial⟩ ?_
        first
          | exact ⟨by rw [show numE1 E n = if E = 0 then 1 else E by unfold numE1; by_cases hE : E = 0; rw [if_neg (by omega), if_pos (by omega), if_pos hE]; rw [if_pos hE, if_neg hE]]; exact hP1, hF1⟩
          | exact ⟨by rw [show numE1 E n = E by rw [numE1_eq, if_neg (by omega)]]; exact hP, Foot.refl _ _⟩
      ·
        refine Sl.calm (Cm.pick_f rfl rfl) rfl ?_
        refine Sl.nil ?_
        refine At.weak [(0, _), (1, _), (4, _), (13, _)] ⟨rfl, rfl, rfl, rfl, trivial⟩ ?_
        refine At.go ?_
        refine Sc.cond_f rfl ?_
        refine Sc.skip ?_
        refine At.cut () ⟨rfl, rfl, trivial⟩ ?_
        first
          | exact ⟨by rw [show numE1 E n = if E = 0 then 1 else E by unfold numE1; by_cases hE : E = 0; rw [if_neg (by omega), if_pos (by omega), if_pos hE]; rw [if_pos hE, if_neg hE]]; exact hP1, hF1⟩
          | exact ⟨by rw [show numE1 E n = E by rw [numE1_eq, if_neg (by omega)]]; exact hP, Foot.refl _ _⟩
  ·
    rintro _ w2 ⟨hP2, hF2⟩
    refine Sc.seq ?_
    refine Sc.region ?_
    refine Sl.calm (Cm.assign rfl) rfl ?_
    refine Sl.nil ?_
    refine At.go ?_
    refine Sc.seq ?_
    refine Sc.seq ?_
    refine Sc.region ?_
    refine Sl.calm (Cm.move rfl) rfl ?_
    refine Sl.calm (Cm.move rfl) rfl ?_
    refine Sl.call fn86 rfl (rbyt_ok p _ ys n w2 hP2 hb) rfl ?_
    rintro _ w3 ⟨ao3, c3, rfl, ho3, hfr3, hP3, hF3⟩
    obtain ⟨bs3, hbs⟩ : ∃ l, l = cutB (numE1 E n) ys n := ⟨_, rfl⟩
    rw [← hbs] at ho3 hbl ⊢
    refine Sl.calm (Cm.len sl25 rfl) rfl ?_
    refine Sl.calm (Cm.move rfl) rfl ?_
    refine Sl.nil ?_
    refine At.weak [(0, _), (1, _), (5, _), (20, _), (21, _), (22, _)] ⟨rfl, rfl, rfl, rfl, rfl, rfl, trivial⟩ ?_
    refine At.go ?_
    refine Sc.block ?_
    refine Sc.loop (β := Nat) (fun k => [(5, .int .i64 (valB (bs3.take k))), (20, .slice ao3 bs3.length c3), (21, .int .i64 bs3.length), (22, .int .i64 k)]) (fun k w => k ≤ bs3.length ∧ w = w3) (fun k => bs3.length - k) 0 ⟨rfl, rfl, rfl, rfl, trivial⟩ ⟨Nat.zero_le _, rfl⟩ ?_
    rintro k w4 ⟨hk, hw4⟩
    subst hw4
    refine Sc.seq ?_
    refine Sc.region ?_
    refine Sl.fork (Cm.lss rfl rfl) rfl (fun h23 => ?_) (fun h23 => ?_)
    ·
      refine Sl.nil ?_
      refine At.go ?_
      refine Sc.seq ?_
      refine Sc.cond_t rfl ?_
      refine Sc.skip ?_
      refine At.go ?_
      refine Sc.seq ?_
      refine Sc.block ?_
      refine Sc.seq ?_
      refine Sc.region ?_
      refine Sl.calm (Cm.move rfl) rfl ?_
      refine Sl.calm (Cm.indexAddr1 sl25 rfl rfl ho3.vw.non (by omega)) rfl ?_
      refine Sl.calm (Cm.ld sca5 rfl (ho3.vw.gz 0 k rfl (by omega))) rfl ?_
      refine Sl.calm (Cm.assign rfl) rfl ?_
      refine Sl.calm (Cm.assign rfl) rfl ?_
      refine Sl.nil ?_
      refine At.weak [(5, _), (6, _), (7, _), (20, _), (21, _), (22, _), (23, _)] ⟨rfl, rfl, rfl, rfl, rfl, rfl, rfl, trivial⟩ ?_
      refine At.go ?_
      refine Sc.region ?_
      refine Sl.calm (Cm.move rfl) rfl ?_
      refine Sl.calm (Cm.move rfl) rfl ?_
      refine Sl.calm (Cm.convI_in (n := ((bs3.getD k 0).toNat : Int)) is5 ty3 rfl (wrap64_id (by have := (bs3.getD k 0).toNat_lt; omega))) rfl ?_
      refine Sl.calm (Cm.move rfl) rfl ?_
      refine Sl.calm (Cm.mul64 rfl rfl (by omega)) rfl ?_
      obtain ⟨s1, s2⟩ := shl_small (bs3.getD k 0) (i := k) (by omega)
      refine Sl.calm (Cm.ofEq (u := .int .i64 (((bs3.getD k 0).toNat * 2 ^ (8 * k) : Nat) : Int)) (Cm.shl64 rfl rfl (by omega) (by rw [s1]; omega)) (by rw [s1])) rfl ?_
      refine Sl.calm (Cm.orN rfl rfl (by have := valB_small (bs := bs3.take k) (by rw [List.length_take]; omega); omega) (by omega)) rfl ?_
      refine Sl.calm (Cm.assign rfl) rfl ?_
      refine Sl.nil ?_
      refine At.block_normal ?_
      refine At.weak [(5, _), (6, _), (7, _), (20, _), (21, _), (22, _), (23, _)] ⟨rfl, rfl, rfl, rfl, rfl, rfl, rfl, trivial⟩ ?_
      refine At.go ?_
      refine Sc.region ?_
      refine Sl.calm (Cm.add64 rfl rfl (by omega)) rfl ?_
      refine Sl.calm (Cm.move rfl) rfl ?_
      refine Sl.nil ?_
      refine At.again (k + 1) ⟨by rw [valB_succ bs3 k (by omega)]; rfl, rfl, rfl, rfl, trivial⟩ ⟨by omega, rfl⟩ (by show bs3.length - (k + 1) < bs3.length - k; omega)
    ·
      refine Sl.nil ?_
      refine At.go ?_
      refine Sc.seq ?_
      refine Sc.cond_f rfl ?_
      refine Sc.exit ?_
      refine At.then_exit ?_
      refine At.then_exit ?_
      refine At.block_hit ?_
      refine At.go ?_
      refine Sc.seq ?_
      refine Sc.region ?_
      refine Sl.calm (Cm.move rfl) rfl ?_
      refine Sl.calm (Cm.assign rfl) rfl ?_
      refine Sl.nil ?_
      refine At.weak [(4, _), (5, _), (20, _), (21, _), (22, _), (23, _)] ⟨rfl, rfl, rfl, rfl, rfl, rfl, trivial⟩ ?_
      refine At.go ?_
      refine Sc.ret ?_
      refine At.ret1 rfl rfl ?_
      rw [List.take_of_length_le (by omega)]
      exact ⟨_, rfl, by rw [hbs], hP3, hF2.trans hF3⟩

set_option maxHeartbeats 1000000 in
theorem rrdnum_ok (p : Nat) (E : Int) (ys : List UInt8) (n : Int) (W : World) (hP : RdR D W.heap p E ys) (hb : ys.length ≤ 1099511627776) :
    Calls Try.prog 58 [.pointer (some ⟨p, 0, none⟩), .int .i64 n].toArray W (Ret (RdNP csR 106 D W p E ys n)) := by
  have hbl := numB_len E ys n
  have hP0 := hP
  obtain ⟨ao, c, hobj, hv, hap⟩ := hP0
  refine calls_of_sc 42 [(0, _), (1, _)] Try.func58 rfl rfl rfl (enter_slots ⟨rfl, rfl, trivial⟩) ?_
  refine Sc.seq ?_
  refine Sc.region ?_
  refine Sl.calm (Cm.assign rfl) rfl ?_
  refine Sl.nil ?_
  refine At.go ?_
  refine Sc.cut (β := Unit) (fun _u => [(0, .pointer (some ⟨p, 0, none⟩)), (1, .int .i64 n)]) (fun _u w => RdR D w.heap p (numE1 E n) ys ∧ Foot (· = p) W w) ?_ ?_
  ·
    refine Sc.seq ?_
    refine Sc.region ?_
    refine Sl.calm (Cm.move rfl) rfl ?_
    refine Sl.calm (Cm.nilCheck rfl) rfl ?_
    refine Sl.calm (Cm.field fld106_1 rfl) rfl ?_
    refine Sl.calm (Cm.ld sca26 rfl (cellF hobj rfl)) rfl ?_
    refine Sl.fork (Cm.eql rfl rfl) rfl (fun h12 => ?_) (fun h12 => ?_)
    ·
      refine Sl.calm (Cm.move rfl) rfl ?_
      refine Sl.want rfl rfl (Cm.move rfl) rfl ?_
      refine Sl.forkWant rfl rfl (Cm.lss rfl rfl) rfl (fun h15 => ?_) (fun h15 => ?_)
      ·
        refine Sl.want rfl rfl (Cm.move rfl) rfl ?_
        refine Sl.skip rfl rfl rfl rfl ?_
        refine Sl.skip rfl rfl rfl rfl ?_
        refine Sl.want rfl rfl (Cm.pick_t rfl rfl) rfl ?_
        refine Sl.calm (Cm.pick_t rfl rfl) rfl ?_
        refine Sl.nil ?_
        refine At.weak [(0, _), (1, _), (4, _), (20, _)] ⟨rfl, rfl, rfl, rfl, trivial⟩ ?_
        refine At.go ?_
        refine Sc.cond_t rfl ?_
        refine Sc.region ?_
        refine Sl.calm (Cm.move rfl) rfl ?_
        refine Sl.call fn87 rfl (rrfail_ok p E ys 1 W hP) rfl ?_
        rintro _ w1 ⟨hP1, hF1⟩
        refine Sl.nil ?_
        refine At.cut () ⟨rfl, rfl, trivial⟩ ?_
        first
          | exact ⟨by rw [show numE1 E n = if E = 0 then 1 else E by unfold numE1; rw [if_neg (by omega), if_pos (by omega), if_pos (by omega)]]; exact hP1, hF1⟩
          | exact ⟨by rw [show numE1 E n = E by rw [numE1_eq, if_neg (by omega)]]; exact hP, Foot.refl _ _⟩
      ·
        refine Sl.want rfl rfl (Cm.move rfl) rfl ?_
        refine Sl.want rfl rfl (Cm.move rfl) rfl ?_
        refine Sl.forkWant rfl rfl (Cm.gtr rfl rfl) rfl (fun h18 => ?_) (fun h18 => ?_)
        ·
          refine Sl.want rfl rfl (Cm.pick_f rfl rfl) rfl ?_
          refine Sl.calm (Cm.pick_t rfl rfl) rfl ?_
          refine Sl.nil ?_
          refine At.weak [(0, _), (1, _), (4, _), (20, _)] ⟨rfl, rfl, rfl, rfl, trivial⟩ ?_
          refine At.go ?_
          refine Sc.cond_t rfl ?_
          refine Sc.region ?_
          refine Sl.calm (Cm.move rfl) rfl ?_
          refine Sl.call fn87 rfl (rrfail_ok p E ys 1 W hP) rfl ?_
          rintro _ w1 ⟨hP1, hF1⟩
          refine Sl.nil ?_
          refine At.cut () ⟨rfl, rfl, trivial⟩ ?_
          first
            | exact ⟨by rw [show numE1 E n = if E = 0 then 1 else E by unfold numE1; rw [if_neg (by omega), if_pos (by omega), if_pos (by omega)]]; exact hP1, hF1⟩
            | exact ⟨by rw [show numE1 E n = E by rw [numE1_eq, if_neg (by omega)]]; exact hP, Foot.refl _ _⟩
        ·
          refine Sl.want rfl rfl (Cm.pick_f rfl rfl) rfl ?_
          refine Sl.calm (Cm.pick_t rfl rfl) rfl ?_
          refine Sl.nil ?_
          refine At.weak [(0, _), (1, _), (4, _), (20, _)] ⟨rfl, rfl, rfl, rfl, trivial⟩ ?_
          refine At.go ?_
          refine Sc.cond_f rfl ?_
          refine Sc.skip ?_
          refine At.cut () ⟨rfl, rfl, trivial⟩ ?_
          first
            | exact ⟨by rw [show numE1 E n = if E = 0 then 1 else E by unfold numE1; rw [if_neg (by omega), if_pos (by omega), if_pos (by omega)]]; exact hP1, hF1⟩
            | exact ⟨by rw [show numE1 E n = E by rw [numE1_eq, if_neg (by omega)]]; exact hP, Foot.refl _ _⟩
    ·
      refine Sl.calm (Cm.move rfl) rfl ?_
      refine Sl.skip rfl rfl rfl rfl ?_
      refine Sl.skip rfl rfl rfl rfl ?_
      refine Sl.skip rfl rfl rfl rfl ?_
      refine Sl.skip rfl rfl rfl rfl ?_
      refine Sl.skip rfl rfl rfl rfl ?_
      refine Sl.skip rfl rfl rfl rfl ?_
      refine Sl.calm (Cm.pick_f rfl rfl) rfl ?_
      refine Sl.nil ?_
      refine At.weak [(0, _), (1, _), (4, _), (20, _)] ⟨rfl, rfl, rfl, rfl, trivial⟩ ?_
      refine At.go ?_
      refine Sc.cond_f rfl ?_
      refine Sc.skip ?_
      refine At.cut () ⟨rfl, rfl, trivial⟩ ?_
      first
        | exact ⟨by rw [show numE1 E n = if E = 0 then 1 else E by unfold numE1; rw [if_neg (by omega), if_pos (by omega), if_pos (by omega)]]; exact hP1, hF1⟩
        | exact ⟨by rw [show numE1 E n = E by rw [numE1_eq, if_neg (by omega)]]; exact hP, Foot.refl _ _⟩
  ·
    rintro _ w2 ⟨hP2, hF2⟩
    refine Sc.seq ?_
    refine Sc.region ?_
    refine Sl.calm (Cm.move rfl) rfl ?_
    refine Sl.calm (Cm.move rfl) rfl ?_
    refine Sl.call fn88 rfl (rrbyt_ok p _ ys n w2 hP2 hb) rfl ?_
    rintro _ w3 ⟨ao3, c3, rfl, ho3, hfr3, hP3, hF3⟩
    obtain ⟨bs3, hbs⟩ : ∃ l, l = cutB (numE1 E n) ys n := ⟨_, rfl⟩
    rw [← hbs] at ho3 hbl ⊢
    refine Sl.calm (Cm.assign rfl) rfl ?_
    refine Sl.nil ?_
    refine At.weak [(0, _), (1, _), (5, _)] ⟨rfl, rfl, rfl, trivial⟩ ?_
    refine At.go ?_
    refine Sc.seq ?_
    refine Sc.region ?_
    refine Sl.calm (Cm.assign rfl) rfl ?_
    refine Sl.nil ?_
    refine At.go ?_
    refine Sc.seq ?_
    refine Sc.seq ?_
    refine Sc.region ?_
    refine Sl.calm (Cm.move rfl) rfl ?_
    refine Sl.calm (Cm.len sl25 rfl) rfl ?_
    refine Sl.calm (Cm.sub64 rfl rfl (by omega)) rfl ?_
    refine Sl.calm (Cm.assign rfl) rfl ?_
    refine Sl.nil ?_
    refine At.weak [(0, _), (1, _), (5, _), (6, _), (7, _)] ⟨rfl, rfl, rfl, rfl, rfl, trivial⟩ ?_
    refine At.go ?_
    refine Sc.block ?_
    refine Sc.loop (β := Nat) (fun k => [(5, .slice ao3 bs3.length c3), (6, .int .i64 (valB (bs3.drop (bs3.length - k)))), (7, .int .i64 ((bs3.length : Int) - 1 - k))]) (fun k w => k ≤ bs3.length ∧ w = w3) (fun k => bs3.length - k) 0 ⟨rfl, (by rw [Nat.sub_zero, List.drop_length]; rfl), (by rw [Int.ofNat_zero, Int.sub_zero]; rfl), trivial⟩ ⟨Nat.zero_le _, rfl⟩ ?_
    rintro k w4 ⟨hk, hw4⟩
    subst hw4
    refine Sc.seq ?_
    refine Sc.seq ?_
    refine Sc.region ?_
    refine Sl.calm (Cm.move rfl) rfl ?_
    refine Sl.fork (Cm.geq rfl rfl) rfl (fun h30 => ?_) (fun h30 => ?_)
    ·
      refine Sl.nil ?_
      refine At.weak [(5, _), (6, _), (7, _), (30, _)] ⟨rfl, rfl, rfl, rfl, trivial⟩ ?_
      refine At.go ?_
      refine Sc.cond_t rfl ?_
      refine Sc.skip ?_
      refine At.go ?_
      refine Sc.seq ?_
      refine Sc.block ?_
      refine Sc.region ?_
      refine Sl.calm (Cm.move rfl) rfl ?_
      have hkl : bs3.length - (k + 1) < bs3.length := by omega
      have hvs := valB_small (bs := bs3.drop (bs3.length - k)) (by rw [List.length_drop]; omega)
      refine Sl.calm (Cm.mul64 rfl rfl (by omega)) rfl ?_
      refine Sl.calm (Cm.move rfl) rfl ?_
      refine Sl.calm (Cm.move rfl) rfl ?_
      refine Sl.calm (Cm.indexAddr1 sl25 rfl rfl ho3.vw.non (by omega)) rfl ?_
      refine Sl.calm (Cm.ld sca5 rfl (ho3.vw.gz 0 (bs3.length - (k + 1)) (by omega) (by omega))) rfl ?_
      refine Sl.calm (Cm.convI_in (n := ((bs3.getD (bs3.length - (k + 1)) 0).toNat : Int)) is5 ty3 rfl (wrap64_id (by have := (bs3.getD (bs3.length - (k + 1)) 0).toNat_lt; omega))) rfl ?_
      refine Sl.calm (Cm.add64 rfl rfl (by have := (bs3.getD (bs3.length - (k + 1)) 0).toNat_lt; omega)) rfl ?_
      refine Sl.calm (Cm.assign rfl) rfl ?_
      refine Sl.nil ?_
      refine At.block_normal ?_
      refine At.weak [(5, _), (6, _), (7, _), (30, _)] ⟨rfl, rfl, rfl, rfl, trivial⟩ ?_
      refine At.go ?_
      refine Sc.region ?_
      refine Sl.calm (Cm.move rfl) rfl ?_
      refine Sl.calm (Cm.sub64 rfl rfl (by omega)) rfl ?_
      refine Sl.calm (Cm.assign rfl) rfl ?_
      refine Sl.nil ?_
      have e6 := valB_drop bs3 _ hkl
      rw [show bs3.length - (k + 1) + 1 = bs3.length - k by omega] at e6
      refine At.again (k + 1) ⟨rfl, by rw [e6]; show some (Value.int .i64 _) = some (Value.int .i64 _); first | rfl | (congr 2; omega), by show some (Value.int .i64 _) = some (Value.int .i64 _); first | rfl | (congr 2; omega), trivial⟩ ⟨by omega, rfl⟩ (by show bs3.length - (k + 1) < bs3.length - k; omega)
    ·
      refine Sl.nil ?_
      refine At.weak [(5, _), (6, _), (7, _), (30, _)] ⟨rfl, rfl, rfl, rfl, trivial⟩ ?_
      refine At.go ?_
      refine Sc.cond_f rfl ?_
      refine Sc.exit ?_
      refine At.then_exit ?_
      refine At.then_exit ?_
      refine At.block_hit ?_
      refine At.go ?_
      refine Sc.seq ?_
      refine Sc.region ?_
      refine Sl.calm (Cm.move rfl) rfl ?_
      refine Sl.calm (Cm.assign rfl) rfl ?_
      refine Sl.nil ?_
      refine At.weak [(4, _), (5, _), (6, _), (7, _), (30, _)] ⟨rfl, rfl, rfl, rfl, rfl, trivial⟩ ?_
      refine At.go ?_
      refine Sc.ret ?_
      refine At.ret1 rfl rfl ?_
      rw [show bs3.length - k = 0 by omega, List.drop_zero]
      exact ⟨_, rfl, by rw [hbs], hP3, hF2.trans hF3⟩

/-! texts, the end, a reader of bytes -/
def tE (E : Int) (ys : List UInt8) : Int := cutE (numE1 E 1) ys 1
def tR (E : Int) (ys : List UInt8) : List UInt8 := cutR (numE1 E 1) ys 1
def tN (E : Int) (ys : List UInt8) : Int := valB (cutB (numE1 E 1) ys 1)
def RdTP (cs : Int → Value → List Value) (T : TypeId) (D : Nat → Prop) (W : World) (p : Nat) (E : Int) (ys : List UInt8) : Value → World → Prop := fun v w' =>
  v = .string (bs (cutB (tE E ys) (tR E ys) (tN E ys))) ∧ RdO cs T D w'.heap p (cutE (tE E ys) (tR E ys) (tN E ys)) (cutR (tE E ys) (tR E ys) (tN E ys)) ∧ Foot (· = p) W w'
theorem tR_len (E : Int) (ys : List UInt8) : (tR E ys).length ≤ ys.length := cutR_len _ _ _

theorem rdtext_ok (p : Nat) (E : Int) (ys : List UInt8) (W : World) (hP : RdL D W.heap p E ys) (hb : ys.length ≤ 1099511627776) :
    Calls Try.prog 56 [.pointer (some ⟨p, 0, none⟩)].toArray W (Ret (RdTP csL 138 D W p E ys)) := by
  have hl := tR_len E ys
  refine calls_of_sc 8 [(0, _)] Try.func56 rfl rfl rfl (enter_slots ⟨rfl, trivial⟩) ?_
  refine Sc.seq ?_
  refine Sc.region ?_
  refine Sl.calm (Cm.assign rfl) rfl ?_
  refine Sl.nil ?_
  refine At.go ?_
  refine Sc.seq ?_
  refine Sc.region ?_
  refine Sl.calm (Cm.move rfl) rfl ?_
  refine Sl.calm (Cm.move rfl) rfl ?_
  refine Sl.call fn55 rfl (rdnum_ok p E ys 1 W hP hb) rfl ?_
  rintro _ w1 ⟨rfl, hP1, hF1⟩
  refine Sl.call fn86 rfl (rbyt_ok p (tE E ys) (tR E ys) (tN E ys) w1 hP1 (by omega)) rfl ?_
  rintro _ w2 ⟨ao2, c2, rfl, ho2, hfr2, hP2, hF2⟩
  refine Sl.calm (Cm.strIn sl25 ty5 ty9 rfl ho2.vw) rfl ?_
  refine Sl.calm (Cm.assign rfl) rfl ?_
  refine Sl.nil ?_
  refine At.weak [(0, _), (2, _)] ⟨rfl, rfl, trivial⟩ ?_
  refine At.go ?_
  refine Sc.ret ?_
  refine At.ret1 rfl rfl ?_
  exact ⟨_, rfl, rfl, hP2, hF1.trans hF2⟩
theorem rrdtext_ok (p : Nat) (E : Int) (ys : List UInt8) (W : World) (hP : RdR D W.heap p E ys) (hb : ys.length ≤ 1099511627776) :
    Calls Try.prog 59 [.pointer (some ⟨p, 0, none⟩)].toArray W (Ret (RdTP csR 106 D W p E ys)) := by
  have hl := tR_len E ys
  refine calls_of_sc 10 [(0, _)] Try.func59 rfl rfl rfl (enter_slots ⟨rfl, trivial⟩) ?_
  refine Sc.seq ?_
  refine Sc.region ?_
  refine Sl.calm (Cm.assign rfl) rfl ?_
  refine Sl.nil ?_
  refine At.go ?_
  refine Sc.seq ?_
  refine Sc.region ?_
  refine Sl.calm (Cm.move rfl) rfl ?_
  refine Sl.call fn58 rfl (rrdnum_ok p E ys 1 W hP hb) rfl ?_
  rintro _ w1 ⟨rfl, hP1, hF1⟩
  refine Sl.calm (Cm.assign rfl) rfl ?_
  refine Sl.nil ?_
  refine At.weak [(0, _), (2, _), (3, _)] ⟨rfl, rfl, rfl, trivial⟩ ?_
  refine At.go ?_
  refine Sc.seq ?_
  refine Sc.region ?_
  refine Sl.calm (Cm.move rfl) rfl ?_
  refine Sl.calm (Cm.move rfl) rfl ?_
  refine Sl.call fn88 rfl (rrbyt_ok p (tE E ys) (tR E ys) (tN E ys) w1 hP1 (by omega)) rfl ?_
  rintro _ w2 ⟨ao2, c2, rfl, ho2, hfr2, hP2, hF2⟩
  refine Sl.calm (Cm.strIn sl25 ty5 ty9 rfl ho2.vw) rfl ?_
  refine Sl.calm (Cm.assign rfl) rfl ?_
  refine Sl.nil ?_
  refine At.weak [(0, _), (2, _), (3, _)] ⟨rfl, rfl, rfl, trivial⟩ ?_
  refine At.go ?_
  refine Sc.ret ?_
  refine At.ret1 rfl rfl ?_
  exact ⟨_, rfl, rfl, hP2, hF1.trans hF2⟩
def endE (E : Int) (ys : List UInt8) : Int := if E ≠ 0 then E else if 0 < ys.length then 2 else 0
theorem endE_pos {E : Int} {ys : List UInt8} (h : 0 < ys.length) : endE E ys = if E = 0 then 2 else E := by
  unfold endE; by_cases hE : E = 0 <;> simp [hE, h]
theorem endE_nil {E : Int} {ys : List UInt8} (h : ¬ 0 < ys.length) : endE E ys = E := by
  unfold endE; by_cases hE : E = 0 <;> simp [hE, h]
theorem rdend_ok (p : Nat) (E : Int) (ys : List UInt8) (W : World) (hP : RdL D W.heap p E ys) :
    Calls Try.prog 57 [.pointer (some ⟨p, 0, none⟩)].toArray W (Ret fun v w' => v = .int .i64 (endE E ys) ∧ Foot (· = p) W w') := by
  have hP0 := hP
  obtain ⟨ao, c, hobj, hv, hap⟩ := hP0
  refine calls_of_sc 18 [(0, _)] Try.func57 rfl rfl rfl (enter_slots ⟨rfl, trivial⟩) ?_
  refine Sc.seq ?_
  refine Sc.region ?_
  refine Sl.calm (Cm.assign rfl) rfl ?_
  refine Sl.nil ?_
  refine At.go ?_
  refine Sc.seq ?_
  refine Sc.seq ?_
  refine Sc.region ?_
  refine Sl.calm (Cm.move rfl) rfl ?_
  refine Sl.calm (Cm.nilCheck rfl) rfl ?_
  refine Sl.calm (Cm.field fld138_1 rfl) rfl ?_
  refine Sl.calm (Cm.ld sca25 rfl (cellF hobj rfl)) rfl ?_
  refine Sl.calm (Cm.len sl25 rfl) rfl ?_
  refine Sl.fork (Cm.gtr rfl rfl) rfl (fun h8 => ?_) (fun h8 => ?_)
  ·
    refine Sl.nil ?_
    refine At.weak [(0, _), (2, _), (8, _)] ⟨rfl, rfl, rfl, trivial⟩ ?_
    refine At.go ?_
    refine Sc.cond_t rfl ?_
    refine Sc.region ?_
    refine Sl.calm (Cm.move rfl) rfl ?_
    refine Sl.calm (Cm.nilCheck rfl) rfl ?_
    refine Sl.calm (Cm.field fld138_0 rfl) rfl ?_
    refine Sl.call fn72 rfl (rfail_ok p E ys 2 W hP) rfl ?_
    rintro _ w1 ⟨hP1, hF1⟩
    refine Sl.nil ?_
    refine At.weak [(0, _), (2, _), (8, _)] ⟨rfl, rfl, rfl, trivial⟩ ?_
    refine At.go ?_
    refine Sc.seq ?_
    refine Sc.region ?_
    refine Sl.calm (Cm.move rfl) rfl ?_
    refine Sl.calm (Cm.nilCheck rfl) rfl ?_
    refine Sl.calm (Cm.field fld138_0 rfl) rfl ?_
    refine Sl.calm (Cm.field fld85_0 rfl) rfl ?_
    obtain ⟨ao1, c1, hobj1, hv1, hap1⟩ := hP1
    refine Sl.calm (Cm.ld sca26 rfl (cellF hobj1 rfl)) rfl ?_
    refine Sl.calm (Cm.assign rfl) rfl ?_
    refine Sl.nil ?_
    refine At.weak [(0, _), (2, _), (8, _)] ⟨rfl, rfl, rfl, trivial⟩ ?_
    refine At.go ?_
    refine Sc.ret ?_
    refine At.ret1 rfl rfl ?_
    exact ⟨_, rfl, by rw [endE_pos (by omega)], hF1⟩
  ·
    refine Sl.nil ?_
    refine At.weak [(0, _), (2, _), (8, _)] ⟨rfl, rfl, rfl, trivial⟩ ?_
    refine At.go ?_
    refine Sc.cond_f rfl ?_
    refine Sc.skip ?_
    refine At.go ?_
    refine Sc.seq ?_
    refine Sc.region ?_
    refine Sl.calm (Cm.move rfl) rfl ?_
    refine Sl.calm (Cm.nilCheck rfl) rfl ?_
    refine Sl.calm (Cm.field fld138_0 rfl) rfl ?_
    refine Sl.calm (Cm.field fld85_0 rfl) rfl ?_
    refine Sl.calm (Cm.ld sca26 rfl (cellF hobj rfl)) rfl ?_
    refine Sl.calm (Cm.assign rfl) rfl ?_
    refine Sl.nil ?_
    refine At.weak [(0, _), (2, _), (8, _)] ⟨rfl, rfl, rfl, trivial⟩ ?_
    refine At.go ?_
    refine Sc.ret ?_
    refine At.ret1 rfl rfl ?_
    exact ⟨_, rfl, by rw [endE_nil (by omega)], Foot.refl _ _⟩
theorem rdnew_ok (ao : Option Addr) (c : Nat) (ys : List UInt8) (W : World) (hv : Vw b8 W.heap ao c ys) (hb : ys.length ≤ 140737488355328) :
    Calls Try.prog 54 [.slice ao ys.length c].toArray W (Ret fun v w' => ∃ p, v = .pointer (some ⟨p, 0, none⟩) ∧ W.heap.size ≤ p ∧ RdL (fun k => W.heap.size ≤ k ∧ k < w'.heap.size) w'.heap p 0 ys ∧ Foot nob W w') := by
  refine calls_of_sc 7 [(0, _)] Try.func54 rfl rfl rfl (enter_slots ⟨rfl, trivial⟩) ?_
  refine Sc.seq ?_
  refine Sc.region ?_
  refine Sl.calm (Cm.assign rfl) rfl ?_
  refine Sl.nil ?_
  refine At.go ?_
  refine Sc.seq ?_
  refine Sc.region ?_
  refine Sl.calm (Cm.move rfl) rfl ?_
  refine Sl.call fn60 rfl (sclone_ok ao c ys W hv hb) rfl ?_
  rintro _ w1 ⟨ao1, c1, rfl, ho1, hfr1, hf1⟩
  refine Sl.calm (Cm.build (cs := #[.int .i64 0, .slice ao1 ys.length c1]) plc138 zc138 rfl (by kernel_rfl)) rfl ?_
  refine Sl.box rfl rfl ?_
  intro w2 hg2 hs2 hf2
  refine Sl.calm (Cm.assign rfl) rfl ?_
  refine Sl.nil ?_
  refine At.weak [(0, _), (2, _)] ⟨rfl, rfl, trivial⟩ ?_
  refine At.go ?_
  refine Sc.ret ?_
  refine At.ret1 rfl rfl ?_
  have z1 := hf1.size
  have z2 := hf2.size
  exact ⟨_, rfl, _, rfl, hf1.size, ⟨ao1, c1, hg2, (ho1.grow hf2).vw, ⟨by omega, by omega⟩, fun _ => ⟨fun ⟨a, ha, hb⟩ => by have h3 := ho1.lt a ha; have h4 : a.block = w1.heap.size := hb; omega, fun k ⟨a, ha, hb⟩ => by have h3 := ho1.lt a ha; have h4 := hfr1 a ha; omega⟩⟩, hf1.trans hf2⟩
end Go.Proofs.Ytoaplldahbbaiaa
