/- data: the writers' contracts for the laws; the document's example. No condition beyond the bounds that each states. -/
import Derived.Test.YtpnfjfbfgaiolaaDoorDaFk
import Derived.Test.YtpnfjfbfgaiolaaDoorNxk
namespace Go.Proofs.YtpnfjfbfgaiolaaDoor
open Go Go.RowKit
set_option linter.unusedVariables false

theorem DwO.tight {D B : Nat → Prop} {w : World} {g p first : Nat} {s : DS} (h : DwO D w.heap g p first s) (hB : ∀ k, k < w.heap.size → D k → B k) (hp : ¬ B p) : DwO B w.heap g p first s := h.fresh (Foot.refl _ _) hB hp
theorem RyO.tight {D B : Nat → Prop} {w : World} {g first : Nat} {s : DS} (h : RyO D w.heap g first s) (hB : ∀ k, k < w.heap.size → D k → B k) : RyO B w.heap g first s := h.keepTo (Foot.refl nob _) (fun _ _ _ => id) hB
theorem dnewT_ok (p first : Nat) (W : World) (ht : TbV W.heap p) :
    Calls Tryd.prog 11 [.pointer (some ⟨p, 0, none⟩), .int .i64 first].toArray W (Ret fun v w' => v = .pointer (some ⟨W.heap.size + 1, 0, none⟩) ∧ DwO (fun k => W.heap.size ≤ k ∧ k < w'.heap.size) w'.heap (W.heap.size + 1) p first ⟨[], []⟩ ∧ Foot nob W w') := by
  have hpl := (Array.getElem?_eq_some_iff.1 ht).1
  refine (dnew_ok p first W ht).mono ?_
  rintro e w' ⟨v, rfl, rfl, h1, h2⟩
  exact ⟨_, rfl, rfl, h1.tight (fun k hk h => ⟨h, hk⟩) (fun h => by omega), h2⟩
theorem daddT_ok (A : Nat → Prop) (g p first : Nat) (s : DS) (bo : Option Addr) (bc : Nat) (b : List UInt8) (W : World) (hM : DwO A W.heap g p first s) (hv : Vw b8 W.heap bo bc b) (hfi : first ≤ 1000) (hb : s.B.length ≤ 1099511627776) (hbl : b.length ≤ 1048576) :
    Calls Tryd.prog 12 [.pointer (some ⟨g, 0, none⟩), .slice bo b.length bc].toArray W
      (Ret fun v w' => ∃ o c, v = .tuple #[.int .i64 ((addD first s b).2 : Nat), .slice o (tailD b).length c] ∧ Own b8 5 w'.heap o c (tailD b) ∧ Fr W.heap.size o ∧ DwO (fun k => Nx A W w' k ∧ ¬ blk o k) w'.heap g p first (addD first s b).1 ∧ Foot A W w') := by
  obtain ⟨ht, hp⟩ := hM.tab
  have hpl := (Array.getElem?_eq_some_iff.1 ht).1
  refine (dadd_ok (fun k => A k ∨ W.heap.size ≤ k) g p first s bo bc b W (hM.mono (fun k h => .inl h) (fun h => h.elim hp (fun h => by omega))) (fun k h => .inr h) hv hfi hb hbl).mono ?_
  rintro e w' ⟨v, rfl, o, c, rfl, h1, h2, h3, h4⟩
  exact ⟨_, rfl, o, c, rfl, h1, h2, h3.tight (fun k hk h => ⟨h.1.imp id (fun h => ⟨h, hk⟩), h.2⟩) (fun h => h.1.elim hp (fun h => by omega)), h4.nx⟩
theorem dframeT_ok (A : Nat → Prop) (g p first : Nat) (s : DS) (bo : Option Addr) (bc : Nat) (b : List UInt8) (W : World) (hM : DwO A W.heap g p first s) (hv : Vw b8 W.heap bo bc b) (hfi : first ≤ 1000) (hb : s.B.length ≤ 1099511627776) (hbl : b.length ≤ 128) :
    Calls Tryd.prog 14 [.pointer (some ⟨g, 0, none⟩), .slice bo b.length bc].toArray W
      (Ret fun v w' => v = .int .i64 ((frmD first s b).2 : Nat) ∧ DwO (Nx A W w') w'.heap g p first (frmD first s b).1 ∧ Foot A W w') := by
  obtain ⟨ht, hp⟩ := hM.tab
  have hpl := (Array.getElem?_eq_some_iff.1 ht).1
  refine (dframe_ok (fun k => A k ∨ W.heap.size ≤ k) g p first s bo bc b W (hM.mono (fun k h => .inl h) (fun h => h.elim hp (fun h => by omega))) (fun k h => .inr h) hv hfi hb hbl).mono ?_
  rintro e w' ⟨v, rfl, rfl, h3, h4⟩
  exact ⟨_, rfl, rfl, h3.tight (fun k hk h => h.imp id (fun h => ⟨h, hk⟩)) (fun h => h.elim hp (fun h => by omega)), h4.nx⟩
theorem rdaddT_ok (A : Nat → Prop) (g first : Nat) (s : DS) (bo : Option Addr) (bc : Nat) (b : List UInt8) (W : World) (hM : RyO A W.heap g first s) (hv : Vw b8 W.heap bo bc b) (hfi : first ≤ 1000) (hb : s.B.length ≤ 1099511627776) (hbl : b.length ≤ 1048576) (hml : s.m.length ≤ 1048576) :
    Calls Tryd.prog 16 [.pointer (some ⟨g, 0, none⟩), .slice bo b.length bc].toArray W
      (Ret fun v w' => ∃ o c, v = .tuple #[.int .i64 ((addD first s b).2 : Nat), .slice o (tailD b).length c] ∧ Own b8 5 w'.heap o c (tailD b) ∧ Fr W.heap.size o ∧ RyO (fun k => Nx A W w' k ∧ ¬ blk o k) w'.heap g first (addD first s b).1 ∧ Foot A W w') := by
  refine (rdadd_ok (fun k => A k ∨ W.heap.size ≤ k) g first s bo bc b W (hM.tight (fun k _ h => .inl h)) (fun k h => .inr h) hv hfi hb hbl hml).mono ?_
  rintro e w' ⟨v, rfl, o, c, rfl, h1, h2, h3, h4⟩
  exact ⟨_, rfl, o, c, rfl, h1, h2, h3.tight (fun k hk h => ⟨h.1.imp id (fun h => ⟨h, hk⟩), h.2⟩), h4.nx⟩
theorem rdframeT_ok (A : Nat → Prop) (g first : Nat) (s : DS) (bo : Option Addr) (bc : Nat) (b : List UInt8) (W : World) (hM : RyO A W.heap g first s) (hv : Vw b8 W.heap bo bc b) (hfi : first ≤ 1000) (hb : s.B.length ≤ 1099511627776) (hbl : b.length ≤ 128) :
    Calls Tryd.prog 15 [.pointer (some ⟨g, 0, none⟩), .slice bo b.length bc].toArray W
      (Ret fun v w' => v = .int .i64 ((frmD first s b).2 : Nat) ∧ RyO (Nx A W w') w'.heap g first (frmD first s b).1 ∧ Foot A W w') := by
  refine (rdframe_ok (fun k => A k ∨ W.heap.size ≤ k) g first s bo bc b W (hM.tight (fun k _ h => .inl h)) (fun k h => .inr h) hv hfi hb hbl).mono ?_
  rintro e w' ⟨v, rfl, rfl, h3, h4⟩
  exact ⟨_, rfl, rfl, h3.tight (fun k hk h => h.imp id (fun h => ⟨h, hk⟩)), h4.nx⟩

/-! the example -/
def daE1 : List UInt8 := List.replicate 130 97
def daE2 : List UInt8 := List.replicate 128 97
def daE3 : List UInt8 := List.replicate 128 0
theorem daE1_len : daE1.length = 130 := List.length_replicate
theorem daE2_len : daE2.length = 128 := List.length_replicate
theorem daE3_len : daE3.length = 128 := List.length_replicate
theorem daE1_le : daE1.length ≤ 1000 := Nat.le_trans (Nat.le_of_eq daE1_len) (by decide)
theorem daE1_ge : 128 ≤ daE1.length := Nat.le_trans (by decide) (Nat.le_of_eq daE1_len.symm)
theorem daE2_ge : 128 ≤ daE2.length := Nat.le_of_eq daE2_len.symm
theorem rep_ch {n : Nat} {x : UInt8} (h : 128 ≤ n) : chB (List.replicate n x) 0 = List.replicate 128 x := by
  unfold chB
  rw [Nat.zero_mul, List.drop_zero, List.take_replicate]; congr 1; omega
theorem runD_one {b : List UInt8} (h : b.length / 128 = 1) : runD b = frB (chB b 0) := by unfold runD; rw [h, runN_succ]; simp [runN]
theorem runD_daE1 : runD daE1 = runD daE2 := by
  rw [runD_one (b := daE1) (by rw [daE1, List.length_replicate]), runD_one (b := daE2) (by rw [daE2, List.length_replicate]), daE1, daE2, rep_ch (by decide), rep_ch (by decide)]
theorem hole_rep (n : Nat) : holeB (List.replicate n (0 : UInt8)) := fun i hi => by
  rw [List.length_replicate] at hi
  simp [List.getD, hi]
theorem runD_daE3 : (runD daE3).length = 3 := by
  rw [runD_one (b := daE3) (by simp [daE3]), daE3, rep_ch (by decide)]
  have h : hX (List.replicate 128 (0 : UInt8)) = [] := by unfold hX; exact if_pos (hole_rep 128)
  unfold frB
  rw [h]
  unfold putS
  rw [if_neg (by decide), if_pos (show ([] : List UInt8).length = 0 from rfl)]
  exact frS_len [] 0
theorem addR_find (first : Nat) (s : DS) (r : List UInt8) : findR (addR first s r).1.m (skOf r) = some (addR first s r).2 := by
  unfold addR
  split
  · assumption
  · rename_i h
    show findR (s.m ++ [_]) _ = _
    rw [findR_snoc, h]
    exact if_pos rfl
theorem findR_grows {first : Nat} {s : DS} {r : List UInt8} {a : SK} {k : Nat} (h : findR s.m a = some k) : findR (addR first s r).1.m a = some k := by
  unfold addR
  split
  · exact h
  · show findR (s.m ++ [_]) _ = _
    rw [findR_snoc, h]
theorem runD_ne {b : List UInt8} (h : 128 ≤ b.length) : (runD b).length ≠ 0 := by
  have := (runN_len b (b.length / 128)).2
  unfold runD; omega
theorem runD_le (b : List UInt8) : (runD b).length ≤ 135 * (b.length / 128) := (runN_len b _).1
theorem addD_B (first : Nat) (s : DS) (b : List UInt8) : (addD first s b).1.B.length ≤ s.B.length + (runD b).length ∧ s.B.length ≤ (addD first s b).1.B.length ∧ (addD first s b).1.m.length ≤ s.m.length + 1 := by
  unfold addD addR
  split
  · simp
  · split
    · simp
    · simp
theorem addD_first {first : Nat} {b : List UInt8} (h : 128 ≤ b.length) : addD first ⟨[], []⟩ b = (⟨runD b, [(skOf (runD b), first)]⟩, first) := by
  rw [addD_new (runD_ne h) (by unfold findR; rfl)]; rfl
def ds1 (b : List UInt8) : DS := ⟨runD b, [(skOf (runD b), 64)]⟩
theorem ds1_B (b : List UInt8) : (ds1 b).B.length = (runD b).length := rfl
theorem ds1_again {b c : List UInt8} (h : 128 ≤ c.length) (e : runD b = runD c) : addD 64 (ds1 b) c = (ds1 b, 64) := by
  refine addD_old (runD_ne h) ?_
  rw [← e]
  exact if_pos rfl
theorem ds1_hole {b z : List UInt8} (hb : b.length ≤ 1000) (hz : (runD z).length = 3) : ((addD 64 (ds1 b) z).2 : Int) = 64 + ((addD 64 (ds1 b) z).1.B.length : Nat) - 3 := by
  cases h : findR (ds1 b).m (skOf (runD z)) with
  | none =>
    rw [addD_new (by omega) h]
    show ((64 + (ds1 b).B.length : Nat) : Int) = 64 + (((ds1 b).B ++ runD z).length : Nat) - 3
    rw [List.length_append]; omega
  | some k =>
    rw [addD_old (by omega) h]
    unfold ds1 findR at h
    split at h
    · rename_i e
      cases h
      have e2 : runD b = runD z := by
        have := congrArg Subtype.val e
        rwa [skOf_eq (by have := runD_le b; unfold maxLen; omega), skOf_eq (by rw [hz]; decide)] at this
      show ((64 : Nat) : Int) = 64 + ((runD b).length : Nat) - 3
      rw [e2, hz]; rfl
    · cases h
theorem ex_1 : addD 64 ⟨[], []⟩ daE1 = ((ds1 daE1), 64) := addD_first daE1_ge
theorem ex_2 : addD 64 (ds1 daE1) daE2 = ((ds1 daE1), 64) := ds1_again daE2_ge runD_daE1
theorem ex_3 : ((addD 64 (ds1 daE1) daE3).2 : Int) = 64 + ((addD 64 (ds1 daE1) daE3).1.B.length : Nat) - 3 := ds1_hole daE1_le runD_daE3
theorem ex_4 (s : DS) : addD 64 s [97] = (s, 0) := addD_none (by decide)
theorem tail_daE1 : tailD daE1 = [97, 97] := by
  unfold tailD daE1
  rw [List.length_replicate, List.drop_replicate]; rfl
theorem tail_one : tailD [97] = [97] := by decide
end Go.Proofs.YtpnfjfbfgaiolaaDoor
