/- table: numbers and attributes that were put are taken: the plain law. No condition beyond the bounds that each states. -/
import Derived.Test.YtoaplldahbbaiaaTxPk
import Derived.Test.YtoaplldahbbaiaaTpCk
namespace Go.Proofs.Ytoaplldahbbaiaa
open Go Go.RowKit
set_option linter.unusedVariables false

theorem pn_good {s : Int × List UInt8} {z n : Int} (h : s.1 = 0) (hb : ¬ badN z n) : putNum n s z = (0, s.2 ++ le z n.toNat) := by
  have h1 : numE s.1 z n = 0 := by rw [numE_of_good hb, h]
  have h2 : putNum n s z = (numE s.1 z n, numX s.1 s.2 z n) := rfl
  rw [h2, h1, numX_good h1]
theorem fit2 {z : Int} (h0 : 0 ≤ z) (h1 : z ≤ 65535) : ¬ badN z 2 := by
  unfold badN
  have h2 : z / 2 ^ (8 * (2 : Int)).toNat = 0 := Int.ediv_eq_zero_of_lt h0 (by show z < 65536; omega)
  rw [h2]; omega
def encN (l : List Int) : List UInt8 := l.flatMap fun x => le x 2
def in16 (l : List Int) : Prop := ∀ x ∈ l, 0 ≤ x ∧ x ≤ 65535
theorem encN_len (l : List Int) : (encN l).length = 2 * l.length := by
  induction l with
  | nil => rfl
  | cons x r ih => show (le x 2 ++ encN r).length = _; rw [List.length_append, le_length, ih, List.length_cons]; omega
theorem numsL_enc : ∀ (l : List Int) (s : Int × List UInt8), s.1 = 0 → in16 l → l.foldl (putNum 2) s = (0, s.2 ++ encN l)
  | [], s, h, _ => by show s = _; rw [show encN [] = [] from rfl, List.append_nil, ← h]
  | x :: r, s, h, hl => by
    have h1 := hl x (by simp)
    rw [List.foldl_cons, pn_good h (fit2 h1.1 h1.2), numsL_enc r _ rfl (fun y hy => hl y (by simp [hy]))]
    show (0, s.2 ++ le x 2 ++ encN r) = (0, s.2 ++ (le x 2 ++ encN r))
    rw [List.append_assoc]
theorem putNums_enc {l : List Int} (h : in16 l) : putNums l 2 = (encN l, 0) := by
  unfold putNums
  rw [if_pos (.inl rfl)]
  have : numsL l 2 = (0, encN l) := by unfold numsL; rw [numsL_enc l _ rfl h]; rfl
  rw [this]; rfl
theorem encN_drop (l : List Int) (i : Nat) (h : i < l.length) : ∃ z, (encN l).drop (2 * i) = le (l.getD i 0) 2 ++ z := by
  have e : l = l.take i ++ (l.getD i 0 :: l.drop (i + 1)) := by
    rw [show l.getD i 0 = l[i] by simp [List.getD, h], ← List.drop_eq_getElem_cons h, List.take_append_drop]
  refine ⟨encN (l.drop (i + 1)), ?_⟩
  have e2 : encN l = encN (l.take i) ++ (le (l.getD i 0) 2 ++ encN (l.drop (i + 1))) := by
    conv => lhs; rw [e]
    unfold encN
    rw [List.flatMap_append]; rfl
  rw [e2]
  have hl : (encN (l.take i)).length = 2 * i := by rw [encN_len, List.length_take]; omega
  rw [List.drop_left' hl]
theorem refT_0 (T : List UInt8) : refT T 0 = 0 := by simp [refT, frW]
section
variable {T : List UInt8}
theorem rd_at {o m : Nat} (h : o + m ≤ T.length) : readS (frW T (nF T)) 0 (frW T (nF T)).length (refT T o : Nat) (m : Nat) = ((T.drop o).take m, ((refT T (o + m) : Nat) : Int), 0) := by
  have := read_W T [] [] h; rwa [imW_nil, toW_nil] at this
theorem rd_over {o m : Nat} (ho : o ≤ T.length) (h : T.length < o + m) : readS (frW T (nF T)) 0 (frW T (nF T)).length (refT T o : Nat) (m : Nat) = ([], 0, 2) := by
  have := read_past T [] [] ho h; rwa [imW_nil, toW_nil] at this
theorem may_at : mayS (frW T (nF T)) 0 (frW T (nF T)).length = true := by have := may_W T [] []; rwa [imW_nil, toW_nil] at this
end
section
variable {l : List Int}
theorem num_at (h16 : in16 l) {i : Nat} (h : i < l.length) : readS (frW (encN l) (nF (encN l))) 0 (frW (encN l) (nF (encN l))).length (refT (encN l) (2 * i) : Nat) 2 = (le (l.getD i 0) 2, ((refT (encN l) (2 * (i + 1)) : Nat) : Int), 0) ∧ ((valB (le (l.getD i 0) 2) : Nat) : Int) = l.getD i 0 := by
  have h1 := rd_at (T := encN l) (o := 2 * i) (m := 2) (by rw [encN_len]; omega)
  obtain ⟨z, hz⟩ := encN_drop l i h
  rw [hz, List.take_left' (le_length _ _), show 2 * i + 2 = 2 * (i + 1) by omega] at h1
  have hx := h16 (l.getD i 0) (by rw [List.getD, List.getElem?_eq_getElem h]; exact List.getElem_mem _)
  exact ⟨h1, valB_le 2 _ hx.1 (by omega)⟩
theorem tkL_good (h16 : in16 l) : ∀ (m i : Nat), i + m ≤ l.length → tkL (frW (encN l) (nF (encN l))) 0 (frW (encN l) (nF (encN l))).length 2 m (refT (encN l) (2 * i) : Nat) = some ((l.drop i).take m, ((refT (encN l) (2 * (i + m)) : Nat) : Int))
  | 0, i, _ => by simp [tkL]
  | m + 1, i, h => by
    obtain ⟨h1, h2⟩ := num_at h16 (i := i) (by omega)
    rw [tkL_succ, h1]
    simp only
    rw [if_neg (fun h => h rfl), tkL_good h16 m (i + 1) (by omega), h2]
    rw [List.drop_eq_getElem_cons (by omega : i < l.length), List.take_succ_cons]
    simp only [Option.map_some, show i + 1 + m = i + (m + 1) by omega]
    simp [List.getD, show i < l.length by omega]
theorem tkL_over (h16 : in16 l) : ∀ (m i : Nat), i + m = l.length → tkL (frW (encN l) (nF (encN l))) 0 (frW (encN l) (nF (encN l))).length 2 (m + 1) (refT (encN l) (2 * i) : Nat) = none
  | 0, i, h => by
    have h1 := rd_over (T := encN l) (o := 2 * i) (m := 2) (by rw [encN_len]; omega) (by rw [encN_len]; omega)
    have h1 : readS (frW (encN l) (nF (encN l))) 0 (frW (encN l) (nF (encN l))).length (refT (encN l) (2 * i) : Nat) 2 = ([], 0, 2) := h1
    rw [tkL_succ, h1]; rfl
  | m + 1, i, h => by
    obtain ⟨h1, h2⟩ := num_at h16 (i := i) (by omega)
    rw [tkL_succ, h1]
    simp only
    rw [if_neg (fun h => h rfl), tkL_over h16 m (i + 1) (by omega)]; rfl
theorem tn_same (h16 : in16 l) : tnS (frW (encN l) (nF (encN l))) 0 (frW (encN l) (nF (encN l))).length l.length 2 = (l, 0) := by
  have h1 := tkL_good h16 l.length 0 (by omega)
  rw [Nat.mul_zero, refT_0, List.drop_zero, List.take_length, Nat.zero_add] at h1
  refine tnS_good (by omega) may_at h1 ?_
  have h2 := rd_over (T := encN l) (o := 2 * l.length) (m := 1) (by rw [encN_len]; omega) (by rw [encN_len]; omega)
  have h2 : readS (frW (encN l) (nF (encN l))) 0 (frW (encN l) (nF (encN l))).length (refT (encN l) (2 * l.length) : Nat) 1 = ([], 0, 2) := h2
  rw [h2]; decide
theorem tn_more (h16 : in16 l) : (tnS (frW (encN l) (nF (encN l))) 0 (frW (encN l) (nF (encN l))).length (l.length + 1) 2) = ([], 2) := by
  have h1 := tkL_over h16 l.length 0 (by omega)
  rw [Nat.mul_zero, refT_0] at h1
  exact tnS_none (by omega) (by rw [show ((l.length : Int) + 1).toNat = l.length + 1 by omega]; exact h1)
theorem tn_less (h16 : in16 l) (h : 0 < l.length) : (tnS (frW (encN l) (nF (encN l))) 0 (frW (encN l) (nF (encN l))).length (l.length - 1) 2) = ([], 2) := by
  have h1 := tkL_good h16 (l.length - 1) 0 (by omega)
  rw [Nat.mul_zero, refT_0, Nat.zero_add] at h1
  refine tnS_more (by omega) (by rw [show ((l.length : Int) - 1).toNat = l.length - 1 by omega]; exact h1) ?_
  have h2 := rd_at (T := encN l) (o := 2 * (l.length - 1)) (m := 1) (by rw [encN_len]; omega)
  have h2 : readS (frW (encN l) (nF (encN l))) 0 (frW (encN l) (nF (encN l))).length (refT (encN l) (2 * (l.length - 1)) : Nat) 1 = _ := h2
  rw [h2]
end

/-! attributes -/
def encT (s : List UInt8) : List UInt8 := UInt8.ofNat s.length :: s
def encXa (x : Xa) : List UInt8 := encT x.1 ++ encT x.2
def encXs (X : List Xa) : List UInt8 := UInt8.ofNat X.length :: X.flatMap encXa
theorem encT_len (s : List UInt8) : (encT s).length = 1 + s.length := by simp [encT]; omega
theorem txt_cat {s : Int × List UInt8} {t : List UInt8} (h : s.1 = 0) (ht : t.length ≤ 255) : txtS s t = (0, s.2 ++ encT t) := by
  have h1 := (txtS_good h ht).1
  have h2 : txtS s t = (txtE s.1 t, txtX s.1 s.2 t) := rfl
  have h3 : txtE s.1 t = 0 := h1
  rw [h2, h3]
  unfold txtX encT
  rw [if_neg (by omega)]
theorem xSt_cat {X : List Xa} (h : mayX X) : ∀ k, k ≤ X.length → xSt X k = (0, UInt8.ofNat X.length :: (X.take k).flatMap encXa)
  | 0, _ => by
    have hb := small_len (n := X.length) (by have := h.2; omega)
    show putNum 1 (0, []) X.length = _
    rw [pn_good rfl hb]
    have := le_one X.length
    simp only [List.nil_append, List.take_zero, List.flatMap_nil]
    rw [show (1 : Int).toNat = 1 from rfl, this]
  | k + 1, hk => by
    obtain ⟨_, g2, _, g4⟩ := h.1 k (by omega)
    rw [xSt_succ X k (by omega), xSt_cat h k (by omega)]
    unfold xF
    have i1 := txt_cat (s := (0, UInt8.ofNat X.length :: (X.take k).flatMap encXa)) (t := (X.getD k x0).1) rfl (by omega)
    rw [i1, txt_cat rfl (by omega)]
    rw [List.take_succ_eq_append_getElem (by omega : k < X.length), List.flatMap_append]
    simp [encXa, List.getD, show k < X.length by omega]
theorem putXs_enc {X : List Xa} (h : mayX X) (h0 : 0 < X.length) : putXs X = (encXs X, 0) := by
  unfold putXs
  rw [if_neg (by rintro (h1 | h1); omega; exact h1 h), xSt_cat h _ (Nat.le_refl _), List.take_length]; rfl
theorem putXs_ok0 {X : List Xa} : (putXs X).2 = 0 ↔ mayX X ∧ 0 < X.length := by
  unfold putXs
  by_cases h : X.length = 0 ∨ ¬ mayX X
  · rw [if_pos h]
    constructor
    · intro h1; cases h1
    · rintro ⟨h1, h2⟩; rcases h with h | h; omega; exact absurd h1 h
  · rw [if_neg h]
    refine ⟨fun _ => ⟨Classical.byContradiction fun h1 => h (.inr h1), by omega⟩, fun _ => ?_⟩
    rfl
theorem txt_at {T rest s : List UInt8} {o : Nat} (hd : T.drop o = encT s ++ rest) (hs : s.length ≤ 255) : rtS1 (frW T (nF T)) 0 (frW T (nF T)).length (refT T o : Nat) = (s, ((refT T (o + (encT s).length) : Nat) : Int), 0) := by
  have hl : (encT s ++ rest).length = T.length - o := by rw [← hd, List.length_drop]
  rw [List.length_append, encT_len] at hl
  have h1 := rd_at (T := T) (o := o) (m := 1) (by omega)
  have h1 : readS (frW T (nF T)) 0 (frW T (nF T)).length (refT T o : Nat) 1 = _ := h1
  rw [hd] at h1
  have e1 : (encT s ++ rest).take 1 = [UInt8.ofNat s.length] := rfl
  rw [e1] at h1
  have hn : (UInt8.ofNat s.length).toNat = s.length := by rw [UInt8.toNat_ofNat']; omega
  rw [rtS1_2 (by rw [h1]), h1]
  simp only [List.getD_cons_zero]
  rw [hn]
  have h2 := rd_at (T := T) (o := o + 1) (m := s.length) (by omega)
  have e2 : T.drop (o + 1) = s ++ rest := by rw [← List.drop_drop, hd]; rfl
  rw [e2, List.take_left' rfl] at h2
  rw [h2, encT_len, Nat.add_assoc]
def flatP (Y : List Xa) : List (List UInt8) := Y.flatMap fun x => [x.1, x.2]
theorem flatP_len (Y : List Xa) : (flatP Y).length = 2 * Y.length := by
  induction Y with
  | nil => rfl
  | cons x r ih => show ([x.1, x.2] ++ flatP r).length = _; rw [List.length_append, ih, List.length_cons]; simp; omega
theorem pairsL_cons (a b : List UInt8) (r : List (List UInt8)) : pairsL (a :: b :: r) = (a, b) :: pairsL r := by
  unfold pairsL
  rw [show (a :: b :: r).length / 2 = r.length / 2 + 1 by simp only [List.length_cons]; omega, List.range_succ_eq_map, List.map_cons, List.map_map]
  congr 1
theorem flatP_pairs : ∀ Y : List Xa, pairsL (flatP Y) = Y
  | [] => rfl
  | x :: r => by
    have e : flatP (x :: r) = x.1 :: x.2 :: flatP r := rfl
    rw [e, pairsL_cons, flatP_pairs r]
theorem tl_at {T : List UInt8} : ∀ (Y : List Xa) (o : Nat) (rest : List UInt8), (∀ x ∈ Y, x.1.length ≤ 255 ∧ x.2.length ≤ 255) → T.drop o = Y.flatMap encXa ++ rest →
    rtTL (frW T (nF T)) 0 (frW T (nF T)).length (2 * Y.length) (refT T o : Nat) = some (flatP Y, ((refT T (o + (Y.flatMap encXa).length) : Nat) : Int))
  | [], o, rest, _, _ => by simp [rtTL, flatP]
  | x :: r, o, rest, hb, hd => by
    obtain ⟨b1, b2⟩ := hb x (by simp)
    have hd1 : T.drop o = encT x.1 ++ (encT x.2 ++ (r.flatMap encXa ++ rest)) := by rw [hd]; simp [encXa]
    have h1 := txt_at hd1 b1
    have hd2 : T.drop (o + (encT x.1).length) = encT x.2 ++ (r.flatMap encXa ++ rest) := by rw [← List.drop_drop, hd1, List.drop_left' rfl]
    have h2 := txt_at hd2 b2
    have hd3 : T.drop (o + (encT x.1).length + (encT x.2).length) = r.flatMap encXa ++ rest := by rw [← List.drop_drop, hd2, List.drop_left' rfl]
    have h3 := tl_at r _ rest (fun y hy => hb y (by simp [hy])) hd3
    rw [List.length_cons, show 2 * (r.length + 1) = 2 * r.length + 1 + 1 by omega, rtTL_succ, h1]
    simp only
    rw [if_neg (fun h => h rfl), rtTL_succ, h2]
    simp only
    rw [if_neg (fun h => h rfl), h3]
    simp only [Option.map_some]
    congr 1
    refine Prod.ext rfl ?_
    show ((refT T _ : Nat) : Int) = ((refT T _ : Nat) : Int)
    congr 2
    simp [encXa]; omega
theorem xs_at {T rest : List UInt8} {o : Nat} {X : List Xa} (hm : mayX X) (h0 : 0 < X.length) (hd : T.drop o = encXs X ++ rest) : rtXs (frW T (nF T)) 0 (frW T (nF T)).length (refT T o : Nat) = (X, 0) := by
  have hl : (encXs X ++ rest).length = T.length - o := by rw [← hd, List.length_drop]
  have hl1 : 1 ≤ (encXs X).length := by simp [encXs]
  rw [List.length_append] at hl
  have h1 := rd_at (T := T) (o := o) (m := 1) (by omega)
  have h1 : readS (frW T (nF T)) 0 (frW T (nF T)).length (refT T o : Nat) 1 = _ := h1
  rw [hd] at h1
  have e1 : (encXs X ++ rest).take 1 = [UInt8.ofNat X.length] := rfl
  rw [e1] at h1
  have h8 := hm.2
  have hn : (UInt8.ofNat X.length).toNat = X.length := by rw [UInt8.toNat_ofNat']; omega
  have hd2 : T.drop (o + 1) = X.flatMap encXa ++ rest := by rw [← List.drop_drop, hd]; rfl
  have hb : ∀ x ∈ X, x.1.length ≤ 255 ∧ x.2.length ≤ 255 := fun x hx => by
    obtain ⟨i, hi, rfl⟩ := List.getElem_of_mem hx
    obtain ⟨_, g2, _, g4⟩ := hm.1 i hi
    have e : X.getD i x0 = X[i] := by simp [List.getD, hi]
    rw [e] at g2 g4; omega
  have h2 := tl_at X (o + 1) rest hb hd2
  have hg : ¬ ((readS (frW T (nF T)) 0 (frW T (nF T)).length (refT T o : Nat) 1).2.2 ≠ 0 ∨ ((readS (frW T (nF T)) 0 (frW T (nF T)).length (refT T o : Nat) 1).1.getD 0 0).toNat = 0 ∨ 8 < ((readS (frW T (nF T)) 0 (frW T (nF T)).length (refT T o : Nat) 1).1.getD 0 0).toNat) := by
    rw [h1]; simp only [List.getD_cons_zero]; rw [hn]; rintro (h | h | h); exact h rfl; omega; omega
  have h3 := rtXs_may hg (l := flatP X) (r := ((refT T (o + 1 + (X.flatMap encXa).length) : Nat) : Int)) (by rw [h1]; simp only [List.getD_cons_zero]; rw [hn]; exact h2) (by rw [flatP_pairs]; exact hm)
  rw [h3, flatP_pairs]
end Go.Proofs.Ytoaplldahbbaiaa
