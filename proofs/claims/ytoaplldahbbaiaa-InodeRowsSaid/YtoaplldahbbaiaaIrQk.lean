/- inode: records in a row: the plain law. No condition beyond the bounds that each states. -/
import Derived.Test.YtoaplldahbbaiaaIrPk
import Derived.Test.YtoaplldahbbaiaaKE
import Derived.Test.YtoaplldahbbaiaaGdk
namespace Go.Proofs.Ytoaplldahbbaiaa
open Go Go.RowKit
set_option linter.unusedVariables false

abbrev Ino := (Nat → Int) × List UInt8
def inoV (x : Ino) : List Value := inoC x.1 x.2
theorem inoV_cells : CellsM 11 inoV := fun x => ⟨rfl, inoC_one _ _⟩
def ino0 : Ino := (fun _ => 0, [])
def mayK (L : List Ino) : List Ino := L.filter fun x => decide (mayI x.1 x.2)
def encI (x : Ino) : List UInt8 := (rEnd x.1 x.2).2
def rowM (L : List Ino) : List (List UInt8) := (mayK L).map encI
theorem take_snocI {α : Type} {L : List α} {i : Nat} (d : α) (h : i < L.length) : L.take (i + 1) = L.take i ++ [L.getD i d] := by
  rw [List.take_succ_eq_append_getElem h]; simp [List.getD, h]
theorem mayK_yes {L : List Ino} {i : Nat} (h : i < L.length) (hm : mayI (L.getD i ino0).1 (L.getD i ino0).2) : mayK (L.take (i + 1)) = mayK (L.take i) ++ [L.getD i ino0] := by
  rw [take_snocI ino0 h]; unfold mayK; rw [List.filter_append, List.filter_cons_of_pos (by simpa using hm)]; rfl
theorem mayK_no {L : List Ino} {i : Nat} (h : i < L.length) (hm : ¬ mayI (L.getD i ino0).1 (L.getD i ino0).2) : mayK (L.take (i + 1)) = mayK (L.take i) := by
  rw [take_snocI ino0 h]; unfold mayK; rw [List.filter_append, List.filter_cons_of_neg (by simpa using hm)]; simp
theorem mayK_le (L : List Ino) : (mayK L).length ≤ L.length := List.length_filter_le _ _
theorem mayK_at {L : List Ino} {i : Nat} (h : i < (mayK L).length) : mayI ((mayK L).getD i ino0).1 ((mayK L).getD i ino0).2 := by
  have : (mayK L).getD i ino0 ∈ mayK L := by rw [List.getD, List.getElem?_eq_getElem h]; exact List.getElem_mem _
  have := (List.mem_filter.1 this).2
  simpa using this
theorem rowM_yes {L : List Ino} {i : Nat} (h : i < L.length) (hm : mayI (L.getD i ino0).1 (L.getD i ino0).2) : rowM (L.take (i + 1)) = rowM (L.take i) ++ [encI (L.getD i ino0)] := by
  unfold rowM; rw [mayK_yes h hm, List.map_append]; rfl
theorem rowM_no {L : List Ino} {i : Nat} (h : i < L.length) (hm : ¬ mayI (L.getD i ino0).1 (L.getD i ino0).2) : rowM (L.take (i + 1)) = rowM (L.take i) := by unfold rowM; rw [mayK_no h hm]
theorem rowM_len (L : List Ino) : (rowM L).length = (mayK L).length := List.length_map _
theorem encI_len {x : Ino} (h : mayI x.1 x.2) : 15 ≤ (encI x).length ∧ (encI x).length ≤ 214 := by
  have h1 := rSt_len h
  have h9 := h.1
  unfold mayA at h9
  unfold encI
  split at h1
  · omega
  · split at h1 <;> omega
theorem rowM_flat : ∀ (K : List Ino), (∀ x ∈ K, mayI x.1 x.2) → (K.map encI).flatten.length ≤ 214 * K.length
  | [], _ => Nat.le_refl _
  | x :: r, h => by
    have h1 := encI_len (h x (by simp))
    have h2 := rowM_flat r (fun y hy => h y (by simp [hy]))
    simp only [List.map_cons, List.flatten_cons, List.length_append, List.length_cons]; omega
theorem rowM_b (L : List Ino) : (rowM L).flatten.length ≤ 214 * L.length := by
  have h1 := rowM_flat (mayK L) (fun x hx => by have := (List.mem_filter.1 hx).2; simpa using this)
  have h2 := mayK_le L
  have h3 : 214 * (mayK L).length ≤ 214 * L.length := Nat.mul_le_mul_left _ h2
  exact Nat.le_trans h1 h3
/-- the refs of rows -/
def refsA (M : List (List UInt8)) : List Int := (List.range M.length).map fun j => ((refT (M.take j).flatten (M.take j).flatten.length : Nat) : Int)
theorem refsA_len (M : List (List UInt8)) : (refsA M).length = M.length := by simp [refsA]
theorem refsA_snoc (M : List (List UInt8)) (b : List UInt8) : refsA (M ++ [b]) = refsA M ++ [((refT M.flatten M.flatten.length : Nat) : Int)] := by
  unfold refsA
  rw [List.length_append, List.length_singleton, List.range_succ, List.map_append]
  congr 1
  · apply List.map_congr_left
    intro j hj
    have := List.mem_range.1 hj
    rw [List.take_append_of_le_length (by omega)]
  · simp
theorem refsA_at {M : List (List UInt8)} {i : Nat} (h : i < M.length) : (refsA M).getD i 0 = ((refT (M.take i).flatten (M.take i).flatten.length : Nat) : Int) := by
  simp [refsA, List.getD, h]
theorem refT_in {M : List (List UInt8)} (z : List UInt8) (i : Nat) : refT (M.take i).flatten (M.take i).flatten.length = refT (M.flatten ++ z) (M.take i).flatten.length := by
  have e : M.flatten ++ z = (M.take i).flatten ++ ((M.drop i).flatten ++ z) := by rw [← List.append_assoc, ← List.flatten_append, List.take_append_drop]
  rw [refT_take (T := M.flatten ++ z) (by rw [e, List.length_append]; omega), e, List.take_left' rfl]
theorem drop_in {M : List (List UInt8)} (z : List UInt8) {i : Nat} (h : i < M.length) : (M.flatten ++ z).drop (M.take i).flatten.length = M.getD i [] ++ ((M.drop (i + 1)).flatten ++ z) := by
  have e : M.flatten ++ z = (M.take i).flatten ++ (M.getD i [] ++ ((M.drop (i + 1)).flatten ++ z)) := by
    conv => lhs; rw [← List.take_append_drop (i + 1) M, List.flatten_append, take_snocI [] h, List.flatten_append]
    simp
  rw [e, List.drop_left' rfl]
theorem flat_snoc {M : List (List UInt8)} {i : Nat} (h : i < M.length) : (M.take (i + 1)).flatten.length = (M.take i).flatten.length + (M.getD i []).length := by
  rw [take_snocI [] h, List.flatten_append, List.length_append]; simp
theorem longI_enc {x : Ino} (hm : mayI x.1 x.2) (rest : List UInt8) : longI ((encI x ++ rest).take 14) = (encI x).length := by
  have h1 := rSt_len hm
  have h2 := encI_len hm
  have hk := may_kind hm
  have a0 := rEnd_at0 hm
  have hg : ∀ j, j < 14 → ((encI x ++ rest).take 14).getD j 0 = (encI x).getD j 0 := fun j hj => by
    rw [List.getD, List.getElem?_take, if_pos hj, List.getElem?_append_left (by omega), ← List.getD]
  have he : encI x = (rEnd x.1 x.2).2 := rfl
  unfold longI
  rw [hg 0 (by decide), hg 13 (by decide), he, a0]
  split at h1
  · rw [if_pos (by omega)]; omega
  · rename_i h3
    split at h1
    · rw [if_neg (by omega), if_pos (by omega)]; omega
    · have h4 : x.1 0 = 3 := by omega
      have a3 := rEnd_at13 hm h4
      rw [if_neg (by omega), if_neg (by omega), if_pos (by omega), a3]; omega
theorem inoR_W {T rest : List UInt8} {off : Nat} {x : Ino} (hm : mayI x.1 x.2) (hd : T.drop off = encI x ++ rest) (hr : off + (encI x).length ≤ T.length) :
    inoR (frW T (nF T)) 0 (frW T (nF T)).length (refT T off : Nat) = ((gFn (encI x), gT (encI x)), ((refT T (off + (encI x).length) : Nat) : Int), 0) := by
  have hl := encI_len hm
  have r1 := read_W T [] [] (o := off) (m := 14) (by omega)
  have r2 := read_W T [] [] (o := off) (m := (encI x).length) hr
  rw [imW_nil, toW_nil, hd] at r1 r2
  rw [List.take_left' rfl] at r2
  have e1 : readS (frW T (nF T)) 0 (frW T (nF T)).length (refT T off : Nat) 14 = ((encI x ++ rest).take 14, ((refT T (off + 14) : Nat) : Int), 0) := r1
  have e2 : readS (frW T (nF T)) 0 (frW T (nF T)).length (refT T off : Nat) (longI (readS (frW T (nF T)) 0 (frW T (nF T)).length (refT T off : Nat) 14).1) = (encI x, ((refT T (off + (encI x).length) : Nat) : Int), 0) := by
    rw [e1, longI_enc hm]; exact r2
  have h4 := (inoR_4 (im := frW T (nF T)) (fr := 0) (to := (frW T (nF T)).length) (ref := (refT T off : Nat)) (by rw [e1]) (by rw [e2]) (by rw [e2]; exact (take_put hm).1))
  rw [h4, e2]
theorem inoR_same {x : Ino} (hm : mayI x.1 x.2) : sameI (gFn (encI x)) (gT (encI x)) x.1 x.2 := (take_put hm).2
end Go.Proofs.Ytoaplldahbbaiaa
