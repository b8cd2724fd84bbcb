/- tree: SortFunc over nodes. No condition beyond the bounds that each states. -/
import Derived.Test.YtpnfjfbfgaiolaaTrVk
import Derived.Test.YtpnfjfbfgaiolaaSs
namespace Go.Proofs.Ytpnfjfbfgaiolaa
open Go Go.RowKit Go.Maps Go.Sort
set_option linter.unusedVariables false

def NmB (W : World) (b : Nat) (p : NdH × Nd) : Prop := NmV (fun k => k ≠ b ∧ k < W.heap.size) W.heap p.1.names p.2.names
abbrev NmS (W : World) (b : Nat) := { p : NdH × Nd // NmB W b p }
instance (W : World) (b : Nat) : Inhabited (NmS W b) := ⟨⟨(ndh0, nd0), ⟨rfl, Vw.nil 0 (Nat.zero_le _), fun h => absurd rfl h⟩⟩⟩
def encS {W : World} {b : Nat} (x : NmS W b) : List Value := encN x.1
def cfS {W : World} {b : Nat} (x y : NmS W b) : Int := cmpL x.1.2.names y.1.2.names
theorem swoS {W : World} {b : Nat} : SWO (Go.Proofs.ltOf (cfS (W := W) (b := b))) where
  irrefl x := lessN_irr _
  trans x y z h1 h2 := lessN_trans (a := x.1.2.names) (b := y.1.2.names) (c := z.1.2.names) h1 h2
  ntrans x y z h1 h2 := lessN_nt (a := x.1.2.names) (b := y.1.2.names) (c := z.1.2.names) h1 h2
theorem sort_ok (b cap : Nat) (xs : List (NdH × Nd)) (W : World) (ho : OwnM 10 encN 34 W.heap (some ⟨b, 0, none⟩) cap xs) (hn : ∀ p ∈ xs, NmB W b p) (hl : xs.length ≤ 1024) :
    Calls Try.prog 47 [.slice (some ⟨b, 0, none⟩) xs.length cap, .func (.func 48) #[] #[]].toArray W (Ret fun v w' => v = .tuple #[] ∧ ∃ ys : List (NdH × Nd), OwnM 10 encN 34 w'.heap (some ⟨b, 0, none⟩) cap ys ∧ ys.Perm xs ∧ ys.Pairwise ordP ∧ Foot (· = b) W w') := by
  rcases ho with ⟨h, _⟩ | ⟨g, cur, hg0, hg, g1, g2, g3, g4⟩
  · cases h
  · cases hg0
    obtain ⟨d, hd⟩ : ∃ d : Array (NmS W b), d = (xs.attach.map fun x => (⟨x.1, hn x.1 x.2⟩ : NmS W b)).toArray := ⟨_, rfl⟩
    have hdl : d.toList.map (·.1) = xs := by rw [hd]; simp only [List.map_map]; exact List.attach_map_subtype_val xs
    have hds : d.size = xs.length := by rw [← hdl]; simp
    have hfl : ∀ e : Array (NmS W b), e.toList.flatMap encS = (e.toList.map (·.1)).flatMap encN := fun e => by rw [List.flatMap_map]; rfl
    have hH : HoldsK encS 10 W b 0 d := own_holds (enc := encS) (K := 10) (fun _ => rfl) (by decide) hg (by rw [hds, hfl, hdl]; exact g4)
    have hcmp : CmpLays Try.prog 48 #[] encS 10 cfS b 0 d.size W := fun m os dk _ x y => by
      have hf := sortW_foot encS 10 W b m dk os
      refine (canon1_ok x.1 y.1 _ (x.2.keep hf (fun k hk e => hk.1 e)) (y.2.keep hf (fun k hk e => hk.1 e))).mono ?_
      rintro e w' ⟨v, rfl, rfl, o1, o2, rfl⟩
      exact ⟨rfl, 0, #[o1] ++ #[o2], by rw [alloc_eq_grow, alloc_eq_grow, grow_grow]; rfl⟩
    have h := AnyQ.slices_SortFunc Try.sortN 10 Try.isAgg34 Try.sizeOf34 encS (fun _ => rfl) (fun x v hv => (encN_cells x.1).2 v hv) cfS swoS 48 #[] b 0 cap d W (enters_of Try.func48 (by kernel_rfl) rfl) hcmp hH (Array.getElem?_eq_some_iff.1 hg).1 (by omega)
    rw [hds] at h
    refine Calls.mono h ?_
    rintro e w' ⟨rfl, d', n, os, ⟨p1, _, p3⟩, hs, rfl⟩
    have q1 : d'.size = xs.length := by rw [p1, hds]
    obtain ⟨cur', c1, c2, c3⟩ := holds_own (enc := encS) (K := 10) (m := n) (d := d') (os := os) (fun _ => rfl) (by decide) hg (by rw [q1]; exact g1) g2 g3
    refine ⟨_, rfl, rfl, d'.toList.map (·.1), .inr ⟨b, cur', rfl, c1, by rw [List.length_map, Array.length_toList, q1]; exact g1, g2, c2, ?_⟩, ?_, ?_, sortW_foot _ _ _ _ _ _ _⟩
    · rw [List.length_map, Array.length_toList, c3, hfl]
    · rw [← hdl]
      refine List.Perm.map _ ?_
      have e1 : d'.extract 0 xs.length = d' := by rw [← q1]; exact Array.extract_size
      have e2 : d.extract 0 xs.length = d := by rw [← hds]; exact Array.extract_size
      rw [e1, e2] at p3; exact p3
    · rw [List.pairwise_iff_getElem]
      intro i j hi hj hij
      rw [List.length_map, Array.length_toList] at hi hj
      have h1 := hs i j (Nat.zero_le _) hij (by omega)
      rw [getElem!_pos d' i hi, getElem!_pos d' j hj] at h1
      simp only [List.getElem_map, Array.getElem_toList]
      exact h1
end Go.Proofs.Ytpnfjfbfgaiolaa
