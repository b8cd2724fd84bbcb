/- table: the keys of a map of numbers, sorted. No condition beyond the bounds that each states. -/
import Derived.Test.YtoaplldahbbaiaaSo
import Derived.Test.YtoaplldahbbaiaaKD
import Derived.Test.YtoaplldahbbaiaaNdk
namespace Go.Proofs.Ytoaplldahbbaiaa
open Go Go.RowKit Go.Maps Go.Sort
set_option linter.unusedVariables false

theorem mpB : MapT Try.prog 122 3 4 (.bool false) := ⟨by kernel_rfl, z4⟩
theorem keyI_is (a : I6) : keyOf Try.prog 3 (enI a) = some (.int .i64 a.1) := by
  have h : (Lit.int .i64 a.1).wf = true := by have := a.2; simpa [Lit.wf, IntKind.min, IntKind.max, IntKind.signed, IntKind.bits] using this
  unfold keyOf
  rw [show Try.prog.underlying 3 = some (.int .i64) by kernel_rfl]
  simp [mapKey, show Try.prog.underlying 3 = some (.int .i64) by kernel_rfl, enI, h]
theorem owns_of {g : Nat} {m : List (I6 × Value)} {W : World} (hm : MapL enI W.heap g m) (hb : ∀ p ∈ m, p.2 = .bool true) (hl : m.length ≤ maxLen) :
    ∃ D0 : DataW Unit, W.ownsMap Try.prog 3 (plainElem Try.prog 4) g m.length D0 ∧ Maps.size D0 = m.length ∧ (intKeys D0).Perm (m.map (·.1.1)) := by
  have hrd : ∀ x ∈ entE enI m, ∃ p ∈ m, x.key = enI p.1 ∧ WideElems.rd (H := Unit) Try.prog 3 (plainElem Try.prog 4) x = some (.int .i64 p.1.1, .lit (.bool true)) := fun x hx => by
    obtain ⟨p, hp, h1, h2⟩ := entE_mem hx
    refine ⟨p, hp, h1, ?_⟩
    unfold WideElems.rd
    rw [h1, keyI_is, h2, hb p hp, plainElem_bool (show Try.prog.underlying 4 = some .bool by kernel_rfl)]; rfl
  have hborn : (entE enI m).map (·.born) = List.range m.length := by
    apply List.ext_getElem?
    intro i
    by_cases hi : i < m.length
    · simp [entE, hi]
    · simp [entE, hi]
  have hkey : (entE enI m).map (·.key) = (m.map (·.1)).map enI := by
    apply List.ext_getElem?
    intro i
    by_cases hi : i < m.length
    · simp [entE, hi]
    · simp [entE, hi]
  have hrg : (entE enI m).map (WideElems.rg (H := Unit) Try.prog 3 (plainElem Try.prog 4)) = m.map (fun p => (Lit.int .i64 p.1.1, DataW.lit (.bool true))) := by
    apply List.ext_getElem?
    intro i
    by_cases hi : i < m.length
    · have hx : (entE enI m)[i]? = some ⟨enI m[i].1, m[i].2, i⟩ := by simp [entE, hi]
      have : WideElems.rd (H := Unit) Try.prog 3 (plainElem Try.prog 4) ⟨enI m[i].1, m[i].2, i⟩ = some (.int .i64 m[i].1.1, .lit (.bool true)) := by
        unfold WideElems.rd
        rw [keyI_is, hb m[i] (List.getElem_mem hi), plainElem_bool (show Try.prog.underlying 4 = some .bool by kernel_rfl)]; rfl
      rw [List.getElem?_map, hx, List.getElem?_map, List.getElem?_eq_getElem hi]
      simp [WideElems.rg, this]
    · rw [List.getElem?_eq_none (by simp [entE]; omega), List.getElem?_eq_none (by simp; omega)]
  refine ⟨.map (((entE enI m).toArray.toList.map (WideElems.rg Try.prog 3 (plainElem Try.prog 4))).foldr DataW.insert []), ⟨_, _, hm.1, ⟨?_, ⟨?_, ?_, ?_⟩, ?_⟩, ?_, rfl⟩, ?_, ?_⟩
  · simp [entE]; exact hl
  · intro x hx
    have h1 : x.born ∈ (entE enI m).map (·.born) := List.mem_map.2 ⟨x, by simpa using hx, rfl⟩
    rw [hborn] at h1
    exact List.mem_range.1 h1
  · show ((entE enI m).map (·.born)).Nodup
    rw [hborn]; exact List.nodup_range
  · show ((entE enI m).map (·.key)).Nodup
    rw [hkey]
    exact List.Pairwise.map _ (fun a b h e => h (keyI.inj a b e)) hm.2
  · intro x hx
    obtain ⟨p, hp, _, h⟩ := hrd x (by simpa using hx)
    exact ⟨_, h⟩
  · simp [entE]
  · show (((entE enI m).map _).foldr DataW.insert []).length = _
    rw [(WideShapes.sorted_perm _).length_eq]; simp [entE]
  · show ((((entE enI m).map _).foldr DataW.insert []).map fun p => Go.intOf p.1).Perm _
    refine ((WideShapes.sorted_perm _).map _).trans ?_
    rw [hrg, List.map_map]
    exact List.Perm.refl _
theorem sorts_in (n : Nat) : AnyZI.SortsIn Try.prog Try.sortedA_ren Fence.wide n :=
  ⟨fun blk off cap ss W hH hblk hsz => callsIn_wide.2 (AnyM.slices_Sort_int Try.sortA blk off cap ss W hH hblk hsz),
   fun p cap W => callsIn_wide.2 (AnyM.slices_Sort_int_none Try.sortA p cap W)⟩
theorem keys_ok (mb : Option Nat) (W : World) : Calls Try.prog 68 [.map mb].toArray W
    (Ret fun v w' => v = .func (.func 96) #[] #[.pointer (some ⟨W.heap.size, 0, none⟩)] ∧ w' = W.alloc (.cells #[.map mb] 122)) := by
  have h : CallsIn Fence.wide 5 Try.prog 68 #[.map mb] W fun e w' => e = .returned (.func (.func 96) #[] #[.pointer (some ⟨W.heap.size, 0, none⟩)]) ∧ w' = W.alloc (.cells #[.map mb] 122) := AnyZI.keys_in Try.keysA Fence.wide 5 trivial rfl mb W
  refine (callsIn_wide.1 h).mono ?_
  rintro e w' ⟨rfl, rfl⟩
  exact ⟨_, rfl, rfl, rfl⟩
set_option maxHeartbeats 1000000 in
theorem sorted_ok (g : Nat) (m : List (I6 × Value)) (W : World) (hm : MapL enI W.heap g m) (hb : ∀ p ∈ m, p.2 = .bool true) (hl : m.length ≤ 100000) :
    Calls Try.prog 67 [.func (.func 96) #[] #[.pointer (some ⟨W.heap.size, 0, none⟩)]].toArray (W.alloc (.cells #[.map (some g)] 122))
      (Ret fun v w' => ∃ o c, v = .slice o ((m.map (·.1.1)).mergeSort leI).length c ∧ Own i64 3 w'.heap o c ((m.map (·.1.1)).mergeSort leI) ∧ Fr W.heap.size o ∧ Foot nob W w') := by
  obtain ⟨D0, hown, hsz, hpm⟩ := owns_of hm hb (by unfold maxLen; omega)
  have hbl := hm.obj
  have hseq : SeqGives Fence.wide 2 Try.prog 96 #[.pointer (some ⟨W.heap.size, 0, none⟩)] encZ (fun ss => ss.Perm (intKeys D0)) (Maps.size D0) (W.alloc (.cells #[.map (some g)] 122)) :=
    AnyZI.keys_gives (ρ := Try.keysA_ren) { Try.keysA with } Fence.wide _ trivial rfl (by omega) W.heap.size g m.length D0 _ (by simp) (by simp) (by
      obtain ⟨es, clock, hb, Ft, hs, hD⟩ := hown
      exact ⟨es, clock, (Below.heap_alloc _ _ g hbl).trans hb, Ft, hs, hD⟩)
  have cS := AnyZI.sorted_in Try.sortedA Fence.wide 5 trivial trivial trivial trivial rfl (by omega) (sorts_in _) (enters_of Try.func95 (by kernel_rfl) rfl) 96 #[.pointer (some ⟨W.heap.size, 0, none⟩)] trivial (enters_of Try.func96 (by kernel_rfl) rfl) _ _ (by rw [hsz]; unfold maxLen; omega) (by rw [hsz]; omega) _ hseq
  change CallsIn _ _ Try.prog 67 _ _ _ at cS
  refine (callsIn_wide.1 cS).mono ?_
  rintro e w' ⟨v, ss, rfl, hS, ⟨hlen, hrow⟩, hnil, hbw⟩
  have hF : Foot nob W w' := (Foot.alloc nob W _).trans ⟨hbw.os, hbw.tape, hbw.output, hbw.size, fun k hk _ => hbw.block k hk⟩
  have hss : ss.mergeSort (fun x y => decide (x ≤ y)) = (m.map (·.1.1)).mergeSort leI := mergeSort_of_perm_i (hS.trans hpm)
  have hsl : ss.length = ((m.map (·.1.1)).mergeSort leI).length := by rw [← hss, List.length_mergeSort]
  rw [hss] at hrow
  rcases hrow with ⟨rfl, h0⟩ | ⟨gb, cap, cur, rfl, hbase, hgb, r1, r2, r3, r4⟩
  · have hz : (m.map (·.1.1)).mergeSort leI = [] := List.eq_nil_of_length_eq_zero (by omega)
    rw [hz]
    exact ⟨_, rfl, none, 0, rfl, Own.nil, Fr.none, hF⟩
  · refine ⟨_, rfl, some ⟨gb, 0, none⟩, cap, by rw [← hsl], .inr ⟨gb, cur, rfl, hgb, by omega, r2, by omega, ?_⟩, fun a ha => ?_, hF⟩
    · rw [Nat.mul_one, hsl] at r4; exact r4
    · cases ha
      have : W.heap.size + 1 ≤ gb := by simpa using hbase
      show W.heap.size ≤ gb
      omega
end Go.Proofs.Ytoaplldahbbaiaa
