/- tree: the program's Canon. No condition beyond the bounds that each states. -/
import Derived.Test.YtpnfjfbfgaiolaaTrWk
import Derived.Test.YtpnfjfbfgaiolaaMuk
namespace Go.Proofs.Ytpnfjfbfgaiolaa
open Go Go.RowKit Go.Maps
set_option linter.unusedVariables false

section
variable {P : Program} {N : Nt} {l : SF} {ty : TypeId} {pos : String} {aft : Array Edge} {dd : Option Nat} {gd : Option (Nat × Bool)} {CH : Array Obj → Prop} {x : Operand} {t k e : TypeId} {z : Value} {α : Type} {enc : α → Value} {g : Nat} {m : List (α × Value)}
theorem Cm.lenMap (ht : MapT P t k e z) (hx : evL l x = some (.map (some g))) (hm : ∀ H, CH H → MapL enc H g m) : Cm P N CH l ⟨dd, .call ⟨.builtin .len, #[x], #[t]⟩, ty, pos, aft, gd⟩ (.int .i64 m.length) := fun b w hb hw => by
  obtain ⟨h1, hn⟩ := hm _ hw
  have hg := MapKept.run_getObj_map (P := P) h1
  simp [execOp, hb.ev hx, resolve, invoke, builtin, Builtin.len_, run_underlying ht.und, hg, goInt, entE_len]
end
theorem mpII : MapT Try.prog 64 3 3 (.int .i64 0) := ⟨by kernel_rfl, by kernel_rfl⟩
def MapI (Z zs : List Int) (m : List (I6 × Value)) : Prop := (∀ z : I6, getM m z = if z.1 ∈ zs then some (.int .i64 (numZ Z z.1)) else none) ∧ m.length = (seenOf zs).length
section
variable {Z zs : List Int} {m : List (I6 × Value)}
theorem MapI.nil : MapI Z [] [] := ⟨fun z => by simp [getM], rfl⟩
theorem MapI.z (h : MapI Z zs m) (z : I6) : (getM m z).getD (.int .i64 0) = .int .i64 (if z.1 ∈ zs then numZ Z z.1 else 0) := by
  rw [h.1 z]; split <;> rfl
theorem MapI.is (h : MapI Z zs m) (z : I6) : decide ((getM m z).isSome = true) = decide (z.1 ∈ zs) := by
  apply decide_eq_decide.2
  rw [h.1 z]; split <;> simp_all
theorem MapI.old (h : MapI Z zs m) {z : Int} (hz : z ∈ zs) : MapI Z (zs ++ [z]) m := ⟨fun y => by
  rw [h.1 y]
  have : (y.1 ∈ zs) ↔ y.1 ∈ zs ++ [z] := by
    rw [List.mem_append, List.mem_singleton]
    exact ⟨.inl, fun e => e.elim id (fun e => e ▸ hz)⟩
  by_cases hy : y.1 ∈ zs
  · rw [if_pos hy, if_pos (this.1 hy)]
  · rw [if_neg hy, if_neg (fun e => hy (this.2 e))], by rw [h.2, seen_len_old hz]⟩
theorem MapI.new (h : MapI Z zs m) (z : I6) (hz : z.1 ∉ zs) : MapI Z (zs ++ [z.1]) (setM m z (.int .i64 (numZ Z z.1))) := by
  have hn : getM m z = none := by rw [h.1 z, if_neg hz]
  refine ⟨fun y => ?_, by rw [setM_none _ hn, List.length_append, h.2, seen_len_new hz]; rfl⟩
  rw [setM_get]
  by_cases e : y = z
  · subst e; rw [if_pos rfl, if_pos (by simp)]
  · have e2 : ¬ y.1 = z.1 := fun h => e (Subtype.ext h)
    rw [if_neg e, h.1 y]
    by_cases hy : y.1 ∈ zs
    · rw [if_pos hy, if_pos (by simp [hy])]
    · rw [if_neg hy, if_neg (by simp [hy, e2])]
end
theorem own_addr {α : Type} {K : Nat} {enc : α → List Value} {T : TypeId} {H : Array Obj} {ao : Option Addr} {cap : Nat} {xs : List α} (h : OwnM K enc T H ao cap xs) (hne : xs ≠ []) : ∃ b, ao = some ⟨b, 0, none⟩ := by
  rcases h with ⟨_, _, h⟩ | ⟨g, _, h, _⟩
  · exact absurd h hne
  · exact ⟨g, h⟩
theorem NmV.real {D : Nat → Prop} {H : Array Obj} {h : Hd} {l : List (List UInt8)} (v : NmV D H h l) : NmV (fun k => k < H.size) H h l := ⟨v.1, v.2.1, fun hne k ⟨a, ha, e⟩ => by have := v.2.1.lt hne a ha; show k < H.size; omega⟩
/-- what stands there after some have been put in order -/
def CanI (b g i : Nat) (Z : List Int) (ys zs : List (NdH × Nd)) (w : World) : Prop := zs.length = ys.length ∧ (∀ j : Nat, i ≤ j → zs[j]? = ys[j]?) ∧ ∀ (j : Nat) (q p : NdH × Nd), j < i → zs[j]? = some q → ys[j]? = some p → q.2 = (renP Z p).2 ∧ NdV (fun k => k ≠ b ∧ k ≠ g ∧ k < w.heap.size) w.heap q
theorem CanI.grow {b g i : Nat} {Z : List Int} {ys zs : List (NdH × Nd)} {w w' : World} (h : CanI b g i Z ys zs w) (f : Foot (fun k => k = b ∨ k = g) w w') : CanI b g i Z ys zs w' :=
  ⟨h.1, h.2.1, fun j q p hj hq hp => ⟨(h.2.2 j q p hj hq hp).1, ((h.2.2 j q p hj hq hp).2.keep f (fun k hk e => e.elim hk.1 hk.2.1)).mono (fun k hk => ⟨hk.1, hk.2.1, Nat.lt_of_lt_of_le hk.2.2 f.size⟩)⟩⟩
theorem CanI.put {b g i : Nat} {Z : List Int} {ys zs : List (NdH × Nd)} {w : World} {p q : NdH × Nd} (h : CanI b g i Z ys zs w) (hp : ys[i]? = some p) (hq : q.2 = (renP Z p).2) (hv : NdV (fun k => k ≠ b ∧ k ≠ g ∧ k < w.heap.size) w.heap q) : CanI b g (i + 1) Z ys (zs.set i q) w := by
  have hil := (List.getElem?_eq_some_iff.1 hp).1
  refine ⟨by rw [List.length_set]; exact h.1, fun j hj => by rw [List.getElem?_set_ne (by omega)]; exact h.2.1 j (by omega), fun j r s hj hr hs => ?_⟩
  by_cases e : j = i
  · subst e
    rw [List.getElem?_set_self (by rw [h.1]; exact hil)] at hr
    cases hr
    rw [hp] at hs; cases hs
    exact ⟨hq, hv⟩
  · rw [List.getElem?_set_ne (fun h => e h.symm)] at hr
    exact h.2.2 j r s (by omega) hr hs
theorem CanI.eq {b g : Nat} {ys zs : List (NdH × Nd)} {w : World} (h : CanI b g ys.length (inosOf ys) ys zs w) : nds zs = nds (numP ys) := by
  apply List.ext_getElem?
  intro j
  by_cases hj : j < ys.length
  · have h1 := List.getElem?_eq_getElem hj
    have h2 : zs[j]? = some (zs[j]'(by rw [h.1]; exact hj)) := List.getElem?_eq_getElem _
    have h3 := (h.2.2 j _ _ hj h2 h1).1
    rw [nds_get h2, h3]
    simp [nds, numP, h1]
  · rw [List.getElem?_eq_none (by rw [List.length_map, h.1]; omega), List.getElem?_eq_none (by rw [List.length_map, numP, List.length_map]; omega)]
theorem chk_may {ps : List (NdH × Nd)} (h : chk (nds ps) = 0) : ∀ p ∈ ps, mayN p.2 := by
  intro p hp
  have h0 := chk_plc0 h
  rw [chk_plc, h0] at h
  rw [if_neg (show ¬ ((0 : Int) ≠ 0) from fun h => h rfl)] at h
  by_cases hm : ∃ n ∈ nds ps, ¬ mayN n
  · rw [if_pos hm] at h; cases h
  · exact Classical.byContradiction fun hn => hm ⟨p.2, List.mem_map.2 ⟨p, hp, rfl⟩, hn⟩
theorem may_val {n : Nd} (h : mayN n) {k : Nat} {y : Xa} (hy : n.xs[k]? = some y) : y.2.length ≤ 200 := by
  have hk := (List.getElem?_eq_some_iff.1 hy).1
  have h1 := (h.2.2.2.2.2.2.2.2.1 k hk).2.2.2
  have e : n.xs.getD k x0 = y := by simp [List.getD, hy]
  rwa [e] at h1
variable {D : Nat → Prop}
/-- what stands in a row of attributes of which some have been copied -/
def XrI (s k : Nat) (xx : List (List UInt8 × Hd)) (X : List Xa) (us : List (List UInt8 × Hd)) (w : World) : Prop := us.length = xx.length ∧ (∀ j : Nat, k ≤ j → us[j]? = xx[j]?) ∧ ∀ (j : Nat) (u : List UInt8 × Hd) (x : Xa), j < k → us[j]? = some u → X[j]? = some x → u.1 = x.1 ∧ ByV (fun q => s ≤ q ∧ q < w.heap.size) w.heap u.2 x.2
set_option maxHeartbeats 8000000 in
theorem canon_ok (lo : Option Addr) (lc : Nat) (ps : List (NdH × Nd)) (W : World) (hv : NodesV D W.heap lo lc ps) (hsm : ∀ p ∈ ps, smN p.2) (hok : ∀ p ∈ ps, okN p.2) :
    Calls Try.prog 22 [.slice lo ps.length lc].toArray W (Ret fun v w' => ∃ (o : Option Addr) (c : Nat) (qs : List (NdH × Nd)), v = .tuple [.slice o qs.length c, .int .i64 (chk (nds ps))].toArray ∧ (chk (nds ps) ≠ 0 → qs = []) ∧ (chk (nds ps) = 0 → nds qs = nds (canP ps)) ∧ NodesV (fun _ => True) w'.heap o c qs ∧ Fr W.heap.size o ∧ Foot nob W w') := by
  have hll : (nds ps).length = ps.length := by simp
  refine calls_of_sc 102 [(0, _)] Try.func22 rfl rfl rfl (enter_slots ⟨rfl, trivial⟩) ?_
  refine Sc.seq ?_
  refine Sc.region ?_
  refine Sl.calm (Cm.assign rfl) rfl ?_
  refine Sl.calm (Cm.assign rfl) rfl ?_
  refine Sl.nil ?_
  refine At.go ?_
  refine Sc.seq ?_
  refine Sc.seq ?_
  refine Sc.region ?_
  refine Sl.calm (Cm.move rfl) rfl ?_
  refine Sl.call fn12 rfl (check_ok lo lc ps W hv hsm hok) rfl ?_
  rintro _ w2 ⟨rfl, hf2⟩
  refine Sl.calm (Cm.assign rfl) rfl ?_
  refine Sl.nil ?_
  refine At.weak [(0, _), (2, _), (3, _), (4, _)] ⟨rfl, rfl, rfl, rfl, trivial⟩ ?_
  refine At.go ?_
  refine Sc.seq ?_
  refine Sc.region ?_
  refine Sl.calm (Cm.move rfl) rfl ?_
  refine Sl.fork (Cm.neq rfl rfl) rfl (fun h16 => ?_) (fun h16 => ?_)
  ·
    refine Sl.nil ?_
    refine At.weak [(0, _), (2, _), (3, _), (4, _), (16, _)] ⟨rfl, rfl, rfl, rfl, rfl, trivial⟩ ?_
    refine At.go ?_
    refine Sc.cond_t rfl ?_
    refine Sc.seq ?_
    refine Sc.region ?_
    refine Sl.calm (Cm.move rfl) rfl ?_
    refine Sl.calm (Cm.assign rfl) rfl ?_
    refine Sl.calm (Cm.assign rfl) rfl ?_
    refine Sl.nil ?_
    refine At.weak [(0, _), (2, _), (3, _), (4, _), (16, _)] ⟨rfl, rfl, rfl, rfl, rfl, trivial⟩ ?_
    refine At.go ?_
    refine Sc.ret ?_
    refine At.then_ret ?_
    refine At.ret2 rfl rfl rfl ?_
    exact ⟨_, rfl, none, 0, [], rfl, fun _ => rfl, fun h => absurd h h16, ⟨⟨Nat.zero_le _, Nat.zero_le _, fun h => absurd rfl h, fun i x hx => by simp at hx⟩, by simp⟩, Fr.none, hf2⟩
  ·
    have hz : chk (nds ps) = 0 := Classical.not_not.1 h16
    have hlen := chk_len hz
    have ht := chk_twice hz
    have hne : ps ≠ [] := fun e => by subst e; exact absurd hz (by decide +kernel)
    have hmay : ∀ p ∈ ps, mayN p.2 := chk_may hz
    have hnm16 : ∀ p ∈ ps, p.2.names.length ≤ 16 := fun p hp => (nmd_zero (plc_nmd0 (chk_plc0 hz))).2.1 p.2 (List.mem_map.2 ⟨p, hp, rfl⟩)
    refine Sl.nil ?_
    refine At.weak [(0, _), (2, _), (3, _), (4, _), (16, _)] ⟨rfl, rfl, rfl, rfl, rfl, trivial⟩ ?_
    refine At.go ?_
    refine Sc.cond_f rfl ?_
    refine Sc.skip ?_
    refine At.go ?_
    refine Sc.seq ?_
    refine Sc.region ?_
    refine Sl.calm (Cm.move rfl) rfl ?_
    refine Sl.call fn46 rfl (cloneN_ok lo lc ps w2 (hv.grow hf2).1 (by omega)) rfl ?_
    rintro _ w3 ⟨o, c3, rfl, ho3, hfo, hf3⟩
    obtain ⟨b, rfl⟩ := own_addr ho3 hne
    have hF3 := hf2.trans hf3
    have hbW : W.heap.size ≤ b := by have := hfo _ rfl; have := hf2.size; exact Nat.le_trans hf2.size (hfo _ rfl)
    refine Sl.calm (Cm.assign rfl) rfl ?_
    refine Sl.nil ?_
    refine At.weak [(0, _), (2, _), (3, _), (4, _), (5, _), (16, _)] ⟨rfl, rfl, rfl, rfl, rfl, rfl, trivial⟩ ?_
    refine At.go ?_
    refine Sc.seq ?_
    refine Sc.region ?_
    refine Sl.calm (Cm.move rfl) rfl ?_
    refine Sl.call fn47 rfl (sort_ok b c3 ps w3 ho3 (fun p hp => (((hv.2 p hp).1.real).keep hF3 (fun _ _ => id)).mono (fun k hk => ⟨fun e => by omega, Nat.lt_of_lt_of_le hk hF3.size⟩)) (by omega)) rfl ?_
    rintro _ w4 ⟨rfl, ys, ho4, hpe, hor, hf4⟩
    have hF4 : Foot nob W w4 := hF3.trans_to hf4 (fun k e => .inr (by have e : k = b := e; omega))
    have hys := srt_uniq ht hpe hor
    have hyl := hpe.length_eq
    obtain ⟨Z, hZ⟩ : ∃ Z, Z = inosOf ys := ⟨_, rfl⟩
    have hym : ∀ p ∈ ys, p ∈ ps := fun p hp => hpe.mem_iff.1 hp
    have hb4 : b < w4.heap.size := ho4.lt _ rfl
    refine Sl.nil ?_
    refine At.weak [(0, _), (2, _), (3, _), (4, _), (5, _), (16, _)] ⟨rfl, rfl, rfl, rfl, rfl, rfl, trivial⟩ ?_
    refine At.go ?_
    refine Sc.seq ?_
    refine Sc.region ?_
    refine Sl.makeMap (enc := enI) rfl ?_
    intro w41 hm41 hs41 hf41
    obtain ⟨g, hg⟩ : ∃ g, g = w4.heap.size := ⟨_, rfl⟩
    rw [← hg] at hm41 ⊢
    have hF41 := hF4.trans hf41
    have hbg : b < g := by omega
    have hgW : W.heap.size ≤ g := by have := hF4.size; omega
    refine Sl.calm (Cm.assign rfl) rfl ?_
    refine Sl.nil ?_
    refine At.weak [(0, _), (2, _), (3, _), (4, _), (5, _), (6, _), (16, _)] ⟨rfl, rfl, rfl, rfl, rfl, rfl, rfl, trivial⟩ ?_
    refine At.go ?_
    refine Sc.seq ?_
    refine Sc.seq ?_
    refine Sc.region ?_
    refine Sl.calm (Cm.move rfl) rfl ?_
    refine Sl.calm (Cm.len sl22 rfl) rfl ?_
    refine Sl.calm (Cm.move rfl) rfl ?_
    refine Sl.nil ?_
    refine At.weak [(0, _), (2, _), (3, _), (4, _), (5, _), (6, _), (16, _), (24, _), (25, _)] ⟨rfl, rfl, rfl, rfl, rfl, rfl, rfl, rfl, rfl, trivial⟩ ?_
    refine At.go ?_
    refine Sc.block ?_
    refine Sc.loop (β := Nat × List (NdH × Nd) × List (I6 × Value)) (fun ⟨i, zs, m⟩ => [(5, .slice (some ⟨b, 0, none⟩) ps.length c3), (6, .map (some g)), (24, .int .i64 ps.length), (25, .int .i64 i)]) (fun ⟨i, zs, m⟩ w => i ≤ ps.length ∧ OwnM 10 encN 34 w.heap (some ⟨b, 0, none⟩) c3 zs ∧ CanI b g i Z ys zs w ∧ MapL enI w.heap g m ∧ MapI Z (inosOf (ys.take i)) m ∧ Foot nob W w) (fun ⟨i, zs, m⟩ => ps.length - i) ⟨0, ys, []⟩ ⟨rfl, rfl, rfl, rfl, trivial⟩ ⟨Nat.zero_le _, ho4.grow hf41, ⟨rfl, fun _ _ => rfl, fun j _ _ hj => by omega⟩, hm41, MapI.nil, hF41⟩ ?_
    rintro ⟨i, zs, m⟩ w5 ⟨hi, ho5, hC, hm5, hMI, hF5⟩
    refine Sc.seq ?_
    refine Sc.region ?_
    refine Sl.fork (Cm.lss rfl rfl) rfl (fun h26 => ?_) (fun h26 => ?_)
    ·
      have hil : i < ps.length := by omega
      obtain ⟨p, hp⟩ : ∃ p, ys[i]? = some p := ⟨_, List.getElem?_eq_getElem (by omega)⟩
      have hpm := hym p (List.mem_of_getElem? hp)
      have hzi : zs[i]? = some p := by rw [hC.2.1 i (Nat.le_refl _)]; exact hp
      have hv5 := ho5.vw encN_cells
      have hzb := hok p hpm p.2.ino (by simp)
      have hsl := seen_le (inosOf (ys.take i))
      have hil2 : (inosOf (ys.take i)).length = i := by simp [inosOf]; omega
      have hml := hMI.2
      have hzl := hC.1
      have hizs : i < zs.length := by omega
      have hpv := hv.2 p hpm
      have hpmay := hmay p hpm
      refine Sl.nil ?_
      refine At.go ?_
      refine Sc.seq ?_
      refine Sc.cond_t rfl ?_
      refine Sc.skip ?_
      refine At.go ?_
      refine Sc.seq ?_
      refine Sc.block ?_
      refine Sc.seq ?_
      refine Sc.region ?_
      refine Sl.calm (Cm.move rfl) rfl ?_
      refine Sl.calm (Cm.assign rfl) rfl ?_
      refine Sl.nil ?_
      refine At.weak [(5, _), (6, _), (7, _), (24, _), (25, _), (26, _)] ⟨rfl, rfl, rfl, rfl, rfl, rfl, trivial⟩ ?_
      refine At.go ?_
      refine Sc.seq ?_
      refine Sc.region ?_
      refine Sl.calm (Cm.move rfl) rfl ?_
      refine Sl.calm (Cm.move rfl) rfl ?_
      refine Sl.calm (Cm.indexAddr sl22 rfl rfl (fun _ => by simp) (by omega)) rfl ?_
      refine Sl.calm (Cm.assign rfl) rfl ?_
      refine Sl.nil ?_
      refine At.weak [(5, _), (6, _), (7, _), (8, _), (24, _), (25, _), (26, _)] ⟨rfl, rfl, rfl, rfl, rfl, rfl, rfl, trivial⟩ ?_
      refine At.go ?_
      refine Sc.seq ?_
      refine Sc.region ?_
      refine Sl.calm (Cm.move rfl) rfl ?_
      refine Sl.calm (Cm.move rfl) rfl ?_
      refine Sl.calm (Cm.nilCheck rfl) rfl ?_
      refine Sl.calm (Cm.field fld34_1 rfl) rfl ?_
      refine Sl.calm (Cm.ld sca3 rfl (hv5.rowZ i rfl hzi 1 _ rfl)) rfl ?_
      refine Sl.calm (Cm.ofEq (u := .tuple [.int .i64 (if p.2.ino ∈ inosOf (ys.take i) then numZ Z p.2.ino else 0), .bool (decide (p.2.ino ∈ inosOf (ys.take i)))].toArray) (Cm.lookupOk mpII keyI (a := (⟨p.2.ino, hzb⟩ : I6)) rfl rfl (fun _ e => by rw [e]; exact hm5)) (by rw [hMI.z, hMI.is])) rfl ?_
      refine Sl.calm (Cm.move rfl) rfl ?_
      refine Sl.calm (Cm.extract rfl rfl) rfl ?_
      refine Sl.calm (Cm.extract rfl rfl) rfl ?_
      by_cases h39 : p.2.ino ∈ inosOf (ys.take i)
      ·
        rw [decide_eq_true h39]
        rw [if_pos h39]
        refine Sl.calm (Cm.assign rfl) rfl ?_
        refine Sl.calm (Cm.assign rfl) rfl ?_
        refine Sl.nil ?_
        refine At.weak [(5, _), (6, _), (7, _), (8, _), (9, _), (10, _), (24, _), (25, _), (26, _)] ⟨rfl, rfl, rfl, rfl, rfl, rfl, rfl, rfl, rfl, trivial⟩ ?_
        refine At.go ?_
        refine Sc.cut (β := List (I6 × Value)) (fun m2 => [(5, .slice (some ⟨b, 0, none⟩) ps.length c3), (6, .map (some g)), (8, .pointer (some (adr (some ⟨b, 0, none⟩) (i * 10)))), (9, .int .i64 (numZ Z p.2.ino)), (24, .int .i64 ps.length), (25, .int .i64 i)]) (fun m2 w => MapL enI w.heap g m2 ∧ MapI Z (inosOf (ys.take (i + 1))) m2 ∧ OwnM 10 encN 34 w.heap (some ⟨b, 0, none⟩) c3 zs ∧ Foot (fun k => k = b ∨ k = g) w5 w) ?_ ?_
        ·
          refine Sc.seq ?_
          refine Sc.region ?_
          refine Sl.calm (Cm.move rfl) rfl ?_
          refine Sl.calm (Cm.not rfl) rfl ?_
          refine Sl.nil ?_
          refine At.weak [(5, _), (6, _), (7, _), (8, _), (9, _), (10, _), (24, _), (25, _), (26, _), (41, _)] ⟨rfl, rfl, rfl, rfl, rfl, rfl, rfl, rfl, rfl, rfl, trivial⟩ ?_
          refine At.go ?_
          refine Sc.cond_f rfl ?_
          refine Sc.skip ?_
          first
            | exact At.cut m ⟨rfl, rfl, rfl, rfl, rfl, rfl, trivial⟩ ⟨hm5, by rw [inos_tk hp]; exact hMI.old h39, ho5, Foot.refl _ _⟩
            | exact At.cut _ ⟨rfl, rfl, rfl, congrArg (fun z : Int => some (Value.int .i64 z)) hnew, rfl, rfl, trivial⟩ ⟨hm6, by rw [inos_tk hp]; exact hMI.new (⟨p.2.ino, hzb⟩ : I6) h39, ho5.keep hf6 (fun a ha e => by cases ha; have e : b = g := e; omega), hf6.mono (fun k e => .inr e)⟩
        ·
          rintro m2 w6 ⟨hm6, hMI2, ho6, hH6⟩
          refine Sc.seq ?_
          refine Sc.region ?_
          refine Sl.calm (Cm.move rfl) rfl ?_
          refine Sl.calm (Cm.move rfl) rfl ?_
          refine Sl.calm (Cm.nilCheck rfl) rfl ?_
          refine Sl.calm (Cm.field fld34_1 rfl) rfl ?_
          refine Sl.storeF encN_cells (i := i) (j := 1) (x' := renP Z p) hzi (by decide) rfl sca3 rfl rfl rfl rfl ho6 ?_
          intro w7 ho7 hs7 hf7
          have hH7 : Foot (fun k => k = b ∨ k = g) w5 w7 := hH6.step hf7 (fun k ⟨a, ha, e⟩ => .inl (.inl (by cases ha; exact e.symm)))
          have hzi7 : (zs.set i (renP Z p))[i]? = some (renP Z p) := List.getElem?_set_self (by omega)
          have hm7 := hm6.keep hf7 (fun ⟨a, ha, e⟩ => by cases ha; have e : b = g := e; omega)
          refine Sl.nil ?_
          refine At.weak [(5, _), (6, _), (8, _), (9, _), (24, _), (25, _)] ⟨rfl, rfl, rfl, rfl, rfl, rfl, trivial⟩ ?_
          refine At.go ?_
          refine Sc.seq ?_
          obtain ⟨hxn0, xx, hxv, hxl, hxd, hxx⟩ := hpv.2.2
          have hxn : p.1.xs.n = xx.length := by rw [hxn0, hxl]
          have hx8 : p.2.xs.length ≤ 8 := hpmay.2.2.2.2.2.2.2.2.2
          have hG7 : Foot nob W w7 := hF5.trans_to hH7 (fun k e => .inr (by rcases e with e | e <;> omega))
          refine Sc.drawZ 20 [6, 11, 16] (fun H => VwM 10 encN H (some ⟨b, 0, none⟩) c3 (zs.set i (renP Z p))) [7, 12, 17, 20, 23, 26] [0, 1, 2, 3, 4, 5, 6, 8, 9, 10, 11, 13, 14, 15, 16] (.alt 7 [] (.alt 12 [] (.alt 17 [18, 19] (.alt 20 [21, 22] (.alt 23 [24, 25] (.alt 26 [] .fin .stop) .stop) .stop) .stop) .stop) .stop) mixed (by kernel_rfl) ((ho7.vw encN_cells)) ?_
          have hH0 : Foot (fun k => k = b ∨ k = g) w5 (w7.drewN 1) := hH7.draws 1
          have hG0 : Foot nob W (w7.drewN 1) := hG7.draws 1
          have ho0 : OwnM 10 encN 34 (w7.drewN 1).heap (some ⟨b, 0, none⟩) c3 (zs.set i (renP Z p)) := ho7
          have hm0 : MapL enI (w7.drewN 1).heap g m2 := hm7
          generalize w7.drewN 1 = v0 at hH0 hG0 ho0 hm0 ⊢
          refine Sz.calm rfl rfl (Cm.move rfl) rfl ?_
          refine Sz.calm rfl rfl (Cm.move rfl) rfl ?_
          refine Sz.calm rfl rfl (Cm.move rfl) rfl ?_
          refine Sz.calm rfl rfl (Cm.move rfl) rfl ?_
          refine Sz.calm rfl rfl (Cm.nilCheck rfl) rfl ?_
          refine Sz.calm rfl rfl (Cm.field fld34_0 rfl) rfl ?_
          refine Sz.calm rfl rfl (Cm.load sca28 rfl (fun H (hH : VwM 10 encN H (some ⟨b, 0, none⟩) c3 (zs.set i (renP Z p))) => hH.rowZ i rfl hzi7 0 _ rfl)) rfl ?_
          refine Sz.calm rfl rfl (Cm.move rfl) rfl ?_
          refine Sz.calm rfl rfl (Cm.nilCheck rfl) rfl ?_
          refine Sz.calm rfl rfl (Cm.field fld34_4 rfl) rfl ?_
          refine Sz.calm rfl rfl (Cm.load sca31 rfl (fun H (hH : VwM 10 encN H (some ⟨b, 0, none⟩) c3 (zs.set i (renP Z p))) => hH.rowZ i rfl hzi7 6 _ rfl)) rfl ?_
          refine Sz.calm rfl rfl (Cm.move rfl) rfl ?_
          refine Sz.calm rfl rfl (Cm.nilCheck rfl) rfl ?_
          refine Sz.calm rfl rfl (Cm.field fld34_6 rfl) rfl ?_
          refine Sz.calm rfl rfl (Cm.load sca32 rfl (fun H (hH : VwM 10 encN H (some ⟨b, 0, none⟩) c3 (zs.set i (renP Z p))) => hH.rowZ i rfl hzi7 8 _ rfl)) rfl ?_
          refine Sz.alt ?_ ?_
          ·
            refine Sz.eff rfl rfl (Sl.call fn49 rfl ((by show Calls _ _ [Value.slice p.1.names.a p.1.names.n p.1.names.c].toArray _ _; rw [hpv.1.1]; exact cloneS_ok _ _ p.2.names v0 (hpv.grow hG0).1.2.1 (by have := hnm16 p hpm; omega))) rfl ?_)
            rintro _ v1 ⟨on, cn, rfl, hon1, hfn, hf1⟩
            have hH1 : Foot (fun k => k = b ∨ k = g) w5 v1 := hH0.step hf1 (fun _ h => h.elim)
            have hG1 := hG0.trans hf1
            have ho1 := ho0.grow hf1
            have hm1 := hm0.keep hf1 id
            refine Sz.on (by exact (ho1.vw encN_cells)) ?_
            refine Sz.alt ?_ ?_
            ·
              refine Sz.eff rfl rfl (Sl.call fn50 rfl ((by show Calls _ _ [Value.slice p.1.data.a p.1.data.n p.1.data.c].toArray _ _; rw [hpv.2.1.1]; exact cloneB_ok _ _ p.2.data v1 (hpv.grow hG1).2.1.2.1 (by have := hpmay.2.2.2.2.2.2.1; omega))) rfl ?_)
              rintro _ v2 ⟨od, cd, rfl, hod2, hfd, hf2b⟩
              have hH2 : Foot (fun k => k = b ∨ k = g) w5 v2 := hH1.step hf2b (fun _ h => h.elim)
              have hG2 := hG1.trans hf2b
              have ho2 := ho1.grow hf2b
              have hm2b := hm1.keep hf2b id
              have hon2 := hon1.grow hf2b
              refine Sz.on (by exact (ho2.vw encN_cells)) ?_
              refine Sz.alt ?_ ?_
              ·
                refine Sz.eff rfl rfl (Sl.call fn51 rfl ((by show Calls _ _ [Value.slice p.1.xs.a p.1.xs.n p.1.xs.c].toArray _ _; rw [hxn]; exact cloneX_ok _ _ xx v2 (hxv.keep' hG2 (fun _ _ _ => id)) (by omega))) rfl ?_)
                rintro _ v3 ⟨ox, cx, rfl, hox3, hfx, hf3b⟩
                have hH3 : Foot (fun k => k = b ∨ k = g) w5 v3 := hH2.step hf3b (fun _ h => h.elim)
                have hG3 := hG2.trans hf3b
                have ho3b := ho2.grow hf3b
                have hm3b := hm2b.keep hf3b id
                have hon3 := hon2.grow hf3b
                have hod3 := hod2.grow hf3b
                have hfx5 : ∀ a, ox = some a → w5.heap.size ≤ a.block := fun a ha => by have h1 : v2.heap.size ≤ a.block := hfx a ha; have := hH2.size; omega
                have hnx : ∀ a c : Addr, on = some a → ox = some c → c.block = a.block → False := fun a c ha hc e => by have h1 : v2.heap.size ≤ c.block := hfx c hc; have h2 := hon2.lt a ha; omega
                have hdx : ∀ a c : Addr, od = some a → ox = some c → c.block = a.block → False := fun a c ha hc e => by have h1 : v2.heap.size ≤ c.block := hfx c hc; have h2 := hod2.lt a ha; omega
                have hb0 : b < v0.heap.size := ho0.lt _ rfl
                have hg0 : g < v0.heap.size := hm0.obj
                have hfn : ∀ a, on = some a → b < a.block ∧ g < a.block := fun a ha => by have := hfn a ha; omega
                have hfd : ∀ a, od = some a → b < a.block ∧ g < a.block := fun a ha => by have := hfd a ha; have := hf1.size; omega
                have hfx : ∀ a, ox = some a → b < a.block ∧ g < a.block := fun a ha => by have := hfx a ha; have := hf1.size; have := hf2b.size; omega
                refine Sz.on (by exact (ho3b.vw encN_cells)) ?_
                refine Sz.calm rfl rfl (Cm.nilCheck rfl) rfl ?_
                refine Sz.calm rfl rfl (Cm.field fld34_0 rfl) rfl ?_
                refine Sz.alt ?_ ?_
                ·
                  refine Sz.eff rfl rfl (Sl.storeF encN_cells (i := i) (j := 0) (x' := ((⟨⟨on, p.2.names.length, cn⟩, p.1.data, p.1.xs⟩ : NdH), (renP Z p).2)) hzi7 (by decide) rfl sca28 rfl rfl rfl rfl ho3b ?_)
                  intro v4 ho4v hs4v hf4v
                  rw [List.set_set] at ho4v
                  have hz4 := List.getElem?_set_self (a := (((⟨⟨on, p.2.names.length, cn⟩, p.1.data, p.1.xs⟩ : NdH), (renP Z p).2) : NdH × Nd)) hizs
                  have hH4 : Foot (fun k => k = b ∨ k = g) w5 v4 := hH3.step hf4v (fun k ⟨a, ha, e⟩ => .inl (.inl (by cases ha; exact e.symm)))
                  have hm4v := hm3b.keep hf4v (fun ⟨a, ha, e⟩ => by cases ha; have e : b = g := e; omega)
                  have hon4 := hon3.keep hf4v (fun a ha ⟨c, hc, e⟩ => by cases hc; have e : b = a.block := e; have := hfn a ha; omega)
                  have hod4 := hod3.keep hf4v (fun a ha ⟨c, hc, e⟩ => by cases hc; have e : b = a.block := e; have := hfd a ha; omega)
                  have hox4 := hox3.keep hf4v (fun a ha ⟨c, hc, e⟩ => by cases hc; have e : b = a.block := e; have := hfx a ha; omega)
                  refine Sz.off rfl ?_
                  refine Sz.calm rfl rfl (Cm.nilCheck rfl) rfl ?_
                  refine Sz.calm rfl rfl (Cm.field fld34_4 rfl) rfl ?_
                  refine Sz.alt ?_ ?_
                  ·
                    refine Sz.eff rfl rfl (Sl.storeF encN_cells (i := i) (j := 6) (x' := ((⟨⟨on, p.2.names.length, cn⟩, ⟨od, p.2.data.length, cd⟩, p.1.xs⟩ : NdH), (renP Z p).2)) hz4 (by decide) rfl sca31 rfl rfl rfl rfl ho4v ?_)
                    intro v5 ho5v hs5v hf5v
                    rw [List.set_set] at ho5v
                    have hz5 := List.getElem?_set_self (a := (((⟨⟨on, p.2.names.length, cn⟩, ⟨od, p.2.data.length, cd⟩, p.1.xs⟩ : NdH), (renP Z p).2) : NdH × Nd)) hizs
                    have hH5 : Foot (fun k => k = b ∨ k = g) w5 v5 := hH4.step hf5v (fun k ⟨a, ha, e⟩ => .inl (.inl (by cases ha; exact e.symm)))
                    have hm5v := hm4v.keep hf5v (fun ⟨a, ha, e⟩ => by cases ha; have e : b = g := e; omega)
                    have hon5 := hon4.keep hf5v (fun a ha ⟨c, hc, e⟩ => by cases hc; have e : b = a.block := e; have := hfn a ha; omega)
                    have hod5 := hod4.keep hf5v (fun a ha ⟨c, hc, e⟩ => by cases hc; have e : b = a.block := e; have := hfd a ha; omega)
                    have hox5 := hox4.keep hf5v (fun a ha ⟨c, hc, e⟩ => by cases hc; have e : b = a.block := e; have := hfx a ha; omega)
                    refine Sz.off rfl ?_
                    refine Sz.calm rfl rfl (Cm.nilCheck rfl) rfl ?_
                    refine Sz.calm rfl rfl (Cm.field fld34_6 rfl) rfl ?_
                    refine Sz.alt ?_ ?_
                    ·
                      refine Sz.eff rfl rfl (Sl.storeF encN_cells (i := i) (j := 8) (x' := ((⟨⟨on, p.2.names.length, cn⟩, ⟨od, p.2.data.length, cd⟩, ⟨ox, xx.length, cx⟩⟩ : NdH), (renP Z p).2)) hz5 (by decide) rfl sca32 rfl rfl rfl rfl ho5v ?_)
                      intro v6 ho6v hs6v hf6v
                      rw [List.set_set] at ho6v
                      have hH6v : Foot (fun k => k = b ∨ k = g) w5 v6 := hH5.step hf6v (fun k ⟨a, ha, e⟩ => .inl (.inl (by cases ha; exact e.symm)))
                      have hm6v := hm5v.keep hf6v (fun ⟨a, ha, e⟩ => by cases ha; have e : b = g := e; omega)
                      have hon6 := hon5.keep hf6v (fun a ha ⟨c, hc, e⟩ => by cases hc; have e : b = a.block := e; have := hfn a ha; omega)
                      have hod6 := hod5.keep hf6v (fun a ha ⟨c, hc, e⟩ => by cases hc; have e : b = a.block := e; have := hfd a ha; omega)
                      have hox6 := hox5.keep hf6v (fun a ha ⟨c, hc, e⟩ => by cases hc; have e : b = a.block := e; have := hfx a ha; omega)
                      obtain ⟨pz, hpz⟩ : ∃ pz : NdH × Nd, pz = ((⟨⟨on, p.2.names.length, cn⟩, ⟨od, p.2.data.length, cd⟩, ⟨ox, xx.length, cx⟩⟩ : NdH), (renP Z p).2) := ⟨_, rfl⟩
                      rw [← hpz] at ho6v
                      have hzi6 : (zs.set i pz)[i]? = some pz := List.getElem?_set_self (by omega)
                      have hG6 : Foot nob W v6 := hF5.trans_to hH6v (fun k e => .inr (by rcases e with e | e <;> omega))
                      refine Sz.off rfl ?_
                      refine Sz.nil ?_
                      refine At.weak [(5, _), (6, _), (8, _), (9, _), (24, _), (25, _)] ⟨rfl, rfl, rfl, rfl, rfl, rfl, trivial⟩ ?_
                      refine At.go ?_
                      refine Sc.seq ?_
                      refine Sc.region ?_
                      refine Sl.calm (Cm.move rfl) rfl ?_
                      refine Sl.calm (Cm.nilCheck rfl) rfl ?_
                      refine Sl.calm (Cm.field fld34_6 rfl) rfl ?_
                      refine Sl.calm (Cm.ofEq (u := .slice ox xx.length cx) (Cm.ld sca32 rfl ((ho6v.vw encN_cells).rowZ i rfl hzi6 8 _ rfl)) (by rw [hpz]; rfl)) rfl ?_
                      refine Sl.calm (Cm.len sl32 rfl) rfl ?_
                      refine Sl.calm (Cm.move rfl) rfl ?_
                      refine Sl.nil ?_
                      refine At.weak [(5, _), (6, _), (8, _), (9, _), (24, _), (25, _), (82, _), (83, _), (84, _)] ⟨rfl, rfl, rfl, rfl, rfl, rfl, rfl, rfl, rfl, trivial⟩ ?_
                      refine At.go ?_
                      refine Sc.block ?_
                      have hb6 : b < v6.heap.size := ho6v.lt _ rfl
                      have hg6 : g < v6.heap.size := hm6v.obj
                      refine Sc.loop (β := Nat × List (List UInt8 × Hd)) (fun ⟨k, us⟩ => [(5, .slice (some ⟨b, 0, none⟩) ps.length c3), (6, .map (some g)), (8, .pointer (some (adr (some ⟨b, 0, none⟩) (i * 10)))), (24, .int .i64 ps.length), (25, .int .i64 i), (82, .slice ox xx.length cx), (83, .int .i64 xx.length), (84, .int .i64 k)]) (fun ⟨k, us⟩ w => k ≤ xx.length ∧ OwnM 2 encX 54 w.heap ox cx us ∧ XrI v6.heap.size k xx p.2.xs us w ∧ Foot (blk ox) v6 w) (fun ⟨k, us⟩ => xx.length - k) ⟨0, xx⟩ ⟨rfl, rfl, rfl, rfl, rfl, rfl, rfl, rfl, trivial⟩ ⟨Nat.zero_le _, hox6, ⟨rfl, fun _ _ => rfl, fun j _ _ hj => by omega⟩, Foot.refl _ _⟩ ?_
                      rintro ⟨k, us⟩ w8 ⟨hk, hou, hXI, hI8⟩
                      refine Sc.seq ?_
                      refine Sc.region ?_
                      refine Sl.fork (Cm.lss rfl rfl) rfl (fun h85 => ?_) (fun h85 => ?_)
                      ·
                        have hkx : k < xx.length := by omega
                        obtain ⟨x, hx⟩ : ∃ x, xx[k]? = some x := ⟨_, List.getElem?_eq_getElem hkx⟩
                        obtain ⟨y, hy⟩ : ∃ y, p.2.xs[k]? = some y := ⟨_, List.getElem?_eq_getElem (by omega)⟩
                        have hux : us[k]? = some x := by rw [hXI.2.1 k (Nat.le_refl _)]; exact hx
                        have hvu := hou.vw encX_cells
                        have hul := hXI.1
                        have hxy := hxx k x y hx hy
                        have hyl4 : y.2.length ≤ 200 := may_val hpmay hy
                        refine Sl.nil ?_
                        refine At.go ?_
                        refine Sc.seq ?_
                        refine Sc.cond_t rfl ?_
                        refine Sc.skip ?_
                        refine At.go ?_
                        refine Sc.seq ?_
                        refine Sc.block ?_
                        refine Sc.seq ?_
                        refine Sc.region ?_
                        refine Sl.calm (Cm.move rfl) rfl ?_
                        refine Sl.calm (Cm.indexAddr sl32 rfl rfl (by rw [← hul]; exact hvu.non) (by omega)) rfl ?_
                        refine Sl.calm (Cm.ldM (cs := encX x) agg54 rfl (fun j v hj => hvu.rowZ k rfl hux j v hj)) rfl ?_
                        refine Sl.allocC zc54 rfl ?_
                        intro w9 hg9 hs9 hf9
                        obtain ⟨qx, hqx⟩ : ∃ qx, qx = w8.heap.size := ⟨_, rfl⟩
                        rw [← hqx] at hg9 ⊢
                        refine Sl.calm (Cm.assign rfl) rfl ?_
                        refine Sl.storeAll (vs := encX x) agg54 rfl rfl (encX_cells x).2 hg9 rfl ?_
                        intro wA hgA hsA hfA
                        have hf8A : Foot nob w8 wA := hf9.trans_to hfA (fun k e => .inr (by have e : k = qx := e; omega))
                        have hI_A : Foot (blk ox) v6 wA := hI8.step hf8A (fun _ h => h.elim)
                        have hoz8 := ho6v.keep hI8 (fun a ha ⟨c, hc, e⟩ => by cases ha; have := hfx c hc; have e : c.block = b := e; omega)
                        have hozA := hoz8.grow hf8A
                        have houA := hou.grow hf8A
                        have hqv : v6.heap.size ≤ qx := by rw [hqx]; exact hI8.size
                        refine Sl.nil ?_
                        refine At.weak [(5, _), (6, _), (8, _), (11, _), (12, _), (24, _), (25, _), (82, _), (83, _), (84, _), (85, _)] ⟨rfl, rfl, rfl, rfl, rfl, rfl, rfl, rfl, rfl, rfl, rfl, trivial⟩ ?_
                        refine At.go ?_
                        refine Sc.drawZ 10 [3, 6] (fun H => VwM 10 encN H (some ⟨b, 0, none⟩) c3 (zs.set i pz) ∧ H[qx]? = some (.cells (encX x).toArray 54 (0, 0))) [7, 10] [0, 1, 2, 3, 4, 5, 6] (.alt 7 [8, 9] (.alt 10 [] .fin .stop) .stop) mixed (by kernel_rfl) (⟨hozA.vw encN_cells, hgA⟩) ?_
                        refine Sz.calm rfl rfl (Cm.move rfl) rfl ?_
                        refine Sz.calm rfl rfl (Cm.nilCheck rfl) rfl ?_
                        refine Sz.calm rfl rfl (Cm.field fld34_6 rfl) rfl ?_
                        refine Sz.calm rfl rfl (Cm.ofEq (u := .slice ox xx.length cx) (Cm.load sca32 rfl (fun H (hH : VwM 10 encN H (some ⟨b, 0, none⟩) c3 (zs.set i pz) ∧ H[qx]? = some (.cells (encX x).toArray 54 (0, 0))) => hH.1.rowZ i rfl hzi6 8 _ rfl)) (by rw [hpz]; rfl)) rfl ?_
                        refine Sz.calm rfl rfl (Cm.move rfl) rfl ?_
                        refine Sz.calm rfl rfl (Cm.field fld54_1 rfl) rfl ?_
                        refine Sz.calm rfl rfl (Cm.ofEq (u := .slice x.2.a y.2.length x.2.c) (Cm.load sca31 rfl (fun H (hH : VwM 10 encN H (some ⟨b, 0, none⟩) c3 (zs.set i pz) ∧ H[qx]? = some (.cells (encX x).toArray 54 (0, 0))) => cellF hH.2 rfl)) (by rw [← hxy.2.1]; rfl)) rfl ?_
                        refine Sz.alt ?_ ?_
                        ·
                          refine Sz.eff rfl rfl (Sl.call fn50 rfl (cloneB_ok _ _ y.2 _ ((hxy.2.keep (hG6.trans_to hI_A (fun k ⟨a, ha, e⟩ => .inr (by have := hfx a ha; omega))) (fun _ _ => id)).2.1) (by omega)) rfl ?_)
                          rintro _ wB ⟨oB, cB, rfl, hoB, hfB, hfBf⟩
                          have hfBf : Foot nob wA wB := hfBf.undraw
                          have hozB := hozA.grow hfBf
                          have houB := houA.grow hfBf
                          refine Sz.on (by exact ⟨hozB.vw encN_cells, hfBf.obj hgA id⟩) ?_
                          refine Sz.calm rfl rfl (Cm.indexAddr sl32 rfl rfl (by rw [← hul]; exact hvu.non) (by omega)) rfl ?_
                          refine Sz.calm rfl rfl (Cm.field fld54_1 rfl) rfl ?_
                          refine Sz.alt ?_ ?_
                          ·
                            refine Sz.eff rfl rfl (Sl.storeF encX_cells (i := k) (j := 1) (x' := (x.1, (⟨oB, y.2.length, cB⟩ : Hd))) hux (by decide) rfl sca31 rfl rfl rfl rfl houB ?_)
                            intro wC houC hsC hfC
                            have hI_C : Foot (blk ox) v6 wC := (hI_A.step hfBf (fun _ h => h.elim)).trans hfC
                            have hoBC := hoB.keep hfC (fun a ha ⟨c, hc, e⟩ => by have h1 := hfB a ha; have h2 := hou.lt c hc; have h3 := hf8A.size; have e : c.block = a.block := e; have h1 : wA.heap.size ≤ a.block := h1; omega)
                            refine Sz.off rfl ?_
                            refine Sz.nil ?_
                            refine At.block_normal ?_
                            refine At.weak [(5, _), (6, _), (8, _), (11, _), (12, _), (24, _), (25, _), (82, _), (83, _), (84, _), (85, _)] ⟨rfl, rfl, rfl, rfl, rfl, rfl, rfl, rfl, rfl, rfl, rfl, trivial⟩ ?_
                            refine At.go ?_
                            refine Sc.region ?_
                            refine Sl.calm (Cm.add64 rfl rfl (by omega)) rfl ?_
                            refine Sl.calm (Cm.move rfl) rfl ?_
                            refine Sl.nil ?_
                            refine At.again ⟨k + 1, us.set k (x.1, (⟨oB, y.2.length, cB⟩ : Hd))⟩ ⟨rfl, rfl, rfl, rfl, rfl, rfl, rfl, rfl, trivial⟩ ⟨by omega, houC, ⟨by rw [List.length_set]; exact hul, fun j hj => by rw [List.getElem?_set_ne (by omega)]; exact hXI.2.1 j (by omega), fun j u z hj hu hz => ?_⟩, hI_C⟩ (by show xx.length - (k + 1) < xx.length - k; omega)
                            by_cases e : j = k
                            · subst e
                              rw [List.getElem?_set_self (by omega)] at hu
                              cases hu
                              rw [hy] at hz; cases hz
                              exact ⟨hxy.1, rfl, hoBC.vw, fun _ q ⟨a, ha, e⟩ => ⟨by have h1 : wA.heap.size ≤ a.block := hfB a ha; have := hI_A.size; omega, by have := hoBC.lt a ha; omega⟩⟩
                            · rw [List.getElem?_set_ne (fun h => e h.symm)] at hu
                              obtain ⟨h1, h2⟩ := hXI.2.2 j u z (by omega) hu hz
                              have hfAC : Foot (blk ox) w8 wC := ((hf8A.mono (fun _ h => h.elim)).trans (hfBf.mono (fun _ h => h.elim))).trans hfC
                              exact ⟨h1, (h2.keep hfAC (fun q hq ⟨a, ha, e⟩ => by have := hox6.lt a ha; have := hq.1; omega)).mono (fun q hq => ⟨hq.1, Nat.lt_of_lt_of_le hq.2 hfAC.size⟩)⟩
                          exact Sz.stop
                        exact Sz.stop
                      ·
                        have hke : k = xx.length := by omega
                        subst hke
                        refine Sl.nil ?_
                        refine At.go ?_
                        refine Sc.seq ?_
                        refine Sc.cond_f rfl ?_
                        refine Sc.exit ?_
                        refine At.then_exit ?_
                        refine At.then_exit ?_
                        refine At.block_hit ?_
                        refine At.block_normal ?_
                        refine At.go ?_
                        refine Sc.region ?_
                        refine Sl.calm (Cm.add64 rfl rfl (by omega)) rfl ?_
                        refine Sl.calm (Cm.move rfl) rfl ?_
                        refine Sl.nil ?_
                        have hH8 : Foot (fun k => k = b ∨ k = g) w5 w8 := hH6v.step hI8 (fun k ⟨a, ha, e⟩ => .inr (by have := hfx5 a ha; omega))
                        have hI8s := hI8.size
                        have hfoot := hI8
                        have hon8 := hon6.keep hI8 (fun a ha ⟨c, hc, e⟩ => hnx a c ha hc e)
                        have hod8 := hod6.keep hI8 (fun a ha ⟨c, hc, e⟩ => hdx a c ha hc e)
                        have hoz8 := ho6v.keep hI8 (fun a ha ⟨c, hc, e⟩ => by cases ha; have := hfx c hc; have e : c.block = b := e; omega)
                        have hm8 := hm6v.keep hI8 (fun ⟨a, ha, e⟩ => by have := hfx a ha; omega)
                        have hpzv : NdV (fun k => k ≠ b ∧ k ≠ g ∧ k < w8.heap.size) w8.heap pz := by
                          rw [hpz]
                          refine ⟨⟨rfl, hon8.vw, fun _ k ⟨a, ha, e⟩ => ?_⟩, ⟨rfl, hod8.vw, fun _ k ⟨a, ha, e⟩ => ?_⟩, ⟨hxl, us, hou.vw encX_cells, hXI.1.trans hxl, fun _ k ⟨a, ha, e⟩ => ?_, fun j u x hu hx => ?_⟩⟩
                          · have h1 := hfn a ha; have h2 := hon8.lt a ha; exact ⟨by omega, by omega, by omega⟩
                          · have h1 := hfd a ha; have h2 := hod8.lt a ha; exact ⟨by omega, by omega, by omega⟩
                          · have h1 := hfx a ha; have h2 := hou.lt a ha; exact ⟨by omega, by omega, by omega⟩
                          · obtain ⟨h1, h2⟩ := hXI.2.2 j u x (by have := (List.getElem?_eq_some_iff.1 hu).1; have := hXI.1; omega) hu hx
                            exact ⟨h1, h2.mono (fun k hk => ⟨by have := hk.1; omega, by have := hk.1; omega, hk.2⟩)⟩
                        exact At.again ⟨i + 1, zs.set i pz, m2⟩ ⟨rfl, rfl, rfl, rfl, trivial⟩ ⟨by omega, hoz8, (hC.grow hH8).put hp (by rw [hpz]) hpzv, hm8, hMI2, hF5.trans_to hH8 (fun k e => .inr (by rcases e with e | e <;> omega))⟩ (by show ps.length - (i + 1) < ps.length - i; omega)
                    exact Sz.stop
                  exact Sz.stop
                exact Sz.stop
              exact Sz.stop
            exact Sz.stop
          exact Sz.stop
      ·
        rw [decide_eq_false h39]
        rw [if_neg h39]
        have hnew : ((m.length : Nat) : Int) + 1 = numZ Z p.2.ino := by rw [hml, hZ, inos_split hp, numZ_new h39]
        refine Sl.calm (Cm.assign rfl) rfl ?_
        refine Sl.calm (Cm.assign rfl) rfl ?_
        refine Sl.nil ?_
        refine At.weak [(5, _), (6, _), (7, _), (8, _), (9, _), (10, _), (24, _), (25, _), (26, _)] ⟨rfl, rfl, rfl, rfl, rfl, rfl, rfl, rfl, rfl, trivial⟩ ?_
        refine At.go ?_
        refine Sc.cut (β := List (I6 × Value)) (fun m2 => [(5, .slice (some ⟨b, 0, none⟩) ps.length c3), (6, .map (some g)), (8, .pointer (some (adr (some ⟨b, 0, none⟩) (i * 10)))), (9, .int .i64 (numZ Z p.2.ino)), (24, .int .i64 ps.length), (25, .int .i64 i)]) (fun m2 w => MapL enI w.heap g m2 ∧ MapI Z (inosOf (ys.take (i + 1))) m2 ∧ OwnM 10 encN 34 w.heap (some ⟨b, 0, none⟩) c3 zs ∧ Foot (fun k => k = b ∨ k = g) w5 w) ?_ ?_
        ·
          refine Sc.seq ?_
          refine Sc.region ?_
          refine Sl.calm (Cm.move rfl) rfl ?_
          refine Sl.calm (Cm.not rfl) rfl ?_
          refine Sl.nil ?_
          refine At.weak [(5, _), (6, _), (7, _), (8, _), (9, _), (10, _), (24, _), (25, _), (26, _), (41, _)] ⟨rfl, rfl, rfl, rfl, rfl, rfl, rfl, rfl, rfl, rfl, trivial⟩ ?_
          refine At.go ?_
          refine Sc.cond_t rfl ?_
          refine Sc.seq ?_
          refine Sc.region ?_
          refine Sl.calm (Cm.move rfl) rfl ?_
          refine Sl.calm (Cm.lenMap mpII rfl (fun _ e => by rw [e]; exact hm5)) rfl ?_
          refine Sl.calm (Cm.add64 rfl rfl (by omega)) rfl ?_
          refine Sl.calm (Cm.assign rfl) rfl ?_
          refine Sl.nil ?_
          refine At.weak [(5, _), (6, _), (7, _), (8, _), (9, _), (10, _), (24, _), (25, _), (26, _), (41, _)] ⟨rfl, rfl, rfl, rfl, rfl, rfl, rfl, rfl, rfl, rfl, trivial⟩ ?_
          refine At.go ?_
          refine Sc.region ?_
          refine Sl.calm (Cm.move rfl) rfl ?_
          refine Sl.calm (Cm.move rfl) rfl ?_
          refine Sl.calm (Cm.nilCheck rfl) rfl ?_
          refine Sl.calm (Cm.field fld34_1 rfl) rfl ?_
          refine Sl.calm (Cm.ld sca3 rfl (hv5.rowZ i rfl hzi 1 _ rfl)) rfl ?_
          refine Sl.calm (Cm.move rfl) rfl ?_
          refine Sl.mapUpdate mpII keyI (a := (⟨p.2.ino, hzb⟩ : I6)) rfl rfl rfl hm5 ?_
          intro w6 hm6 hs6 hf6
          rw [hnew] at hm6
          refine Sl.nil ?_
          first
            | exact At.cut m ⟨rfl, rfl, rfl, rfl, rfl, rfl, trivial⟩ ⟨hm5, by rw [inos_tk hp]; exact hMI.old h39, ho5, Foot.refl _ _⟩
            | exact At.cut _ ⟨rfl, rfl, rfl, congrArg (fun z : Int => some (Value.int .i64 z)) hnew, rfl, rfl, trivial⟩ ⟨hm6, by rw [inos_tk hp]; exact hMI.new (⟨p.2.ino, hzb⟩ : I6) h39, ho5.keep hf6 (fun a ha e => by cases ha; have e : b = g := e; omega), hf6.mono (fun k e => .inr e)⟩
        ·
          rintro m2 w6 ⟨hm6, hMI2, ho6, hH6⟩
          refine Sc.seq ?_
          refine Sc.region ?_
          refine Sl.calm (Cm.move rfl) rfl ?_
          refine Sl.calm (Cm.move rfl) rfl ?_
          refine Sl.calm (Cm.nilCheck rfl) rfl ?_
          refine Sl.calm (Cm.field fld34_1 rfl) rfl ?_
          refine Sl.storeF encN_cells (i := i) (j := 1) (x' := renP Z p) hzi (by decide) rfl sca3 rfl rfl rfl rfl ho6 ?_
          intro w7 ho7 hs7 hf7
          have hH7 : Foot (fun k => k = b ∨ k = g) w5 w7 := hH6.step hf7 (fun k ⟨a, ha, e⟩ => .inl (.inl (by cases ha; exact e.symm)))
          have hzi7 : (zs.set i (renP Z p))[i]? = some (renP Z p) := List.getElem?_set_self (by omega)
          have hm7 := hm6.keep hf7 (fun ⟨a, ha, e⟩ => by cases ha; have e : b = g := e; omega)
          refine Sl.nil ?_
          refine At.weak [(5, _), (6, _), (8, _), (9, _), (24, _), (25, _)] ⟨rfl, rfl, rfl, rfl, rfl, rfl, trivial⟩ ?_
          refine At.go ?_
          refine Sc.seq ?_
          obtain ⟨hxn0, xx, hxv, hxl, hxd, hxx⟩ := hpv.2.2
          have hxn : p.1.xs.n = xx.length := by rw [hxn0, hxl]
          have hx8 : p.2.xs.length ≤ 8 := hpmay.2.2.2.2.2.2.2.2.2
          have hG7 : Foot nob W w7 := hF5.trans_to hH7 (fun k e => .inr (by rcases e with e | e <;> omega))
          refine Sc.drawZ 20 [6, 11, 16] (fun H => VwM 10 encN H (some ⟨b, 0, none⟩) c3 (zs.set i (renP Z p))) [7, 12, 17, 20, 23, 26] [0, 1, 2, 3, 4, 5, 6, 8, 9, 10, 11, 13, 14, 15, 16] (.alt 7 [] (.alt 12 [] (.alt 17 [18, 19] (.alt 20 [21, 22] (.alt 23 [24, 25] (.alt 26 [] .fin .stop) .stop) .stop) .stop) .stop) .stop) mixed (by kernel_rfl) ((ho7.vw encN_cells)) ?_
          have hH0 : Foot (fun k => k = b ∨ k = g) w5 (w7.drewN 1) := hH7.draws 1
          have hG0 : Foot nob W (w7.drewN 1) := hG7.draws 1
          have ho0 : OwnM 10 encN 34 (w7.drewN 1).heap (some ⟨b, 0, none⟩) c3 (zs.set i (renP Z p)) := ho7
          have hm0 : MapL enI (w7.drewN 1).heap g m2 := hm7
          generalize w7.drewN 1 = v0 at hH0 hG0 ho0 hm0 ⊢
          refine Sz.calm rfl rfl (Cm.move rfl) rfl ?_
          refine Sz.calm rfl rfl (Cm.move rfl) rfl ?_
          refine Sz.calm rfl rfl (Cm.move rfl) rfl ?_
          refine Sz.calm rfl rfl (Cm.move rfl) rfl ?_
          refine Sz.calm rfl rfl (Cm.nilCheck rfl) rfl ?_
          refine Sz.calm rfl rfl (Cm.field fld34_0 rfl) rfl ?_
          refine Sz.calm rfl rfl (Cm.load sca28 rfl (fun H (hH : VwM 10 encN H (some ⟨b, 0, none⟩) c3 (zs.set i (renP Z p))) => hH.rowZ i rfl hzi7 0 _ rfl)) rfl ?_
          refine Sz.calm rfl rfl (Cm.move rfl) rfl ?_
          refine Sz.calm rfl rfl (Cm.nilCheck rfl) rfl ?_
          refine Sz.calm rfl rfl (Cm.field fld34_4 rfl) rfl ?_
          refine Sz.calm rfl rfl (Cm.load sca31 rfl (fun H (hH : VwM 10 encN H (some ⟨b, 0, none⟩) c3 (zs.set i (renP Z p))) => hH.rowZ i rfl hzi7 6 _ rfl)) rfl ?_
          refine Sz.calm rfl rfl (Cm.move rfl) rfl ?_
          refine Sz.calm rfl rfl (Cm.nilCheck rfl) rfl ?_
          refine Sz.calm rfl rfl (Cm.field fld34_6 rfl) rfl ?_
          refine Sz.calm rfl rfl (Cm.load sca32 rfl (fun H (hH : VwM 10 encN H (some ⟨b, 0, none⟩) c3 (zs.set i (renP Z p))) => hH.rowZ i rfl hzi7 8 _ rfl)) rfl ?_
          refine Sz.alt ?_ ?_
          ·
            refine Sz.eff rfl rfl (Sl.call fn49 rfl ((by show Calls _ _ [Value.slice p.1.names.a p.1.names.n p.1.names.c].toArray _ _; rw [hpv.1.1]; exact cloneS_ok _ _ p.2.names v0 (hpv.grow hG0).1.2.1 (by have := hnm16 p hpm; omega))) rfl ?_)
            rintro _ v1 ⟨on, cn, rfl, hon1, hfn, hf1⟩
            have hH1 : Foot (fun k => k = b ∨ k = g) w5 v1 := hH0.step hf1 (fun _ h => h.elim)
            have hG1 := hG0.trans hf1
            have ho1 := ho0.grow hf1
            have hm1 := hm0.keep hf1 id
            refine Sz.on (by exact (ho1.vw encN_cells)) ?_
            refine Sz.alt ?_ ?_
            ·
              refine Sz.eff rfl rfl (Sl.call fn50 rfl ((by show Calls _ _ [Value.slice p.1.data.a p.1.data.n p.1.data.c].toArray _ _; rw [hpv.2.1.1]; exact cloneB_ok _ _ p.2.data v1 (hpv.grow hG1).2.1.2.1 (by have := hpmay.2.2.2.2.2.2.1; omega))) rfl ?_)
              rintro _ v2 ⟨od, cd, rfl, hod2, hfd, hf2b⟩
              have hH2 : Foot (fun k => k = b ∨ k = g) w5 v2 := hH1.step hf2b (fun _ h => h.elim)
              have hG2 := hG1.trans hf2b
              have ho2 := ho1.grow hf2b
              have hm2b := hm1.keep hf2b id
              have hon2 := hon1.grow hf2b
              refine Sz.on (by exact (ho2.vw encN_cells)) ?_
              refine Sz.alt ?_ ?_
              ·
                refine Sz.eff rfl rfl (Sl.call fn51 rfl ((by show Calls _ _ [Value.slice p.1.xs.a p.1.xs.n p.1.xs.c].toArray _ _; rw [hxn]; exact cloneX_ok _ _ xx v2 (hxv.keep' hG2 (fun _ _ _ => id)) (by omega))) rfl ?_)
                rintro _ v3 ⟨ox, cx, rfl, hox3, hfx, hf3b⟩
                have hH3 : Foot (fun k => k = b ∨ k = g) w5 v3 := hH2.step hf3b (fun _ h => h.elim)
                have hG3 := hG2.trans hf3b
                have ho3b := ho2.grow hf3b
                have hm3b := hm2b.keep hf3b id
                have hon3 := hon2.grow hf3b
                have hod3 := hod2.grow hf3b
                have hfx5 : ∀ a, ox = some a → w5.heap.size ≤ a.block := fun a ha => by have h1 : v2.heap.size ≤ a.block := hfx a ha; have := hH2.size; omega
                have hnx : ∀ a c : Addr, on = some a → ox = some c → c.block = a.block → False := fun a c ha hc e => by have h1 : v2.heap.size ≤ c.block := hfx c hc; have h2 := hon2.lt a ha; omega
                have hdx : ∀ a c : Addr, od = some a → ox = some c → c.block = a.block → False := fun a c ha hc e => by have h1 : v2.heap.size ≤ c.block := hfx c hc; have h2 := hod2.lt a ha; omega
                have hb0 : b < v0.heap.size := ho0.lt _ rfl
                have hg0 : g < v0.heap.size := hm0.obj
                have hfn : ∀ a, on = some a → b < a.block ∧ g < a.block := fun a ha => by have := hfn a ha; omega
                have hfd : ∀ a, od = some a → b < a.block ∧ g < a.block := fun a ha => by have := hfd a ha; have := hf1.size; omega
                have hfx : ∀ a, ox = some a → b < a.block ∧ g < a.block := fun a ha => by have := hfx a ha; have := hf1.size; have := hf2b.size; omega
                refine Sz.on (by exact (ho3b.vw encN_cells)) ?_
                refine Sz.calm rfl rfl (Cm.nilCheck rfl) rfl ?_
                refine Sz.calm rfl rfl (Cm.field fld34_0 rfl) rfl ?_
                refine Sz.alt ?_ ?_
                ·
                  refine Sz.eff rfl rfl (Sl.storeF encN_cells (i := i) (j := 0) (x' := ((⟨⟨on, p.2.names.length, cn⟩, p.1.data, p.1.xs⟩ : NdH), (renP Z p).2)) hzi7 (by decide) rfl sca28 rfl rfl rfl rfl ho3b ?_)
                  intro v4 ho4v hs4v hf4v
                  rw [List.set_set] at ho4v
                  have hz4 := List.getElem?_set_self (a := (((⟨⟨on, p.2.names.length, cn⟩, p.1.data, p.1.xs⟩ : NdH), (renP Z p).2) : NdH × Nd)) hizs
                  have hH4 : Foot (fun k => k = b ∨ k = g) w5 v4 := hH3.step hf4v (fun k ⟨a, ha, e⟩ => .inl (.inl (by cases ha; exact e.symm)))
                  have hm4v := hm3b.keep hf4v (fun ⟨a, ha, e⟩ => by cases ha; have e : b = g := e; omega)
                  have hon4 := hon3.keep hf4v (fun a ha ⟨c, hc, e⟩ => by cases hc; have e : b = a.block := e; have := hfn a ha; omega)
                  have hod4 := hod3.keep hf4v (fun a ha ⟨c, hc, e⟩ => by cases hc; have e : b = a.block := e; have := hfd a ha; omega)
                  have hox4 := hox3.keep hf4v (fun a ha ⟨c, hc, e⟩ => by cases hc; have e : b = a.block := e; have := hfx a ha; omega)
                  refine Sz.off rfl ?_
                  refine Sz.calm rfl rfl (Cm.nilCheck rfl) rfl ?_
                  refine Sz.calm rfl rfl (Cm.field fld34_4 rfl) rfl ?_
                  refine Sz.alt ?_ ?_
                  ·
                    refine Sz.eff rfl rfl (Sl.storeF encN_cells (i := i) (j := 6) (x' := ((⟨⟨on, p.2.names.length, cn⟩, ⟨od, p.2.data.length, cd⟩, p.1.xs⟩ : NdH), (renP Z p).2)) hz4 (by decide) rfl sca31 rfl rfl rfl rfl ho4v ?_)
                    intro v5 ho5v hs5v hf5v
                    rw [List.set_set] at ho5v
                    have hz5 := List.getElem?_set_self (a := (((⟨⟨on, p.2.names.length, cn⟩, ⟨od, p.2.data.length, cd⟩, p.1.xs⟩ : NdH), (renP Z p).2) : NdH × Nd)) hizs
                    have hH5 : Foot (fun k => k = b ∨ k = g) w5 v5 := hH4.step hf5v (fun k ⟨a, ha, e⟩ => .inl (.inl (by cases ha; exact e.symm)))
                    have hm5v := hm4v.keep hf5v (fun ⟨a, ha, e⟩ => by cases ha; have e : b = g := e; omega)
                    have hon5 := hon4.keep hf5v (fun a ha ⟨c, hc, e⟩ => by cases hc; have e : b = a.block := e; have := hfn a ha; omega)
                    have hod5 := hod4.keep hf5v (fun a ha ⟨c, hc, e⟩ => by cases hc; have e : b = a.block := e; have := hfd a ha; omega)
                    have hox5 := hox4.keep hf5v (fun a ha ⟨c, hc, e⟩ => by cases hc; have e : b = a.block := e; have := hfx a ha; omega)
                    refine Sz.off rfl ?_
                    refine Sz.calm rfl rfl (Cm.nilCheck rfl) rfl ?_
                    refine Sz.calm rfl rfl (Cm.field fld34_6 rfl) rfl ?_
                    refine Sz.alt ?_ ?_
                    ·
                      refine Sz.eff rfl rfl (Sl.storeF encN_cells (i := i) (j := 8) (x' := ((⟨⟨on, p.2.names.length, cn⟩, ⟨od, p.2.data.length, cd⟩, ⟨ox, xx.length, cx⟩⟩ : NdH), (renP Z p).2)) hz5 (by decide) rfl sca32 rfl rfl rfl rfl ho5v ?_)
                      intro v6 ho6v hs6v hf6v
                      rw [List.set_set] at ho6v
                      have hH6v : Foot (fun k => k = b ∨ k = g) w5 v6 := hH5.step hf6v (fun k ⟨a, ha, e⟩ => .inl (.inl (by cases ha; exact e.symm)))
                      have hm6v := hm5v.keep hf6v (fun ⟨a, ha, e⟩ => by cases ha; have e : b = g := e; omega)
                      have hon6 := hon5.keep hf6v (fun a ha ⟨c, hc, e⟩ => by cases hc; have e : b = a.block := e; have := hfn a ha; omega)
                      have hod6 := hod5.keep hf6v (fun a ha ⟨c, hc, e⟩ => by cases hc; have e : b = a.block := e; have := hfd a ha; omega)
                      have hox6 := hox5.keep hf6v (fun a ha ⟨c, hc, e⟩ => by cases hc; have e : b = a.block := e; have := hfx a ha; omega)
                      obtain ⟨pz, hpz⟩ : ∃ pz : NdH × Nd, pz = ((⟨⟨on, p.2.names.length, cn⟩, ⟨od, p.2.data.length, cd⟩, ⟨ox, xx.length, cx⟩⟩ : NdH), (renP Z p).2) := ⟨_, rfl⟩
                      rw [← hpz] at ho6v
                      have hzi6 : (zs.set i pz)[i]? = some pz := List.getElem?_set_self (by omega)
                      have hG6 : Foot nob W v6 := hF5.trans_to hH6v (fun k e => .inr (by rcases e with e | e <;> omega))
                      refine Sz.off rfl ?_
                      refine Sz.nil ?_
                      refine At.weak [(5, _), (6, _), (8, _), (9, _), (24, _), (25, _)] ⟨rfl, rfl, rfl, rfl, rfl, rfl, trivial⟩ ?_
                      refine At.go ?_
                      refine Sc.seq ?_
                      refine Sc.region ?_
                      refine Sl.calm (Cm.move rfl) rfl ?_
                      refine Sl.calm (Cm.nilCheck rfl) rfl ?_
                      refine Sl.calm (Cm.field fld34_6 rfl) rfl ?_
                      refine Sl.calm (Cm.ofEq (u := .slice ox xx.length cx) (Cm.ld sca32 rfl ((ho6v.vw encN_cells).rowZ i rfl hzi6 8 _ rfl)) (by rw [hpz]; rfl)) rfl ?_
                      refine Sl.calm (Cm.len sl32 rfl) rfl ?_
                      refine Sl.calm (Cm.move rfl) rfl ?_
                      refine Sl.nil ?_
                      refine At.weak [(5, _), (6, _), (8, _), (9, _), (24, _), (25, _), (82, _), (83, _), (84, _)] ⟨rfl, rfl, rfl, rfl, rfl, rfl, rfl, rfl, rfl, trivial⟩ ?_
                      refine At.go ?_
                      refine Sc.block ?_
                      have hb6 : b < v6.heap.size := ho6v.lt _ rfl
                      have hg6 : g < v6.heap.size := hm6v.obj
                      refine Sc.loop (β := Nat × List (List UInt8 × Hd)) (fun ⟨k, us⟩ => [(5, .slice (some ⟨b, 0, none⟩) ps.length c3), (6, .map (some g)), (8, .pointer (some (adr (some ⟨b, 0, none⟩) (i * 10)))), (24, .int .i64 ps.length), (25, .int .i64 i), (82, .slice ox xx.length cx), (83, .int .i64 xx.length), (84, .int .i64 k)]) (fun ⟨k, us⟩ w => k ≤ xx.length ∧ OwnM 2 encX 54 w.heap ox cx us ∧ XrI v6.heap.size k xx p.2.xs us w ∧ Foot (blk ox) v6 w) (fun ⟨k, us⟩ => xx.length - k) ⟨0, xx⟩ ⟨rfl, rfl, rfl, rfl, rfl, rfl, rfl, rfl, trivial⟩ ⟨Nat.zero_le _, hox6, ⟨rfl, fun _ _ => rfl, fun j _ _ hj => by omega⟩, Foot.refl _ _⟩ ?_
                      rintro ⟨k, us⟩ w8 ⟨hk, hou, hXI, hI8⟩
                      refine Sc.seq ?_
                      refine Sc.region ?_
                      refine Sl.fork (Cm.lss rfl rfl) rfl (fun h85 => ?_) (fun h85 => ?_)
                      ·
                        have hkx : k < xx.length := by omega
                        obtain ⟨x, hx⟩ : ∃ x, xx[k]? = some x := ⟨_, List.getElem?_eq_getElem hkx⟩
                        obtain ⟨y, hy⟩ : ∃ y, p.2.xs[k]? = some y := ⟨_, List.getElem?_eq_getElem (by omega)⟩
                        have hux : us[k]? = some x := by rw [hXI.2.1 k (Nat.le_refl _)]; exact hx
                        have hvu := hou.vw encX_cells
                        have hul := hXI.1
                        have hxy := hxx k x y hx hy
                        have hyl4 : y.2.length ≤ 200 := may_val hpmay hy
                        refine Sl.nil ?_
                        refine At.go ?_
                        refine Sc.seq ?_
                        refine Sc.cond_t rfl ?_
                        refine Sc.skip ?_
                        refine At.go ?_
                        refine Sc.seq ?_
                        refine Sc.block ?_
                        refine Sc.seq ?_
                        refine Sc.region ?_
                        refine Sl.calm (Cm.move rfl) rfl ?_
                        refine Sl.calm (Cm.indexAddr sl32 rfl rfl (by rw [← hul]; exact hvu.non) (by omega)) rfl ?_
                        refine Sl.calm (Cm.ldM (cs := encX x) agg54 rfl (fun j v hj => hvu.rowZ k rfl hux j v hj)) rfl ?_
                        refine Sl.allocC zc54 rfl ?_
                        intro w9 hg9 hs9 hf9
                        obtain ⟨qx, hqx⟩ : ∃ qx, qx = w8.heap.size := ⟨_, rfl⟩
                        rw [← hqx] at hg9 ⊢
                        refine Sl.calm (Cm.assign rfl) rfl ?_
                        refine Sl.storeAll (vs := encX x) agg54 rfl rfl (encX_cells x).2 hg9 rfl ?_
                        intro wA hgA hsA hfA
                        have hf8A : Foot nob w8 wA := hf9.trans_to hfA (fun k e => .inr (by have e : k = qx := e; omega))
                        have hI_A : Foot (blk ox) v6 wA := hI8.step hf8A (fun _ h => h.elim)
                        have hoz8 := ho6v.keep hI8 (fun a ha ⟨c, hc, e⟩ => by cases ha; have := hfx c hc; have e : c.block = b := e; omega)
                        have hozA := hoz8.grow hf8A
                        have houA := hou.grow hf8A
                        have hqv : v6.heap.size ≤ qx := by rw [hqx]; exact hI8.size
                        refine Sl.nil ?_
                        refine At.weak [(5, _), (6, _), (8, _), (11, _), (12, _), (24, _), (25, _), (82, _), (83, _), (84, _), (85, _)] ⟨rfl, rfl, rfl, rfl, rfl, rfl, rfl, rfl, rfl, rfl, rfl, trivial⟩ ?_
                        refine At.go ?_
                        refine Sc.drawZ 10 [3, 6] (fun H => VwM 10 encN H (some ⟨b, 0, none⟩) c3 (zs.set i pz) ∧ H[qx]? = some (.cells (encX x).toArray 54 (0, 0))) [7, 10] [0, 1, 2, 3, 4, 5, 6] (.alt 7 [8, 9] (.alt 10 [] .fin .stop) .stop) mixed (by kernel_rfl) (⟨hozA.vw encN_cells, hgA⟩) ?_
                        refine Sz.calm rfl rfl (Cm.move rfl) rfl ?_
                        refine Sz.calm rfl rfl (Cm.nilCheck rfl) rfl ?_
                        refine Sz.calm rfl rfl (Cm.field fld34_6 rfl) rfl ?_
                        refine Sz.calm rfl rfl (Cm.ofEq (u := .slice ox xx.length cx) (Cm.load sca32 rfl (fun H (hH : VwM 10 encN H (some ⟨b, 0, none⟩) c3 (zs.set i pz) ∧ H[qx]? = some (.cells (encX x).toArray 54 (0, 0))) => hH.1.rowZ i rfl hzi6 8 _ rfl)) (by rw [hpz]; rfl)) rfl ?_
                        refine Sz.calm rfl rfl (Cm.move rfl) rfl ?_
                        refine Sz.calm rfl rfl (Cm.field fld54_1 rfl) rfl ?_
                        refine Sz.calm rfl rfl (Cm.ofEq (u := .slice x.2.a y.2.length x.2.c) (Cm.load sca31 rfl (fun H (hH : VwM 10 encN H (some ⟨b, 0, none⟩) c3 (zs.set i pz) ∧ H[qx]? = some (.cells (encX x).toArray 54 (0, 0))) => cellF hH.2 rfl)) (by rw [← hxy.2.1]; rfl)) rfl ?_
                        refine Sz.alt ?_ ?_
                        ·
                          refine Sz.eff rfl rfl (Sl.call fn50 rfl (cloneB_ok _ _ y.2 _ ((hxy.2.keep (hG6.trans_to hI_A (fun k ⟨a, ha, e⟩ => .inr (by have := hfx a ha; omega))) (fun _ _ => id)).2.1) (by omega)) rfl ?_)
                          rintro _ wB ⟨oB, cB, rfl, hoB, hfB, hfBf⟩
                          have hfBf : Foot nob wA wB := hfBf.undraw
                          have hozB := hozA.grow hfBf
                          have houB := houA.grow hfBf
                          refine Sz.on (by exact ⟨hozB.vw encN_cells, hfBf.obj hgA id⟩) ?_
                          refine Sz.calm rfl rfl (Cm.indexAddr sl32 rfl rfl (by rw [← hul]; exact hvu.non) (by omega)) rfl ?_
                          refine Sz.calm rfl rfl (Cm.field fld54_1 rfl) rfl ?_
                          refine Sz.alt ?_ ?_
                          ·
                            refine Sz.eff rfl rfl (Sl.storeF encX_cells (i := k) (j := 1) (x' := (x.1, (⟨oB, y.2.length, cB⟩ : Hd))) hux (by decide) rfl sca31 rfl rfl rfl rfl houB ?_)
                            intro wC houC hsC hfC
                            have hI_C : Foot (blk ox) v6 wC := (hI_A.step hfBf (fun _ h => h.elim)).trans hfC
                            have hoBC := hoB.keep hfC (fun a ha ⟨c, hc, e⟩ => by have h1 := hfB a ha; have h2 := hou.lt c hc; have h3 := hf8A.size; have e : c.block = a.block := e; have h1 : wA.heap.size ≤ a.block := h1; omega)
                            refine Sz.off rfl ?_
                            refine Sz.nil ?_
                            refine At.block_normal ?_
                            refine At.weak [(5, _), (6, _), (8, _), (11, _), (12, _), (24, _), (25, _), (82, _), (83, _), (84, _), (85, _)] ⟨rfl, rfl, rfl, rfl, rfl, rfl, rfl, rfl, rfl, rfl, rfl, trivial⟩ ?_
                            refine At.go ?_
                            refine Sc.region ?_
                            refine Sl.calm (Cm.add64 rfl rfl (by omega)) rfl ?_
                            refine Sl.calm (Cm.move rfl) rfl ?_
                            refine Sl.nil ?_
                            refine At.again ⟨k + 1, us.set k (x.1, (⟨oB, y.2.length, cB⟩ : Hd))⟩ ⟨rfl, rfl, rfl, rfl, rfl, rfl, rfl, rfl, trivial⟩ ⟨by omega, houC, ⟨by rw [List.length_set]; exact hul, fun j hj => by rw [List.getElem?_set_ne (by omega)]; exact hXI.2.1 j (by omega), fun j u z hj hu hz => ?_⟩, hI_C⟩ (by show xx.length - (k + 1) < xx.length - k; omega)
                            by_cases e : j = k
                            · subst e
                              rw [List.getElem?_set_self (by omega)] at hu
                              cases hu
                              rw [hy] at hz; cases hz
                              exact ⟨hxy.1, rfl, hoBC.vw, fun _ q ⟨a, ha, e⟩ => ⟨by have h1 : wA.heap.size ≤ a.block := hfB a ha; have := hI_A.size; omega, by have := hoBC.lt a ha; omega⟩⟩
                            · rw [List.getElem?_set_ne (fun h => e h.symm)] at hu
                              obtain ⟨h1, h2⟩ := hXI.2.2 j u z (by omega) hu hz
                              have hfAC : Foot (blk ox) w8 wC := ((hf8A.mono (fun _ h => h.elim)).trans (hfBf.mono (fun _ h => h.elim))).trans hfC
                              exact ⟨h1, (h2.keep hfAC (fun q hq ⟨a, ha, e⟩ => by have := hox6.lt a ha; have := hq.1; omega)).mono (fun q hq => ⟨hq.1, Nat.lt_of_lt_of_le hq.2 hfAC.size⟩)⟩
                          exact Sz.stop
                        exact Sz.stop
                      ·
                        have hke : k = xx.length := by omega
                        subst hke
                        refine Sl.nil ?_
                        refine At.go ?_
                        refine Sc.seq ?_
                        refine Sc.cond_f rfl ?_
                        refine Sc.exit ?_
                        refine At.then_exit ?_
                        refine At.then_exit ?_
                        refine At.block_hit ?_
                        refine At.block_normal ?_
                        refine At.go ?_
                        refine Sc.region ?_
                        refine Sl.calm (Cm.add64 rfl rfl (by omega)) rfl ?_
                        refine Sl.calm (Cm.move rfl) rfl ?_
                        refine Sl.nil ?_
                        have hH8 : Foot (fun k => k = b ∨ k = g) w5 w8 := hH6v.step hI8 (fun k ⟨a, ha, e⟩ => .inr (by have := hfx5 a ha; omega))
                        have hI8s := hI8.size
                        have hfoot := hI8
                        have hon8 := hon6.keep hI8 (fun a ha ⟨c, hc, e⟩ => hnx a c ha hc e)
                        have hod8 := hod6.keep hI8 (fun a ha ⟨c, hc, e⟩ => hdx a c ha hc e)
                        have hoz8 := ho6v.keep hI8 (fun a ha ⟨c, hc, e⟩ => by cases ha; have := hfx c hc; have e : c.block = b := e; omega)
                        have hm8 := hm6v.keep hI8 (fun ⟨a, ha, e⟩ => by have := hfx a ha; omega)
                        have hpzv : NdV (fun k => k ≠ b ∧ k ≠ g ∧ k < w8.heap.size) w8.heap pz := by
                          rw [hpz]
                          refine ⟨⟨rfl, hon8.vw, fun _ k ⟨a, ha, e⟩ => ?_⟩, ⟨rfl, hod8.vw, fun _ k ⟨a, ha, e⟩ => ?_⟩, ⟨hxl, us, hou.vw encX_cells, hXI.1.trans hxl, fun _ k ⟨a, ha, e⟩ => ?_, fun j u x hu hx => ?_⟩⟩
                          · have h1 := hfn a ha; have h2 := hon8.lt a ha; exact ⟨by omega, by omega, by omega⟩
                          · have h1 := hfd a ha; have h2 := hod8.lt a ha; exact ⟨by omega, by omega, by omega⟩
                          · have h1 := hfx a ha; have h2 := hou.lt a ha; exact ⟨by omega, by omega, by omega⟩
                          · obtain ⟨h1, h2⟩ := hXI.2.2 j u x (by have := (List.getElem?_eq_some_iff.1 hu).1; have := hXI.1; omega) hu hx
                            exact ⟨h1, h2.mono (fun k hk => ⟨by have := hk.1; omega, by have := hk.1; omega, hk.2⟩)⟩
                        exact At.again ⟨i + 1, zs.set i pz, m2⟩ ⟨rfl, rfl, rfl, rfl, trivial⟩ ⟨by omega, hoz8, (hC.grow hH8).put hp (by rw [hpz]) hpzv, hm8, hMI2, hF5.trans_to hH8 (fun k e => .inr (by rcases e with e | e <;> omega))⟩ (by show ps.length - (i + 1) < ps.length - i; omega)
                    exact Sz.stop
                  exact Sz.stop
                exact Sz.stop
              exact Sz.stop
            exact Sz.stop
          exact Sz.stop
    ·
      have hie : i = ps.length := by omega
      subst hie
      refine Sl.nil ?_
      refine At.go ?_
      refine Sc.seq ?_
      refine Sc.cond_f rfl ?_
      refine Sc.exit ?_
      refine At.then_exit ?_
      refine At.then_exit ?_
      refine At.block_hit ?_
      refine At.go ?_
      refine Sc.seq ?_
      refine Sc.region ?_
      refine Sl.calm (Cm.move rfl) rfl ?_
      refine Sl.calm (Cm.assign rfl) rfl ?_
      refine Sl.calm (Cm.assign rfl) rfl ?_
      refine Sl.nil ?_
      refine At.weak [(2, _), (3, _), (5, _), (6, _), (24, _), (25, _), (26, _)] ⟨rfl, rfl, rfl, rfl, rfl, rfl, rfl, trivial⟩ ?_
      refine At.go ?_
      refine Sc.ret ?_
      refine At.ret2 rfl rfl rfl ?_
      have hle : zs.length = ps.length := by rw [hC.1, hyl]
      refine ⟨_, rfl, some ⟨b, 0, none⟩, c3, zs, by rw [hle, hz], fun h => absurd hz h, fun _ => ?_, ⟨ho5.vw encN_cells, fun q hq => ?_⟩, fun a ha => by cases ha; exact hbW, hF5⟩
      · rw [← hyl, hZ] at hC; rw [hC.eq, hys]; rfl
      · obtain ⟨j, hj⟩ := List.getElem?_of_mem hq
        have hjl := (List.getElem?_eq_some_iff.1 hj).1
        exact (hC.2.2 j q _ (by omega) hj (List.getElem?_eq_getElem (by omega))).2.mono (fun _ _ => trivial)
end Go.Proofs.Ytpnfjfbfgaiolaa
