/- slices.Grow, slices.Concat over rows of bytes. No condition beyond the bounds that each states. -/
import Derived.Test.YtoaplldahbbaiaaCuk
import Derived.Lib.AppendZeros
namespace Go.Proofs.Ytoaplldahbbaiaa
open Go Go.RowKit
set_option linter.unusedVariables false

section
variable {P : Program} {N : Nt} {Q : Exit → Act → World → Prop} {l : SF} {w : World} {ops : Array Oper} {rest : List Oper}
variable {op : Op} {ty : TypeId} {pos : String} {aft : Array Edge} {d : Nat} {v : Value} {CH : Array Obj → Prop}
variable {x y : Operand} {t t' tn : TypeId} {g : Option (Nat × Bool)} {dd : Option Nat}
theorem Cm.cap {e : TypeId} {size bytes : Nat} (ht : SliceT P t e size bytes) {ao : Option Addr} {c n : Nat} (hx : evL l x = some (.slice ao n c)) :
    Cm P N CH l ⟨dd, .call ⟨.builtin .cap, #[x], #[t]⟩, ty, pos, aft, g⟩ (.int .i64 c) := fun a w ha _ => by
  simp [execOp, ha.ev hx, resolve, invoke, builtin, Builtin.cap_, run_underlying ht.und, goInt]
/-- append(nil, make(..)..) -/
theorem Sl.appendZ {α : Type} {enc : α → Value} {e : TypeId} {bytes : Nat} {k kn : IntKind} {n : Int} (ht : SliceT P t e 1 bytes) (htn : P.underlying tn = some (.int kn))
    (hx : evL l x = some (.slice none 0 0)) (hy : evL l y = some (.int k n)) (h0 : 0 < n) (hb : n.toNat * bytes ≤ 140737488355328) (hm : n.toNat ≤ maxLen) (hd : Nat.blt d N.n = true)
    (h : ∀ c w', Own enc e w'.heap (some ⟨w.heap.size, 0, none⟩) c [] → w'.heap.size = w.heap.size + 1 → Foot nob w w' → Sl P N ops Q rest ((d, .slice (some ⟨w.heap.size, 0, none⟩) n.toNat c) :: l) w') :
    Sl P N ops Q (⟨some d, .call ⟨.builtin .append, #[x, y], #[t, tn]⟩, ty, pos, aft, none⟩ :: rest) l w := by
  obtain ⟨i, z, hi, h1, hz, h2, h3⟩ := ht.parts
  obtain ⟨m, rfl⟩ : ∃ m : Nat, n = m := ⟨n.toNat, by omega⟩
  rw [Int.toNat_natCast] at hb hm h
  have hr := Lib.run_append_nil_zeros (P := P) w t tn ty e i z k kn ht.und htn hi h1 m (by omega) (by omega) (by unfold maxLen at hm; omega) (by rw [h3]; omega)
  refine Sl.eff (w' := w.drew.alloc (.cells (Builtin.zeroCells z.cells m ++ Builtin.zeroCells z.cells (grownCap w m 0 e - m)) e)) (fun a ha => ?_) hd (h _ _ (.inr ⟨w.heap.size, _, rfl, heap_alloc_new w.drew _, Nat.zero_le _, grownCap_le_maxLen w _ 0 e hm, ?_, by simp⟩) (by simp) (Foot.drawAlloc _ _ _))
  · simp [execOp, ha.ev hx, ha.ev hy, resolve, invoke, builtin, hr]
  · have := grownCap_ge w m 0 e
    simp only [Array.size_append, size_zeroCells, hz]; omega
end

theorem sgrow_ok (n : Int) (W : World) (hn : 0 ≤ n ∧ n ≤ 1099511627776) :
    Calls Try.prog 101 [.slice none 0 0, .int .i64 n].toArray W (Ret fun v w' => ∃ ao c, v = .slice ao 0 c ∧ Own b8 5 w'.heap ao c [] ∧ Fr W.heap.size ao ∧ Foot nob W w') := by
  refine calls_of_sc 27 [(0, _), (1, _)] Try.func101 rfl rfl rfl (enter_slots ⟨rfl, rfl, trivial⟩) ?_
  refine Sc.seq ?_
  refine Sc.region ?_
  refine Sl.calm (Cm.assign rfl) rfl ?_
  refine Sl.nil ?_
  refine At.go ?_
  refine Sc.seq ?_
  refine Sc.seq ?_
  refine Sc.region ?_
  refine Sl.calm (Cm.move rfl) rfl ?_
  refine Sl.calm (Cm.no (Cm.lss rfl rfl) (by omega)) rfl ?_
  refine Sl.nil ?_
  refine At.weak [(0, _), (1, _), (4, _), (6, _)] ⟨rfl, rfl, rfl, rfl, trivial⟩ ?_
  refine At.go ?_
  refine Sc.cond_f rfl ?_
  refine Sc.skip ?_
  refine At.go ?_
  refine Sc.seq ?_
  refine Sc.seq ?_
  refine Sc.region ?_
  refine Sl.calm (Cm.move rfl) rfl ?_
  refine Sl.calm (Cm.move rfl) rfl ?_
  refine Sl.calm (Cm.cap sl25 rfl) rfl ?_
  refine Sl.calm (Cm.move rfl) rfl ?_
  refine Sl.calm (Cm.len sl25 rfl) rfl ?_
  refine Sl.calm (Cm.sub64 rfl rfl (by omega)) rfl ?_
  refine Sl.calm (Cm.sub64 rfl rfl (by omega)) rfl ?_
  refine Sl.calm (Cm.assign rfl) rfl ?_
  refine Sl.nil ?_
  refine At.weak [(0, _), (1, _), (4, _), (6, _)] ⟨rfl, rfl, rfl, rfl, trivial⟩ ?_
  refine At.go ?_
  refine Sc.seq ?_
  refine Sc.region ?_
  refine Sl.calm (Cm.move rfl) rfl ?_
  refine Sl.fork (Cm.gtr rfl rfl) rfl (fun h16 => ?_) (fun h16 => ?_)
  ·
    refine Sl.nil ?_
    refine At.weak [(0, _), (1, _), (4, _), (6, _), (16, _)] ⟨rfl, rfl, rfl, rfl, rfl, trivial⟩ ?_
    refine At.go ?_
    refine Sc.cond_t rfl ?_
    refine Sc.region ?_
    refine Sl.calm (Cm.move rfl) rfl ?_
    refine Sl.calm (Cm.move rfl) rfl ?_
    refine Sl.calm (Cm.cap sl25 rfl) rfl ?_
    refine Sl.calm (Cm.ofEq (u := .slice none 0 0) (Cm.sliceH sl25 rfl rfl (by omega)) (by rw [cutAo_zero]; rfl)) rfl ?_
    refine Sl.calm (Cm.move rfl) rfl ?_
    refine Sl.appendZ (enc := b8) (k := .i64) (n := n) sl25 ty3 rfl (by show some (Value.int .i64 _) = _; congr 2; omega) (by omega) (by omega) (by unfold maxLen; omega) rfl ?_
    intro c1 w1 ho1 hs1 hf1
    refine Sl.calm (Cm.move rfl) rfl ?_
    refine Sl.calm (Cm.len sl25 rfl) rfl ?_
    refine Sl.calm (Cm.ofEq (u := .slice (some ⟨W.heap.size, 0, none⟩) 0 c1) (Cm.sliceH sl25 rfl rfl (by have := ho1.vw.le; omega)) (by rw [cutAo_zero]; rfl)) rfl ?_
    refine Sl.calm (Cm.assign rfl) rfl ?_
    refine Sl.nil ?_
    refine At.weak [(0, _), (1, _), (4, _), (6, _), (16, _)] ⟨rfl, rfl, rfl, rfl, rfl, trivial⟩ ?_
    refine At.go ?_
    refine Sc.seq ?_
    refine Sc.region ?_
    refine Sl.calm (Cm.move rfl) rfl ?_
    refine Sl.calm (Cm.assign rfl) rfl ?_
    refine Sl.nil ?_
    refine At.weak [(0, _), (1, _), (4, _), (6, _), (16, _)] ⟨rfl, rfl, rfl, rfl, rfl, trivial⟩ ?_
    refine At.go ?_
    refine Sc.ret ?_
    refine At.ret1 rfl rfl ?_
    first
      | exact ⟨_, rfl, none, 0, rfl, Own.nil, Fr.none, Foot.refl _ _⟩
      | exact ⟨_, rfl, _, c1, rfl, ho1, fr_at _, hf1⟩
  ·
    refine Sl.nil ?_
    refine At.weak [(0, _), (1, _), (4, _), (6, _), (16, _)] ⟨rfl, rfl, rfl, rfl, rfl, trivial⟩ ?_
    refine At.go ?_
    refine Sc.cond_f rfl ?_
    refine Sc.skip ?_
    refine At.go ?_
    refine Sc.seq ?_
    refine Sc.region ?_
    refine Sl.calm (Cm.move rfl) rfl ?_
    refine Sl.calm (Cm.assign rfl) rfl ?_
    refine Sl.nil ?_
    refine At.weak [(0, _), (1, _), (4, _), (6, _), (16, _)] ⟨rfl, rfl, rfl, rfl, rfl, trivial⟩ ?_
    refine At.go ?_
    refine Sc.ret ?_
    refine At.ret1 rfl rfl ?_
    first
      | exact ⟨_, rfl, none, 0, rfl, Own.nil, Fr.none, Foot.refl _ _⟩
      | exact ⟨_, rfl, _, c1, rfl, ho1, fr_at _, hf1⟩
theorem tk_sn {α : Type} {M : List (List α)} {k : Nat} (h : k < M.length) : M.take (k + 1) = M.take k ++ [M.getD k []] := by
  rw [List.take_succ_eq_append_getElem h, List.getD, List.getElem?_eq_getElem h]; rfl
theorem flat_take {L : List (List UInt8)} {i : Nat} (h : i < L.length) : (L.take (i + 1)).flatten = (L.take i).flatten ++ L.getD i [] := by
  rw [List.take_succ_eq_append_getElem h, List.flatten_append, List.getD, List.getElem?_eq_getElem h]; simp
theorem flat_le (L : List (List UInt8)) (i : Nat) : (L.take i).flatten.length ≤ L.flatten.length := by
  conv => rhs; rw [← List.take_append_drop i L, List.flatten_append, List.length_append]
  omega
set_option maxHeartbeats 1000000 in
theorem sconcat_ok (D0 : Nat → Prop) (ao : Option Addr) (cap : Nat) (hs : List Hd) (L : List (List UInt8)) (W : World) (hv : Vw hd W.heap ao cap hs) (hr : RowsV D0 W.heap hs L) (hb : L.flatten.length ≤ 1099511627776) :
    Calls Try.prog 71 [.slice ao hs.length cap].toArray W (Ret (CloneP W L.flatten)) := by
  have hl := hv.len63
  have hln := hr.1
  refine calls_of_sc 36 [(0, _)] Try.func71 rfl rfl rfl (enter_slots ⟨rfl, trivial⟩) ?_
  refine Sc.seq ?_
  refine Sc.region ?_
  refine Sl.calm (Cm.assign rfl) rfl ?_
  refine Sl.nil ?_
  refine At.go ?_
  refine Sc.seq ?_
  refine Sc.region ?_
  refine Sl.calm (Cm.assign rfl) rfl ?_
  refine Sl.nil ?_
  refine At.go ?_
  refine Sc.cut (β := Unit) (fun _u => [(0, .slice ao hs.length cap), (3, .int .i64 (L.flatten.length : Nat))]) (fun _u w => w = W) ?_ ?_
  ·
    refine Sc.seq ?_
    refine Sc.region ?_
    refine Sl.calm (Cm.move rfl) rfl ?_
    refine Sl.calm (Cm.len sl114 rfl) rfl ?_
    refine Sl.calm (Cm.move rfl) rfl ?_
    refine Sl.nil ?_
    refine At.go ?_
    refine Sc.block ?_
    refine Sc.loop (β := Nat) (fun i => [(0, .slice ao hs.length cap), (3, .int .i64 ((L.take i).flatten.length : Nat)), (9, .slice ao hs.length cap), (10, .int .i64 hs.length), (11, .int .i64 i)]) (fun i w => i ≤ L.length ∧ w = W) (fun i => L.length - i) 0 ⟨rfl, rfl, rfl, rfl, rfl, trivial⟩ ⟨Nat.zero_le _, rfl⟩ ?_
    rintro i wq ⟨hi, hwq⟩
    subst wq
    refine Sc.seq ?_
    refine Sc.region ?_
    refine Sl.fork (Cm.lss rfl rfl) rfl (fun h12 => ?_) (fun h12 => ?_)
    ·
      have hiL : i < L.length := by omega
      obtain ⟨x, hx, hxn, hxv, hxD⟩ := hr.at hiL
      have hcell : cellH W.heap (adr ao (i : Int).toNat) = some (hd x) := by rw [Int.toNat_natCast]; exact hv.get i x hx
      have hhd : hd x = .slice x.a (L.getD i []).length x.c := by unfold hd; rw [hxn]
      rw [hhd] at hcell
      have hfl := flat_take hiL
      have hfb := flat_le L (i + 1)
      have hfll : (L.take (i + 1)).flatten.length = (L.take i).flatten.length + (L.getD i []).length := by rw [hfl, List.length_append]
      refine Sl.nil ?_
      refine At.go ?_
      refine Sc.seq ?_
      refine Sc.cond_t rfl ?_
      refine Sc.skip ?_
      refine At.go ?_
      refine Sc.seq ?_
      refine Sc.block ?_
      refine Sc.seq ?_
      refine Sc.region ?_
      refine Sl.calm (Cm.indexAddr1 sl114 rfl rfl hv.non (by omega)) rfl ?_
      refine Sl.calm (Cm.ld sca25 rfl hcell) rfl ?_
      refine Sl.calm (Cm.assign rfl) rfl ?_
      refine Sl.nil ?_
      refine At.weak [(0, _), (3, _), (5, _), (9, _), (10, _), (11, _), (12, _)] ⟨rfl, rfl, rfl, rfl, rfl, rfl, rfl, trivial⟩ ?_
      refine At.go ?_
      refine Sc.seq ?_
      refine Sc.region ?_
      refine Sl.calm (Cm.move rfl) rfl ?_
      refine Sl.calm (Cm.move rfl) rfl ?_
      refine Sl.calm (Cm.len sl25 rfl) rfl ?_
      refine Sl.calm (Cm.add64 rfl rfl (by omega)) rfl ?_
      refine Sl.calm (Cm.assign rfl) rfl ?_
      refine Sl.nil ?_
      refine At.weak [(0, _), (3, _), (5, _), (9, _), (10, _), (11, _), (12, _)] ⟨rfl, rfl, rfl, rfl, rfl, rfl, rfl, trivial⟩ ?_
      refine At.go ?_
      refine Sc.seq ?_
      refine Sc.region ?_
      refine Sl.calm (Cm.move rfl) rfl ?_
      refine Sl.calm (Cm.no (Cm.lss rfl rfl) (by omega)) rfl ?_
      refine Sl.nil ?_
      refine At.weak [(0, _), (3, _), (5, _), (9, _), (10, _), (11, _), (12, _), (20, _)] ⟨rfl, rfl, rfl, rfl, rfl, rfl, rfl, rfl, trivial⟩ ?_
      refine At.go ?_
      refine Sc.cond_f rfl ?_
      refine Sc.skip ?_
      refine At.block_normal ?_
      refine At.go ?_
      refine Sc.region ?_
      refine Sl.calm (Cm.add64 rfl rfl (by omega)) rfl ?_
      refine Sl.calm (Cm.move rfl) rfl ?_
      refine Sl.nil ?_
      rw [show ((L.take i).flatten.length : Int) + ((L.getD i []).length : Nat) = ((L.take (i + 1)).flatten.length : Nat) by omega]
      exact At.again (i + 1) ⟨rfl, rfl, rfl, rfl, rfl, trivial⟩ ⟨by omega, rfl⟩ (by show L.length - (i + 1) < L.length - i; omega)
    ·
      refine Sl.nil ?_
      refine At.go ?_
      refine Sc.seq ?_
      refine Sc.cond_f rfl ?_
      refine Sc.exit ?_
      refine At.then_exit ?_
      refine At.then_exit ?_
      refine At.block_hit ?_
      have hiL : i = L.length := by omega
      subst hiL
      rw [List.take_length]
      exact At.cut () ⟨rfl, rfl, trivial⟩ rfl
  ·
    rintro _ wq hwq
    subst wq
    refine Sc.seq ?_
    refine Sc.region ?_
    refine Sl.calm (Cm.move rfl) rfl ?_
    refine Sl.call fn101 rfl (sgrow_ok _ W (by omega)) rfl ?_
    rintro _ w1 ⟨o1, c1, rfl, ho1, hfr1, hf1⟩
    refine Sl.calm (Cm.assign rfl) rfl ?_
    refine Sl.nil ?_
    refine At.weak [(0, _), (3, _), (6, _)] ⟨rfl, rfl, rfl, trivial⟩ ?_
    refine At.go ?_
    refine Sc.seq ?_
    refine Sc.seq ?_
    refine Sc.region ?_
    refine Sl.calm (Cm.move rfl) rfl ?_
    refine Sl.calm (Cm.len sl114 rfl) rfl ?_
    refine Sl.calm (Cm.move rfl) rfl ?_
    refine Sl.nil ?_
    refine At.go ?_
    refine Sc.block ?_
    refine Sc.loop (β := Nat × (Option Addr × Nat)) (fun ⟨i, ⟨o2, c2⟩⟩ => [(6, .slice o2 (L.take i).flatten.length c2), (25, .slice ao hs.length cap), (26, .int .i64 hs.length), (27, .int .i64 i)]) (fun ⟨i, ⟨o2, c2⟩⟩ w => i ≤ L.length ∧ Own b8 5 w.heap o2 c2 (L.take i).flatten ∧ Fr W.heap.size o2 ∧ Foot nob W w) (fun ⟨i, ⟨o2, c2⟩⟩ => L.length - i) ⟨0, ⟨o1, c1⟩⟩ ⟨rfl, rfl, rfl, rfl, trivial⟩ ⟨Nat.zero_le _, by simpa using ho1, hfr1, hf1⟩ ?_
    rintro ⟨i, ⟨o2, c2⟩⟩ w2 ⟨hi, ho2, hfr2, hF2⟩
    refine Sc.seq ?_
    refine Sc.region ?_
    refine Sl.fork (Cm.lss rfl rfl) rfl (fun h28 => ?_) (fun h28 => ?_)
    ·
      have hiL : i < L.length := by omega
      obtain ⟨x, hx, hxn, hxv, hxD⟩ := hr.at hiL
      have hcell : cellH w2.heap (adr ao (i : Int).toNat) = some (hd x) := by rw [Int.toNat_natCast]; exact (hv.grow hF2).get i x hx
      have hhd : hd x = .slice x.a (L.getD i []).length x.c := by unfold hd; rw [hxn]
      rw [hhd] at hcell
      have hfl := flat_take hiL
      have hfb := flat_le L (i + 1)
      have hfll : (L.take (i + 1)).flatten.length = (L.take i).flatten.length + (L.getD i []).length := by rw [hfl, List.length_append]
      refine Sl.nil ?_
      refine At.go ?_
      refine Sc.seq ?_
      refine Sc.cond_t rfl ?_
      refine Sc.skip ?_
      refine At.go ?_
      refine Sc.seq ?_
      refine Sc.block ?_
      refine Sc.seq ?_
      refine Sc.region ?_
      refine Sl.calm (Cm.indexAddr1 sl114 rfl rfl hv.non (by omega)) rfl ?_
      refine Sl.calm (Cm.ld sca25 rfl hcell) rfl ?_
      refine Sl.calm (Cm.assign rfl) rfl ?_
      refine Sl.nil ?_
      refine At.weak [(6, _), (8, _), (25, _), (26, _), (27, _), (28, _)] ⟨rfl, rfl, rfl, rfl, rfl, rfl, trivial⟩ ?_
      refine At.go ?_
      refine Sc.region ?_
      refine Sl.calm (Cm.move rfl) rfl ?_
      refine Sl.calm (Cm.move rfl) rfl ?_
      refine Sl.append b8_one sl25 rfl rfl ho2 (hxv.grow hF2) (by omega) (by unfold maxLen; omega) rfl ?_
      intro o3 c3 w3 ho3 hf3 hr3 hn3
      rw [← hfl] at ho3 ⊢
      refine Sl.calm (Cm.assign rfl) rfl ?_
      refine Sl.nil ?_
      refine At.block_normal ?_
      refine At.weak [(6, _), (8, _), (25, _), (26, _), (27, _), (28, _)] ⟨rfl, rfl, rfl, rfl, rfl, rfl, trivial⟩ ?_
      refine At.go ?_
      refine Sc.region ?_
      refine Sl.calm (Cm.add64 rfl rfl (by omega)) rfl ?_
      refine Sl.calm (Cm.move rfl) rfl ?_
      refine Sl.nil ?_
      exact At.again ⟨i + 1, ⟨o3, c3⟩⟩ ⟨rfl, rfl, rfl, rfl, trivial⟩ ⟨by omega, ho3, fr_next hfr2 hr3 hF2.size, hF2.trans_to hf3 hfr2.step⟩ (by show L.length - (i + 1) < L.length - i; omega)
    ·
      refine Sl.nil ?_
      refine At.go ?_
      refine Sc.seq ?_
      refine Sc.cond_f rfl ?_
      refine Sc.exit ?_
      refine At.then_exit ?_
      refine At.then_exit ?_
      refine At.block_hit ?_
      refine At.go ?_
      refine Sc.seq ?_
      refine Sc.region ?_
      refine Sl.calm (Cm.move rfl) rfl ?_
      refine Sl.calm (Cm.assign rfl) rfl ?_
      refine Sl.nil ?_
      refine At.weak [(2, _), (6, _), (25, _), (26, _), (27, _), (28, _)] ⟨rfl, rfl, rfl, rfl, rfl, rfl, trivial⟩ ?_
      refine At.go ?_
      refine Sc.ret ?_
      refine At.ret1 rfl rfl ?_
      have hiL : i = L.length := by omega
      subst hiL
      rw [List.take_length] at ho2 ⊢
      exact ⟨_, rfl, o2, c2, rfl, ho2, hfr2, hF2⟩
end Go.Proofs.Ytoaplldahbbaiaa
