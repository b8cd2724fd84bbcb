/- inode: Read, the program's. No condition beyond the bounds that each states. -/
import Derived.Test.YtoaplldahbbaiaaIrPk
import Derived.Test.YtoaplldahbbaiaaKD
import Derived.Test.YtoaplldahbbaiaaGdk
namespace Go.Proofs.Ytoaplldahbbaiaa
open Go Go.RowKit
set_option linter.unusedVariables false

theorem u8_i64 (c : UInt8) : IntKind.i64.wrap ((c.toNat : Nat) : Int) = (c.toNat : Int) := wrap64_id (by have := UInt8.toNat_lt c; omega)
theorem MrO.cell0 {A D : Nat → Prop} {W w w' : World} {q g p : Nat} {im : List UInt8} {fr to : Int} (h : MrO D w.heap g p im fr to) (hf : Foot (fun k => k = q) w w') (hq : q = W.heap.size) (hA : ∀ k, A k → k < W.heap.size) (hp : ¬ A p) (hpl : p < W.heap.size)
    (hD : ∀ k, D k → A k ∨ (W.heap.size < k ∧ k < w.heap.size)) : MrO (fun k => A k ∨ (W.heap.size < k ∧ k < w'.heap.size)) w'.heap g p im fr to := by
  have hz := hf.size
  refine (h.keep hf (fun k hk e => ?_) (fun e => ?_)).mono (fun k hk => ?_) (fun e => ?_)
  · have e : k = q := e
    rcases hD k hk with h3 | h3
    · have := hA k h3; omega
    · have := h3.1; omega
  · have e : p = q := e
    omega
  · exact (hD k hk).imp id (fun h3 => ⟨h3.1, by omega⟩)
  · rcases e with e | e
    · exact hp e
    · omega
theorem MrO.cell {A D : Nat → Prop} {W w w' : World} {q g p : Nat} {im : List UInt8} {fr to : Int} (h : MrO D w.heap g p im fr to) (hf : Foot (fun k => k = q) w w') (hq : q = W.heap.size) (hA : ∀ k, A k → k < W.heap.size) (hp : ¬ A p) (hpl : p < W.heap.size)
    (hD : ∀ k, D k → A k ∨ (W.heap.size < k ∧ k < w.heap.size)) : MrO (Nx A W w') w'.heap g p im fr to :=
  (h.cell0 hf hq hA hp hpl hD).mono (fun k hk => hk.imp id (fun h => ⟨by omega, h.2⟩)) (fun e => e.elim hp (fun e => by omega))
theorem tk_zero {b : List UInt8} (h : tkE b = 0) : TkOk b := Classical.byContradiction fun h' => by rw [(tk_no h').2.2] at h; cases h
set_option maxHeartbeats 4000000 in
theorem iread_ok (A : Nat → Prop) (g p : Nat) (im : List UInt8) (fr to ref : Int) (W : World) (hM : MrO A W.heap g p im fr to) (hA : ∀ k, A k → k < W.heap.size) (him : im.length ≤ 1099511627776) (href : -9223372036854775808 ≤ ref ∧ ref ≤ 9223372036854775807) :
    Calls Try.prog 35 [.pointer (some ⟨g, 0, none⟩), .int .i64 ref].toArray W (Ret fun v w' =>
      v = .tuple #[.agg (inoC (inoR im fr to ref).1.1 (inoR im fr to ref).1.2).toArray, .int .i64 (inoR im fr to ref).2.1, .int .i64 (inoR im fr to ref).2.2] ∧ MrO (Nx A W w') w'.heap g p im fr to ∧ Foot A W w') := by
  obtain ⟨ht, hp⟩ := hM.tab
  have hpl : p < W.heap.size := (Array.getElem?_eq_some_iff.1 ht).1
  obtain ⟨q, hq⟩ : ∃ q, q = W.heap.size := ⟨_, rfl⟩
  have hAq : ¬ A q := fun h => by have := hA _ h; omega
  obtain ⟨R, hR⟩ : ∃ R, R = readS im fr to ref 14 := ⟨_, rfl⟩
  obtain ⟨S, hS⟩ : ∃ S, S = readS im fr to ref (longI R.1) := ⟨_, rfl⟩
  obtain ⟨n1, n2⟩ := longI_b R.1
  refine calls_of_sc 71 [(0, _), (1, _)] Try.func35 rfl rfl rfl (enter_slots ⟨rfl, rfl, trivial⟩) ?_
  refine Sc.seq ?_
  refine Sc.region ?_
  refine Sl.allocC zc33 rfl ?_
  intro w1 hg1 hs1 hf1
  rw [← hq] at hg1 ⊢
  have hg1 : w1.heap[q]? = some (.cells (inoC (fun _ => 0) []).toArray 33 (0, 0)) := hg1
  refine Sl.calm (Cm.assign rfl) rfl ?_
  refine Sl.calm (Cm.assign rfl) rfl ?_
  refine Sl.nil ?_
  refine At.go ?_
  refine Sc.seq ?_
  refine Sc.region ?_
  refine Sl.calm (Cm.move rfl) rfl ?_
  refine Sl.calm (Cm.move rfl) rfl ?_
  refine Sl.call fn61 rfl (mreadA_ok A g p im fr to ref 14 w1 (hM.grow hf1) him href (by decide)) rfl ?_
  rw [← hR]
  rintro _ w2 ⟨o2, c2, rfl, ho2, hfr2, hM2, hf2⟩
  have hg2 := hf2.obj hg1 hAq
  have hz2 := hf2.size
  have hF2 : Foot A W w2 := hf1.any.trans hf2
  refine Sl.calm (Cm.move rfl) rfl ?_
  refine Sl.calm (Cm.extract rfl rfl) rfl ?_
  refine Sl.calm (Cm.extract rfl rfl) rfl ?_
  refine Sl.calm (Cm.extract rfl rfl) rfl ?_
  refine Sl.calm (Cm.assign rfl) rfl ?_
  refine Sl.calm (Cm.assign rfl) rfl ?_
  refine Sl.calm (Cm.assign rfl) rfl ?_
  refine Sl.nil ?_
  refine At.weak [(0, _), (1, _), (4, _), (5, _), (6, _), (7, _)] ⟨rfl, rfl, rfl, rfl, rfl, rfl, trivial⟩ ?_
  refine At.go ?_
  refine Sc.seq ?_
  refine Sc.seq ?_
  refine Sc.region ?_
  refine Sl.calm (Cm.move rfl) rfl ?_
  refine Sl.fork (Cm.neq rfl rfl) rfl (fun h20 => ?_) (fun h20 => ?_)
  ·
    have e := inoR_1 (im := im) (fr := fr) (to := to) (ref := ref) (by rw [← hR]; exact h20)
    refine Sl.nil ?_
    refine At.weak [(0, _), (1, _), (4, _), (5, _), (6, _), (7, _), (20, _)] ⟨rfl, rfl, rfl, rfl, rfl, rfl, rfl, trivial⟩ ?_
    refine At.go ?_
    refine Sc.cond_t rfl ?_
    refine Sc.seq ?_
    refine Sc.region ?_
    refine Sl.calm (Cm.ldM (cs := inoC (fun _ => 0) []) agg33 rfl (fun j v hj => cellF hg2 hj)) rfl ?_
    refine Sl.storeAll (vs := inoC (fun _ => 0) []) agg33 rfl rfl (by intro v hv; exact inoC_one _ _ v hv) hg2 rfl ?_
    intro w20 hg20 hs20 hf20
    have hMx : MrO (Nx A W w20) w20.heap g p im fr to := hM2.cell hf20 hq hA hp hpl (fun k hk => hk.1.imp id (fun h => ⟨by omega, h.2⟩))
    have hFx : Foot A W w20 := hF2.trans_to hf20 (fun k hk => .inr (by have h : k = q := hk; omega))
    refine Sl.calm (Cm.assign rfl) rfl ?_
    refine Sl.calm (Cm.assign rfl) rfl ?_
    refine Sl.nil ?_
    refine At.weak [(0, _), (1, _), (4, _), (5, _), (6, _), (7, _), (20, _)] ⟨rfl, rfl, rfl, rfl, rfl, rfl, rfl, trivial⟩ ?_
    refine At.go ?_
    refine Sc.ret ?_
    refine At.then_ret ?_
    refine At.retC3 (cs := inoC (fun _ => 0) []) rfl agg33 rfl rfl rfl (fun j v hj => cellF hg20 hj) ?_
    exact ⟨_, rfl, by rw [e], hMx, hFx⟩
  ·
    have e20 : R.2.2 = 0 := Decidable.not_not.1 h20
    have hlR : (R.1.length : Int) = 14 := by rw [hR] at e20 ⊢; exact (readS_ok e20).2.2.2.1
    refine Sl.nil ?_
    refine At.weak [(0, _), (1, _), (4, _), (5, _), (6, _), (7, _), (20, _)] ⟨rfl, rfl, rfl, rfl, rfl, rfl, rfl, trivial⟩ ?_
    refine At.go ?_
    refine Sc.cond_f rfl ?_
    refine Sc.skip ?_
    refine At.go ?_
    refine Sc.seq ?_
    refine Sc.region ?_
    refine Sl.calm (Cm.assign rfl) rfl ?_
    refine Sl.nil ?_
    refine At.go ?_
    refine Sc.seq ?_
    refine Sc.seq ?_
    refine Sc.region ?_
    refine Sl.calm (Cm.move rfl) rfl ?_
    refine Sl.calm (Cm.indexAddr1 sl25 rfl rfl ho2.vw.non (by omega)) rfl ?_
    refine Sl.calm (Cm.ld sca5 rfl (ho2.vw.gz 0 0 rfl (by omega))) rfl ?_
    refine Sl.calm (Cm.convI_in (n := ((R.1.getD 0 0).toNat : Int)) is5 ty3 rfl (u8_i64 _)) rfl ?_
    refine Sl.call fn53 rfl (fields_ok ((R.1.getD 0 0).toNat : Int) w2) rfl ?_
    rintro _ w3 ⟨ao3, c3, rfl, ho3, hfr3, hf3⟩
    have hz3 := hf3.size
    obtain ⟨L, hL⟩ : ∃ L, L = fldL ((R.1.getD 0 0).toNat : Int) := ⟨_, rfl⟩
    rw [← hL] at ho3 ⊢
    have hl3 := ho3.vw fdV_cells
    have hsub : ∀ x ∈ L, x ∈ recL ((R.1.getD 0 0).toNat : Int) := fun x hx => by unfold recL; rw [List.mem_append, ← hL]; exact .inr hx
    have hLlen : L.length ≤ 9 := by have := recL_len ((R.1.getD 0 0).toNat : Int); unfold recL at this; rw [List.length_append, ← hL] at this; omega
    refine Sl.calm (Cm.len sl94 rfl) rfl ?_
    refine Sl.calm (Cm.move rfl) rfl ?_
    refine Sl.nil ?_
    refine At.weak [(0, _), (1, _), (4, _), (5, _), (6, _), (7, _), (9, _), (20, _), (26, _), (27, _), (28, _)] ⟨rfl, rfl, rfl, rfl, rfl, rfl, rfl, rfl, rfl, rfl, rfl, trivial⟩ ?_
    refine At.go ?_
    refine Sc.block ?_
    refine Sc.loop (β := Nat) (fun k => [(0, .pointer (some ⟨g, 0, none⟩)), (1, .int .i64 ref), (4, .pointer (some ⟨q, 0, none⟩)), (7, .slice o2 R.1.length c2), (9, .int .i64 (13 + sumF (L.take k))), (26, .slice ao3 L.length c3), (27, .int .i64 L.length), (28, .int .i64 k)]) (fun k w => k ≤ L.length ∧ VwM 3 fdV w.heap ao3 c3 L ∧ Foot nob w3 w) (fun k => L.length - k) 0 ⟨rfl, rfl, rfl, rfl, rfl, rfl, rfl, rfl, trivial⟩ ⟨Nat.zero_le _, hl3, Foot.refl _ _⟩ ?_
    rintro k w4 ⟨hk, hL4, hf34⟩
    have hz4 := hf34.size
    refine Sc.seq ?_
    refine Sc.region ?_
    refine Sl.fork (Cm.lss rfl rfl) rfl (fun h29 => ?_) (fun h29 => ?_)
    ·
      refine Sl.nil ?_
      refine At.go ?_
      refine Sc.seq ?_
      refine Sc.cond_t rfl ?_
      refine Sc.skip ?_
      refine At.go ?_
      refine Sc.seq ?_
      refine Sc.block ?_
      refine Sc.seq ?_
      refine Sc.region ?_
      have hkL : k < L.length := by omega
      have hrow := fd_row hL4 (k := k) rfl hkL
      have hmem : L.getD k fd0 ∈ L := by rw [List.getD, List.getElem?_eq_getElem hkL]; exact List.getElem_mem _
      obtain ⟨_, hb1, hb4, _, _⟩ := recL_off (hsub _ hmem)
      obtain ⟨x, hx⟩ : ∃ x, x = L.getD k fd0 := ⟨_, rfl⟩
      rw [← hx] at hrow hb1 hb4
      obtain ⟨s1, s2⟩ := sumF_nn (L.take k) (fun y hy => by have := recL_off (hsub _ (List.mem_of_mem_take hy)); omega)
      rw [List.length_take] at s2
      refine Sl.calm (Cm.indexAddr sl94 rfl rfl hL4.non (by omega)) rfl ?_
      refine Sl.calm (Cm.ldM (cs := fdV x) agg99 rfl hrow) rfl ?_
      refine Sl.allocC zc99 rfl ?_
      intro w5 hg5 hs5 hf5
      refine Sl.storeAll (vs := fdV x) agg99 rfl rfl (by simp [fdV, Value.oneCell']) hg5 rfl ?_
      intro w6 hg6 hs6 hf6
      have hf46 : Foot nob w4 w6 := hf5.trans_to hf6 (fun k hk => .inr (by have : k = w4.heap.size := hk; omega))
      have hz6 := hf46.size
      refine Sl.nil ?_
      refine At.weak [(0, _), (1, _), (4, _), (7, _), (9, _), (11, _), (26, _), (27, _), (28, _), (29, _)] ⟨rfl, rfl, rfl, rfl, rfl, rfl, rfl, rfl, rfl, rfl, trivial⟩ ?_
      refine At.go ?_
      refine Sc.region ?_
      refine Sl.calm (Cm.move rfl) rfl ?_
      refine Sl.calm (Cm.field fld99_1 rfl) rfl ?_
      refine Sl.calm (Cm.ld sca3 rfl (cellF hg6 rfl)) rfl ?_
      refine Sl.calm (Cm.add64 rfl rfl (by omega)) rfl ?_
      refine Sl.calm (Cm.assign rfl) rfl ?_
      refine Sl.nil ?_
      refine At.block_normal ?_
      refine At.weak [(0, _), (1, _), (4, _), (7, _), (9, _), (11, _), (26, _), (27, _), (28, _), (29, _)] ⟨rfl, rfl, rfl, rfl, rfl, rfl, rfl, rfl, rfl, rfl, trivial⟩ ?_
      refine At.go ?_
      refine Sc.region ?_
      refine Sl.calm (Cm.add64 rfl rfl (by omega)) rfl ?_
      refine Sl.calm (Cm.move rfl) rfl ?_
      refine Sl.nil ?_
      refine At.again (k + 1) ⟨rfl, rfl, rfl, rfl, ?_, rfl, rfl, rfl, trivial⟩ ⟨by omega, hL4.grow hf46, hf34.trans hf46⟩ (by show L.length - (k + 1) < L.length - k; omega)
      show lk _ 9 = _
      rw [fd_off hkL, sumF_snoc, ← hx]
      exact congrArg (fun z => some (Value.int .i64 z)) (Int.add_assoc _ _ _)
    ·
      refine Sl.nil ?_
      refine At.go ?_
      refine Sc.seq ?_
      refine Sc.cond_f rfl ?_
      refine Sc.exit ?_
      refine At.then_exit ?_
      refine At.then_exit ?_
      refine At.block_hit ?_
      refine At.go ?_
      refine Sc.cut (β := Unit) (fun _u => [(0, .pointer (some ⟨g, 0, none⟩)), (1, .int .i64 ref), (4, .pointer (some ⟨q, 0, none⟩)), (9, .int .i64 (longI R.1))]) (fun _u w => MrO (fun k => Nx A w1 w2 k ∧ ¬ blk o2 k) w.heap g p im fr to ∧ w.heap[q]? = some (.cells (inoC (fun _ => 0) []).toArray 33 (0, 0)) ∧ Foot A W w ∧ w2.heap.size ≤ w.heap.size) ?_ ?_
      ·
        refine Sc.seq ?_
        refine Sc.region ?_
        refine Sl.calm (Cm.move rfl) rfl ?_
        have hkk : k = L.length := by omega
        subst hkk
        rw [List.take_length] at *
        refine Sl.calm (Cm.indexAddr1 sl25 rfl rfl (ho2.grow (hf3.trans hf34)).vw.non (by omega)) rfl ?_
        refine Sl.calm (Cm.ld sca5 rfl ((ho2.grow (hf3.trans hf34)).vw.gz 0 0 rfl (by omega))) rfl ?_
        refine Sl.calm (Cm.convI_in (n := ((R.1.getD 0 0).toNat : Int)) is5 ty3 rfl (u8_i64 _)) rfl ?_
        refine Sl.fork (Cm.eql rfl rfl) rfl (fun h41 => ?_) (fun h41 => ?_)
        ·
          have en : longI R.1 = 13 + sumF L + (1 + ((R.1.getD 13 0).toNat : Int)) := by rw [longI_sum, if_pos h41, ← hL]
          refine Sl.nil ?_
          refine At.weak [(0, _), (1, _), (4, _), (7, _), (9, _), (26, _), (27, _), (28, _), (29, _), (41, _)] ⟨rfl, rfl, rfl, rfl, rfl, rfl, rfl, rfl, rfl, rfl, trivial⟩ ?_
          refine At.go ?_
          refine Sc.cond_t rfl ?_
          refine Sc.region ?_
          refine Sl.calm (Cm.move rfl) rfl ?_
          refine Sl.calm (Cm.move rfl) rfl ?_
          refine Sl.calm (Cm.indexAddr1 sl25 rfl rfl (ho2.grow (hf3.trans hf34)).vw.non (by omega)) rfl ?_
          refine Sl.calm (Cm.ld sca5 rfl ((ho2.grow (hf3.trans hf34)).vw.gz 0 13 rfl (by omega))) rfl ?_
          refine Sl.calm (Cm.convI_in (n := ((R.1.getD 13 0).toNat : Int)) is5 ty3 rfl (u8_i64 _)) rfl ?_
          have hu13 := UInt8.toNat_lt (R.1.getD 13 0)
          obtain ⟨u1, u2⟩ := sumF_nn L (fun y hy => by have := recL_off (hsub _ hy); omega)
          refine Sl.calm (Cm.add64 rfl rfl (by omega)) rfl ?_
          refine Sl.calm (Cm.add64 rfl rfl (by omega)) rfl ?_
          refine Sl.calm (Cm.assign rfl) rfl ?_
          refine Sl.nil ?_
          refine At.cut () ⟨rfl, rfl, rfl, ?_, trivial⟩ ⟨hM2.grow (hf3.trans hf34), (hf3.trans hf34).obj hg2 id, hF2.trans (hf3.trans hf34).any, by omega⟩
          rw [en]
          first | rfl | exact congrArg (fun z => some (Value.int .i64 z)) (by omega)
        ·
          have en : longI R.1 = 13 + sumF L := by rw [longI_sum, if_neg h41, ← hL]; omega
          refine Sl.nil ?_
          refine At.weak [(0, _), (1, _), (4, _), (7, _), (9, _), (26, _), (27, _), (28, _), (29, _), (41, _)] ⟨rfl, rfl, rfl, rfl, rfl, rfl, rfl, rfl, rfl, rfl, trivial⟩ ?_
          refine At.go ?_
          refine Sc.cond_f rfl ?_
          refine Sc.skip ?_
          refine At.cut () ⟨rfl, rfl, rfl, ?_, trivial⟩ ⟨hM2.grow (hf3.trans hf34), (hf3.trans hf34).obj hg2 id, hF2.trans (hf3.trans hf34).any, by omega⟩
          rw [en]
          first | rfl | exact congrArg (fun z => some (Value.int .i64 z)) (by omega)
      ·
        rintro _ w7 ⟨hM7, hq7, hF7, hz7⟩
        refine Sc.seq ?_
        refine Sc.region ?_
        refine Sl.calm (Cm.move rfl) rfl ?_
        refine Sl.calm (Cm.move rfl) rfl ?_
        refine Sl.calm (Cm.move rfl) rfl ?_
        refine Sl.call fn61 rfl (mreadA_ok _ g p im fr to ref (longI R.1) w7 hM7 him href (by omega)) rfl ?_
        rw [← hS]
        rintro _ w8 ⟨o8, c8, rfl, ho8, hfr8, hM8, hf8⟩
        have hz8 := hf8.size
        have hq8 := hf8.obj hq7 (fun h => h.1.elim hAq (fun h => by have := h.1; omega))
        have hF8 : Foot A W w8 := hF7.trans_to hf8 (fun k hk => hk.1.imp id (fun h => by have := h.1; omega))
        refine Sl.calm (Cm.move rfl) rfl ?_
        refine Sl.calm (Cm.extract rfl rfl) rfl ?_
        refine Sl.calm (Cm.extract rfl rfl) rfl ?_
        refine Sl.calm (Cm.extract rfl rfl) rfl ?_
        refine Sl.calm (Cm.assign rfl) rfl ?_
        refine Sl.calm (Cm.assign rfl) rfl ?_
        refine Sl.calm (Cm.assign rfl) rfl ?_
        refine Sl.nil ?_
        refine At.weak [(0, _), (1, _), (4, _), (5, _), (6, _), (7, _), (9, _)] ⟨rfl, rfl, rfl, rfl, rfl, rfl, rfl, trivial⟩ ?_
        refine At.go ?_
        refine Sc.seq ?_
        refine Sc.seq ?_
        refine Sc.region ?_
        refine Sl.calm (Cm.move rfl) rfl ?_
        refine Sl.fork (Cm.neq rfl rfl) rfl (fun h58 => ?_) (fun h58 => ?_)
        ·
          have e := inoR_2 (im := im) (fr := fr) (to := to) (ref := ref) (by rw [← hR]; exact e20) (by rw [← hR, ← hS]; exact h58)
          refine Sl.nil ?_
          refine At.weak [(0, _), (1, _), (4, _), (5, _), (6, _), (7, _), (9, _), (58, _)] ⟨rfl, rfl, rfl, rfl, rfl, rfl, rfl, rfl, trivial⟩ ?_
          refine At.go ?_
          refine Sc.cond_t rfl ?_
          refine Sc.seq ?_
          refine Sc.region ?_
          refine Sl.calm (Cm.ldM (cs := inoC (fun _ => 0) []) agg33 rfl (fun j v hj => cellF hq8 hj)) rfl ?_
          refine Sl.storeAll (vs := inoC (fun _ => 0) []) agg33 rfl rfl (by intro v hv; exact inoC_one _ _ v hv) hq8 rfl ?_
          intro w20 hg20 hs20 hf20
          have hMx : MrO (Nx A W w20) w20.heap g p im fr to := hM8.cell hf20 hq hA hp hpl (fun k hk => hk.1.elim (fun h => h.1.imp id (fun h => ⟨by omega, by omega⟩)) (fun h => .inr ⟨by omega, h.2⟩))
          have hFx : Foot A W w20 := hF8.trans_to hf20 (fun k hk => .inr (by have h : k = q := hk; omega))
          refine Sl.calm (Cm.assign rfl) rfl ?_
          refine Sl.calm (Cm.assign rfl) rfl ?_
          refine Sl.nil ?_
          refine At.weak [(0, _), (1, _), (4, _), (5, _), (6, _), (7, _), (9, _), (58, _)] ⟨rfl, rfl, rfl, rfl, rfl, rfl, rfl, rfl, trivial⟩ ?_
          refine At.go ?_
          refine Sc.ret ?_
          refine At.then_ret ?_
          refine At.retC3 (cs := inoC (fun _ => 0) []) rfl agg33 rfl rfl rfl (fun j v hj => cellF hg20 hj) ?_
          exact ⟨_, rfl, by rw [e], hMx, hFx⟩
        ·
          have e58 : S.2.2 = 0 := Decidable.not_not.1 h58
          have hlS : (S.1.length : Int) = longI R.1 := by rw [hS] at e58 ⊢; exact (readS_ok e58).2.2.2.1
          refine Sl.nil ?_
          refine At.weak [(0, _), (1, _), (4, _), (5, _), (6, _), (7, _), (9, _), (58, _)] ⟨rfl, rfl, rfl, rfl, rfl, rfl, rfl, rfl, trivial⟩ ?_
          refine At.go ?_
          refine Sc.cond_f rfl ?_
          refine Sc.skip ?_
          refine At.go ?_
          refine Sc.seq ?_
          refine Sc.seq ?_
          refine Sc.region ?_
          refine Sl.calm (Cm.move rfl) rfl ?_
          refine Sl.call fn25 rfl (take_ok S.1 o8 c8 w8 ho8.vw (by omega)) rfl ?_
          rintro _ w9 ⟨rfl, hf9⟩
          have hq9 := hf9.obj hq8 id
          have hz9 := hf9.size
          refine Sl.calm (Cm.move rfl) rfl ?_
          refine Sl.calm (Cm.extract rfl rfl) rfl ?_
          refine Sl.calm (Cm.extract rfl rfl) rfl ?_
          refine Sl.storeAll (vs := inoC (tkF S.1) (tkT S.1)) agg33 rfl rfl (by intro v hv; exact inoC_one _ _ v hv) hq9 rfl ?_
          intro w10 hg10 hs10 hf10
          have hM10 := (hM8.grow hf9).cell0 hf10 hq hA hp hpl (fun k hk => hk.1.elim (fun h => h.1.imp id (fun h => ⟨by omega, by omega⟩)) (fun h => .inr ⟨by omega, by omega⟩))
          have hF10 : Foot A W w10 := (hF8.trans hf9.any).trans_to hf10 (fun k hk => .inr (by have h : k = q := hk; omega))
          refine Sl.calm (Cm.assign rfl) rfl ?_
          refine Sl.nil ?_
          refine At.weak [(0, _), (1, _), (4, _), (5, _), (6, _), (7, _), (9, _), (58, _)] ⟨rfl, rfl, rfl, rfl, rfl, rfl, rfl, rfl, trivial⟩ ?_
          refine At.go ?_
          refine Sc.seq ?_
          refine Sc.region ?_
          refine Sl.calm (Cm.move rfl) rfl ?_
          refine Sl.fork (Cm.neq rfl rfl) rfl (fun h66 => ?_) (fun h66 => ?_)
          ·
            have hno : ¬ TkOk S.1 := fun h => h66 (tk_yes h).2.2
            have e := inoR_3 (im := im) (fr := fr) (to := to) (ref := ref) (by rw [← hR]; exact e20) (by rw [← hR, ← hS]; exact e58) (by rw [← hR, ← hS]; exact hno)
            obtain ⟨k1, k2, k3⟩ := tk_no hno
            rw [k1, k2] at hg10
            refine Sl.nil ?_
            refine At.weak [(0, _), (1, _), (4, _), (5, _), (6, _), (7, _), (9, _), (58, _), (66, _)] ⟨rfl, rfl, rfl, rfl, rfl, rfl, rfl, rfl, rfl, trivial⟩ ?_
            refine At.go ?_
            refine Sc.cond_t rfl ?_
            refine Sc.seq ?_
            refine Sc.region ?_
            refine Sl.calm (Cm.ldM (cs := inoC (fun _ => 0) []) agg33 rfl (fun j v hj => cellF hg10 hj)) rfl ?_
            refine Sl.calm (Cm.move rfl) rfl ?_
            refine Sl.storeAll (vs := inoC (fun _ => 0) []) agg33 rfl rfl (by intro v hv; exact inoC_one _ _ v hv) hg10 rfl ?_
            intro w20 hg20 hs20 hf20
            have hMx : MrO (Nx A W w20) w20.heap g p im fr to := hM10.cell hf20 hq hA hp hpl (fun k hk => hk)
            have hFx : Foot A W w20 := hF10.trans_to hf20 (fun k hk => .inr (by have h : k = q := hk; omega))
            refine Sl.calm (Cm.assign rfl) rfl ?_
            refine Sl.calm (Cm.assign rfl) rfl ?_
            refine Sl.nil ?_
            refine At.weak [(0, _), (1, _), (4, _), (5, _), (6, _), (7, _), (9, _), (58, _), (66, _)] ⟨rfl, rfl, rfl, rfl, rfl, rfl, rfl, rfl, rfl, trivial⟩ ?_
            refine At.go ?_
            refine Sc.ret ?_
            refine At.then_ret ?_
            refine At.retC3 (cs := inoC (fun _ => 0) []) rfl agg33 rfl rfl rfl (fun j v hj => cellF hg20 hj) ?_
            exact ⟨_, rfl, by rw [e, k3], hMx, hFx⟩
          ·
            have hyes : TkOk S.1 := tk_zero (Decidable.not_not.1 h66)
            have e := inoR_4 (im := im) (fr := fr) (to := to) (ref := ref) (by rw [← hR]; exact e20) (by rw [← hR, ← hS]; exact e58) (by rw [← hR, ← hS]; exact hyes)
            obtain ⟨k1, k2, k3⟩ := tk_yes hyes
            rw [k1, k2] at hg10
            refine Sl.nil ?_
            refine At.weak [(0, _), (1, _), (4, _), (5, _), (6, _), (7, _), (9, _), (58, _), (66, _)] ⟨rfl, rfl, rfl, rfl, rfl, rfl, rfl, rfl, rfl, trivial⟩ ?_
            refine At.go ?_
            refine Sc.cond_f rfl ?_
            refine Sc.skip ?_
            refine At.go ?_
            refine Sc.seq ?_
            refine Sc.region ?_
            refine Sl.calm (Cm.ldM (cs := inoC (gFn S.1) (gT S.1)) agg33 rfl (fun j v hj => cellF hg10 hj)) rfl ?_
            refine Sl.calm (Cm.move rfl) rfl ?_
            refine Sl.storeAll (vs := inoC (gFn S.1) (gT S.1)) agg33 rfl rfl (by intro v hv; exact inoC_one _ _ v hv) hg10 rfl ?_
            intro w20 hg20 hs20 hf20
            have hMx : MrO (Nx A W w20) w20.heap g p im fr to := hM10.cell hf20 hq hA hp hpl (fun k hk => hk)
            have hFx : Foot A W w20 := hF10.trans_to hf20 (fun k hk => .inr (by have h : k = q := hk; omega))
            refine Sl.calm (Cm.assign rfl) rfl ?_
            refine Sl.calm (Cm.assign rfl) rfl ?_
            refine Sl.nil ?_
            refine At.weak [(0, _), (1, _), (4, _), (5, _), (6, _), (7, _), (9, _), (58, _), (66, _)] ⟨rfl, rfl, rfl, rfl, rfl, rfl, rfl, rfl, rfl, trivial⟩ ?_
            refine At.go ?_
            refine Sc.ret ?_
            refine At.retC3 (cs := inoC (gFn S.1) (gT S.1)) rfl agg33 rfl rfl rfl (fun j v hj => cellF hg20 hj) ?_
            exact ⟨_, rfl, by rw [e, ← hR, ← hS], hMx, hFx⟩
end Go.Proofs.Ytoaplldahbbaiaa
