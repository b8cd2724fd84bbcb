/- inode: May, the program's. No condition. -/
import Derived.Test.YtoaplldahbbaiaaInA
import Derived.Test.YtoaplldahbbaiaaTpB
namespace Go.Proofs.Ytoaplldahbbaiaa
open Go Go.RowKit
set_option linter.unusedVariables false

/-- whether a record may be -/
def mayA (F : Nat → Int) (n : Nat) : Prop :=
  0 ≤ F 1 ∧ F 1 ≤ 511 ∧ 0 ≤ F 2 ∧ F 2 ≤ 2047 ∧ 0 ≤ F 3 ∧ F 3 ≤ 2047 ∧ 1 ≤ F 4 ∧ F 4 ≤ 1024 ∧ 0 ≤ F 5 ∧ F 5 ≤ 4294967295 ∧
  ((F 0 = 2 ∧ 0 ≤ F 7 ∧ F 7 ≤ 4096 ∧ 0 ≤ F 8 ∧ F 8 ≤ 1024 ∧ (0 < F 8 ↔ 0 < F 7 % 128) ∧ 0 ≤ F 6 ∧ F 6 ≤ 4294967295 ∧ 0 ≤ F 9 ∧ F 9 < 128 ∧ (0 < F 8 ∨ F 9 = 0) ∧ n = 0) ∨
   (F 0 = 1 ∧ 0 ≤ F 6 ∧ F 6 ≤ 4294967295 ∧ 0 ≤ F 7 ∧ F 7 ≤ 1048576 ∧ F 4 = 1 ∧ F 8 = 0 ∧ F 9 = 0 ∧ n = 0) ∨
   (F 0 = 3 ∧ 1 ≤ n ∧ n ≤ 200 ∧ F 6 = 0 ∧ F 7 = 0 ∧ F 8 = 0 ∧ F 9 = 0))
def mayI (F : Nat → Int) (T : List UInt8) : Prop := mayA F T.length ∧ (F 0 = 3 → (0 : UInt8) ∉ T)
instance (F : Nat → Int) (T : List UInt8) : Decidable (mayI F T) := by unfold mayI mayA; exact inferInstance

def okF (F : Nat → Int) (x : Fd) : Prop := 0 ≤ F x.o ∧ F x.o ≤ x.m
theorem rec_all {F : Nat → Int} (h : ∀ x ∈ recL (F 0), okF F x) :
    (0 ≤ F 1 ∧ F 1 ≤ 511 ∧ 0 ≤ F 2 ∧ F 2 ≤ 2047 ∧ 0 ≤ F 3 ∧ F 3 ≤ 2047 ∧ 0 ≤ F 4 ∧ F 4 ≤ 1024 ∧ 0 ≤ F 5 ∧ F 5 ≤ 4294967295) ∧
    (F 0 = 2 → 0 ≤ F 6 ∧ F 6 ≤ 4294967295 ∧ 0 ≤ F 7 ∧ F 7 ≤ 4096 ∧ 0 ≤ F 8 ∧ F 8 ≤ 1024 ∧ 0 ≤ F 9 ∧ F 9 ≤ 127) ∧
    (F 0 = 1 → 0 ≤ F 6 ∧ F 6 ≤ 4294967295 ∧ 0 ≤ F 7 ∧ F 7 ≤ 1048576) := by
  refine ⟨?_, fun e => ?_, fun e => ?_⟩
  · have h2 : ∀ x ∈ comL, okF F x := fun x hx => h x (List.mem_append.2 (.inl hx))
    simp only [comL, List.forall_mem_cons, okF] at h2
    omega
  · have h2 : ∀ x ∈ filL, okF F x := fun x hx => h x (List.mem_append.2 (.inr (by unfold fldL; rw [if_pos e]; exact hx)))
    simp only [filL, List.forall_mem_cons, okF] at h2
    omega
  · have h2 : ∀ x ∈ dirL, okF F x := fun x hx => h x (List.mem_append.2 (.inr (by unfold fldL; rw [if_neg (by omega), if_pos e]; exact hx)))
    simp only [dirL, List.forall_mem_cons, okF] at h2
    omega
theorem rec_may {F : Nat → Int} {T : List UInt8} (h : mayI F T) : ∀ x ∈ recL (F 0), okF F x := by
  intro x hx
  have h1 := h.1
  unfold mayA at h1
  unfold okF
  rcases List.mem_append.1 hx with hx | hx
  · simp only [comL, List.mem_cons, List.not_mem_nil, or_false] at hx
    rcases hx with rfl | rfl | rfl | rfl | rfl <;> (simp only; omega)
  · unfold fldL at hx
    split at hx
    · simp only [filL, List.mem_cons, List.not_mem_nil, or_false] at hx
      rcases hx with rfl | rfl | rfl | rfl <;> (simp only; omega)
    · split at hx
      · simp only [dirL, List.mem_cons, List.not_mem_nil, or_false] at hx
        rcases hx with rfl | rfl <;> (simp only; omega)
      · cases hx

/-- what is known of a record behind the loop -/
def knownF (F : Nat → Int) (L : List Fd) : Nat → Int := fun o => if o = 0 then F 0 else if o ∈ L.map (·.o) then F o else 0
def knownG (F : Nat → Int) (L : List Fd) : Nat → Int := fun o => if o ∈ L.map (·.o) then F o else 0
def sameI (G : Nat → Int) (U : List UInt8) (F : Nat → Int) (T : List UInt8) : Prop := (∀ o, o < 10 → G o = F o) ∧ U = T
instance (G : Nat → Int) (U : List UInt8) (F : Nat → Int) (T : List UInt8) : Decidable (sameI G U F T) := by unfold sameI; exact inferInstance
theorem knownG_snoc (F : Nat → Int) (L : List Fd) (x : Fd) : upd (knownG F L) x.o (F x.o) = knownG F (L ++ [x]) := by
  funext q
  unfold upd knownG
  by_cases h : q = x.o
  · subst h; simp
  · by_cases h2 : q ∈ L.map (·.o)
    · rw [if_neg h, if_pos h2, if_pos (by simp at h2 ⊢; exact .inl h2)]
    · rw [if_neg h, if_neg h2, if_neg (by simp at h2 ⊢; exact ⟨h2, h⟩)]
theorem knownG_nil (F : Nat → Int) : knownG F [] = fun _ => 0 := by funext q; simp [knownG]
theorem known_same (F : Nat → Int) (U T : List UInt8) : sameI (upd (knownG F (recL (F 0))) 0 (F 0)) U F T ↔ (F 0 ≠ 2 → F 8 = 0 ∧ F 9 = 0) ∧ (F 0 ≠ 2 → F 0 ≠ 1 → F 6 = 0 ∧ F 7 = 0) ∧ U = T := by
  unfold sameI
  have hcom : ∀ o, (o = 1 ∨ o = 2 ∨ o = 3 ∨ o = 4 ∨ o = 5) → knownG F (recL (F 0)) o = F o := fun o ho => by
    unfold knownG recL; rw [if_pos]; rw [List.map_append, List.mem_append]; left; simp [comL]; omega
  have hval : ∀ o, 6 ≤ o → (knownG F (recL (F 0)) o = if o ∈ (fldL (F 0)).map (·.o) then F o else 0) := fun o ho => by
    unfold knownG recL
    congr 1
    rw [List.map_append, List.mem_append]
    simp [comL]; omega
  constructor
  · rintro ⟨h, hU⟩
    have g : ∀ o, 6 ≤ o → o < 10 → (if o ∈ (fldL (F 0)).map (·.o) then F o else 0) = F o := fun o h6 h10 => by
      have := h o h10
      unfold upd at this
      rw [if_neg (by omega), hval o h6] at this
      exact this
    have g6 := g 6 (by decide) (by decide)
    have g7 := g 7 (by decide) (by decide)
    have g8 := g 8 (by decide) (by decide)
    have g9 := g 9 (by decide) (by decide)
    refine ⟨fun h2 => ?_, fun h2 h1 => ?_, hU⟩
    · by_cases h1 : F 0 = 1
      · simp [fldL, h1, dirL] at g8 g9; omega
      · simp [fldL, h1, h2] at g8 g9; omega
    · simp [fldL, h1, h2] at g6 g7; omega
  · rintro ⟨h8, h6, hU⟩
    refine ⟨fun o ho => ?_, hU⟩
    unfold upd
    by_cases h0 : o = 0
    · rw [if_pos h0, h0]
    · rw [if_neg h0]
      by_cases h5 : o < 6
      · exact hcom o (by omega)
      · rw [hval o (by omega)]
        by_cases h2 : F 0 = 2
        · rw [if_pos]; simp [fldL, h2, filL]; omega
        · have h8' := h8 h2
          by_cases h1 : F 0 = 1
          · by_cases h7 : o < 8
            · rw [if_pos]; simp [fldL, h1, dirL]; omega
            · rw [if_neg (by simp [fldL, h1, dirL]; omega)]
              have : o = 8 ∨ o = 9 := by omega
              rcases this with rfl | rfl <;> omega
          · have h6' := h6 h2 h1
            rw [if_neg (by simp [fldL, h1, h2])]
            have : o = 6 ∨ o = 7 ∨ o = 8 ∨ o = 9 := by omega
            rcases this with rfl | rfl | rfl | rfl <;> omega

section
variable {N : Nat} {l : SF} {ty : TypeId} {pos : String} {aft : Array Edge} {CH : Array Obj → Prop} {x y : Operand} {t' : TypeId} {g : Option (Nat × Bool)} {dd : Option Nat}
theorem ino_eq (G : Nat → Int) (U : List UInt8) (F : Nat → Int) (T : List UInt8) (w : World) : (Op.equalIn 10000 33 (.agg (inoC G U).toArray) (.agg (inoC F T).toArray)).run Try.prog w = .ok (decide (sameI G U F T)) w := by
  have h0 := run_equalIn_struct (P := Try.prog) w 9999 33 (inoC G U).toArray (inoC F T).toArray (by kernel_rfl) (by kernel_rfl)
  refine h0.trans ?_
  obtain ⟨r, hr, hr2⟩ := eqFields_ok (P := Try.prog) w (d := 9998) (d1 := 9999) rfl (xs := (inoC G U).toArray) (ys := (inoC F T).toArray) (Try.prog.fieldsOf 33).toList (by
    unfold Program.fieldsOf
    rw [Try.underlying33]
    simp only [List.forall_mem_cons]
    refine ⟨⟨by decide, _, _, rfl, rfl, ?_, ?_⟩, ⟨by decide, _, _, rfl, rfl, ?_, ?_⟩, ⟨by decide, _, _, rfl, rfl, ?_, ?_⟩, ⟨by decide, _, _, rfl, rfl, ?_, ?_⟩, ⟨by decide, _, _, rfl, rfl, ?_, ?_⟩, ⟨by decide, _, _, rfl, rfl, ?_, ?_⟩, ⟨by decide, _, _, rfl, rfl, ?_, ?_⟩, ⟨by decide, _, _, rfl, rfl, ?_, ?_⟩, ⟨by decide, _, _, rfl, rfl, ?_, ?_⟩, ⟨by decide, _, _, rfl, rfl, ?_, ?_⟩, ⟨by decide, _, _, rfl, rfl, ?_, ?_⟩, by simp⟩ <;> first | (unfold okV; rw [ty3]; exact (rfl : IntKind.i64 = IntKind.i64)) | (unfold okV; rw [ty9]; exact trivial))
  suffices hsf : r = decide (sameI G U F T) by rw [← hsf]; exact hr
  rw [Bool.eq_iff_iff, hr2, decide_eq_true_iff]
  unfold Program.fieldsOf
  rw [Try.underlying33]
  constructor
  · intro h
    have h2 : inoC G U = inoC F T := by
      simp only [List.forall_mem_cons] at h
      obtain ⟨a0, a1, a2, a3, a4, a5, a6, a7, a8, a9, a10, _⟩ := h
      apply inoC_ext
      intro o ho
      match o, ho with
      | 0, _ => simpa using a0
      | 1, _ => simpa using a1
      | 2, _ => simpa using a2
      | 3, _ => simpa using a3
      | 4, _ => simpa using a4
      | 5, _ => simpa using a5
      | 6, _ => simpa using a6
      | 7, _ => simpa using a7
      | 8, _ => simpa using a8
      | 9, _ => simpa using a9
      | 10, _ => simpa using a10
    exact inoC_inj h2
  · rintro ⟨h1, h2⟩ f _
    rw [inoC_eq h1 h2]
theorem Cm.neqIno {G F : Nat → Int} {U T : List UInt8} (hx : evL l x = some (.agg (inoC G U).toArray)) (hy : evL l y = some (.agg (inoC F T).toArray)) : Cm Try.prog N CH l ⟨dd, .binOp .neq 33 x y t', ty, pos, aft, g⟩ (.bool (decide (¬ sameI G U F T))) := fun a w ha _ => by
  have h1 := run_eqGuard_agg (P := Try.prog) w .neq 33 x y (inoC G U).toArray (inoC F T).toArray (by kernel_rfl)
  have h2 := run_neq_struct (P := Try.prog) w 33 (inoC G U).toArray (inoC F T).toArray
  rw [ino_eq] at h2
  simp only [execOp, ha.ev hx, ha.ev hy, Sem.run_bind, h1, h2, Result.andThen_ok, Sem.run_pure]
  simp
theorem Cm.eqlIno {G F : Nat → Int} {U T : List UInt8} (hx : evL l x = some (.agg (inoC G U).toArray)) (hy : evL l y = some (.agg (inoC F T).toArray)) : Cm Try.prog N CH l ⟨dd, .binOp .eql 33 x y t', ty, pos, aft, g⟩ (.bool (decide (sameI G U F T))) := fun a w ha _ => by
  have h1 := run_eqGuard_agg (P := Try.prog) w .eql 33 x y (inoC G U).toArray (inoC F T).toArray (by kernel_rfl)
  have h2 := run_eql_struct (P := Try.prog) w 33 (inoC G U).toArray (inoC F T).toArray
  rw [ino_eq] at h2
  simp only [execOp, ha.ev hx, ha.ev hy, Sem.run_bind, h1, h2, Result.andThen_ok, Sem.run_pure]
end

theorem fd_off {L : List Fd} {k : Nat} (h : k < L.length) : L.take (k + 1) = L.take k ++ [L.getD k fd0] := by
  rw [List.take_succ_eq_append_getElem h]; simp [List.getD, h]
theorem fd_row {H : Array Obj} {ao : Option Addr} {c : Nat} {L : List Fd} (h : VwM 3 fdV H ao c L) {k : Nat} {z : Int} (hz : z = k) (hk : k < L.length) :
    ∀ j v, (fdV (L.getD k fd0))[j]? = some v → cellH H ((adr ao (z.toNat * 3)).add j) = some v := by
  have e : L[k]? = some (L.getD k fd0) := by simp [List.getD, hk]
  exact h.rowZ k hz e
theorem notD {p : Prop} [Decidable p] (h : ¬ p) : Value.bool false = .bool (decide p) := by rw [decide_eq_false h]
theorem yesD {p : Prop} [Decidable p] (h : p) : Value.bool true = .bool (decide p) := by rw [decide_eq_true h]

set_option maxHeartbeats 2000000 in
theorem may_ok (F : Nat → Int) (T : List UInt8) (W : World) (hT : T.length ≤ maxLen) :
    Calls Try.prog 23 [.agg (inoC F T).toArray].toArray W (Ret fun v w' => v = .bool (decide (mayI F T)) ∧ Foot nob W w') := by
  refine calls_of_sc 100 [(0, _)] Try.func23 rfl rfl rfl (enter_slots ⟨rfl, trivial⟩) ?_
  refine Sc.seq ?_
  refine Sc.region ?_
  refine Sl.box rfl rfl ?_
  intro w1 hg1 hs1 hf1
  have hg1 : w1.heap[W.heap.size]? = some (.cells (inoC F T).toArray 33 (0, 0)) := hg1
  refine Sl.calm (Cm.assign rfl) rfl ?_
  refine Sl.nil ?_
  refine At.go ?_
  refine Sc.seq ?_
  refine Sc.draw 6 (fun H => H[W.heap.size]? = some (.cells (inoC F T).toArray 33 (0, 0))) [0, 3, 4] [1, 2, 0, 3, 4, 5] mixed (by kernel_rfl) (hg1) ?_
  refine Sx.calm rfl rfl (Cm.field fld33_0 rfl) rfl ?_
  refine Sx.calm rfl rfl (Cm.load sca3 rfl (fun H hH => cellF hH rfl)) rfl ?_
  refine Sx.eff rfl rfl (Sl.call fn52 rfl (common_ok _) rfl ?_)
  rintro _ w2 ⟨ao2, c2, rfl, ho2, hfr2, hf2⟩
  refine Sx.on (by exact hf2.obj hg1 id) ?_
  refine Sx.eff rfl rfl (Sl.call fn53 rfl (fields_ok (F 0) w2) rfl ?_)
  rintro _ w3 ⟨ao3, c3, rfl, ho3, hfr3, hf3⟩
  refine Sx.on (by exact hf3.obj (hf2.obj hg1 id) id) ?_
  refine Sx.eff rfl rfl (Sl.appendM fdV_cells rfl sl94 rfl rfl (ho2.grow hf3) (ho3.vw fdV_cells) (by have := recL_len (F 0); unfold recL at this; rw [List.length_append] at this; omega) (by have := recL_len (F 0); unfold recL at this; rw [List.length_append] at this; unfold maxLen; omega) rfl ?_)
  intro ao4 c4 w4 ho4 hf4 hr4 hn4
  have hfr2 : Fr w1.heap.size ao2 := hfr2
  have hg4 := hf4.obj (hf3.obj (hf2.obj hg1 id) id) (fun ⟨a, ha, hb⟩ => by have := hfr2 a ha; omega)
  have hF3 : Foot nob W w3 := (hf1.trans hf2.undraw).trans hf3
  have hF4 : Foot nob W w4 := hF3.trans_to hf4 (fun k ⟨a, ha, hb⟩ => .inr (by have := hfr2 a ha; omega))
  refine Sx.on (by exact hg4) ?_
  refine Sx.calm rfl rfl (Cm.assign rfl) rfl ?_
  refine Sx.nil ?_
  refine At.weak [(0, _), (1, _), (2, _), (3, _)] ⟨rfl, rfl, rfl, rfl, trivial⟩ ?_
  refine At.go ?_
  refine Sc.seq ?_
  refine Sc.region ?_
  refine Sl.allocC zc33 rfl ?_
  intro w5 hg5 hs5 hf5
  have hg5 : w5.heap[w4.heap.size]? = some (.cells (inoC (fun _ => 0) []).toArray 33 (0, 0)) := hg5
  have hlt4 : W.heap.size < w4.heap.size := by have := hf2.size; have := hf3.size; have := hf4.size; have : w1.heap.size ≤ w2.heap.size := hf2.undraw.size; omega
  have hF5 := hF4.trans hf5
  have hp5 := hf5.obj hg4 id
  have hL5 : VwM 3 fdV w5.heap ao4 c4 (recL (F 0)) := (ho4.vw fdV_cells).grow hf5
  have hLlen := recL_len (F 0)
  have hne4 : ∀ a, ao4 = some a → a.block < w4.heap.size := fun a ha => ho4.lt a ha
  refine Sl.nil ?_
  refine At.go ?_
  refine Sc.seq ?_
  refine Sc.seq ?_
  refine Sc.region ?_
  refine Sl.calm (Cm.move rfl) rfl ?_
  refine Sl.calm (Cm.len sl94 rfl) rfl ?_
  refine Sl.calm (Cm.move rfl) rfl ?_
  refine Sl.nil ?_
  refine At.go ?_
  refine Sc.block ?_
  refine Sc.loop (β := Nat) (fun k => [(1, .pointer (some ⟨W.heap.size, 0, none⟩)), (4, .pointer (some ⟨w4.heap.size, 0, none⟩)), (14, .slice ao4 (recL (F 0)).length c4), (15, .int .i64 (recL (F 0)).length), (16, .int .i64 k)]) (fun k w => k ≤ (recL (F 0)).length ∧ w.heap[w4.heap.size]? = some (.cells (inoC (knownG F ((recL (F 0)).take k)) []).toArray 33 (0, 0)) ∧ (∀ x ∈ (recL (F 0)).take k, okF F x) ∧ w.heap[W.heap.size]? = some (.cells (inoC F T).toArray 33 (0, 0)) ∧ VwM 3 fdV w.heap ao4 c4 (recL (F 0)) ∧ w4.heap.size < w.heap.size ∧ Foot nob W w) (fun k => (recL (F 0)).length - k) 0 ⟨rfl, rfl, rfl, rfl, rfl, trivial⟩ ⟨Nat.zero_le _, by rw [List.take_zero, knownG_nil]; exact hg5, by simp, hp5, hL5, by omega, hF5⟩ ?_
  rintro k w6 ⟨hk, hq, hall, hp, hL, hlt6, hF6⟩
  refine Sc.seq ?_
  refine Sc.region ?_
  refine Sl.fork (Cm.lss rfl rfl) rfl (fun h17 => ?_) (fun h17 => ?_)
  ·
    refine Sl.nil ?_
    refine At.go ?_
    refine Sc.seq ?_
    refine Sc.cond_t rfl ?_
    refine Sc.skip ?_
    refine At.go ?_
    refine Sc.seq ?_
    refine Sc.block ?_
    refine Sc.seq ?_
    refine Sc.region ?_
    have hkL : k < (recL (F 0)).length := by omega
    have hrow := fd_row hL (k := k) rfl hkL
    have hmem := recL_at hkL
    obtain ⟨⟨hfn, ho10, ho0, hcall⟩, hb1, hb4, hm0, hmb⟩ := recL_off hmem
    obtain ⟨x, hx⟩ : ∃ x, x = (recL (F 0)).getD k fd0 := ⟨_, rfl⟩
    rw [← hx] at hrow hmem hfn ho10 ho0 hcall hb1 hb4 hm0
    refine Sl.calm (Cm.indexAddr sl94 rfl rfl hL.non (by omega)) rfl ?_
    refine Sl.calm (Cm.ldM (cs := fdV x) agg99 rfl hrow) rfl ?_
    refine Sl.allocC zc99 rfl ?_
    intro w7 hg7 hs7 hf7
    refine Sl.storeAll (vs := fdV x) agg99 rfl rfl (by simp [fdV, Value.oneCell']) hg7 rfl ?_
    intro w8 hg8 hs8 hf8
    have hF8 : Foot nob w6 w8 := hf7.trans_to hf8 (fun k hk => .inr (by omega))
    have hp8 := hF8.obj hp id
    have hq8 := hF8.obj hq id
    refine Sl.nil ?_
    refine At.weak [(1, _), (4, _), (6, _), (14, _), (15, _), (16, _), (17, _)] ⟨rfl, rfl, rfl, rfl, rfl, rfl, rfl, trivial⟩ ?_
    refine At.go ?_
    refine Sc.seq ?_
    refine Sc.region ?_
    refine Sl.calm (Cm.field fld99_0 rfl) rfl ?_
    refine Sl.calm (Cm.ld sca97 rfl (cellF hg8 rfl)) rfl ?_
    refine Sl.callV hfn rfl rfl (hcall W.heap.size w8) rfl ?_
    rintro _ w9 ⟨rfl, hw9⟩
    subst w9
    refine Sl.calm (Cm.nilCheck rfl) rfl ?_
    refine Sl.calm (Cm.ld sca3 rfl (cellF0 hp8 (inoC_get F T ho10))) rfl ?_
    refine Sl.calm (Cm.assign rfl) rfl ?_
    refine Sl.nil ?_
    refine At.weak [(1, _), (4, _), (6, _), (7, _), (14, _), (15, _), (16, _), (17, _)] ⟨rfl, rfl, rfl, rfl, rfl, rfl, rfl, rfl, trivial⟩ ?_
    refine At.go ?_
    refine Sc.seq ?_
    refine Sc.seq ?_
    refine Sc.region ?_
    refine Sl.calm (Cm.move rfl) rfl ?_
    refine Sl.fork (Cm.lss rfl rfl) rfl (fun h26 => ?_) (fun h26 => ?_)
    ·
      have hbad : ¬ mayI F T := fun h => by have := rec_may h x hmem; unfold okF at this; omega
      refine Sl.calm (Cm.move rfl) rfl ?_
      refine Sl.skip rfl rfl rfl rfl ?_
      refine Sl.skip rfl rfl rfl rfl ?_
      refine Sl.skip rfl rfl rfl rfl ?_
      refine Sl.skip rfl rfl rfl rfl ?_
      refine Sl.calm (Cm.pick_t rfl rfl) rfl ?_
      refine Sl.nil ?_
      refine At.weak [(1, _), (4, _), (6, _), (7, _), (14, _), (15, _), (16, _), (17, _), (32, _)] ⟨rfl, rfl, rfl, rfl, rfl, rfl, rfl, rfl, rfl, trivial⟩ ?_
      refine At.go ?_
      refine Sc.cond_t rfl ?_
      refine Sc.seq ?_
      refine Sc.region ?_
      refine Sl.calm (Cm.assign rfl) rfl ?_
      refine Sl.nil ?_
      refine At.go ?_
      refine Sc.ret ?_
      refine At.then_ret ?_
      refine At.block_ret ?_
      refine At.then_ret ?_
      refine At.then_ret ?_
      refine At.block_ret ?_
      refine At.then_ret ?_
      refine At.ret1 rfl rfl ?_
      first
        | exact ⟨_, rfl, notD hbad, (hF6.trans hF8)⟩
        | exact ⟨_, rfl, notD hbad, hFz⟩
        | exact ⟨_, rfl, notD (fun h => by have := h.1; unfold mayA at this; omega), hFz⟩
        | exact ⟨_, rfl, yesD ⟨by unfold mayA; omega, fun h3 => by first | exact hnul | omega⟩, hFz⟩
        | exact ⟨_, rfl, notD (fun h => h.2 (by omega) hnul), hFz⟩
    ·
      refine Sl.calm (Cm.move rfl) rfl ?_
      refine Sl.want rfl rfl (Cm.move rfl) rfl ?_
      refine Sl.want rfl rfl (Cm.field fld99_2 rfl) rfl ?_
      refine Sl.want rfl rfl (Cm.ld sca3 rfl (cellF hg8 rfl)) rfl ?_
      refine Sl.forkWant rfl rfl (Cm.gtr rfl rfl) rfl (fun h31 => ?_) (fun h31 => ?_)
      ·
        have hbad : ¬ mayI F T := fun h => by have := rec_may h x hmem; unfold okF at this; omega
        refine Sl.calm (Cm.pick_f rfl rfl) rfl ?_
        refine Sl.nil ?_
        refine At.weak [(1, _), (4, _), (6, _), (7, _), (14, _), (15, _), (16, _), (17, _), (32, _)] ⟨rfl, rfl, rfl, rfl, rfl, rfl, rfl, rfl, rfl, trivial⟩ ?_
        refine At.go ?_
        refine Sc.cond_t rfl ?_
        refine Sc.seq ?_
        refine Sc.region ?_
        refine Sl.calm (Cm.assign rfl) rfl ?_
        refine Sl.nil ?_
        refine At.go ?_
        refine Sc.ret ?_
        refine At.then_ret ?_
        refine At.block_ret ?_
        refine At.then_ret ?_
        refine At.then_ret ?_
        refine At.block_ret ?_
        refine At.then_ret ?_
        refine At.ret1 rfl rfl ?_
        first
          | exact ⟨_, rfl, notD hbad, (hF6.trans hF8)⟩
          | exact ⟨_, rfl, notD hbad, hFz⟩
          | exact ⟨_, rfl, notD (fun h => by have := h.1; unfold mayA at this; omega), hFz⟩
          | exact ⟨_, rfl, yesD ⟨by unfold mayA; omega, fun h3 => by first | exact hnul | omega⟩, hFz⟩
          | exact ⟨_, rfl, notD (fun h => h.2 (by omega) hnul), hFz⟩
      ·
        refine Sl.calm (Cm.pick_f rfl rfl) rfl ?_
        refine Sl.nil ?_
        refine At.weak [(1, _), (4, _), (6, _), (7, _), (14, _), (15, _), (16, _), (17, _), (32, _)] ⟨rfl, rfl, rfl, rfl, rfl, rfl, rfl, rfl, rfl, trivial⟩ ?_
        refine At.go ?_
        refine Sc.cond_f rfl ?_
        refine Sc.skip ?_
        refine At.go ?_
        refine Sc.region ?_
        refine Sl.calm (Cm.field fld99_0 rfl) rfl ?_
        refine Sl.calm (Cm.ld sca97 rfl (cellF hg8 rfl)) rfl ?_
        refine Sl.callV hfn rfl rfl (hcall w4.heap.size w8) rfl ?_
        rintro _ w9 ⟨rfl, hw9⟩
        subst w9
        refine Sl.calm (Cm.move rfl) rfl ?_
        refine Sl.calm (Cm.nilCheck rfl) rfl ?_
        refine Sl.store sca3 rfl rfl rfl hq8 (by simp [inoC]; omega) ?_
        intro w10 hg10 hs10 hf10
        rw [inoC_set _ _ ho10, knownG_snoc, hx, ← fd_off hkL] at hg10
        refine Sl.nil ?_
        refine At.block_normal ?_
        refine At.weak [(1, _), (4, _), (6, _), (7, _), (14, _), (15, _), (16, _), (17, _), (32, _)] ⟨rfl, rfl, rfl, rfl, rfl, rfl, rfl, rfl, rfl, trivial⟩ ?_
        refine At.go ?_
        refine Sc.region ?_
        refine Sl.calm (Cm.add64 rfl rfl (by omega)) rfl ?_
        refine Sl.calm (Cm.move rfl) rfl ?_
        refine Sl.nil ?_
        refine At.again (k + 1) ⟨rfl, rfl, rfl, rfl, rfl, trivial⟩ ?_ (by show (recL (F 0)).length - (k + 1) < (recL (F 0)).length - k; omega)
        have hF10 : Foot (· = w4.heap.size) w6 w10 := (hF8.mono (fun _ h => h.elim)).trans hf10
        refine ⟨by omega, hg10, fun y hy => ?_, hF10.obj hp (by omega), hL.keep hF10 (fun a ha e => by have := hne4 a ha; omega), by have := hF10.size; omega, (hF6.trans hF8).trans_to hf10 (fun k hk => .inr (by omega))⟩
        rw [fd_off hkL, ← hx] at hy
        rcases List.mem_append.1 hy with hy | hy
        · exact hall y hy
        · rw [List.mem_singleton] at hy; subst hy; unfold okF; omega
  ·
    refine Sl.nil ?_
    refine At.go ?_
    refine Sc.seq ?_
    refine Sc.cond_f rfl ?_
    refine Sc.exit ?_
    refine At.then_exit ?_
    refine At.then_exit ?_
    refine At.block_hit ?_
    refine At.go ?_
    refine Sc.seq ?_
    refine Sc.region ?_
    refine Sl.calm (Cm.field fld33_0 rfl) rfl ?_
    have hfin := fin_nat hk (by assumption)
    rw [hfin] at hq hall
    obtain ⟨k0, k2, k1⟩ := rec_all hall
    refine Sl.calm (Cm.ld sca3 rfl (cellF hp rfl)) rfl ?_
    refine Sl.calm (Cm.field fld33_0 rfl) rfl ?_
    refine Sl.store sca3 rfl rfl rfl hq rfl ?_
    intro w11 hg11 hs11 hf11
    have hg11 : w11.heap[w4.heap.size]? = some (.cells (inoC (upd (knownG F (recL (F 0))) 0 (F 0)) []).toArray 33 (0, 0)) := by rw [← inoC_set _ _ (by decide)]; exact hg11
    have hp11 := hf11.obj hp (by omega)
    have hF11 : Foot nob W w11 := hF6.trans_to hf11 (fun k hk => .inr (by omega))
    refine Sl.nil ?_
    refine At.weak [(1, _), (4, _), (14, _), (15, _), (16, _), (17, _)] ⟨rfl, rfl, rfl, rfl, rfl, rfl, trivial⟩ ?_
    refine At.go ?_
    refine Sc.cut (β := List UInt8) (fun U => [(1, .pointer (some ⟨W.heap.size, 0, none⟩)), (4, .pointer (some ⟨w4.heap.size, 0, none⟩))]) (fun U w => (if F 0 = 3 then T else []) = U ∧ w.heap[w4.heap.size]? = some (.cells (inoC (upd (knownG F (recL (F 0))) 0 (F 0)) U).toArray 33 (0, 0)) ∧ w.heap[W.heap.size]? = some (.cells (inoC F T).toArray 33 (0, 0)) ∧ Foot nob W w) ?_ ?_
    ·
      refine Sc.seq ?_
      refine Sc.region ?_
      refine Sl.calm (Cm.field fld33_0 rfl) rfl ?_
      refine Sl.calm (Cm.ld sca3 rfl (cellF hp11 rfl)) rfl ?_
      refine Sl.fork (Cm.eql rfl rfl) rfl (fun h44 => ?_) (fun h44 => ?_)
      ·
        refine Sl.nil ?_
        refine At.weak [(1, _), (4, _), (14, _), (15, _), (16, _), (17, _), (44, _)] ⟨rfl, rfl, rfl, rfl, rfl, rfl, rfl, trivial⟩ ?_
        refine At.go ?_
        refine Sc.cond_t rfl ?_
        refine Sc.region ?_
        refine Sl.calm (Cm.field fld33_10 rfl) rfl ?_
        refine Sl.calm (Cm.ld sca9 rfl (cellF hp11 rfl)) rfl ?_
        refine Sl.calm (Cm.field fld33_10 rfl) rfl ?_
        refine Sl.store sca9 rfl rfl rfl hg11 rfl ?_
        intro w12 hg12 hs12 hf12
        have hp12 := hf12.obj hp11 (show ¬ (W.heap.size = w4.heap.size) by omega)
        have hF12 : Foot nob W w12 := hF11.trans_to hf12 (fun k hk => .inr (by have : k = w4.heap.size := hk; omega))
        refine Sl.nil ?_
        refine At.cut (if F 0 = 3 then T else []) ⟨rfl, rfl, trivial⟩ ?_
        first
          | exact ⟨rfl, by rw [if_pos h44]; exact hg12, hp12, hF12⟩
          | exact ⟨rfl, by rw [if_neg h44]; exact hg11, hp11, hF11⟩
      ·
        refine Sl.nil ?_
        refine At.weak [(1, _), (4, _), (14, _), (15, _), (16, _), (17, _), (44, _)] ⟨rfl, rfl, rfl, rfl, rfl, rfl, rfl, trivial⟩ ?_
        refine At.go ?_
        refine Sc.cond_f rfl ?_
        refine Sc.skip ?_
        refine At.cut (if F 0 = 3 then T else []) ⟨rfl, rfl, trivial⟩ ?_
        first
          | exact ⟨rfl, by rw [if_pos h44]; exact hg12, hp12, hF12⟩
          | exact ⟨rfl, by rw [if_neg h44]; exact hg11, hp11, hF11⟩
    ·
      rintro U w13 ⟨hU, hqz, hpz, hFz⟩
      refine Sc.seq ?_
      refine Sc.seq ?_
      refine Sc.region ?_
      refine Sl.calm (Cm.ldM (cs := inoC (upd (knownG F (recL (F 0))) 0 (F 0)) U) agg33 rfl (fun j v hj => cellF hqz hj)) rfl ?_
      refine Sl.calm (Cm.ldM (cs := inoC F T) agg33 rfl (fun j v hj => cellF hpz hj)) rfl ?_
      refine Sl.fork (Cm.neqIno rfl rfl) rfl (fun h50 => ?_) (fun h50 => ?_)
      ·
        rw [known_same, ← hU] at h50
        have hbad : ¬ mayI F T := fun h => by have := h.1; unfold mayA at this; apply h50; refine ⟨fun _ => by omega, fun _ _ => by omega, ?_⟩; by_cases h3 : F 0 = 3; rw [if_pos h3]; rw [if_neg h3]; exact (List.eq_nil_of_length_eq_zero (by omega)).symm
        refine Sl.calm (Cm.move rfl) rfl ?_
        refine Sl.skip rfl rfl rfl rfl ?_
        refine Sl.skip rfl rfl rfl rfl ?_
        refine Sl.skip rfl rfl rfl rfl ?_
        refine Sl.calm (Cm.pick_t rfl rfl) rfl ?_
        refine Sl.nil ?_
        refine At.weak [(1, _), (4, _), (55, _)] ⟨rfl, rfl, rfl, trivial⟩ ?_
        refine At.go ?_
        refine Sc.cond_t rfl ?_
        refine Sc.seq ?_
        refine Sc.region ?_
        refine Sl.calm (Cm.assign rfl) rfl ?_
        refine Sl.nil ?_
        refine At.go ?_
        refine Sc.ret ?_
        refine At.then_ret ?_
        refine At.ret1 rfl rfl ?_
        first
          | exact ⟨_, rfl, notD hbad, (hF6.trans hF8)⟩
          | exact ⟨_, rfl, notD hbad, hFz⟩
          | exact ⟨_, rfl, notD (fun h => by have := h.1; unfold mayA at this; omega), hFz⟩
          | exact ⟨_, rfl, yesD ⟨by unfold mayA; omega, fun h3 => by first | exact hnul | omega⟩, hFz⟩
          | exact ⟨_, rfl, notD (fun h => h.2 (by omega) hnul), hFz⟩
      ·
        have hsame := (known_same F U T).1 (Decidable.not_not.1 h50)
        obtain ⟨s8, s6, sU⟩ := hsame
        have sT : F 0 ≠ 3 → T.length = 0 := fun h3 => by rw [← sU, ← hU, if_neg h3]; rfl
        refine Sl.calm (Cm.move rfl) rfl ?_
        refine Sl.want rfl rfl (Cm.field fld33_4 rfl) rfl ?_
        refine Sl.want rfl rfl (Cm.ld sca3 rfl (cellF hpz rfl)) rfl ?_
        refine Sl.forkWant rfl rfl (Cm.lss rfl rfl) rfl (fun h54 => ?_) (fun h54 => ?_)
        ·
          have hbad : ¬ mayI F T := fun h => by have := h.1; unfold mayA at this; omega
          refine Sl.calm (Cm.pick_f rfl rfl) rfl ?_
          refine Sl.nil ?_
          refine At.weak [(1, _), (4, _), (55, _)] ⟨rfl, rfl, rfl, trivial⟩ ?_
          refine At.go ?_
          refine Sc.cond_t rfl ?_
          refine Sc.seq ?_
          refine Sc.region ?_
          refine Sl.calm (Cm.assign rfl) rfl ?_
          refine Sl.nil ?_
          refine At.go ?_
          refine Sc.ret ?_
          refine At.then_ret ?_
          refine At.ret1 rfl rfl ?_
          first
            | exact ⟨_, rfl, notD hbad, (hF6.trans hF8)⟩
            | exact ⟨_, rfl, notD hbad, hFz⟩
            | exact ⟨_, rfl, notD (fun h => by have := h.1; unfold mayA at this; omega), hFz⟩
            | exact ⟨_, rfl, yesD ⟨by unfold mayA; omega, fun h3 => by first | exact hnul | omega⟩, hFz⟩
            | exact ⟨_, rfl, notD (fun h => h.2 (by omega) hnul), hFz⟩
        ·
          refine Sl.calm (Cm.pick_f rfl rfl) rfl ?_
          refine Sl.nil ?_
          refine At.weak [(1, _), (4, _), (55, _)] ⟨rfl, rfl, rfl, trivial⟩ ?_
          refine At.go ?_
          refine Sc.cond_f rfl ?_
          refine Sc.skip ?_
          refine At.go ?_
          refine Sc.seq ?_
          refine Sc.seq ?_
          refine Sc.region ?_
          refine Sl.calm (Cm.field fld33_0 rfl) rfl ?_
          refine Sl.calm (Cm.ld sca3 rfl (cellF hpz rfl)) rfl ?_
          refine Sl.nil ?_
          refine At.weak [(1, _), (4, _), (55, _), (57, _)] ⟨rfl, rfl, rfl, rfl, trivial⟩ ?_
          refine At.go ?_
          refine Sc.block ?_
          refine Sc.seq ?_
          refine Sc.region ?_
          refine Sl.fork (Cm.eql rfl rfl) rfl (fun h59 => ?_) (fun h59 => ?_)
          ·
            refine Sl.calm (Cm.assign rfl) rfl ?_
            refine Sl.nil ?_
            refine At.weak [(1, _), (4, _), (55, _), (57, _), (58, _)] ⟨rfl, rfl, rfl, rfl, rfl, trivial⟩ ?_
            refine At.go ?_
            refine Sc.cond_t rfl ?_
            refine Sc.seq ?_
            refine Sc.region ?_
            refine Sl.calm (Cm.field fld33_7 rfl) rfl ?_
            refine Sl.calm (Cm.ld sca3 rfl (cellF hpz rfl)) rfl ?_
            refine Sl.calm (Cm.rem64 rfl rfl (by omega) (by decide)) rfl ?_
            refine Sl.fork (Cm.gtr rfl rfl) rfl (fun h63 => ?_) (fun h63 => ?_)
            ·
              refine Sl.calm (Cm.assign rfl) rfl ?_
              refine Sl.nil ?_
              refine At.weak [(1, _), (4, _), (8, _), (55, _), (57, _), (58, _)] ⟨rfl, rfl, rfl, rfl, rfl, rfl, trivial⟩ ?_
              refine At.go ?_
              refine Sc.seq ?_
              refine Sc.region ?_
              refine Sl.calm (Cm.field fld33_8 rfl) rfl ?_
              refine Sl.calm (Cm.ld sca3 rfl (cellF hpz rfl)) rfl ?_
              refine Sl.fork (Cm.gtr rfl rfl) rfl (fun h66 => ?_) (fun h66 => ?_)
              ·
                refine Sl.calm (Cm.move rfl) rfl ?_
                refine Sl.calm (Cm.eqlBool ty4 rfl rfl) rfl ?_
                refine Sl.calm (Cm.move rfl) rfl ?_
                refine Sl.want rfl rfl (Cm.move rfl) rfl ?_
                refine Sl.want rfl rfl (Cm.move rfl) rfl ?_
                refine Sl.skip rfl rfl rfl rfl ?_
                refine Sl.skip rfl rfl rfl rfl ?_
                refine Sl.skip rfl rfl rfl rfl ?_
                refine Sl.want rfl rfl (Cm.pick_t rfl rfl) rfl ?_
                refine Sl.calm (Cm.pick_t rfl rfl) rfl ?_
                refine Sl.calm (Cm.assign rfl) rfl ?_
                refine Sl.nil ?_
                refine At.weak [(1, _), (2, _), (4, _), (8, _), (55, _), (57, _), (58, _)] ⟨rfl, rfl, rfl, rfl, rfl, rfl, rfl, trivial⟩ ?_
                refine At.go ?_
                refine Sc.ret ?_
                refine At.block_ret ?_
                refine At.then_ret ?_
                refine At.ret1 rfl rfl ?_
                first
                  | exact ⟨_, rfl, notD hbad, (hF6.trans hF8)⟩
                  | exact ⟨_, rfl, notD hbad, hFz⟩
                  | exact ⟨_, rfl, notD (fun h => by have := h.1; unfold mayA at this; omega), hFz⟩
                  | exact ⟨_, rfl, yesD ⟨by unfold mayA; omega, fun h3 => by first | exact hnul | omega⟩, hFz⟩
                  | exact ⟨_, rfl, notD (fun h => h.2 (by omega) hnul), hFz⟩
              ·
                refine Sl.calm (Cm.move rfl) rfl ?_
                refine Sl.calm (Cm.eqlBool ty4 rfl rfl) rfl ?_
                refine Sl.calm (Cm.move rfl) rfl ?_
                refine Sl.skip rfl rfl rfl rfl ?_
                refine Sl.skip rfl rfl rfl rfl ?_
                refine Sl.skip rfl rfl rfl rfl ?_
                refine Sl.skip rfl rfl rfl rfl ?_
                refine Sl.skip rfl rfl rfl rfl ?_
                refine Sl.skip rfl rfl rfl rfl ?_
                refine Sl.calm (Cm.pick_f rfl rfl) rfl ?_
                refine Sl.calm (Cm.assign rfl) rfl ?_
                refine Sl.nil ?_
                refine At.weak [(1, _), (2, _), (4, _), (8, _), (55, _), (57, _), (58, _)] ⟨rfl, rfl, rfl, rfl, rfl, rfl, rfl, trivial⟩ ?_
                refine At.go ?_
                refine Sc.ret ?_
                refine At.block_ret ?_
                refine At.then_ret ?_
                refine At.ret1 rfl rfl ?_
                first
                  | exact ⟨_, rfl, notD hbad, (hF6.trans hF8)⟩
                  | exact ⟨_, rfl, notD hbad, hFz⟩
                  | exact ⟨_, rfl, notD (fun h => by have := h.1; unfold mayA at this; omega), hFz⟩
                  | exact ⟨_, rfl, yesD ⟨by unfold mayA; omega, fun h3 => by first | exact hnul | omega⟩, hFz⟩
                  | exact ⟨_, rfl, notD (fun h => h.2 (by omega) hnul), hFz⟩
            ·
              refine Sl.calm (Cm.assign rfl) rfl ?_
              refine Sl.nil ?_
              refine At.weak [(1, _), (4, _), (8, _), (55, _), (57, _), (58, _)] ⟨rfl, rfl, rfl, rfl, rfl, rfl, trivial⟩ ?_
              refine At.go ?_
              refine Sc.seq ?_
              refine Sc.region ?_
              refine Sl.calm (Cm.field fld33_8 rfl) rfl ?_
              refine Sl.calm (Cm.ld sca3 rfl (cellF hpz rfl)) rfl ?_
              refine Sl.fork (Cm.gtr rfl rfl) rfl (fun h66 => ?_) (fun h66 => ?_)
              ·
                refine Sl.calm (Cm.move rfl) rfl ?_
                refine Sl.calm (Cm.eqlBool ty4 rfl rfl) rfl ?_
                refine Sl.calm (Cm.move rfl) rfl ?_
                refine Sl.skip rfl rfl rfl rfl ?_
                refine Sl.skip rfl rfl rfl rfl ?_
                refine Sl.skip rfl rfl rfl rfl ?_
                refine Sl.skip rfl rfl rfl rfl ?_
                refine Sl.skip rfl rfl rfl rfl ?_
                refine Sl.skip rfl rfl rfl rfl ?_
                refine Sl.calm (Cm.pick_f rfl rfl) rfl ?_
                refine Sl.calm (Cm.assign rfl) rfl ?_
                refine Sl.nil ?_
                refine At.weak [(1, _), (2, _), (4, _), (8, _), (55, _), (57, _), (58, _)] ⟨rfl, rfl, rfl, rfl, rfl, rfl, rfl, trivial⟩ ?_
                refine At.go ?_
                refine Sc.ret ?_
                refine At.block_ret ?_
                refine At.then_ret ?_
                refine At.ret1 rfl rfl ?_
                first
                  | exact ⟨_, rfl, notD hbad, (hF6.trans hF8)⟩
                  | exact ⟨_, rfl, notD hbad, hFz⟩
                  | exact ⟨_, rfl, notD (fun h => by have := h.1; unfold mayA at this; omega), hFz⟩
                  | exact ⟨_, rfl, yesD ⟨by unfold mayA; omega, fun h3 => by first | exact hnul | omega⟩, hFz⟩
                  | exact ⟨_, rfl, notD (fun h => h.2 (by omega) hnul), hFz⟩
              ·
                refine Sl.calm (Cm.move rfl) rfl ?_
                refine Sl.calm (Cm.eqlBool ty4 rfl rfl) rfl ?_
                refine Sl.calm (Cm.move rfl) rfl ?_
                refine Sl.want rfl rfl (Cm.move rfl) rfl ?_
                refine Sl.want rfl rfl (Cm.move rfl) rfl ?_
                refine Sl.want rfl rfl (Cm.field fld33_9 rfl) rfl ?_
                refine Sl.want rfl rfl (Cm.ld sca3 rfl (cellF hpz rfl)) rfl ?_
                refine Sl.forkWant rfl rfl (Cm.eql rfl rfl) rfl (fun h74 => ?_) (fun h74 => ?_)
                ·
                  refine Sl.want rfl rfl (Cm.pick_f rfl rfl) rfl ?_
                  refine Sl.calm (Cm.pick_t rfl rfl) rfl ?_
                  refine Sl.calm (Cm.assign rfl) rfl ?_
                  refine Sl.nil ?_
                  refine At.weak [(1, _), (2, _), (4, _), (8, _), (55, _), (57, _), (58, _)] ⟨rfl, rfl, rfl, rfl, rfl, rfl, rfl, trivial⟩ ?_
                  refine At.go ?_
                  refine Sc.ret ?_
                  refine At.block_ret ?_
                  refine At.then_ret ?_
                  refine At.ret1 rfl rfl ?_
                  first
                    | exact ⟨_, rfl, notD hbad, (hF6.trans hF8)⟩
                    | exact ⟨_, rfl, notD hbad, hFz⟩
                    | exact ⟨_, rfl, notD (fun h => by have := h.1; unfold mayA at this; omega), hFz⟩
                    | exact ⟨_, rfl, yesD ⟨by unfold mayA; omega, fun h3 => by first | exact hnul | omega⟩, hFz⟩
                    | exact ⟨_, rfl, notD (fun h => h.2 (by omega) hnul), hFz⟩
                ·
                  refine Sl.want rfl rfl (Cm.pick_f rfl rfl) rfl ?_
                  refine Sl.calm (Cm.pick_t rfl rfl) rfl ?_
                  refine Sl.calm (Cm.assign rfl) rfl ?_
                  refine Sl.nil ?_
                  refine At.weak [(1, _), (2, _), (4, _), (8, _), (55, _), (57, _), (58, _)] ⟨rfl, rfl, rfl, rfl, rfl, rfl, rfl, trivial⟩ ?_
                  refine At.go ?_
                  refine Sc.ret ?_
                  refine At.block_ret ?_
                  refine At.then_ret ?_
                  refine At.ret1 rfl rfl ?_
                  first
                    | exact ⟨_, rfl, notD hbad, (hF6.trans hF8)⟩
                    | exact ⟨_, rfl, notD hbad, hFz⟩
                    | exact ⟨_, rfl, notD (fun h => by have := h.1; unfold mayA at this; omega), hFz⟩
                    | exact ⟨_, rfl, yesD ⟨by unfold mayA; omega, fun h3 => by first | exact hnul | omega⟩, hFz⟩
                    | exact ⟨_, rfl, notD (fun h => h.2 (by omega) hnul), hFz⟩
          ·
            refine Sl.calm (Cm.assign rfl) rfl ?_
            refine Sl.nil ?_
            refine At.weak [(1, _), (4, _), (55, _), (57, _), (58, _)] ⟨rfl, rfl, rfl, rfl, rfl, trivial⟩ ?_
            refine At.go ?_
            refine Sc.cond_f rfl ?_
            refine Sc.seq ?_
            refine Sc.region ?_
            refine Sl.fork (Cm.eql rfl rfl) rfl (fun h78 => ?_) (fun h78 => ?_)
            ·
              refine Sl.calm (Cm.assign rfl) rfl ?_
              refine Sl.nil ?_
              refine At.weak [(1, _), (4, _), (55, _), (57, _), (58, _), (77, _)] ⟨rfl, rfl, rfl, rfl, rfl, rfl, trivial⟩ ?_
              refine At.go ?_
              refine Sc.cond_t rfl ?_
              refine Sc.seq ?_
              refine Sc.region ?_
              refine Sl.calm (Cm.field fld33_4 rfl) rfl ?_
              refine Sl.calm (Cm.ld sca3 rfl (cellF hpz rfl)) rfl ?_
              refine Sl.fork (Cm.eql rfl rfl) rfl (fun h81 => ?_) (fun h81 => ?_)
              ·
                refine Sl.calm (Cm.assign rfl) rfl ?_
                refine Sl.nil ?_
                refine At.weak [(1, _), (2, _), (4, _), (55, _), (57, _), (58, _), (77, _)] ⟨rfl, rfl, rfl, rfl, rfl, rfl, rfl, trivial⟩ ?_
                refine At.go ?_
                refine Sc.ret ?_
                refine At.block_ret ?_
                refine At.then_ret ?_
                refine At.ret1 rfl rfl ?_
                first
                  | exact ⟨_, rfl, notD hbad, (hF6.trans hF8)⟩
                  | exact ⟨_, rfl, notD hbad, hFz⟩
                  | exact ⟨_, rfl, notD (fun h => by have := h.1; unfold mayA at this; omega), hFz⟩
                  | exact ⟨_, rfl, yesD ⟨by unfold mayA; omega, fun h3 => by first | exact hnul | omega⟩, hFz⟩
                  | exact ⟨_, rfl, notD (fun h => h.2 (by omega) hnul), hFz⟩
              ·
                refine Sl.calm (Cm.assign rfl) rfl ?_
                refine Sl.nil ?_
                refine At.weak [(1, _), (2, _), (4, _), (55, _), (57, _), (58, _), (77, _)] ⟨rfl, rfl, rfl, rfl, rfl, rfl, rfl, trivial⟩ ?_
                refine At.go ?_
                refine Sc.ret ?_
                refine At.block_ret ?_
                refine At.then_ret ?_
                refine At.ret1 rfl rfl ?_
                first
                  | exact ⟨_, rfl, notD hbad, (hF6.trans hF8)⟩
                  | exact ⟨_, rfl, notD hbad, hFz⟩
                  | exact ⟨_, rfl, notD (fun h => by have := h.1; unfold mayA at this; omega), hFz⟩
                  | exact ⟨_, rfl, yesD ⟨by unfold mayA; omega, fun h3 => by first | exact hnul | omega⟩, hFz⟩
                  | exact ⟨_, rfl, notD (fun h => h.2 (by omega) hnul), hFz⟩
            ·
              refine Sl.calm (Cm.assign rfl) rfl ?_
              refine Sl.nil ?_
              refine At.weak [(1, _), (4, _), (55, _), (57, _), (58, _), (77, _)] ⟨rfl, rfl, rfl, rfl, rfl, rfl, trivial⟩ ?_
              refine At.go ?_
              refine Sc.cond_f rfl ?_
              refine Sc.seq ?_
              refine Sc.region ?_
              refine Sl.fork (Cm.eql rfl rfl) rfl (fun h83 => ?_) (fun h83 => ?_)
              ·
                refine Sl.calm (Cm.assign rfl) rfl ?_
                refine Sl.nil ?_
                refine At.weak [(1, _), (4, _), (55, _), (57, _), (58, _), (77, _), (82, _)] ⟨rfl, rfl, rfl, rfl, rfl, rfl, rfl, trivial⟩ ?_
                refine At.go ?_
                refine Sc.cond_t rfl ?_
                refine Sc.seq ?_
                refine Sc.region ?_
                refine Sl.calm (Cm.field fld33_10 rfl) rfl ?_
                refine Sl.calm (Cm.ld sca9 rfl (cellF hpz rfl)) rfl ?_
                refine Sl.calm (Cm.lenBs ty9 rfl) rfl ?_
                refine Sl.fork (Cm.gtr rfl rfl) rfl (fun h87 => ?_) (fun h87 => ?_)
                ·
                  refine Sl.calm (Cm.move rfl) rfl ?_
                  refine Sl.want rfl rfl (Cm.field fld33_10 rfl) rfl ?_
                  refine Sl.want rfl rfl (Cm.ld sca9 rfl (cellF hpz rfl)) rfl ?_
                  refine Sl.want rfl rfl (Cm.lenBs ty9 rfl) rfl ?_
                  refine Sl.forkWant rfl rfl (Cm.leq rfl rfl) rfl (fun h92 => ?_) (fun h92 => ?_)
                  ·
                    refine Sl.calm (Cm.pick_t rfl rfl) rfl ?_
                    refine Sl.calm (Cm.move rfl) rfl ?_
                    refine Sl.want rfl rfl (Cm.field fld33_10 rfl) rfl ?_
                    refine Sl.want rfl rfl (Cm.ld sca9 rfl (cellF hpz rfl)) rfl ?_
                    refine Sl.callWant rfl rfl fn51 rfl (ixb_ok _ 0 w13) rfl ?_
                    rintro _ w14 ⟨rfl, hw14⟩
                    subst w14
                    refine Sl.forkWant rfl rfl (Cm.lss rfl rfl) rfl (fun h98 => ?_) (fun h98 => ?_)
                    ·
                      have hnul := nul_neg h98
                      refine Sl.calm (Cm.pick_t rfl rfl) rfl ?_
                      refine Sl.calm (Cm.assign rfl) rfl ?_
                      refine Sl.nil ?_
                      refine At.weak [(1, _), (2, _), (4, _), (55, _), (57, _), (58, _), (77, _), (82, _)] ⟨rfl, rfl, rfl, rfl, rfl, rfl, rfl, rfl, trivial⟩ ?_
                      refine At.go ?_
                      refine Sc.ret ?_
                      refine At.block_ret ?_
                      refine At.then_ret ?_
                      refine At.ret1 rfl rfl ?_
                      first
                        | exact ⟨_, rfl, notD hbad, (hF6.trans hF8)⟩
                        | exact ⟨_, rfl, notD hbad, hFz⟩
                        | exact ⟨_, rfl, notD (fun h => by have := h.1; unfold mayA at this; omega), hFz⟩
                        | exact ⟨_, rfl, yesD ⟨by unfold mayA; omega, fun h3 => by first | exact hnul | omega⟩, hFz⟩
                        | exact ⟨_, rfl, notD (fun h => h.2 (by omega) hnul), hFz⟩
                    ·
                      have hnul := nul_pos (Int.not_lt.1 h98)
                      refine Sl.calm (Cm.pick_t rfl rfl) rfl ?_
                      refine Sl.calm (Cm.assign rfl) rfl ?_
                      refine Sl.nil ?_
                      refine At.weak [(1, _), (2, _), (4, _), (55, _), (57, _), (58, _), (77, _), (82, _)] ⟨rfl, rfl, rfl, rfl, rfl, rfl, rfl, rfl, trivial⟩ ?_
                      refine At.go ?_
                      refine Sc.ret ?_
                      refine At.block_ret ?_
                      refine At.then_ret ?_
                      refine At.ret1 rfl rfl ?_
                      first
                        | exact ⟨_, rfl, notD hbad, (hF6.trans hF8)⟩
                        | exact ⟨_, rfl, notD hbad, hFz⟩
                        | exact ⟨_, rfl, notD (fun h => by have := h.1; unfold mayA at this; omega), hFz⟩
                        | exact ⟨_, rfl, yesD ⟨by unfold mayA; omega, fun h3 => by first | exact hnul | omega⟩, hFz⟩
                        | exact ⟨_, rfl, notD (fun h => h.2 (by omega) hnul), hFz⟩
                  ·
                    refine Sl.calm (Cm.pick_t rfl rfl) rfl ?_
                    refine Sl.calm (Cm.move rfl) rfl ?_
                    refine Sl.skip rfl rfl rfl rfl ?_
                    refine Sl.skip rfl rfl rfl rfl ?_
                    refine Sl.skip rfl rfl rfl rfl ?_
                    refine Sl.skip rfl rfl rfl rfl ?_
                    refine Sl.calm (Cm.pick_f rfl rfl) rfl ?_
                    refine Sl.calm (Cm.assign rfl) rfl ?_
                    refine Sl.nil ?_
                    refine At.weak [(1, _), (2, _), (4, _), (55, _), (57, _), (58, _), (77, _), (82, _)] ⟨rfl, rfl, rfl, rfl, rfl, rfl, rfl, rfl, trivial⟩ ?_
                    refine At.go ?_
                    refine Sc.ret ?_
                    refine At.block_ret ?_
                    refine At.then_ret ?_
                    refine At.ret1 rfl rfl ?_
                    first
                      | exact ⟨_, rfl, notD hbad, (hF6.trans hF8)⟩
                      | exact ⟨_, rfl, notD hbad, hFz⟩
                      | exact ⟨_, rfl, notD (fun h => by have := h.1; unfold mayA at this; omega), hFz⟩
                      | exact ⟨_, rfl, yesD ⟨by unfold mayA; omega, fun h3 => by first | exact hnul | omega⟩, hFz⟩
                      | exact ⟨_, rfl, notD (fun h => h.2 (by omega) hnul), hFz⟩
                ·
                  refine Sl.calm (Cm.move rfl) rfl ?_
                  refine Sl.skip rfl rfl rfl rfl ?_
                  refine Sl.skip rfl rfl rfl rfl ?_
                  refine Sl.skip rfl rfl rfl rfl ?_
                  refine Sl.skip rfl rfl rfl rfl ?_
                  refine Sl.calm (Cm.pick_f rfl rfl) rfl ?_
                  refine Sl.calm (Cm.move rfl) rfl ?_
                  refine Sl.skip rfl rfl rfl rfl ?_
                  refine Sl.skip rfl rfl rfl rfl ?_
                  refine Sl.skip rfl rfl rfl rfl ?_
                  refine Sl.skip rfl rfl rfl rfl ?_
                  refine Sl.calm (Cm.pick_f rfl rfl) rfl ?_
                  refine Sl.calm (Cm.assign rfl) rfl ?_
                  refine Sl.nil ?_
                  refine At.weak [(1, _), (2, _), (4, _), (55, _), (57, _), (58, _), (77, _), (82, _)] ⟨rfl, rfl, rfl, rfl, rfl, rfl, rfl, rfl, trivial⟩ ?_
                  refine At.go ?_
                  refine Sc.ret ?_
                  refine At.block_ret ?_
                  refine At.then_ret ?_
                  refine At.ret1 rfl rfl ?_
                  first
                    | exact ⟨_, rfl, notD hbad, (hF6.trans hF8)⟩
                    | exact ⟨_, rfl, notD hbad, hFz⟩
                    | exact ⟨_, rfl, notD (fun h => by have := h.1; unfold mayA at this; omega), hFz⟩
                    | exact ⟨_, rfl, yesD ⟨by unfold mayA; omega, fun h3 => by first | exact hnul | omega⟩, hFz⟩
                    | exact ⟨_, rfl, notD (fun h => h.2 (by omega) hnul), hFz⟩
              ·
                refine Sl.calm (Cm.assign rfl) rfl ?_
                refine Sl.nil ?_
                refine At.weak [(1, _), (4, _), (55, _), (57, _), (58, _), (77, _), (82, _)] ⟨rfl, rfl, rfl, rfl, rfl, rfl, rfl, trivial⟩ ?_
                refine At.go ?_
                refine Sc.cond_f rfl ?_
                refine Sc.skip ?_
                refine At.block_normal ?_
                refine At.go ?_
                refine Sc.seq ?_
                refine Sc.region ?_
                refine Sl.calm (Cm.assign rfl) rfl ?_
                refine Sl.nil ?_
                refine At.go ?_
                refine Sc.ret ?_
                refine At.ret1 rfl rfl ?_
                first
                  | exact ⟨_, rfl, notD hbad, (hF6.trans hF8)⟩
                  | exact ⟨_, rfl, notD hbad, hFz⟩
                  | exact ⟨_, rfl, notD (fun h => by have := h.1; unfold mayA at this; omega), hFz⟩
                  | exact ⟨_, rfl, yesD ⟨by unfold mayA; omega, fun h3 => by first | exact hnul | omega⟩, hFz⟩
                  | exact ⟨_, rfl, notD (fun h => h.2 (by omega) hnul), hFz⟩
end Go.Proofs.Ytoaplldahbbaiaa
