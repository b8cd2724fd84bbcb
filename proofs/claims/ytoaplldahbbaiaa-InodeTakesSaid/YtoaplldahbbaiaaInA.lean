/- inode: a record in memory, its fields' table. No condition beyond the bounds that each states. -/
import Derived.Test.YtoaplldahbbaiaaCu
namespace Go.Proofs.Ytoaplldahbbaiaa
open Go Go.RowKit
set_option linter.unusedVariables false

/-! ### records -/
/-- a records cells: ten numbers, a text -/
def inoC (F : Nat → Int) (T : List UInt8) : List Value := [.int .i64 (F 0), .int .i64 (F 1), .int .i64 (F 2), .int .i64 (F 3), .int .i64 (F 4), .int .i64 (F 5), .int .i64 (F 6), .int .i64 (F 7), .int .i64 (F 8), .int .i64 (F 9), .string (bs T)]
theorem inoC_one (F : Nat → Int) (T : List UInt8) : ∀ v ∈ inoC F T, v.oneCell' = true := by simp [inoC, Value.oneCell']
theorem inoC_get (F : Nat → Int) (T : List UInt8) {o : Nat} (h : o < 10) : (inoC F T)[o]? = some (.int .i64 (F o)) := by
  match o, h with
  | 0, _ | 1, _ | 2, _ | 3, _ | 4, _ | 5, _ | 6, _ | 7, _ | 8, _ | 9, _ => rfl
def upd (F : Nat → Int) (o : Nat) (z : Int) : Nat → Int := fun q => if q = o then z else F q
theorem inoC_set (F : Nat → Int) (T : List UInt8) {o : Nat} (h : o < 10) (z : Int) : (inoC F T).set o (.int .i64 z) = inoC (upd F o z) T := by
  match o, h with
  | 0, _ | 1, _ | 2, _ | 3, _ | 4, _ | 5, _ | 6, _ | 7, _ | 8, _ | 9, _ => simp [inoC, upd]
theorem inoC_setT (F : Nat → Int) (T U : List UInt8) : (inoC F T).set 10 (.string (bs U)) = inoC F U := rfl
theorem inoC_inj {F G : Nat → Int} {T U : List UInt8} (h : inoC F T = inoC G U) : (∀ o, o < 10 → F o = G o) ∧ T = U := by
  refine ⟨fun o ho => ?_, ?_⟩
  · have h1 := inoC_get F T ho
    rw [h, inoC_get G U ho] at h1
    simpa using h1.symm
  · simp only [inoC, List.cons.injEq, Value.string.injEq, and_true] at h
    exact bs_inj h.2.2.2.2.2.2.2.2.2.2
theorem inoC_eq {F G : Nat → Int} {T U : List UInt8} (h : ∀ o, o < 10 → F o = G o) (h2 : T = U) : inoC F T = inoC G U := by
  subst h2
  simp only [inoC, h 0 (by decide), h 1 (by decide), h 2 (by decide), h 3 (by decide), h 4 (by decide), h 5 (by decide), h 6 (by decide), h 7 (by decide), h 8 (by decide), h 9 (by decide)]
theorem inoC_ext {F G : Nat → Int} {T U : List UInt8} (h : ∀ o, o < 11 → (inoC F T)[o]? = (inoC G U)[o]?) : inoC F T = inoC G U := by
  apply List.ext_getElem?
  intro i
  by_cases hi : i < 11
  · exact h i hi
  · rw [List.getElem?_eq_none (by simp [inoC]; omega), List.getElem?_eq_none (by simp [inoC]; omega)]

/-! ### the table of fields -/
structure Fd where
  f : Nat
  o : Nat
  b : Int
  m : Int
def fdV (x : Fd) : List Value := [.func (.func x.f) #[] #[], .int .i64 x.b, .int .i64 x.m]
theorem fdV_cells : CellsM 3 fdV := fun x => ⟨rfl, by simp [fdV, Value.oneCell']⟩
def comL : List Fd := [⟨77, 1, 2, 511⟩, ⟨78, 2, 2, 2047⟩, ⟨79, 3, 2, 2047⟩, ⟨80, 4, 2, 1024⟩, ⟨81, 5, 4, 4294967295⟩]
def filL : List Fd := [⟨82, 6, 4, 4294967295⟩, ⟨83, 7, 2, 4096⟩, ⟨84, 8, 2, 1024⟩, ⟨85, 9, 1, 127⟩]
def dirL : List Fd := [⟨82, 6, 4, 4294967295⟩, ⟨83, 7, 4, 1048576⟩]
def fldL (k : Int) : List Fd := if k = 2 then filL else if k = 1 then dirL else []
def recL (k : Int) : List Fd := comL ++ fldL k
def fd0 : Fd := ⟨77, 1, 2, 511⟩
theorem fldL_mem {k : Int} {x : Fd} (h : x ∈ fldL k) : x ∈ filL ∨ x ∈ dirL := by
  unfold fldL at h
  split at h
  · exact .inl h
  · split at h
    · exact .inr h
    · cases h
theorem recL_mem {k : Int} {x : Fd} (h : x ∈ recL k) : x ∈ comL ∨ x ∈ filL ∨ x ∈ dirL := by
  rcases List.mem_append.1 h with h | h
  · exact .inl h
  · exact .inr (fldL_mem h)
theorem recL_len (k : Int) : (recL k).length ≤ 9 := by
  unfold recL fldL
  split
  · decide
  · split <;> decide
theorem recL_at {k : Int} {i : Nat} (h : i < (recL k).length) : (recL k).getD i fd0 ∈ recL k := by
  rw [List.getD, List.getElem?_eq_getElem h]; exact List.getElem_mem h

/-! the functions of the table -/
def OffP (f o : Nat) : Prop := fnB Try.prog f = true ∧ o < 10 ∧ 0 < o ∧ ∀ (b : Nat) (W : World), Calls Try.prog f [.pointer (some ⟨b, 0, none⟩)].toArray W (Ret fun v w' => v = .pointer (some ⟨b, o, none⟩) ∧ w' = W)
theorem ptr_add (b o : Nat) : Value.pointer (some ((⟨b, 0, none⟩ : Addr).add o)) = .pointer (some ⟨b, o, none⟩) := by rw [Addr.add_lit, Nat.zero_add]
theorem off_c1 : OffP 77 1 := by
  refine ⟨fn77, by decide, by decide, fun b W => ?_⟩
  refine calls_of_sc 6 [(0, _)] Try.func77 rfl rfl rfl (enter_slots ⟨rfl, trivial⟩) ?_
  refine Sc.seq ?_
  refine Sc.region ?_
  refine Sl.calm (Cm.assign rfl) rfl ?_
  refine Sl.nil ?_
  refine At.go ?_
  refine Sc.seq ?_
  refine Sc.region ?_
  refine Sl.calm (Cm.move rfl) rfl ?_
  refine Sl.calm (Cm.nilCheck rfl) rfl ?_
  refine Sl.calm (Cm.field fld33_1 rfl) rfl ?_
  refine Sl.calm (Cm.assign rfl) rfl ?_
  refine Sl.nil ?_
  refine At.weak [(0, _), (2, _)] ⟨rfl, rfl, trivial⟩ ?_
  refine At.go ?_
  refine Sc.ret ?_
  refine At.ret1 rfl rfl ?_
  exact ⟨_, rfl, ptr_add b 1, rfl⟩
theorem off_c2 : OffP 78 2 := by
  refine ⟨fn78, by decide, by decide, fun b W => ?_⟩
  refine calls_of_sc 6 [(0, _)] Try.func78 rfl rfl rfl (enter_slots ⟨rfl, trivial⟩) ?_
  refine Sc.seq ?_
  refine Sc.region ?_
  refine Sl.calm (Cm.assign rfl) rfl ?_
  refine Sl.nil ?_
  refine At.go ?_
  refine Sc.seq ?_
  refine Sc.region ?_
  refine Sl.calm (Cm.move rfl) rfl ?_
  refine Sl.calm (Cm.nilCheck rfl) rfl ?_
  refine Sl.calm (Cm.field fld33_2 rfl) rfl ?_
  refine Sl.calm (Cm.assign rfl) rfl ?_
  refine Sl.nil ?_
  refine At.weak [(0, _), (2, _)] ⟨rfl, rfl, trivial⟩ ?_
  refine At.go ?_
  refine Sc.ret ?_
  refine At.ret1 rfl rfl ?_
  exact ⟨_, rfl, ptr_add b 2, rfl⟩
theorem off_c3 : OffP 79 3 := by
  refine ⟨fn79, by decide, by decide, fun b W => ?_⟩
  refine calls_of_sc 6 [(0, _)] Try.func79 rfl rfl rfl (enter_slots ⟨rfl, trivial⟩) ?_
  refine Sc.seq ?_
  refine Sc.region ?_
  refine Sl.calm (Cm.assign rfl) rfl ?_
  refine Sl.nil ?_
  refine At.go ?_
  refine Sc.seq ?_
  refine Sc.region ?_
  refine Sl.calm (Cm.move rfl) rfl ?_
  refine Sl.calm (Cm.nilCheck rfl) rfl ?_
  refine Sl.calm (Cm.field fld33_3 rfl) rfl ?_
  refine Sl.calm (Cm.assign rfl) rfl ?_
  refine Sl.nil ?_
  refine At.weak [(0, _), (2, _)] ⟨rfl, rfl, trivial⟩ ?_
  refine At.go ?_
  refine Sc.ret ?_
  refine At.ret1 rfl rfl ?_
  exact ⟨_, rfl, ptr_add b 3, rfl⟩
theorem off_c4 : OffP 80 4 := by
  refine ⟨fn80, by decide, by decide, fun b W => ?_⟩
  refine calls_of_sc 6 [(0, _)] Try.func80 rfl rfl rfl (enter_slots ⟨rfl, trivial⟩) ?_
  refine Sc.seq ?_
  refine Sc.region ?_
  refine Sl.calm (Cm.assign rfl) rfl ?_
  refine Sl.nil ?_
  refine At.go ?_
  refine Sc.seq ?_
  refine Sc.region ?_
  refine Sl.calm (Cm.move rfl) rfl ?_
  refine Sl.calm (Cm.nilCheck rfl) rfl ?_
  refine Sl.calm (Cm.field fld33_4 rfl) rfl ?_
  refine Sl.calm (Cm.assign rfl) rfl ?_
  refine Sl.nil ?_
  refine At.weak [(0, _), (2, _)] ⟨rfl, rfl, trivial⟩ ?_
  refine At.go ?_
  refine Sc.ret ?_
  refine At.ret1 rfl rfl ?_
  exact ⟨_, rfl, ptr_add b 4, rfl⟩
theorem off_c5 : OffP 81 5 := by
  refine ⟨fn81, by decide, by decide, fun b W => ?_⟩
  refine calls_of_sc 6 [(0, _)] Try.func81 rfl rfl rfl (enter_slots ⟨rfl, trivial⟩) ?_
  refine Sc.seq ?_
  refine Sc.region ?_
  refine Sl.calm (Cm.assign rfl) rfl ?_
  refine Sl.nil ?_
  refine At.go ?_
  refine Sc.seq ?_
  refine Sc.region ?_
  refine Sl.calm (Cm.move rfl) rfl ?_
  refine Sl.calm (Cm.nilCheck rfl) rfl ?_
  refine Sl.calm (Cm.field fld33_5 rfl) rfl ?_
  refine Sl.calm (Cm.assign rfl) rfl ?_
  refine Sl.nil ?_
  refine At.weak [(0, _), (2, _)] ⟨rfl, rfl, trivial⟩ ?_
  refine At.go ?_
  refine Sc.ret ?_
  refine At.ret1 rfl rfl ?_
  exact ⟨_, rfl, ptr_add b 5, rfl⟩
theorem off_f1 : OffP 82 6 := by
  refine ⟨fn82, by decide, by decide, fun b W => ?_⟩
  refine calls_of_sc 6 [(0, _)] Try.func82 rfl rfl rfl (enter_slots ⟨rfl, trivial⟩) ?_
  refine Sc.seq ?_
  refine Sc.region ?_
  refine Sl.calm (Cm.assign rfl) rfl ?_
  refine Sl.nil ?_
  refine At.go ?_
  refine Sc.seq ?_
  refine Sc.region ?_
  refine Sl.calm (Cm.move rfl) rfl ?_
  refine Sl.calm (Cm.nilCheck rfl) rfl ?_
  refine Sl.calm (Cm.field fld33_6 rfl) rfl ?_
  refine Sl.calm (Cm.assign rfl) rfl ?_
  refine Sl.nil ?_
  refine At.weak [(0, _), (2, _)] ⟨rfl, rfl, trivial⟩ ?_
  refine At.go ?_
  refine Sc.ret ?_
  refine At.ret1 rfl rfl ?_
  exact ⟨_, rfl, ptr_add b 6, rfl⟩
theorem off_f2 : OffP 83 7 := by
  refine ⟨fn83, by decide, by decide, fun b W => ?_⟩
  refine calls_of_sc 6 [(0, _)] Try.func83 rfl rfl rfl (enter_slots ⟨rfl, trivial⟩) ?_
  refine Sc.seq ?_
  refine Sc.region ?_
  refine Sl.calm (Cm.assign rfl) rfl ?_
  refine Sl.nil ?_
  refine At.go ?_
  refine Sc.seq ?_
  refine Sc.region ?_
  refine Sl.calm (Cm.move rfl) rfl ?_
  refine Sl.calm (Cm.nilCheck rfl) rfl ?_
  refine Sl.calm (Cm.field fld33_7 rfl) rfl ?_
  refine Sl.calm (Cm.assign rfl) rfl ?_
  refine Sl.nil ?_
  refine At.weak [(0, _), (2, _)] ⟨rfl, rfl, trivial⟩ ?_
  refine At.go ?_
  refine Sc.ret ?_
  refine At.ret1 rfl rfl ?_
  exact ⟨_, rfl, ptr_add b 7, rfl⟩
theorem off_f3 : OffP 84 8 := by
  refine ⟨fn84, by decide, by decide, fun b W => ?_⟩
  refine calls_of_sc 6 [(0, _)] Try.func84 rfl rfl rfl (enter_slots ⟨rfl, trivial⟩) ?_
  refine Sc.seq ?_
  refine Sc.region ?_
  refine Sl.calm (Cm.assign rfl) rfl ?_
  refine Sl.nil ?_
  refine At.go ?_
  refine Sc.seq ?_
  refine Sc.region ?_
  refine Sl.calm (Cm.move rfl) rfl ?_
  refine Sl.calm (Cm.nilCheck rfl) rfl ?_
  refine Sl.calm (Cm.field fld33_8 rfl) rfl ?_
  refine Sl.calm (Cm.assign rfl) rfl ?_
  refine Sl.nil ?_
  refine At.weak [(0, _), (2, _)] ⟨rfl, rfl, trivial⟩ ?_
  refine At.go ?_
  refine Sc.ret ?_
  refine At.ret1 rfl rfl ?_
  exact ⟨_, rfl, ptr_add b 8, rfl⟩
theorem off_f4 : OffP 85 9 := by
  refine ⟨fn85, by decide, by decide, fun b W => ?_⟩
  refine calls_of_sc 6 [(0, _)] Try.func85 rfl rfl rfl (enter_slots ⟨rfl, trivial⟩) ?_
  refine Sc.seq ?_
  refine Sc.region ?_
  refine Sl.calm (Cm.assign rfl) rfl ?_
  refine Sl.nil ?_
  refine At.go ?_
  refine Sc.seq ?_
  refine Sc.region ?_
  refine Sl.calm (Cm.move rfl) rfl ?_
  refine Sl.calm (Cm.nilCheck rfl) rfl ?_
  refine Sl.calm (Cm.field fld33_9 rfl) rfl ?_
  refine Sl.calm (Cm.assign rfl) rfl ?_
  refine Sl.nil ?_
  refine At.weak [(0, _), (2, _)] ⟨rfl, rfl, trivial⟩ ?_
  refine At.go ?_
  refine Sc.ret ?_
  refine At.ret1 rfl rfl ?_
  exact ⟨_, rfl, ptr_add b 9, rfl⟩
theorem recL_off {k : Int} {x : Fd} (h : x ∈ recL k) : OffP x.f x.o ∧ 1 ≤ x.b ∧ x.b ≤ 4 ∧ 0 ≤ x.m ∧ x.m < 2 ^ (8 * x.b).toNat := by
  rcases recL_mem h with h | h | h
  · simp only [comL, List.mem_cons, List.not_mem_nil, or_false] at h
    rcases h with rfl | rfl | rfl | rfl | rfl
    · exact ⟨off_c1, by decide, by decide, by decide, by decide⟩
    · exact ⟨off_c2, by decide, by decide, by decide, by decide⟩
    · exact ⟨off_c3, by decide, by decide, by decide, by decide⟩
    · exact ⟨off_c4, by decide, by decide, by decide, by decide⟩
    · exact ⟨off_c5, by decide, by decide, by decide, by decide⟩
  · simp only [filL, List.mem_cons, List.not_mem_nil, or_false] at h
    rcases h with rfl | rfl | rfl | rfl
    · exact ⟨off_f1, by decide, by decide, by decide, by decide⟩
    · exact ⟨off_f2, by decide, by decide, by decide, by decide⟩
    · exact ⟨off_f3, by decide, by decide, by decide, by decide⟩
    · exact ⟨off_f4, by decide, by decide, by decide, by decide⟩
  · simp only [dirL, List.mem_cons, List.not_mem_nil, or_false] at h
    rcases h with rfl | rfl
    · exact ⟨off_f1, by decide, by decide, by decide, by decide⟩
    · exact ⟨off_f2, by decide, by decide, by decide, by decide⟩

def FdP (W : World) (L : List Fd) : Value → World → Prop := fun v w' => ∃ ao c, v = .slice ao L.length c ∧ OwnM 3 fdV 99 w'.heap ao c L ∧ Fr W.heap.size ao ∧ Foot nob W w'
theorem common_ok (W : World) : Calls Try.prog 52 [].toArray W (Ret (FdP W comL)) := by
  refine calls_of_sc 7 [] Try.func52 rfl rfl rfl (enter_slots trivial) ?_
  refine Sc.seq ?_
  refine Sc.region ?_
  refine Sl.calm (Cm.assign rfl) rfl ?_
  refine Sl.nil ?_
  refine At.go ?_
  refine Sc.seq ?_
  refine Sc.region ?_
  refine Sl.calm (Cm.build (cs := (fdV ⟨77, 1, 2, 511⟩).toArray) plc99 zc99 rfl (by kernel_rfl)) rfl ?_
  refine Sl.calm (Cm.build (cs := (fdV ⟨78, 2, 2, 2047⟩).toArray) plc99 zc99 rfl (by kernel_rfl)) rfl ?_
  refine Sl.calm (Cm.build (cs := (fdV ⟨79, 3, 2, 2047⟩).toArray) plc99 zc99 rfl (by kernel_rfl)) rfl ?_
  refine Sl.calm (Cm.build (cs := (fdV ⟨80, 4, 2, 1024⟩).toArray) plc99 zc99 rfl (by kernel_rfl)) rfl ?_
  refine Sl.calm (Cm.build (cs := (fdV ⟨81, 5, 4, 4294967295⟩).toArray) plc99 zc99 rfl (by kernel_rfl)) rfl ?_
  refine Sl.litG sl94 (cs := (comL.flatMap fdV).toArray) zc99 rfl rfl rfl (by kernel_rfl) rfl ?_
  intro w1 ho1 hs1 hf1
  refine Sl.calm (Cm.assign rfl) rfl ?_
  refine Sl.nil ?_
  refine At.weak [(0, _)] ⟨rfl, trivial⟩ ?_
  refine At.go ?_
  refine Sc.ret ?_
  refine At.ret1 rfl rfl ?_
  exact ⟨_, rfl, _, _, rfl, ownM_new fdV_cells ho1 (by decide), fr_at _, hf1⟩
theorem fields_ok (k : Int) (W : World) : Calls Try.prog 53 [.int .i64 k].toArray W (Ret (FdP W (fldL k))) := by
  refine calls_of_sc 22 [(0, _)] Try.func53 rfl rfl rfl (enter_slots ⟨rfl, trivial⟩) ?_
  refine Sc.seq ?_
  refine Sc.region ?_
  refine Sl.calm (Cm.assign rfl) rfl ?_
  refine Sl.nil ?_
  refine At.go ?_
  refine Sc.seq ?_
  refine Sc.region ?_
  refine Sl.calm (Cm.assign rfl) rfl ?_
  refine Sl.nil ?_
  refine At.go ?_
  refine Sc.seq ?_
  refine Sc.region ?_
  refine Sl.calm (Cm.assign rfl) rfl ?_
  refine Sl.nil ?_
  refine At.go ?_
  refine Sc.seq ?_
  refine Sc.seq ?_
  refine Sc.region ?_
  refine Sl.calm (Cm.move rfl) rfl ?_
  refine Sl.nil ?_
  refine At.go ?_
  refine Sc.block ?_
  refine Sc.seq ?_
  refine Sc.region ?_
  refine Sl.fork (Cm.eql rfl rfl) rfl (fun h7 => ?_) (fun h7 => ?_)
  ·
    refine Sl.calm (Cm.assign rfl) rfl ?_
    refine Sl.nil ?_
    refine At.weak [(0, _), (2, _), (3, _), (4, _), (5, _), (6, _)] ⟨rfl, rfl, rfl, rfl, rfl, rfl, trivial⟩ ?_
    refine At.go ?_
    refine Sc.cond_t rfl ?_
    refine Sc.seq ?_
    refine Sc.region ?_
    refine Sl.calm (Cm.move rfl) rfl ?_
    refine Sl.calm (Cm.build (cs := (fdV ⟨82, 6, 4, 4294967295⟩).toArray) plc99 zc99 rfl (by kernel_rfl)) rfl ?_
    refine Sl.calm (Cm.move rfl) rfl ?_
    refine Sl.calm (Cm.build (cs := (fdV ⟨83, 7, 2, 4096⟩).toArray) plc99 zc99 rfl (by kernel_rfl)) rfl ?_
    refine Sl.calm (Cm.build (cs := (fdV ⟨84, 8, 2, 1024⟩).toArray) plc99 zc99 rfl (by kernel_rfl)) rfl ?_
    refine Sl.calm (Cm.build (cs := (fdV ⟨85, 9, 1, 127⟩).toArray) plc99 zc99 rfl (by kernel_rfl)) rfl ?_
    refine Sl.litG sl94 (cs := (filL.flatMap fdV).toArray) zc99 rfl rfl rfl (by kernel_rfl) rfl ?_
    intro w1 ho1 hs1 hf1
    refine Sl.calm (Cm.assign rfl) rfl ?_
    refine Sl.nil ?_
    refine At.weak [(0, _), (2, _), (3, _), (4, _), (5, _), (6, _)] ⟨rfl, rfl, rfl, rfl, rfl, rfl, trivial⟩ ?_
    refine At.go ?_
    refine Sc.ret ?_
    refine At.block_ret ?_
    refine At.then_ret ?_
    refine At.ret1 rfl rfl ?_
    have e : fldL k = filL := by unfold fldL; rw [if_pos h7]
    rw [e]
    exact ⟨_, rfl, _, _, rfl, ownM_new fdV_cells ho1 (by decide), fr_at _, hf1⟩
  ·
    refine Sl.calm (Cm.assign rfl) rfl ?_
    refine Sl.nil ?_
    refine At.weak [(0, _), (2, _), (3, _), (4, _), (5, _), (6, _)] ⟨rfl, rfl, rfl, rfl, rfl, rfl, trivial⟩ ?_
    refine At.go ?_
    refine Sc.cond_f rfl ?_
    refine Sc.seq ?_
    refine Sc.region ?_
    refine Sl.fork (Cm.eql rfl rfl) rfl (fun h16 => ?_) (fun h16 => ?_)
    ·
      refine Sl.calm (Cm.assign rfl) rfl ?_
      refine Sl.nil ?_
      refine At.weak [(0, _), (2, _), (3, _), (4, _), (5, _), (6, _), (15, _)] ⟨rfl, rfl, rfl, rfl, rfl, rfl, rfl, trivial⟩ ?_
      refine At.go ?_
      refine Sc.cond_t rfl ?_
      refine Sc.seq ?_
      refine Sc.region ?_
      refine Sl.calm (Cm.move rfl) rfl ?_
      refine Sl.calm (Cm.build (cs := (fdV ⟨82, 6, 4, 4294967295⟩).toArray) plc99 zc99 rfl (by kernel_rfl)) rfl ?_
      refine Sl.calm (Cm.move rfl) rfl ?_
      refine Sl.calm (Cm.build (cs := (fdV ⟨83, 7, 4, 1048576⟩).toArray) plc99 zc99 rfl (by kernel_rfl)) rfl ?_
      refine Sl.litG sl94 (cs := (dirL.flatMap fdV).toArray) zc99 rfl rfl rfl (by kernel_rfl) rfl ?_
      intro w1 ho1 hs1 hf1
      refine Sl.calm (Cm.assign rfl) rfl ?_
      refine Sl.nil ?_
      refine At.weak [(0, _), (2, _), (3, _), (4, _), (5, _), (6, _), (15, _)] ⟨rfl, rfl, rfl, rfl, rfl, rfl, rfl, trivial⟩ ?_
      refine At.go ?_
      refine Sc.ret ?_
      refine At.block_ret ?_
      refine At.then_ret ?_
      refine At.ret1 rfl rfl ?_
      have e : fldL k = dirL := by unfold fldL; rw [if_neg h7, if_pos h16]
      rw [e]
      exact ⟨_, rfl, _, _, rfl, ownM_new fdV_cells ho1 (by decide), fr_at _, hf1⟩
    ·
      refine Sl.calm (Cm.assign rfl) rfl ?_
      refine Sl.nil ?_
      refine At.weak [(0, _), (2, _), (3, _), (4, _), (5, _), (6, _), (15, _)] ⟨rfl, rfl, rfl, rfl, rfl, rfl, rfl, trivial⟩ ?_
      refine At.go ?_
      refine Sc.cond_f rfl ?_
      refine Sc.skip ?_
      refine At.block_normal ?_
      refine At.go ?_
      refine Sc.seq ?_
      refine Sc.region ?_
      refine Sl.calm (Cm.assign rfl) rfl ?_
      refine Sl.nil ?_
      refine At.go ?_
      refine Sc.ret ?_
      refine At.ret1 rfl rfl ?_
      have e : fldL k = [] := by unfold fldL; rw [if_neg h7, if_neg h16]
      rw [e]
      exact ⟨_, rfl, none, 0, rfl, OwnM.nil, Fr.none, Foot.refl _ _⟩
end Go.Proofs.Ytoaplldahbbaiaa
