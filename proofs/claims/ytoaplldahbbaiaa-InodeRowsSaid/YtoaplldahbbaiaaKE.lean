/- inode: a record in memory, its fields' table. No condition beyond the bounds that each states. -/
import Derived.Test.YtoaplldahbbaiaaCuk
import Derived.Test.YtoaplldahbbaiaaTpBk
import Derived.Test.YtoaplldahbbaiaaTpCk
namespace Go.Proofs.Ytoaplldahbbaiaa
open Go Go.RowKit
set_option linter.unusedVariables false

/-! ### records -/
/-- a records cells: ten numbers, a text -/
def inoC (F : Nat → Int) (T : List UInt8) : List Value := [.int .i64 (F 0), .int .i64 (F 1), .int .i64 (F 2), .int .i64 (F 3), .int .i64 (F 4), .int .i64 (F 5), .int .i64 (F 6), .int .i64 (F 7), .int .i64 (F 8), .int .i64 (F 9), .string (bs T)]
theorem inoC_one (F : Nat → Int) (T : List UInt8) : ∀ v ∈ inoC F T, v.oneCell' = true := by simp [inoC, Value.oneCell']
theorem inoC_get (F : Nat → Int) (T : List UInt8) {o : Nat} (h : o < 10) : (inoC F T)[o]? = some (.int .i64 (F o)) := by
  match o, h with
  | 0, _ | 1, _ | 2, _ | 3, _ | 4, _ | 5, _ | 6, _ | 7, _ | 8, _ | 9, _ => rfl
def upd (F : Nat → Int) (o : Nat) (z : Int) : Nat → Int := fun q => if q = o then z else F q
theorem inoC_set (F : Nat → Int) (T : List UInt8) {o : Nat} (h : o < 10) (z : Int) : (inoC F T).set o (.int .i64 z) = inoC (upd F o z) T := by
  match o, h with
  | 0, _ | 1, _ | 2, _ | 3, _ | 4, _ | 5, _ | 6, _ | 7, _ | 8, _ | 9, _ => simp [inoC, upd]
theorem inoC_setT (F : Nat → Int) (T U : List UInt8) : (inoC F T).set 10 (.string (bs U)) = inoC F U := rfl
theorem inoC_inj {F G : Nat → Int} {T U : List UInt8} (h : inoC F T = inoC G U) : (∀ o, o < 10 → F o = G o) ∧ T = U := by
  refine ⟨fun o ho => ?_, ?_⟩
  · have h1 := inoC_get F T ho
    rw [h, inoC_get G U ho] at h1
    simpa using h1.symm
  · simp only [inoC, List.cons.injEq, Value.string.injEq, and_true] at h
    exact bs_inj h.2.2.2.2.2.2.2.2.2.2
theorem inoC_eq {F G : Nat → Int} {T U : List UInt8} (h : ∀ o, o < 10 → F o = G o) (h2 : T = U) : inoC F T = inoC G U := by
  subst h2
  simp only [inoC, h 0 (by decide), h 1 (by decide), h 2 (by decide), h 3 (by decide), h 4 (by decide), h 5 (by decide), h 6 (by decide), h 7 (by decide), h 8 (by decide), h 9 (by decide)]
theorem inoC_ext {F G : Nat → Int} {T U : List UInt8} (h : ∀ o, o < 11 → (inoC F T)[o]? = (inoC G U)[o]?) : inoC F T = inoC G U := by
  apply List.ext_getElem?
  intro i
  by_cases hi : i < 11
  · exact h i hi
  · rw [List.getElem?_eq_none (by simp [inoC]; omega), List.getElem?_eq_none (by simp [inoC]; omega)]

/-! ### the table of fields -/
structure Fd where
  f : Nat
  o : Nat
  b : Int
  m : Int
def fdV (x : Fd) : List Value := [.func (.func x.f) #[] #[], .int .i64 x.b, .int .i64 x.m]
theorem fdV_cells : CellsM 3 fdV := fun x => ⟨rfl, by simp [fdV, Value.oneCell']⟩
def comL : List Fd := [⟨77, 1, 2, 511⟩, ⟨78, 2, 2, 2047⟩, ⟨79, 3, 2, 2047⟩, ⟨80, 4, 2, 1024⟩, ⟨81, 5, 4, 4294967295⟩]
def filL : List Fd := [⟨82, 6, 4, 4294967295⟩, ⟨83, 7, 2, 4096⟩, ⟨84, 8, 2, 1024⟩, ⟨85, 9, 1, 127⟩]
def dirL : List Fd := [⟨82, 6, 4, 4294967295⟩, ⟨83, 7, 4, 1048576⟩]
def fldL (k : Int) : List Fd := if k = 2 then filL else if k = 1 then dirL else []
def recL (k : Int) : List Fd := comL ++ fldL k
def fd0 : Fd := ⟨77, 1, 2, 511⟩
theorem fldL_mem {k : Int} {x : Fd} (h : x ∈ fldL k) : x ∈ filL ∨ x ∈ dirL := by
  unfold fldL at h
  split at h
  · exact .inl h
  · split at h
    · exact .inr h
    · cases h
theorem recL_mem {k : Int} {x : Fd} (h : x ∈ recL k) : x ∈ comL ∨ x ∈ filL ∨ x ∈ dirL := by
  rcases List.mem_append.1 h with h | h
  · exact .inl h
  · exact .inr (fldL_mem h)
theorem recL_len (k : Int) : (recL k).length ≤ 9 := by
  unfold recL fldL
  split
  · decide
  · split <;> decide
theorem recL_at {k : Int} {i : Nat} (h : i < (recL k).length) : (recL k).getD i fd0 ∈ recL k := by
  rw [List.getD, List.getElem?_eq_getElem h]; exact List.getElem_mem h

/-! the functions of the table -/
def OffP (f o : Nat) : Prop := fnB Try.prog f = true ∧ o < 10 ∧ 0 < o ∧ ∀ (b : Nat) (W : World), Calls Try.prog f [.pointer (some ⟨b, 0, none⟩)].toArray W (Ret fun v w' => v = .pointer (some ⟨b, o, none⟩) ∧ w' = W)
theorem ptr_add (b o : Nat) : Value.pointer (some ((⟨b, 0, none⟩ : Addr).add o)) = .pointer (some ⟨b, o, none⟩) := by rw [Addr.add_lit, Nat.zero_add]
theorem off_c1 : OffP 77 1 := by
  refine ⟨fn77, by decide, by decide, fun b W => ?_⟩
  refine calls_of_sc 6 [(0, _)] Try.func77 rfl rfl rfl (enter_slots ⟨rfl, trivial⟩) ?_
  refine Sc.seq ?_
  refine Sc.region ?_
  refine Sl.calm (Cm.assign rfl) rfl ?_
  refine Sl.nil ?_
  refine At.go ?_
  refine Sc.seq ?_
  refine Sc.region ?_
  refine Sl.calm (Cm.move rfl) rfl ?_
  refine Sl.calm (Cm.nilCheck rfl) rfl ?_
  refine Sl.calm (Cm.field fld33_1 rfl) rfl ?_
  refine Sl.calm (Cm.assign rfl) rfl ?_
  refine Sl.nil ?_
  refine At.weak [(0, _), (2, _)] ⟨rfl, rfl, trivial⟩ ?_
  refine At.go ?_
  refine Sc.ret ?_
  refine At.ret1 rfl rfl ?_
  exact ⟨_, rfl, ptr_add b 1, rfl⟩
theorem off_c2 : OffP 78 2 := by
  refine ⟨fn78, by decide, by decide, fun b W => ?_⟩
  refine calls_of_sc 6 [(0, _)] Try.func78 rfl rfl rfl (enter_slots ⟨rfl, trivial⟩) ?_
  refine Sc.seq ?_
  refine Sc.region ?_
  refine Sl.calm (Cm.assign rfl) rfl ?_
  refine Sl.nil ?_
  refine At.go ?_
  refine Sc.seq ?_
  refine Sc.region ?_
  refine Sl.calm (Cm.move rfl) rfl ?_
  refine Sl.calm (Cm.nilCheck rfl) rfl ?_
  refine Sl.calm (Cm.field fld33_2 rfl) rfl ?_
  refine Sl.calm (Cm.assign rfl) rfl ?_
  refine Sl.nil ?_
  refine At.weak [(0, _), (2, _)] ⟨rfl, rfl, trivial⟩ ?_
  refine At.go ?_
  refine Sc.ret ?_
  refine At.ret1 rfl rfl ?_
  exact ⟨_, rfl, ptr_add b 2, rfl⟩
theorem off_c3 : OffP 79 3 := by
  refine ⟨fn79, by decide, by decide, fun b W => ?_⟩
  refine calls_of_sc 6 [(0, _)] Try.func79 rfl rfl rfl (enter_slots ⟨rfl, trivial⟩) ?_
  refine Sc.seq ?_
  refine Sc.region ?_
  refine Sl.calm (Cm.assign rfl) rfl ?_
  refine Sl.nil ?_
  refine At.go ?_
  refine Sc.seq ?_
  refine Sc.region ?_
  refine Sl.calm (Cm.move rfl) rfl ?_
  refine Sl.calm (Cm.nilCheck rfl) rfl ?_
  refine Sl.calm (Cm.field fld33_3 rfl) rfl ?_
  refine Sl.calm (Cm.assign rfl) rfl ?_
  refine Sl.nil ?_
  refine At.weak [(0, _), (2, _)] ⟨rfl, rfl, trivial⟩ ?_
  refine At.go ?_
  refine Sc.ret ?_
  refine At.ret1 rfl rfl ?_
  exact ⟨_, rfl, ptr_add b 3, rfl⟩
theorem off_c4 : OffP 80 4 := by
  refine ⟨fn80, by decide, by decide, fun b W => ?_⟩
  refine calls_of_sc 6 [(0, _)] Try.func80 rfl rfl rfl (enter_slots ⟨rfl, trivial⟩) ?_
  refine Sc.seq ?_
  refine Sc.region ?_
  refine Sl.calm (Cm.assign rfl) rfl ?_
  refine Sl.nil ?_
  refine At.go ?_
  refine Sc.seq ?_
  refine Sc.region ?_
  refine Sl.calm (Cm.move rfl) rfl ?_
  refine Sl.calm (Cm.nilCheck rfl) rfl ?_
  refine Sl.calm (Cm.field fld33_4 rfl) rfl ?_
  refine Sl.calm (Cm.assign rfl) rfl ?_
  refine Sl.nil ?_
  refine At.weak [(0, _), (2, _)] ⟨rfl, rfl, trivial⟩ ?_
  refine At.go ?_
  refine Sc.ret ?_
  refine At.ret1 rfl rfl ?_
  exact ⟨_, rfl, ptr_add b 4, rfl⟩
theorem off_c5 : OffP 81 5 := by
  refine ⟨fn81, by decide, by decide, fun b W => ?_⟩
  refine calls_of_sc 6 [(0, _)] Try.func81 rfl rfl rfl (enter_slots ⟨rfl, trivial⟩) ?_
  refine Sc.seq ?_
  refine Sc.region ?_
  refine Sl.calm (Cm.assign rfl) rfl ?_
  refine Sl.nil ?_
  refine At.go ?_
  refine Sc.seq ?_
  refine Sc.region ?_
  refine Sl.calm (Cm.move rfl) rfl ?_
  refine Sl.calm (Cm.nilCheck rfl) rfl ?_
  refine Sl.calm (Cm.field fld33_5 rfl) rfl ?_
  refine Sl.calm (Cm.assign rfl) rfl ?_
  refine Sl.nil ?_
  refine At.weak [(0, _), (2, _)] ⟨rfl, rfl, trivial⟩ ?_
  refine At.go ?_
  refine Sc.ret ?_
  refine At.ret1 rfl rfl ?_
  exact ⟨_, rfl, ptr_add b 5, rfl⟩
theorem off_f1 : OffP 82 6 := by
  refine ⟨fn82, by decide, by decide, fun b W => ?_⟩
  refine calls_of_sc 6 [(0, _)] Try.func82 rfl rfl rfl (enter_slots ⟨rfl, trivial⟩) ?_
  refine Sc.seq ?_
  refine Sc.region ?_
  refine Sl.calm (Cm.assign rfl) rfl ?_
  refine Sl.nil ?_
  refine At.go ?_
  refine Sc.seq ?_
  refine Sc.region ?_
  refine Sl.calm (Cm.move rfl) rfl ?_
  refine Sl.calm (Cm.nilCheck rfl) rfl ?_
  refine Sl.calm (Cm.field fld33_6 rfl) rfl ?_
  refine Sl.calm (Cm.assign rfl) rfl ?_
  refine Sl.nil ?_
  refine At.weak [(0, _), (2, _)] ⟨rfl, rfl, trivial⟩ ?_
  refine At.go ?_
  refine Sc.ret ?_
  refine At.ret1 rfl rfl ?_
  exact ⟨_, rfl, ptr_add b 6, rfl⟩
theorem off_f2 : OffP 83 7 := by
  refine ⟨fn83, by decide, by decide, fun b W => ?_⟩
  refine calls_of_sc 6 [(0, _)] Try.func83 rfl rfl rfl (enter_slots ⟨rfl, trivial⟩) ?_
  refine Sc.seq ?_
  refine Sc.region ?_
  refine Sl.calm (Cm.assign rfl) rfl ?_
  refine Sl.nil ?_
  refine At.go ?_
  refine Sc.seq ?_
  refine Sc.region ?_
  refine Sl.calm (Cm.move rfl) rfl ?_
  refine Sl.calm (Cm.nilCheck rfl) rfl ?_
  refine Sl.calm (Cm.field fld33_7 rfl) rfl ?_
  refine Sl.calm (Cm.assign rfl) rfl ?_
  refine Sl.nil ?_
  refine At.weak [(0, _), (2, _)] ⟨rfl, rfl, trivial⟩ ?_
  refine At.go ?_
  refine Sc.ret ?_
  refine At.ret1 rfl rfl ?_
  exact ⟨_, rfl, ptr_add b 7, rfl⟩
theorem off_f3 : OffP 84 8 := by
  refine ⟨fn84, by decide, by decide, fun b W => ?_⟩
  refine calls_of_sc 6 [(0, _)] Try.func84 rfl rfl rfl (enter_slots ⟨rfl, trivial⟩) ?_
  refine Sc.seq ?_
  refine Sc.region ?_
  refine Sl.calm (Cm.assign rfl) rfl ?_
  refine Sl.nil ?_
  refine At.go ?_
  refine Sc.seq ?_
  refine Sc.region ?_
  refine Sl.calm (Cm.move rfl) rfl ?_
  refine Sl.calm (Cm.nilCheck rfl) rfl ?_
  refine Sl.calm (Cm.field fld33_8 rfl) rfl ?_
  refine Sl.calm (Cm.assign rfl) rfl ?_
  refine Sl.nil ?_
  refine At.weak [(0, _), (2, _)] ⟨rfl, rfl, trivial⟩ ?_
  refine At.go ?_
  refine Sc.ret ?_
  refine At.ret1 rfl rfl ?_
  exact ⟨_, rfl, ptr_add b 8, rfl⟩
theorem off_f4 : OffP 85 9 := by
  refine ⟨fn85, by decide, by decide, fun b W => ?_⟩
  refine calls_of_sc 6 [(0, _)] Try.func85 rfl rfl rfl (enter_slots ⟨rfl, trivial⟩) ?_
  refine Sc.seq ?_
  refine Sc.region ?_
  refine Sl.calm (Cm.assign rfl) rfl ?_
  refine Sl.nil ?_
  refine At.go ?_
  refine Sc.seq ?_
  refine Sc.region ?_
  refine Sl.calm (Cm.move rfl) rfl ?_
  refine Sl.calm (Cm.nilCheck rfl) rfl ?_
  refine Sl.calm (Cm.field fld33_9 rfl) rfl ?_
  refine Sl.calm (Cm.assign rfl) rfl ?_
  refine Sl.nil ?_
  refine At.weak [(0, _), (2, _)] ⟨rfl, rfl, trivial⟩ ?_
  refine At.go ?_
  refine Sc.ret ?_
  refine At.ret1 rfl rfl ?_
  exact ⟨_, rfl, ptr_add b 9, rfl⟩
theorem recL_off {k : Int} {x : Fd} (h : x ∈ recL k) : OffP x.f x.o ∧ 1 ≤ x.b ∧ x.b ≤ 4 ∧ 0 ≤ x.m ∧ x.m < 2 ^ (8 * x.b).toNat := by
  rcases recL_mem h with h | h | h
  · simp only [comL, List.mem_cons, List.not_mem_nil, or_false] at h
    rcases h with rfl | rfl | rfl | rfl | rfl
    · exact ⟨off_c1, by decide, by decide, by decide, by decide⟩
    · exact ⟨off_c2, by decide, by decide, by decide, by decide⟩
    · exact ⟨off_c3, by decide, by decide, by decide, by decide⟩
    · exact ⟨off_c4, by decide, by decide, by decide, by decide⟩
    · exact ⟨off_c5, by decide, by decide, by decide, by decide⟩
  · simp only [filL, List.mem_cons, List.not_mem_nil, or_false] at h
    rcases h with rfl | rfl | rfl | rfl
    · exact ⟨off_f1, by decide, by decide, by decide, by decide⟩
    · exact ⟨off_f2, by decide, by decide, by decide, by decide⟩
    · exact ⟨off_f3, by decide, by decide, by decide, by decide⟩
    · exact ⟨off_f4, by decide, by decide, by decide, by decide⟩
  · simp only [dirL, List.mem_cons, List.not_mem_nil, or_false] at h
    rcases h with rfl | rfl
    · exact ⟨off_f1, by decide, by decide, by decide, by decide⟩
    · exact ⟨off_f2, by decide, by decide, by decide, by decide⟩

def FdP (W : World) (L : List Fd) : Value → World → Prop := fun v w' => ∃ ao c, v = .slice ao L.length c ∧ OwnM 3 fdV 99 w'.heap ao c L ∧ Fr W.heap.size ao ∧ Foot nob W w'
theorem common_ok (W : World) : Calls Try.prog 52 [].toArray W (Ret (FdP W comL)) := by
  refine calls_of_sc 7 [] Try.func52 rfl rfl rfl (enter_slots trivial) ?_
  refine Sc.seq ?_
  refine Sc.region ?_
  refine Sl.calm (Cm.assign rfl) rfl ?_
  refine Sl.nil ?_
  refine At.go ?_
  refine Sc.seq ?_
  refine Sc.region ?_
  refine Sl.calm (Cm.build (cs := (fdV ⟨77, 1, 2, 511⟩).toArray) plc99 zc99 rfl (by kernel_rfl)) rfl ?_
  refine Sl.calm (Cm.build (cs := (fdV ⟨78, 2, 2, 2047⟩).toArray) plc99 zc99 rfl (by kernel_rfl)) rfl ?_
  refine Sl.calm (Cm.build (cs := (fdV ⟨79, 3, 2, 2047⟩).toArray) plc99 zc99 rfl (by kernel_rfl)) rfl ?_
  refine Sl.calm (Cm.build (cs := (fdV ⟨80, 4, 2, 1024⟩).toArray) plc99 zc99 rfl (by kernel_rfl)) rfl ?_
  refine Sl.calm (Cm.build (cs := (fdV ⟨81, 5, 4, 4294967295⟩).toArray) plc99 zc99 rfl (by kernel_rfl)) rfl ?_
  refine Sl.litG sl94 (cs := (comL.flatMap fdV).toArray) zc99 rfl rfl rfl (by kernel_rfl) rfl ?_
  intro w1 ho1 hs1 hf1
  refine Sl.calm (Cm.assign rfl) rfl ?_
  refine Sl.nil ?_
  refine At.weak [(0, _)] ⟨rfl, trivial⟩ ?_
  refine At.go ?_
  refine Sc.ret ?_
  refine At.ret1 rfl rfl ?_
  exact ⟨_, rfl, _, _, rfl, ownM_new fdV_cells ho1 (by decide), fr_at _, hf1⟩
theorem fields_ok (k : Int) (W : World) : Calls Try.prog 53 [.int .i64 k].toArray W (Ret (FdP W (fldL k))) := by
  refine calls_of_sc 22 [(0, _)] Try.func53 rfl rfl rfl (enter_slots ⟨rfl, trivial⟩) ?_
  refine Sc.seq ?_
  refine Sc.region ?_
  refine Sl.calm (Cm.assign rfl) rfl ?_
  refine Sl.nil ?_
  refine At.go ?_
  refine Sc.seq ?_
  refine Sc.region ?_
  refine Sl.calm (Cm.assign rfl) rfl ?_
  refine Sl.nil ?_
  refine At.go ?_
  refine Sc.seq ?_
  refine Sc.region ?_
  refine Sl.calm (Cm.assign rfl) rfl ?_
  refine Sl.nil ?_
  refine At.go ?_
  refine Sc.seq ?_
  refine Sc.seq ?_
  refine Sc.region ?_
  refine Sl.calm (Cm.move rfl) rfl ?_
  refine Sl.nil ?_
  refine At.go ?_
  refine Sc.block ?_
  refine Sc.seq ?_
  refine Sc.region ?_
  refine Sl.fork (Cm.eql rfl rfl) rfl (fun h7 => ?_) (fun h7 => ?_)
  ·
    refine Sl.calm (Cm.assign rfl) rfl ?_
    refine Sl.nil ?_
    refine At.weak [(0, _), (2, _), (3, _), (4, _), (5, _), (6, _)] ⟨rfl, rfl, rfl, rfl, rfl, rfl, trivial⟩ ?_
    refine At.go ?_
    refine Sc.cond_t rfl ?_
    refine Sc.seq ?_
    refine Sc.region ?_
    refine Sl.calm (Cm.move rfl) rfl ?_
    refine Sl.calm (Cm.build (cs := (fdV ⟨82, 6, 4, 4294967295⟩).toArray) plc99 zc99 rfl (by kernel_rfl)) rfl ?_
    refine Sl.calm (Cm.move rfl) rfl ?_
    refine Sl.calm (Cm.build (cs := (fdV ⟨83, 7, 2, 4096⟩).toArray) plc99 zc99 rfl (by kernel_rfl)) rfl ?_
    refine Sl.calm (Cm.build (cs := (fdV ⟨84, 8, 2, 1024⟩).toArray) plc99 zc99 rfl (by kernel_rfl)) rfl ?_
    refine Sl.calm (Cm.build (cs := (fdV ⟨85, 9, 1, 127⟩).toArray) plc99 zc99 rfl (by kernel_rfl)) rfl ?_
    refine Sl.litG sl94 (cs := (filL.flatMap fdV).toArray) zc99 rfl rfl rfl (by kernel_rfl) rfl ?_
    intro w1 ho1 hs1 hf1
    refine Sl.calm (Cm.assign rfl) rfl ?_
    refine Sl.nil ?_
    refine At.weak [(0, _), (2, _), (3, _), (4, _), (5, _), (6, _)] ⟨rfl, rfl, rfl, rfl, rfl, rfl, trivial⟩ ?_
    refine At.go ?_
    refine Sc.ret ?_
    refine At.block_ret ?_
    refine At.then_ret ?_
    refine At.ret1 rfl rfl ?_
    have e : fldL k = filL := by unfold fldL; rw [if_pos h7]
    rw [e]
    exact ⟨_, rfl, _, _, rfl, ownM_new fdV_cells ho1 (by decide), fr_at _, hf1⟩
  ·
    refine Sl.calm (Cm.assign rfl) rfl ?_
    refine Sl.nil ?_
    refine At.weak [(0, _), (2, _), (3, _), (4, _), (5, _), (6, _)] ⟨rfl, rfl, rfl, rfl, rfl, rfl, trivial⟩ ?_
    refine At.go ?_
    refine Sc.cond_f rfl ?_
    refine Sc.seq ?_
    refine Sc.region ?_
    refine Sl.fork (Cm.eql rfl rfl) rfl (fun h16 => ?_) (fun h16 => ?_)
    ·
      refine Sl.calm (Cm.assign rfl) rfl ?_
      refine Sl.nil ?_
      refine At.weak [(0, _), (2, _), (3, _), (4, _), (5, _), (6, _), (15, _)] ⟨rfl, rfl, rfl, rfl, rfl, rfl, rfl, trivial⟩ ?_
      refine At.go ?_
      refine Sc.cond_t rfl ?_
      refine Sc.seq ?_
      refine Sc.region ?_
      refine Sl.calm (Cm.move rfl) rfl ?_
      refine Sl.calm (Cm.build (cs := (fdV ⟨82, 6, 4, 4294967295⟩).toArray) plc99 zc99 rfl (by kernel_rfl)) rfl ?_
      refine Sl.calm (Cm.move rfl) rfl ?_
      refine Sl.calm (Cm.build (cs := (fdV ⟨83, 7, 4, 1048576⟩).toArray) plc99 zc99 rfl (by kernel_rfl)) rfl ?_
      refine Sl.litG sl94 (cs := (dirL.flatMap fdV).toArray) zc99 rfl rfl rfl (by kernel_rfl) rfl ?_
      intro w1 ho1 hs1 hf1
      refine Sl.calm (Cm.assign rfl) rfl ?_
      refine Sl.nil ?_
      refine At.weak [(0, _), (2, _), (3, _), (4, _), (5, _), (6, _), (15, _)] ⟨rfl, rfl, rfl, rfl, rfl, rfl, rfl, trivial⟩ ?_
      refine At.go ?_
      refine Sc.ret ?_
      refine At.block_ret ?_
      refine At.then_ret ?_
      refine At.ret1 rfl rfl ?_
      have e : fldL k = dirL := by unfold fldL; rw [if_neg h7, if_pos h16]
      rw [e]
      exact ⟨_, rfl, _, _, rfl, ownM_new fdV_cells ho1 (by decide), fr_at _, hf1⟩
    ·
      refine Sl.calm (Cm.assign rfl) rfl ?_
      refine Sl.nil ?_
      refine At.weak [(0, _), (2, _), (3, _), (4, _), (5, _), (6, _), (15, _)] ⟨rfl, rfl, rfl, rfl, rfl, rfl, rfl, trivial⟩ ?_
      refine At.go ?_
      refine Sc.cond_f rfl ?_
      refine Sc.skip ?_
      refine At.block_normal ?_
      refine At.go ?_
      refine Sc.seq ?_
      refine Sc.region ?_
      refine Sl.calm (Cm.assign rfl) rfl ?_
      refine Sl.nil ?_
      refine At.go ?_
      refine Sc.ret ?_
      refine At.ret1 rfl rfl ?_
      have e : fldL k = [] := by unfold fldL; rw [if_neg h7, if_neg h16]
      rw [e]
      exact ⟨_, rfl, none, 0, rfl, OwnM.nil, Fr.none, Foot.refl _ _⟩
end Go.Proofs.Ytoaplldahbbaiaa
/- inode: May, the program's. No condition. -/
namespace Go.Proofs.Ytoaplldahbbaiaa
open Go Go.RowKit
set_option linter.unusedVariables false

/-- whether a record may be -/
def mayA (F : Nat → Int) (n : Nat) : Prop :=
  0 ≤ F 1 ∧ F 1 ≤ 511 ∧ 0 ≤ F 2 ∧ F 2 ≤ 2047 ∧ 0 ≤ F 3 ∧ F 3 ≤ 2047 ∧ 1 ≤ F 4 ∧ F 4 ≤ 1024 ∧ 0 ≤ F 5 ∧ F 5 ≤ 4294967295 ∧
  ((F 0 = 2 ∧ 0 ≤ F 7 ∧ F 7 ≤ 4096 ∧ 0 ≤ F 8 ∧ F 8 ≤ 1024 ∧ (0 < F 8 ↔ 0 < F 7 % 128) ∧ 0 ≤ F 6 ∧ F 6 ≤ 4294967295 ∧ 0 ≤ F 9 ∧ F 9 < 128 ∧ (0 < F 8 ∨ F 9 = 0) ∧ n = 0) ∨
   (F 0 = 1 ∧ 0 ≤ F 6 ∧ F 6 ≤ 4294967295 ∧ 0 ≤ F 7 ∧ F 7 ≤ 1048576 ∧ F 4 = 1 ∧ F 8 = 0 ∧ F 9 = 0 ∧ n = 0) ∨
   (F 0 = 3 ∧ 1 ≤ n ∧ n ≤ 200 ∧ F 6 = 0 ∧ F 7 = 0 ∧ F 8 = 0 ∧ F 9 = 0))
def mayI (F : Nat → Int) (T : List UInt8) : Prop := mayA F T.length ∧ (F 0 = 3 → (0 : UInt8) ∉ T)
instance (F : Nat → Int) (T : List UInt8) : Decidable (mayI F T) := by unfold mayI mayA; exact inferInstance

def okF (F : Nat → Int) (x : Fd) : Prop := 0 ≤ F x.o ∧ F x.o ≤ x.m
theorem rec_all {F : Nat → Int} (h : ∀ x ∈ recL (F 0), okF F x) :
    (0 ≤ F 1 ∧ F 1 ≤ 511 ∧ 0 ≤ F 2 ∧ F 2 ≤ 2047 ∧ 0 ≤ F 3 ∧ F 3 ≤ 2047 ∧ 0 ≤ F 4 ∧ F 4 ≤ 1024 ∧ 0 ≤ F 5 ∧ F 5 ≤ 4294967295) ∧
    (F 0 = 2 → 0 ≤ F 6 ∧ F 6 ≤ 4294967295 ∧ 0 ≤ F 7 ∧ F 7 ≤ 4096 ∧ 0 ≤ F 8 ∧ F 8 ≤ 1024 ∧ 0 ≤ F 9 ∧ F 9 ≤ 127) ∧
    (F 0 = 1 → 0 ≤ F 6 ∧ F 6 ≤ 4294967295 ∧ 0 ≤ F 7 ∧ F 7 ≤ 1048576) := by
  refine ⟨?_, fun e => ?_, fun e => ?_⟩
  · have h2 : ∀ x ∈ comL, okF F x := fun x hx => h x (List.mem_append.2 (.inl hx))
    simp only [comL, List.forall_mem_cons, okF] at h2
    omega
  · have h2 : ∀ x ∈ filL, okF F x := fun x hx => h x (List.mem_append.2 (.inr (by unfold fldL; rw [if_pos e]; exact hx)))
    simp only [filL, List.forall_mem_cons, okF] at h2
    omega
  · have h2 : ∀ x ∈ dirL, okF F x := fun x hx => h x (List.mem_append.2 (.inr (by unfold fldL; rw [if_neg (by omega), if_pos e]; exact hx)))
    simp only [dirL, List.forall_mem_cons, okF] at h2
    omega
theorem rec_may {F : Nat → Int} {T : List UInt8} (h : mayI F T) : ∀ x ∈ recL (F 0), okF F x := by
  intro x hx
  have h1 := h.1
  unfold mayA at h1
  unfold okF
  rcases List.mem_append.1 hx with hx | hx
  · simp only [comL, List.mem_cons, List.not_mem_nil, or_false] at hx
    rcases hx with rfl | rfl | rfl | rfl | rfl <;> (simp only; omega)
  · unfold fldL at hx
    split at hx
    · simp only [filL, List.mem_cons, List.not_mem_nil, or_false] at hx
      rcases hx with rfl | rfl | rfl | rfl <;> (simp only; omega)
    · split at hx
      · simp only [dirL, List.mem_cons, List.not_mem_nil, or_false] at hx
        rcases hx with rfl | rfl <;> (simp only; omega)
      · cases hx

/-- what is known of a record behind the loop -/
def knownF (F : Nat → Int) (L : List Fd) : Nat → Int := fun o => if o = 0 then F 0 else if o ∈ L.map (·.o) then F o else 0
def knownG (F : Nat → Int) (L : List Fd) : Nat → Int := fun o => if o ∈ L.map (·.o) then F o else 0
def sameI (G : Nat → Int) (U : List UInt8) (F : Nat → Int) (T : List UInt8) : Prop := (∀ o, o < 10 → G o = F o) ∧ U = T
instance (G : Nat → Int) (U : List UInt8) (F : Nat → Int) (T : List UInt8) : Decidable (sameI G U F T) := by unfold sameI; exact inferInstance
theorem knownG_snoc (F : Nat → Int) (L : List Fd) (x : Fd) : upd (knownG F L) x.o (F x.o) = knownG F (L ++ [x]) := by
  funext q
  unfold upd knownG
  by_cases h : q = x.o
  · subst h; simp
  · by_cases h2 : q ∈ L.map (·.o)
    · rw [if_neg h, if_pos h2, if_pos (by simp at h2 ⊢; exact .inl h2)]
    · rw [if_neg h, if_neg h2, if_neg (by simp at h2 ⊢; exact ⟨h2, h⟩)]
theorem knownG_nil (F : Nat → Int) : knownG F [] = fun _ => 0 := by funext q; simp [knownG]
theorem known_same (F : Nat → Int) (U T : List UInt8) : sameI (upd (knownG F (recL (F 0))) 0 (F 0)) U F T ↔ (F 0 ≠ 2 → F 8 = 0 ∧ F 9 = 0) ∧ (F 0 ≠ 2 → F 0 ≠ 1 → F 6 = 0 ∧ F 7 = 0) ∧ U = T := by
  unfold sameI
  have hcom : ∀ o, (o = 1 ∨ o = 2 ∨ o = 3 ∨ o = 4 ∨ o = 5) → knownG F (recL (F 0)) o = F o := fun o ho => by
    unfold knownG recL; rw [if_pos]; rw [List.map_append, List.mem_append]; left; simp [comL]; omega
  have hval : ∀ o, 6 ≤ o → (knownG F (recL (F 0)) o = if o ∈ (fldL (F 0)).map (·.o) then F o else 0) := fun o ho => by
    unfold knownG recL
    congr 1
    rw [List.map_append, List.mem_append]
    simp [comL]; omega
  constructor
  · rintro ⟨h, hU⟩
    have g : ∀ o, 6 ≤ o → o < 10 → (if o ∈ (fldL (F 0)).map (·.o) then F o else 0) = F o := fun o h6 h10 => by
      have := h o h10
      unfold upd at this
      rw [if_neg (by omega), hval o h6] at this
      exact this
    have g6 := g 6 (by decide) (by decide)
    have g7 := g 7 (by decide) (by decide)
    have g8 := g 8 (by decide) (by decide)
    have g9 := g 9 (by decide) (by decide)
    refine ⟨fun h2 => ?_, fun h2 h1 => ?_, hU⟩
    · by_cases h1 : F 0 = 1
      · simp [fldL, h1, dirL] at g8 g9; omega
      · simp [fldL, h1, h2] at g8 g9; omega
    · simp [fldL, h1, h2] at g6 g7; omega
  · rintro ⟨h8, h6, hU⟩
    refine ⟨fun o ho => ?_, hU⟩
    unfold upd
    by_cases h0 : o = 0
    · rw [if_pos h0, h0]
    · rw [if_neg h0]
      by_cases h5 : o < 6
      · exact hcom o (by omega)
      · rw [hval o (by omega)]
        by_cases h2 : F 0 = 2
        · rw [if_pos]; simp [fldL, h2, filL]; omega
        · have h8' := h8 h2
          by_cases h1 : F 0 = 1
          · by_cases h7 : o < 8
            · rw [if_pos]; simp [fldL, h1, dirL]; omega
            · rw [if_neg (by simp [fldL, h1, dirL]; omega)]
              have : o = 8 ∨ o = 9 := by omega
              rcases this with rfl | rfl <;> omega
          · have h6' := h6 h2 h1
            rw [if_neg (by simp [fldL, h1, h2])]
            have : o = 6 ∨ o = 7 ∨ o = 8 ∨ o = 9 := by omega
            rcases this with rfl | rfl | rfl | rfl <;> omega

section
variable {N : Nt} {l : SF} {ty : TypeId} {pos : String} {aft : Array Edge} {CH : Array Obj → Prop} {x y : Operand} {t' : TypeId} {g : Option (Nat × Bool)} {dd : Option Nat}
theorem ino_eq (G : Nat → Int) (U : List UInt8) (F : Nat → Int) (T : List UInt8) (w : World) : (Op.equalIn 10000 33 (.agg (inoC G U).toArray) (.agg (inoC F T).toArray)).run Try.prog w = .ok (decide (sameI G U F T)) w := by
  have h0 := run_equalIn_struct (P := Try.prog) w 9999 33 (inoC G U).toArray (inoC F T).toArray (by kernel_rfl) (by kernel_rfl)
  refine h0.trans ?_
  obtain ⟨r, hr, hr2⟩ := eqFields_ok (P := Try.prog) w (d := 9998) (d1 := 9999) rfl (xs := (inoC G U).toArray) (ys := (inoC F T).toArray) (Try.prog.fieldsOf 33).toList (by
    unfold Program.fieldsOf
    rw [Try.underlying33]
    simp only [List.forall_mem_cons]
    refine ⟨⟨by decide, _, _, rfl, rfl, ?_, ?_⟩, ⟨by decide, _, _, rfl, rfl, ?_, ?_⟩, ⟨by decide, _, _, rfl, rfl, ?_, ?_⟩, ⟨by decide, _, _, rfl, rfl, ?_, ?_⟩, ⟨by decide, _, _, rfl, rfl, ?_, ?_⟩, ⟨by decide, _, _, rfl, rfl, ?_, ?_⟩, ⟨by decide, _, _, rfl, rfl, ?_, ?_⟩, ⟨by decide, _, _, rfl, rfl, ?_, ?_⟩, ⟨by decide, _, _, rfl, rfl, ?_, ?_⟩, ⟨by decide, _, _, rfl, rfl, ?_, ?_⟩, ⟨by decide, _, _, rfl, rfl, ?_, ?_⟩, by simp⟩ <;> first | (unfold okV; rw [ty3]; exact (rfl : IntKind.i64 = IntKind.i64)) | (unfold okV; rw [ty9]; exact trivial))
  suffices hsf : r = decide (sameI G U F T) by rw [← hsf]; exact hr
  rw [Bool.eq_iff_iff, hr2, decide_eq_true_iff]
  unfold Program.fieldsOf
  rw [Try.underlying33]
  constructor
  · intro h
    have h2 : inoC G U = inoC F T := by
      simp only [List.forall_mem_cons] at h
      obtain ⟨a0, a1, a2, a3, a4, a5, a6, a7, a8, a9, a10, _⟩ := h
      apply inoC_ext
      intro o ho
      match o, ho with
      | 0, _ => simpa using a0
      | 1, _ => simpa using a1
      | 2, _ => simpa using a2
      | 3, _ => simpa using a3
      | 4, _ => simpa using a4
      | 5, _ => simpa using a5
      | 6, _ => simpa using a6
      | 7, _ => simpa using a7
      | 8, _ => simpa using a8
      | 9, _ => simpa using a9
      | 10, _ => simpa using a10
    exact inoC_inj h2
  · rintro ⟨h1, h2⟩ f _
    rw [inoC_eq h1 h2]
theorem Cm.neqIno {G F : Nat → Int} {U T : List UInt8} (hx : evL l x = some (.agg (inoC G U).toArray)) (hy : evL l y = some (.agg (inoC F T).toArray)) : Cm Try.prog N CH l ⟨dd, .binOp .neq 33 x y t', ty, pos, aft, g⟩ (.bool (decide (¬ sameI G U F T))) := fun a w ha _ => by
  have h1 := run_eqGuard_agg (P := Try.prog) w .neq 33 x y (inoC G U).toArray (inoC F T).toArray (by kernel_rfl)
  have h2 := run_neq_struct (P := Try.prog) w 33 (inoC G U).toArray (inoC F T).toArray
  rw [ino_eq] at h2
  simp only [execOp, ha.ev hx, ha.ev hy, Sem.run_bind, h1, h2, Result.andThen_ok, Sem.run_pure]
  simp
theorem Cm.eqlIno {G F : Nat → Int} {U T : List UInt8} (hx : evL l x = some (.agg (inoC G U).toArray)) (hy : evL l y = some (.agg (inoC F T).toArray)) : Cm Try.prog N CH l ⟨dd, .binOp .eql 33 x y t', ty, pos, aft, g⟩ (.bool (decide (sameI G U F T))) := fun a w ha _ => by
  have h1 := run_eqGuard_agg (P := Try.prog) w .eql 33 x y (inoC G U).toArray (inoC F T).toArray (by kernel_rfl)
  have h2 := run_eql_struct (P := Try.prog) w 33 (inoC G U).toArray (inoC F T).toArray
  rw [ino_eq] at h2
  simp only [execOp, ha.ev hx, ha.ev hy, Sem.run_bind, h1, h2, Result.andThen_ok, Sem.run_pure]
end

theorem fd_off {L : List Fd} {k : Nat} (h : k < L.length) : L.take (k + 1) = L.take k ++ [L.getD k fd0] := by
  rw [List.take_succ_eq_append_getElem h]; simp [List.getD, h]
theorem fd_row {H : Array Obj} {ao : Option Addr} {c : Nat} {L : List Fd} (h : VwM 3 fdV H ao c L) {k : Nat} {z : Int} (hz : z = k) (hk : k < L.length) :
    ∀ j v, (fdV (L.getD k fd0))[j]? = some v → cellH H ((adr ao (z.toNat * 3)).add j) = some v := by
  have e : L[k]? = some (L.getD k fd0) := by simp [List.getD, hk]
  exact h.rowZ k hz e
theorem notD {p : Prop} [Decidable p] (h : ¬ p) : Value.bool false = .bool (decide p) := by rw [decide_eq_false h]
theorem yesD {p : Prop} [Decidable p] (h : p) : Value.bool true = .bool (decide p) := by rw [decide_eq_true h]

set_option maxHeartbeats 2000000 in
theorem may_ok (F : Nat → Int) (T : List UInt8) (W : World) (hT : T.length ≤ maxLen) :
    Calls Try.prog 23 [.agg (inoC F T).toArray].toArray W (Ret fun v w' => v = .bool (decide (mayI F T)) ∧ Foot nob W w') := by
  refine calls_of_sc 100 [(0, _)] Try.func23 rfl rfl rfl (enter_slots ⟨rfl, trivial⟩) ?_
  refine Sc.seq ?_
  refine Sc.region ?_
  refine Sl.box rfl rfl ?_
  intro w1 hg1 hs1 hf1
  have hg1 : w1.heap[W.heap.size]? = some (.cells (inoC F T).toArray 33 (0, 0)) := hg1
  refine Sl.calm (Cm.assign rfl) rfl ?_
  refine Sl.nil ?_
  refine At.go ?_
  refine Sc.seq ?_
  refine Sc.draw 6 (fun H => H[W.heap.size]? = some (.cells (inoC F T).toArray 33 (0, 0))) [0, 3, 4] [1, 2, 0, 3, 4, 5] mixed (by kernel_rfl) (hg1) ?_
  refine Sx.calm rfl rfl (Cm.field fld33_0 rfl) rfl ?_
  refine Sx.calm rfl rfl (Cm.load sca3 rfl (fun H hH => cellF hH rfl)) rfl ?_
  refine Sx.eff rfl rfl (Sl.call fn52 rfl (common_ok _) rfl ?_)
  rintro _ w2 ⟨ao2, c2, rfl, ho2, hfr2, hf2⟩
  refine Sx.on (by exact hf2.obj hg1 id) ?_
  refine Sx.eff rfl rfl (Sl.call fn53 rfl (fields_ok (F 0) w2) rfl ?_)
  rintro _ w3 ⟨ao3, c3, rfl, ho3, hfr3, hf3⟩
  refine Sx.on (by exact hf3.obj (hf2.obj hg1 id) id) ?_
  refine Sx.eff rfl rfl (Sl.appendM fdV_cells rfl sl94 rfl rfl (ho2.grow hf3) (ho3.vw fdV_cells) (by have := recL_len (F 0); unfold recL at this; rw [List.length_append] at this; omega) (by have := recL_len (F 0); unfold recL at this; rw [List.length_append] at this; unfold maxLen; omega) rfl ?_)
  intro ao4 c4 w4 ho4 hf4 hr4 hn4
  have hfr2 : Fr w1.heap.size ao2 := hfr2
  have hg4 := hf4.obj (hf3.obj (hf2.obj hg1 id) id) (fun ⟨a, ha, hb⟩ => by have := hfr2 a ha; omega)
  have hF3 : Foot nob W w3 := (hf1.trans hf2.undraw).trans hf3
  have hF4 : Foot nob W w4 := hF3.trans_to hf4 (fun k ⟨a, ha, hb⟩ => .inr (by have := hfr2 a ha; omega))
  refine Sx.on (by exact hg4) ?_
  refine Sx.calm rfl rfl (Cm.assign rfl) rfl ?_
  refine Sx.nil ?_
  refine At.weak [(0, _), (1, _), (2, _), (3, _)] ⟨rfl, rfl, rfl, rfl, trivial⟩ ?_
  refine At.go ?_
  refine Sc.seq ?_
  refine Sc.region ?_
  refine Sl.allocC zc33 rfl ?_
  intro w5 hg5 hs5 hf5
  have hg5 : w5.heap[w4.heap.size]? = some (.cells (inoC (fun _ => 0) []).toArray 33 (0, 0)) := hg5
  have hlt4 : W.heap.size < w4.heap.size := by have := hf2.size; have := hf3.size; have := hf4.size; have : w1.heap.size ≤ w2.heap.size := hf2.undraw.size; omega
  have hF5 := hF4.trans hf5
  have hp5 := hf5.obj hg4 id
  have hL5 : VwM 3 fdV w5.heap ao4 c4 (recL (F 0)) := (ho4.vw fdV_cells).grow hf5
  have hLlen := recL_len (F 0)
  have hne4 : ∀ a, ao4 = some a → a.block < w4.heap.size := fun a ha => ho4.lt a ha
  refine Sl.nil ?_
  refine At.go ?_
  refine Sc.seq ?_
  refine Sc.seq ?_
  refine Sc.region ?_
  refine Sl.calm (Cm.move rfl) rfl ?_
  refine Sl.calm (Cm.len sl94 rfl) rfl ?_
  refine Sl.calm (Cm.move rfl) rfl ?_
  refine Sl.nil ?_
  refine At.go ?_
  refine Sc.block ?_
  refine Sc.loop (β := Nat) (fun k => [(1, .pointer (some ⟨W.heap.size, 0, none⟩)), (4, .pointer (some ⟨w4.heap.size, 0, none⟩)), (14, .slice ao4 (recL (F 0)).length c4), (15, .int .i64 (recL (F 0)).length), (16, .int .i64 k)]) (fun k w => k ≤ (recL (F 0)).length ∧ w.heap[w4.heap.size]? = some (.cells (inoC (knownG F ((recL (F 0)).take k)) []).toArray 33 (0, 0)) ∧ (∀ x ∈ (recL (F 0)).take k, okF F x) ∧ w.heap[W.heap.size]? = some (.cells (inoC F T).toArray 33 (0, 0)) ∧ VwM 3 fdV w.heap ao4 c4 (recL (F 0)) ∧ w4.heap.size < w.heap.size ∧ Foot nob W w) (fun k => (recL (F 0)).length - k) 0 ⟨rfl, rfl, rfl, rfl, rfl, trivial⟩ ⟨Nat.zero_le _, by rw [List.take_zero, knownG_nil]; exact hg5, by simp, hp5, hL5, by omega, hF5⟩ ?_
  rintro k w6 ⟨hk, hq, hall, hp, hL, hlt6, hF6⟩
  refine Sc.seq ?_
  refine Sc.region ?_
  refine Sl.fork (Cm.lss rfl rfl) rfl (fun h17 => ?_) (fun h17 => ?_)
  ·
    refine Sl.nil ?_
    refine At.go ?_
    refine Sc.seq ?_
    refine Sc.cond_t rfl ?_
    refine Sc.skip ?_
    refine At.go ?_
    refine Sc.seq ?_
    refine Sc.block ?_
    refine Sc.seq ?_
    refine Sc.region ?_
    have hkL : k < (recL (F 0)).length := by omega
    have hrow := fd_row hL (k := k) rfl hkL
    have hmem := recL_at hkL
    obtain ⟨⟨hfn, ho10, ho0, hcall⟩, hb1, hb4, hm0, hmb⟩ := recL_off hmem
    obtain ⟨x, hx⟩ : ∃ x, x = (recL (F 0)).getD k fd0 := ⟨_, rfl⟩
    rw [← hx] at hrow hmem hfn ho10 ho0 hcall hb1 hb4 hm0
    refine Sl.calm (Cm.indexAddr sl94 rfl rfl hL.non (by omega)) rfl ?_
    refine Sl.calm (Cm.ldM (cs := fdV x) agg99 rfl hrow) rfl ?_
    refine Sl.allocC zc99 rfl ?_
    intro w7 hg7 hs7 hf7
    refine Sl.storeAll (vs := fdV x) agg99 rfl rfl (by simp [fdV, Value.oneCell']) hg7 rfl ?_
    intro w8 hg8 hs8 hf8
    have hF8 : Foot nob w6 w8 := hf7.trans_to hf8 (fun k hk => .inr (by omega))
    have hp8 := hF8.obj hp id
    have hq8 := hF8.obj hq id
    refine Sl.nil ?_
    refine At.weak [(1, _), (4, _), (6, _), (14, _), (15, _), (16, _), (17, _)] ⟨rfl, rfl, rfl, rfl, rfl, rfl, rfl, trivial⟩ ?_
    refine At.go ?_
    refine Sc.seq ?_
    refine Sc.region ?_
    refine Sl.calm (Cm.field fld99_0 rfl) rfl ?_
    refine Sl.calm (Cm.ld sca97 rfl (cellF hg8 rfl)) rfl ?_
    refine Sl.callV hfn rfl rfl (hcall W.heap.size w8) rfl ?_
    rintro _ w9 ⟨rfl, hw9⟩
    subst w9
    refine Sl.calm (Cm.nilCheck rfl) rfl ?_
    refine Sl.calm (Cm.ld sca3 rfl (cellF0 hp8 (inoC_get F T ho10))) rfl ?_
    refine Sl.calm (Cm.assign rfl) rfl ?_
    refine Sl.nil ?_
    refine At.weak [(1, _), (4, _), (6, _), (7, _), (14, _), (15, _), (16, _), (17, _)] ⟨rfl, rfl, rfl, rfl, rfl, rfl, rfl, rfl, trivial⟩ ?_
    refine At.go ?_
    refine Sc.seq ?_
    refine Sc.seq ?_
    refine Sc.region ?_
    refine Sl.calm (Cm.move rfl) rfl ?_
    refine Sl.fork (Cm.lss rfl rfl) rfl (fun h26 => ?_) (fun h26 => ?_)
    ·
      have hbad : ¬ mayI F T := fun h => by have := rec_may h x hmem; unfold okF at this; omega
      refine Sl.calm (Cm.move rfl) rfl ?_
      refine Sl.skip rfl rfl rfl rfl ?_
      refine Sl.skip rfl rfl rfl rfl ?_
      refine Sl.skip rfl rfl rfl rfl ?_
      refine Sl.skip rfl rfl rfl rfl ?_
      refine Sl.calm (Cm.pick_t rfl rfl) rfl ?_
      refine Sl.nil ?_
      refine At.weak [(1, _), (4, _), (6, _), (7, _), (14, _), (15, _), (16, _), (17, _), (32, _)] ⟨rfl, rfl, rfl, rfl, rfl, rfl, rfl, rfl, rfl, trivial⟩ ?_
      refine At.go ?_
      refine Sc.cond_t rfl ?_
      refine Sc.seq ?_
      refine Sc.region ?_
      refine Sl.calm (Cm.assign rfl) rfl ?_
      refine Sl.nil ?_
      refine At.go ?_
      refine Sc.ret ?_
      refine At.then_ret ?_
      refine At.block_ret ?_
      refine At.then_ret ?_
      refine At.then_ret ?_
      refine At.block_ret ?_
      refine At.then_ret ?_
      refine At.ret1 rfl rfl ?_
      first
        | exact ⟨_, rfl, notD hbad, (hF6.trans hF8)⟩
        | exact ⟨_, rfl, notD hbad, hFz⟩
        | exact ⟨_, rfl, notD (fun h => by have := h.1; unfold mayA at this; omega), hFz⟩
        | exact ⟨_, rfl, yesD ⟨by unfold mayA; omega, fun h3 => by first | exact hnul | omega⟩, hFz⟩
        | exact ⟨_, rfl, notD (fun h => h.2 (by omega) hnul), hFz⟩
    ·
      refine Sl.calm (Cm.move rfl) rfl ?_
      refine Sl.want rfl rfl (Cm.move rfl) rfl ?_
      refine Sl.want rfl rfl (Cm.field fld99_2 rfl) rfl ?_
      refine Sl.want rfl rfl (Cm.ld sca3 rfl (cellF hg8 rfl)) rfl ?_
      refine Sl.forkWant rfl rfl (Cm.gtr rfl rfl) rfl (fun h31 => ?_) (fun h31 => ?_)
      ·
        have hbad : ¬ mayI F T := fun h => by have := rec_may h x hmem; unfold okF at this; omega
        refine Sl.calm (Cm.pick_f rfl rfl) rfl ?_
        refine Sl.nil ?_
        refine At.weak [(1, _), (4, _), (6, _), (7, _), (14, _), (15, _), (16, _), (17, _), (32, _)] ⟨rfl, rfl, rfl, rfl, rfl, rfl, rfl, rfl, rfl, trivial⟩ ?_
        refine At.go ?_
        refine Sc.cond_t rfl ?_
        refine Sc.seq ?_
        refine Sc.region ?_
        refine Sl.calm (Cm.assign rfl) rfl ?_
        refine Sl.nil ?_
        refine At.go ?_
        refine Sc.ret ?_
        refine At.then_ret ?_
        refine At.block_ret ?_
        refine At.then_ret ?_
        refine At.then_ret ?_
        refine At.block_ret ?_
        refine At.then_ret ?_
        refine At.ret1 rfl rfl ?_
        first
          | exact ⟨_, rfl, notD hbad, (hF6.trans hF8)⟩
          | exact ⟨_, rfl, notD hbad, hFz⟩
          | exact ⟨_, rfl, notD (fun h => by have := h.1; unfold mayA at this; omega), hFz⟩
          | exact ⟨_, rfl, yesD ⟨by unfold mayA; omega, fun h3 => by first | exact hnul | omega⟩, hFz⟩
          | exact ⟨_, rfl, notD (fun h => h.2 (by omega) hnul), hFz⟩
      ·
        refine Sl.calm (Cm.pick_f rfl rfl) rfl ?_
        refine Sl.nil ?_
        refine At.weak [(1, _), (4, _), (6, _), (7, _), (14, _), (15, _), (16, _), (17, _), (32, _)] ⟨rfl, rfl, rfl, rfl, rfl, rfl, rfl, rfl, rfl, trivial⟩ ?_
        refine At.go ?_
        refine Sc.cond_f rfl ?_
        refine Sc.skip ?_
        refine At.go ?_
        refine Sc.region ?_
        refine Sl.calm (Cm.field fld99_0 rfl) rfl ?_
        refine Sl.calm (Cm.ld sca97 rfl (cellF hg8 rfl)) rfl ?_
        refine Sl.callV hfn rfl rfl (hcall w4.heap.size w8) rfl ?_
        rintro _ w9 ⟨rfl, hw9⟩
        subst w9
        refine Sl.calm (Cm.move rfl) rfl ?_
        refine Sl.calm (Cm.nilCheck rfl) rfl ?_
        refine Sl.store sca3 rfl rfl rfl hq8 (by simp [inoC]; omega) ?_
        intro w10 hg10 hs10 hf10
        rw [inoC_set _ _ ho10, knownG_snoc, hx, ← fd_off hkL] at hg10
        refine Sl.nil ?_
        refine At.block_normal ?_
        refine At.weak [(1, _), (4, _), (6, _), (7, _), (14, _), (15, _), (16, _), (17, _), (32, _)] ⟨rfl, rfl, rfl, rfl, rfl, rfl, rfl, rfl, rfl, trivial⟩ ?_
        refine At.go ?_
        refine Sc.region ?_
        refine Sl.calm (Cm.add64 rfl rfl (by omega)) rfl ?_
        refine Sl.calm (Cm.move rfl) rfl ?_
        refine Sl.nil ?_
        refine At.again (k + 1) ⟨rfl, rfl, rfl, rfl, rfl, trivial⟩ ?_ (by show (recL (F 0)).length - (k + 1) < (recL (F 0)).length - k; omega)
        have hF10 : Foot (· = w4.heap.size) w6 w10 := (hF8.mono (fun _ h => h.elim)).trans hf10
        refine ⟨by omega, hg10, fun y hy => ?_, hF10.obj hp (by omega), hL.keep hF10 (fun a ha e => by have := hne4 a ha; omega), by have := hF10.size; omega, (hF6.trans hF8).trans_to hf10 (fun k hk => .inr (by omega))⟩
        rw [fd_off hkL, ← hx] at hy
        rcases List.mem_append.1 hy with hy | hy
        · exact hall y hy
        · rw [List.mem_singleton] at hy; subst hy; unfold okF; omega
  ·
    refine Sl.nil ?_
    refine At.go ?_
    refine Sc.seq ?_
    refine Sc.cond_f rfl ?_
    refine Sc.exit ?_
    refine At.then_exit ?_
    refine At.then_exit ?_
    refine At.block_hit ?_
    refine At.go ?_
    refine Sc.seq ?_
    refine Sc.region ?_
    refine Sl.calm (Cm.field fld33_0 rfl) rfl ?_
    have hfin := fin_nat hk (by assumption)
    rw [hfin] at hq hall
    obtain ⟨k0, k2, k1⟩ := rec_all hall
    refine Sl.calm (Cm.ld sca3 rfl (cellF hp rfl)) rfl ?_
    refine Sl.calm (Cm.field fld33_0 rfl) rfl ?_
    refine Sl.store sca3 rfl rfl rfl hq rfl ?_
    intro w11 hg11 hs11 hf11
    have hg11 : w11.heap[w4.heap.size]? = some (.cells (inoC (upd (knownG F (recL (F 0))) 0 (F 0)) []).toArray 33 (0, 0)) := by rw [← inoC_set _ _ (by decide)]; exact hg11
    have hp11 := hf11.obj hp (by omega)
    have hF11 : Foot nob W w11 := hF6.trans_to hf11 (fun k hk => .inr (by omega))
    refine Sl.nil ?_
    refine At.weak [(1, _), (4, _), (14, _), (15, _), (16, _), (17, _)] ⟨rfl, rfl, rfl, rfl, rfl, rfl, trivial⟩ ?_
    refine At.go ?_
    refine Sc.cut (β := List UInt8) (fun U => [(1, .pointer (some ⟨W.heap.size, 0, none⟩)), (4, .pointer (some ⟨w4.heap.size, 0, none⟩))]) (fun U w => (if F 0 = 3 then T else []) = U ∧ w.heap[w4.heap.size]? = some (.cells (inoC (upd (knownG F (recL (F 0))) 0 (F 0)) U).toArray 33 (0, 0)) ∧ w.heap[W.heap.size]? = some (.cells (inoC F T).toArray 33 (0, 0)) ∧ Foot nob W w) ?_ ?_
    ·
      refine Sc.seq ?_
      refine Sc.region ?_
      refine Sl.calm (Cm.field fld33_0 rfl) rfl ?_
      refine Sl.calm (Cm.ld sca3 rfl (cellF hp11 rfl)) rfl ?_
      refine Sl.fork (Cm.eql rfl rfl) rfl (fun h44 => ?_) (fun h44 => ?_)
      ·
        refine Sl.nil ?_
        refine At.weak [(1, _), (4, _), (14, _), (15, _), (16, _), (17, _), (44, _)] ⟨rfl, rfl, rfl, rfl, rfl, rfl, rfl, trivial⟩ ?_
        refine At.go ?_
        refine Sc.cond_t rfl ?_
        refine Sc.region ?_
        refine Sl.calm (Cm.field fld33_10 rfl) rfl ?_
        refine Sl.calm (Cm.ld sca9 rfl (cellF hp11 rfl)) rfl ?_
        refine Sl.calm (Cm.field fld33_10 rfl) rfl ?_
        refine Sl.store sca9 rfl rfl rfl hg11 rfl ?_
        intro w12 hg12 hs12 hf12
        have hp12 := hf12.obj hp11 (show ¬ (W.heap.size = w4.heap.size) by omega)
        have hF12 : Foot nob W w12 := hF11.trans_to hf12 (fun k hk => .inr (by have : k = w4.heap.size := hk; omega))
        refine Sl.nil ?_
        refine At.cut (if F 0 = 3 then T else []) ⟨rfl, rfl, trivial⟩ ?_
        first
          | exact ⟨rfl, by rw [if_pos h44]; exact hg12, hp12, hF12⟩
          | exact ⟨rfl, by rw [if_neg h44]; exact hg11, hp11, hF11⟩
      ·
        refine Sl.nil ?_
        refine At.weak [(1, _), (4, _), (14, _), (15, _), (16, _), (17, _), (44, _)] ⟨rfl, rfl, rfl, rfl, rfl, rfl, rfl, trivial⟩ ?_
        refine At.go ?_
        refine Sc.cond_f rfl ?_
        refine Sc.skip ?_
        refine At.cut (if F 0 = 3 then T else []) ⟨rfl, rfl, trivial⟩ ?_
        first
          | exact ⟨rfl, by rw [if_pos h44]; exact hg12, hp12, hF12⟩
          | exact ⟨rfl, by rw [if_neg h44]; exact hg11, hp11, hF11⟩
    ·
      rintro U w13 ⟨hU, hqz, hpz, hFz⟩
      refine Sc.seq ?_
      refine Sc.seq ?_
      refine Sc.region ?_
      refine Sl.calm (Cm.ldM (cs := inoC (upd (knownG F (recL (F 0))) 0 (F 0)) U) agg33 rfl (fun j v hj => cellF hqz hj)) rfl ?_
      refine Sl.calm (Cm.ldM (cs := inoC F T) agg33 rfl (fun j v hj => cellF hpz hj)) rfl ?_
      refine Sl.fork (Cm.neqIno rfl rfl) rfl (fun h50 => ?_) (fun h50 => ?_)
      ·
        rw [known_same, ← hU] at h50
        have hbad : ¬ mayI F T := fun h => by have := h.1; unfold mayA at this; apply h50; refine ⟨fun _ => by omega, fun _ _ => by omega, ?_⟩; by_cases h3 : F 0 = 3; rw [if_pos h3]; rw [if_neg h3]; exact (List.eq_nil_of_length_eq_zero (by omega)).symm
        refine Sl.calm (Cm.move rfl) rfl ?_
        refine Sl.skip rfl rfl rfl rfl ?_
        refine Sl.skip rfl rfl rfl rfl ?_
        refine Sl.skip rfl rfl rfl rfl ?_
        refine Sl.calm (Cm.pick_t rfl rfl) rfl ?_
        refine Sl.nil ?_
        refine At.weak [(1, _), (4, _), (55, _)] ⟨rfl, rfl, rfl, trivial⟩ ?_
        refine At.go ?_
        refine Sc.cond_t rfl ?_
        refine Sc.seq ?_
        refine Sc.region ?_
        refine Sl.calm (Cm.assign rfl) rfl ?_
        refine Sl.nil ?_
        refine At.go ?_
        refine Sc.ret ?_
        refine At.then_ret ?_
        refine At.ret1 rfl rfl ?_
        first
          | exact ⟨_, rfl, notD hbad, (hF6.trans hF8)⟩
          | exact ⟨_, rfl, notD hbad, hFz⟩
          | exact ⟨_, rfl, notD (fun h => by have := h.1; unfold mayA at this; omega), hFz⟩
          | exact ⟨_, rfl, yesD ⟨by unfold mayA; omega, fun h3 => by first | exact hnul | omega⟩, hFz⟩
          | exact ⟨_, rfl, notD (fun h => h.2 (by omega) hnul), hFz⟩
      ·
        have hsame := (known_same F U T).1 (Decidable.not_not.1 h50)
        obtain ⟨s8, s6, sU⟩ := hsame
        have sT : F 0 ≠ 3 → T.length = 0 := fun h3 => by rw [← sU, ← hU, if_neg h3]; rfl
        refine Sl.calm (Cm.move rfl) rfl ?_
        refine Sl.want rfl rfl (Cm.field fld33_4 rfl) rfl ?_
        refine Sl.want rfl rfl (Cm.ld sca3 rfl (cellF hpz rfl)) rfl ?_
        refine Sl.forkWant rfl rfl (Cm.lss rfl rfl) rfl (fun h54 => ?_) (fun h54 => ?_)
        ·
          have hbad : ¬ mayI F T := fun h => by have := h.1; unfold mayA at this; omega
          refine Sl.calm (Cm.pick_f rfl rfl) rfl ?_
          refine Sl.nil ?_
          refine At.weak [(1, _), (4, _), (55, _)] ⟨rfl, rfl, rfl, trivial⟩ ?_
          refine At.go ?_
          refine Sc.cond_t rfl ?_
          refine Sc.seq ?_
          refine Sc.region ?_
          refine Sl.calm (Cm.assign rfl) rfl ?_
          refine Sl.nil ?_
          refine At.go ?_
          refine Sc.ret ?_
          refine At.then_ret ?_
          refine At.ret1 rfl rfl ?_
          first
            | exact ⟨_, rfl, notD hbad, (hF6.trans hF8)⟩
            | exact ⟨_, rfl, notD hbad, hFz⟩
            | exact ⟨_, rfl, notD (fun h => by have := h.1; unfold mayA at this; omega), hFz⟩
            | exact ⟨_, rfl, yesD ⟨by unfold mayA; omega, fun h3 => by first | exact hnul | omega⟩, hFz⟩
            | exact ⟨_, rfl, notD (fun h => h.2 (by omega) hnul), hFz⟩
        ·
          refine Sl.calm (Cm.pick_f rfl rfl) rfl ?_
          refine Sl.nil ?_
          refine At.weak [(1, _), (4, _), (55, _)] ⟨rfl, rfl, rfl, trivial⟩ ?_
          refine At.go ?_
          refine Sc.cond_f rfl ?_
          refine Sc.skip ?_
          refine At.go ?_
          refine Sc.seq ?_
          refine Sc.seq ?_
          refine Sc.region ?_
          refine Sl.calm (Cm.field fld33_0 rfl) rfl ?_
          refine Sl.calm (Cm.ld sca3 rfl (cellF hpz rfl)) rfl ?_
          refine Sl.nil ?_
          refine At.weak [(1, _), (4, _), (55, _), (57, _)] ⟨rfl, rfl, rfl, rfl, trivial⟩ ?_
          refine At.go ?_
          refine Sc.block ?_
          refine Sc.seq ?_
          refine Sc.region ?_
          refine Sl.fork (Cm.eql rfl rfl) rfl (fun h59 => ?_) (fun h59 => ?_)
          ·
            refine Sl.calm (Cm.assign rfl) rfl ?_
            refine Sl.nil ?_
            refine At.weak [(1, _), (4, _), (55, _), (57, _), (58, _)] ⟨rfl, rfl, rfl, rfl, rfl, trivial⟩ ?_
            refine At.go ?_
            refine Sc.cond_t rfl ?_
            refine Sc.seq ?_
            refine Sc.region ?_
            refine Sl.calm (Cm.field fld33_7 rfl) rfl ?_
            refine Sl.calm (Cm.ld sca3 rfl (cellF hpz rfl)) rfl ?_
            refine Sl.calm (Cm.rem64 rfl rfl (by omega) (by decide)) rfl ?_
            refine Sl.fork (Cm.gtr rfl rfl) rfl (fun h63 => ?_) (fun h63 => ?_)
            ·
              refine Sl.calm (Cm.assign rfl) rfl ?_
              refine Sl.nil ?_
              refine At.weak [(1, _), (4, _), (8, _), (55, _), (57, _), (58, _)] ⟨rfl, rfl, rfl, rfl, rfl, rfl, trivial⟩ ?_
              refine At.go ?_
              refine Sc.seq ?_
              refine Sc.region ?_
              refine Sl.calm (Cm.field fld33_8 rfl) rfl ?_
              refine Sl.calm (Cm.ld sca3 rfl (cellF hpz rfl)) rfl ?_
              refine Sl.fork (Cm.gtr rfl rfl) rfl (fun h66 => ?_) (fun h66 => ?_)
              ·
                refine Sl.calm (Cm.move rfl) rfl ?_
                refine Sl.calm (Cm.eqlBool ty4 rfl rfl) rfl ?_
                refine Sl.calm (Cm.move rfl) rfl ?_
                refine Sl.want rfl rfl (Cm.move rfl) rfl ?_
                refine Sl.want rfl rfl (Cm.move rfl) rfl ?_
                refine Sl.skip rfl rfl rfl rfl ?_
                refine Sl.skip rfl rfl rfl rfl ?_
                refine Sl.skip rfl rfl rfl rfl ?_
                refine Sl.want rfl rfl (Cm.pick_t rfl rfl) rfl ?_
                refine Sl.calm (Cm.pick_t rfl rfl) rfl ?_
                refine Sl.calm (Cm.assign rfl) rfl ?_
                refine Sl.nil ?_
                refine At.weak [(1, _), (2, _), (4, _), (8, _), (55, _), (57, _), (58, _)] ⟨rfl, rfl, rfl, rfl, rfl, rfl, rfl, trivial⟩ ?_
                refine At.go ?_
                refine Sc.ret ?_
                refine At.block_ret ?_
                refine At.then_ret ?_
                refine At.ret1 rfl rfl ?_
                first
                  | exact ⟨_, rfl, notD hbad, (hF6.trans hF8)⟩
                  | exact ⟨_, rfl, notD hbad, hFz⟩
                  | exact ⟨_, rfl, notD (fun h => by have := h.1; unfold mayA at this; omega), hFz⟩
                  | exact ⟨_, rfl, yesD ⟨by unfold mayA; omega, fun h3 => by first | exact hnul | omega⟩, hFz⟩
                  | exact ⟨_, rfl, notD (fun h => h.2 (by omega) hnul), hFz⟩
              ·
                refine Sl.calm (Cm.move rfl) rfl ?_
                refine Sl.calm (Cm.eqlBool ty4 rfl rfl) rfl ?_
                refine Sl.calm (Cm.move rfl) rfl ?_
                refine Sl.skip rfl rfl rfl rfl ?_
                refine Sl.skip rfl rfl rfl rfl ?_
                refine Sl.skip rfl rfl rfl rfl ?_
                refine Sl.skip rfl rfl rfl rfl ?_
                refine Sl.skip rfl rfl rfl rfl ?_
                refine Sl.skip rfl rfl rfl rfl ?_
                refine Sl.calm (Cm.pick_f rfl rfl) rfl ?_
                refine Sl.calm (Cm.assign rfl) rfl ?_
                refine Sl.nil ?_
                refine At.weak [(1, _), (2, _), (4, _), (8, _), (55, _), (57, _), (58, _)] ⟨rfl, rfl, rfl, rfl, rfl, rfl, rfl, trivial⟩ ?_
                refine At.go ?_
                refine Sc.ret ?_
                refine At.block_ret ?_
                refine At.then_ret ?_
                refine At.ret1 rfl rfl ?_
                first
                  | exact ⟨_, rfl, notD hbad, (hF6.trans hF8)⟩
                  | exact ⟨_, rfl, notD hbad, hFz⟩
                  | exact ⟨_, rfl, notD (fun h => by have := h.1; unfold mayA at this; omega), hFz⟩
                  | exact ⟨_, rfl, yesD ⟨by unfold mayA; omega, fun h3 => by first | exact hnul | omega⟩, hFz⟩
                  | exact ⟨_, rfl, notD (fun h => h.2 (by omega) hnul), hFz⟩
            ·
              refine Sl.calm (Cm.assign rfl) rfl ?_
              refine Sl.nil ?_
              refine At.weak [(1, _), (4, _), (8, _), (55, _), (57, _), (58, _)] ⟨rfl, rfl, rfl, rfl, rfl, rfl, trivial⟩ ?_
              refine At.go ?_
              refine Sc.seq ?_
              refine Sc.region ?_
              refine Sl.calm (Cm.field fld33_8 rfl) rfl ?_
              refine Sl.calm (Cm.ld sca3 rfl (cellF hpz rfl)) rfl ?_
              refine Sl.fork (Cm.gtr rfl rfl) rfl (fun h66 => ?_) (fun h66 => ?_)
              ·
                refine Sl.calm (Cm.move rfl) rfl ?_
                refine Sl.calm (Cm.eqlBool ty4 rfl rfl) rfl ?_
                refine Sl.calm (Cm.move rfl) rfl ?_
                refine Sl.skip rfl rfl rfl rfl ?_
                refine Sl.skip rfl rfl rfl rfl ?_
                refine Sl.skip rfl rfl rfl rfl ?_
                refine Sl.skip rfl rfl rfl rfl ?_
                refine Sl.skip rfl rfl rfl rfl ?_
                refine Sl.skip rfl rfl rfl rfl ?_
                refine Sl.calm (Cm.pick_f rfl rfl) rfl ?_
                refine Sl.calm (Cm.assign rfl) rfl ?_
                refine Sl.nil ?_
                refine At.weak [(1, _), (2, _), (4, _), (8, _), (55, _), (57, _), (58, _)] ⟨rfl, rfl, rfl, rfl, rfl, rfl, rfl, trivial⟩ ?_
                refine At.go ?_
                refine Sc.ret ?_
                refine At.block_ret ?_
                refine At.then_ret ?_
                refine At.ret1 rfl rfl ?_
                first
                  | exact ⟨_, rfl, notD hbad, (hF6.trans hF8)⟩
                  | exact ⟨_, rfl, notD hbad, hFz⟩
                  | exact ⟨_, rfl, notD (fun h => by have := h.1; unfold mayA at this; omega), hFz⟩
                  | exact ⟨_, rfl, yesD ⟨by unfold mayA; omega, fun h3 => by first | exact hnul | omega⟩, hFz⟩
                  | exact ⟨_, rfl, notD (fun h => h.2 (by omega) hnul), hFz⟩
              ·
                refine Sl.calm (Cm.move rfl) rfl ?_
                refine Sl.calm (Cm.eqlBool ty4 rfl rfl) rfl ?_
                refine Sl.calm (Cm.move rfl) rfl ?_
                refine Sl.want rfl rfl (Cm.move rfl) rfl ?_
                refine Sl.want rfl rfl (Cm.move rfl) rfl ?_
                refine Sl.want rfl rfl (Cm.field fld33_9 rfl) rfl ?_
                refine Sl.want rfl rfl (Cm.ld sca3 rfl (cellF hpz rfl)) rfl ?_
                refine Sl.forkWant rfl rfl (Cm.eql rfl rfl) rfl (fun h74 => ?_) (fun h74 => ?_)
                ·
                  refine Sl.want rfl rfl (Cm.pick_f rfl rfl) rfl ?_
                  refine Sl.calm (Cm.pick_t rfl rfl) rfl ?_
                  refine Sl.calm (Cm.assign rfl) rfl ?_
                  refine Sl.nil ?_
                  refine At.weak [(1, _), (2, _), (4, _), (8, _), (55, _), (57, _), (58, _)] ⟨rfl, rfl, rfl, rfl, rfl, rfl, rfl, trivial⟩ ?_
                  refine At.go ?_
                  refine Sc.ret ?_
                  refine At.block_ret ?_
                  refine At.then_ret ?_
                  refine At.ret1 rfl rfl ?_
                  first
                    | exact ⟨_, rfl, notD hbad, (hF6.trans hF8)⟩
                    | exact ⟨_, rfl, notD hbad, hFz⟩
                    | exact ⟨_, rfl, notD (fun h => by have := h.1; unfold mayA at this; omega), hFz⟩
                    | exact ⟨_, rfl, yesD ⟨by unfold mayA; omega, fun h3 => by first | exact hnul | omega⟩, hFz⟩
                    | exact ⟨_, rfl, notD (fun h => h.2 (by omega) hnul), hFz⟩
                ·
                  refine Sl.want rfl rfl (Cm.pick_f rfl rfl) rfl ?_
                  refine Sl.calm (Cm.pick_t rfl rfl) rfl ?_
                  refine Sl.calm (Cm.assign rfl) rfl ?_
                  refine Sl.nil ?_
                  refine At.weak [(1, _), (2, _), (4, _), (8, _), (55, _), (57, _), (58, _)] ⟨rfl, rfl, rfl, rfl, rfl, rfl, rfl, trivial⟩ ?_
                  refine At.go ?_
                  refine Sc.ret ?_
                  refine At.block_ret ?_
                  refine At.then_ret ?_
                  refine At.ret1 rfl rfl ?_
                  first
                    | exact ⟨_, rfl, notD hbad, (hF6.trans hF8)⟩
                    | exact ⟨_, rfl, notD hbad, hFz⟩
                    | exact ⟨_, rfl, notD (fun h => by have := h.1; unfold mayA at this; omega), hFz⟩
                    | exact ⟨_, rfl, yesD ⟨by unfold mayA; omega, fun h3 => by first | exact hnul | omega⟩, hFz⟩
                    | exact ⟨_, rfl, notD (fun h => h.2 (by omega) hnul), hFz⟩
          ·
            refine Sl.calm (Cm.assign rfl) rfl ?_
            refine Sl.nil ?_
            refine At.weak [(1, _), (4, _), (55, _), (57, _), (58, _)] ⟨rfl, rfl, rfl, rfl, rfl, trivial⟩ ?_
            refine At.go ?_
            refine Sc.cond_f rfl ?_
            refine Sc.seq ?_
            refine Sc.region ?_
            refine Sl.fork (Cm.eql rfl rfl) rfl (fun h78 => ?_) (fun h78 => ?_)
            ·
              refine Sl.calm (Cm.assign rfl) rfl ?_
              refine Sl.nil ?_
              refine At.weak [(1, _), (4, _), (55, _), (57, _), (58, _), (77, _)] ⟨rfl, rfl, rfl, rfl, rfl, rfl, trivial⟩ ?_
              refine At.go ?_
              refine Sc.cond_t rfl ?_
              refine Sc.seq ?_
              refine Sc.region ?_
              refine Sl.calm (Cm.field fld33_4 rfl) rfl ?_
              refine Sl.calm (Cm.ld sca3 rfl (cellF hpz rfl)) rfl ?_
              refine Sl.fork (Cm.eql rfl rfl) rfl (fun h81 => ?_) (fun h81 => ?_)
              ·
                refine Sl.calm (Cm.assign rfl) rfl ?_
                refine Sl.nil ?_
                refine At.weak [(1, _), (2, _), (4, _), (55, _), (57, _), (58, _), (77, _)] ⟨rfl, rfl, rfl, rfl, rfl, rfl, rfl, trivial⟩ ?_
                refine At.go ?_
                refine Sc.ret ?_
                refine At.block_ret ?_
                refine At.then_ret ?_
                refine At.ret1 rfl rfl ?_
                first
                  | exact ⟨_, rfl, notD hbad, (hF6.trans hF8)⟩
                  | exact ⟨_, rfl, notD hbad, hFz⟩
                  | exact ⟨_, rfl, notD (fun h => by have := h.1; unfold mayA at this; omega), hFz⟩
                  | exact ⟨_, rfl, yesD ⟨by unfold mayA; omega, fun h3 => by first | exact hnul | omega⟩, hFz⟩
                  | exact ⟨_, rfl, notD (fun h => h.2 (by omega) hnul), hFz⟩
              ·
                refine Sl.calm (Cm.assign rfl) rfl ?_
                refine Sl.nil ?_
                refine At.weak [(1, _), (2, _), (4, _), (55, _), (57, _), (58, _), (77, _)] ⟨rfl, rfl, rfl, rfl, rfl, rfl, rfl, trivial⟩ ?_
                refine At.go ?_
                refine Sc.ret ?_
                refine At.block_ret ?_
                refine At.then_ret ?_
                refine At.ret1 rfl rfl ?_
                first
                  | exact ⟨_, rfl, notD hbad, (hF6.trans hF8)⟩
                  | exact ⟨_, rfl, notD hbad, hFz⟩
                  | exact ⟨_, rfl, notD (fun h => by have := h.1; unfold mayA at this; omega), hFz⟩
                  | exact ⟨_, rfl, yesD ⟨by unfold mayA; omega, fun h3 => by first | exact hnul | omega⟩, hFz⟩
                  | exact ⟨_, rfl, notD (fun h => h.2 (by omega) hnul), hFz⟩
            ·
              refine Sl.calm (Cm.assign rfl) rfl ?_
              refine Sl.nil ?_
              refine At.weak [(1, _), (4, _), (55, _), (57, _), (58, _), (77, _)] ⟨rfl, rfl, rfl, rfl, rfl, rfl, trivial⟩ ?_
              refine At.go ?_
              refine Sc.cond_f rfl ?_
              refine Sc.seq ?_
              refine Sc.region ?_
              refine Sl.fork (Cm.eql rfl rfl) rfl (fun h83 => ?_) (fun h83 => ?_)
              ·
                refine Sl.calm (Cm.assign rfl) rfl ?_
                refine Sl.nil ?_
                refine At.weak [(1, _), (4, _), (55, _), (57, _), (58, _), (77, _), (82, _)] ⟨rfl, rfl, rfl, rfl, rfl, rfl, rfl, trivial⟩ ?_
                refine At.go ?_
                refine Sc.cond_t rfl ?_
                refine Sc.seq ?_
                refine Sc.region ?_
                refine Sl.calm (Cm.field fld33_10 rfl) rfl ?_
                refine Sl.calm (Cm.ld sca9 rfl (cellF hpz rfl)) rfl ?_
                refine Sl.calm (Cm.lenBs ty9 rfl) rfl ?_
                refine Sl.fork (Cm.gtr rfl rfl) rfl (fun h87 => ?_) (fun h87 => ?_)
                ·
                  refine Sl.calm (Cm.move rfl) rfl ?_
                  refine Sl.want rfl rfl (Cm.field fld33_10 rfl) rfl ?_
                  refine Sl.want rfl rfl (Cm.ld sca9 rfl (cellF hpz rfl)) rfl ?_
                  refine Sl.want rfl rfl (Cm.lenBs ty9 rfl) rfl ?_
                  refine Sl.forkWant rfl rfl (Cm.leq rfl rfl) rfl (fun h92 => ?_) (fun h92 => ?_)
                  ·
                    refine Sl.calm (Cm.pick_t rfl rfl) rfl ?_
                    refine Sl.calm (Cm.move rfl) rfl ?_
                    refine Sl.want rfl rfl (Cm.field fld33_10 rfl) rfl ?_
                    refine Sl.want rfl rfl (Cm.ld sca9 rfl (cellF hpz rfl)) rfl ?_
                    refine Sl.callWant rfl rfl fn51 rfl (ixb_ok _ 0 w13) rfl ?_
                    rintro _ w14 ⟨rfl, hw14⟩
                    subst w14
                    refine Sl.forkWant rfl rfl (Cm.lss rfl rfl) rfl (fun h98 => ?_) (fun h98 => ?_)
                    ·
                      have hnul := nul_neg h98
                      refine Sl.calm (Cm.pick_t rfl rfl) rfl ?_
                      refine Sl.calm (Cm.assign rfl) rfl ?_
                      refine Sl.nil ?_
                      refine At.weak [(1, _), (2, _), (4, _), (55, _), (57, _), (58, _), (77, _), (82, _)] ⟨rfl, rfl, rfl, rfl, rfl, rfl, rfl, rfl, trivial⟩ ?_
                      refine At.go ?_
                      refine Sc.ret ?_
                      refine At.block_ret ?_
                      refine At.then_ret ?_
                      refine At.ret1 rfl rfl ?_
                      first
                        | exact ⟨_, rfl, notD hbad, (hF6.trans hF8)⟩
                        | exact ⟨_, rfl, notD hbad, hFz⟩
                        | exact ⟨_, rfl, notD (fun h => by have := h.1; unfold mayA at this; omega), hFz⟩
                        | exact ⟨_, rfl, yesD ⟨by unfold mayA; omega, fun h3 => by first | exact hnul | omega⟩, hFz⟩
                        | exact ⟨_, rfl, notD (fun h => h.2 (by omega) hnul), hFz⟩
                    ·
                      have hnul := nul_pos (Int.not_lt.1 h98)
                      refine Sl.calm (Cm.pick_t rfl rfl) rfl ?_
                      refine Sl.calm (Cm.assign rfl) rfl ?_
                      refine Sl.nil ?_
                      refine At.weak [(1, _), (2, _), (4, _), (55, _), (57, _), (58, _), (77, _), (82, _)] ⟨rfl, rfl, rfl, rfl, rfl, rfl, rfl, rfl, trivial⟩ ?_
                      refine At.go ?_
                      refine Sc.ret ?_
                      refine At.block_ret ?_
                      refine At.then_ret ?_
                      refine At.ret1 rfl rfl ?_
                      first
                        | exact ⟨_, rfl, notD hbad, (hF6.trans hF8)⟩
                        | exact ⟨_, rfl, notD hbad, hFz⟩
                        | exact ⟨_, rfl, notD (fun h => by have := h.1; unfold mayA at this; omega), hFz⟩
                        | exact ⟨_, rfl, yesD ⟨by unfold mayA; omega, fun h3 => by first | exact hnul | omega⟩, hFz⟩
                        | exact ⟨_, rfl, notD (fun h => h.2 (by omega) hnul), hFz⟩
                  ·
                    refine Sl.calm (Cm.pick_t rfl rfl) rfl ?_
                    refine Sl.calm (Cm.move rfl) rfl ?_
                    refine Sl.skip rfl rfl rfl rfl ?_
                    refine Sl.skip rfl rfl rfl rfl ?_
                    refine Sl.skip rfl rfl rfl rfl ?_
                    refine Sl.skip rfl rfl rfl rfl ?_
                    refine Sl.calm (Cm.pick_f rfl rfl) rfl ?_
                    refine Sl.calm (Cm.assign rfl) rfl ?_
                    refine Sl.nil ?_
                    refine At.weak [(1, _), (2, _), (4, _), (55, _), (57, _), (58, _), (77, _), (82, _)] ⟨rfl, rfl, rfl, rfl, rfl, rfl, rfl, rfl, trivial⟩ ?_
                    refine At.go ?_
                    refine Sc.ret ?_
                    refine At.block_ret ?_
                    refine At.then_ret ?_
                    refine At.ret1 rfl rfl ?_
                    first
                      | exact ⟨_, rfl, notD hbad, (hF6.trans hF8)⟩
                      | exact ⟨_, rfl, notD hbad, hFz⟩
                      | exact ⟨_, rfl, notD (fun h => by have := h.1; unfold mayA at this; omega), hFz⟩
                      | exact ⟨_, rfl, yesD ⟨by unfold mayA; omega, fun h3 => by first | exact hnul | omega⟩, hFz⟩
                      | exact ⟨_, rfl, notD (fun h => h.2 (by omega) hnul), hFz⟩
                ·
                  refine Sl.calm (Cm.move rfl) rfl ?_
                  refine Sl.skip rfl rfl rfl rfl ?_
                  refine Sl.skip rfl rfl rfl rfl ?_
                  refine Sl.skip rfl rfl rfl rfl ?_
                  refine Sl.skip rfl rfl rfl rfl ?_
                  refine Sl.calm (Cm.pick_f rfl rfl) rfl ?_
                  refine Sl.calm (Cm.move rfl) rfl ?_
                  refine Sl.skip rfl rfl rfl rfl ?_
                  refine Sl.skip rfl rfl rfl rfl ?_
                  refine Sl.skip rfl rfl rfl rfl ?_
                  refine Sl.skip rfl rfl rfl rfl ?_
                  refine Sl.calm (Cm.pick_f rfl rfl) rfl ?_
                  refine Sl.calm (Cm.assign rfl) rfl ?_
                  refine Sl.nil ?_
                  refine At.weak [(1, _), (2, _), (4, _), (55, _), (57, _), (58, _), (77, _), (82, _)] ⟨rfl, rfl, rfl, rfl, rfl, rfl, rfl, rfl, trivial⟩ ?_
                  refine At.go ?_
                  refine Sc.ret ?_
                  refine At.block_ret ?_
                  refine At.then_ret ?_
                  refine At.ret1 rfl rfl ?_
                  first
                    | exact ⟨_, rfl, notD hbad, (hF6.trans hF8)⟩
                    | exact ⟨_, rfl, notD hbad, hFz⟩
                    | exact ⟨_, rfl, notD (fun h => by have := h.1; unfold mayA at this; omega), hFz⟩
                    | exact ⟨_, rfl, yesD ⟨by unfold mayA; omega, fun h3 => by first | exact hnul | omega⟩, hFz⟩
                    | exact ⟨_, rfl, notD (fun h => h.2 (by omega) hnul), hFz⟩
              ·
                refine Sl.calm (Cm.assign rfl) rfl ?_
                refine Sl.nil ?_
                refine At.weak [(1, _), (4, _), (55, _), (57, _), (58, _), (77, _), (82, _)] ⟨rfl, rfl, rfl, rfl, rfl, rfl, rfl, trivial⟩ ?_
                refine At.go ?_
                refine Sc.cond_f rfl ?_
                refine Sc.skip ?_
                refine At.block_normal ?_
                refine At.go ?_
                refine Sc.seq ?_
                refine Sc.region ?_
                refine Sl.calm (Cm.assign rfl) rfl ?_
                refine Sl.nil ?_
                refine At.go ?_
                refine Sc.ret ?_
                refine At.ret1 rfl rfl ?_
                first
                  | exact ⟨_, rfl, notD hbad, (hF6.trans hF8)⟩
                  | exact ⟨_, rfl, notD hbad, hFz⟩
                  | exact ⟨_, rfl, notD (fun h => by have := h.1; unfold mayA at this; omega), hFz⟩
                  | exact ⟨_, rfl, yesD ⟨by unfold mayA; omega, fun h3 => by first | exact hnul | omega⟩, hFz⟩
                  | exact ⟨_, rfl, notD (fun h => h.2 (by omega) hnul), hFz⟩
end Go.Proofs.Ytoaplldahbbaiaa
/- inode: May, the reference's. No condition. -/
namespace Go.Proofs.Ytoaplldahbbaiaa
open Go Go.RowKit
set_option linter.unusedVariables false

set_option maxHeartbeats 2000000 in
theorem rmay_ok (F : Nat → Int) (T : List UInt8) (W : World) (hT : T.length ≤ maxLen) :
    Calls Try.prog 24 [.agg (inoC F T).toArray].toArray W (Ret fun v w' => v = .bool (decide (mayI F T)) ∧ Foot nob W w') := by
  have hTl : (T.length : Int) ≤ 9223372036854775807 := by unfold maxLen at hT; omega
  refine calls_of_sc 201 [(0, _)] Try.func24 rfl rfl rfl (enter_slots ⟨rfl, trivial⟩) ?_
  refine Sc.seq ?_
  refine Sc.region ?_
  refine Sl.box rfl rfl ?_
  intro w1 hg1 hs1 hf1
  have hg1 : w1.heap[W.heap.size]? = some (.cells (inoC F T).toArray 33 (0, 0)) := hg1
  refine Sl.calm (Cm.assign rfl) rfl ?_
  refine Sl.nil ?_
  refine At.go ?_
  refine Sc.seq ?_
  refine Sc.seq ?_
  refine Sc.region ?_
  refine Sl.calm (Cm.field fld33_1 rfl) rfl ?_
  refine Sl.calm (Cm.ld sca3 rfl (cellF hg1 rfl)) rfl ?_
  refine Sl.fork (Cm.lss rfl rfl) rfl (fun h6 => ?_) (fun h6 => ?_)
  ·
    refine Sl.calm (Cm.move rfl) rfl ?_
    refine Sl.skip rfl rfl rfl rfl ?_
    refine Sl.skip rfl rfl rfl rfl ?_
    refine Sl.skip rfl rfl rfl rfl ?_
    refine Sl.calm (Cm.pick_t rfl rfl) rfl ?_
    refine Sl.calm (Cm.move rfl) rfl ?_
    refine Sl.skip rfl rfl rfl rfl ?_
    refine Sl.skip rfl rfl rfl rfl ?_
    refine Sl.skip rfl rfl rfl rfl ?_
    refine Sl.calm (Cm.pick_t rfl rfl) rfl ?_
    refine Sl.calm (Cm.move rfl) rfl ?_
    refine Sl.skip rfl rfl rfl rfl ?_
    refine Sl.skip rfl rfl rfl rfl ?_
    refine Sl.skip rfl rfl rfl rfl ?_
    refine Sl.calm (Cm.pick_t rfl rfl) rfl ?_
    refine Sl.calm (Cm.move rfl) rfl ?_
    refine Sl.skip rfl rfl rfl rfl ?_
    refine Sl.skip rfl rfl rfl rfl ?_
    refine Sl.skip rfl rfl rfl rfl ?_
    refine Sl.calm (Cm.pick_t rfl rfl) rfl ?_
    refine Sl.calm (Cm.move rfl) rfl ?_
    refine Sl.skip rfl rfl rfl rfl ?_
    refine Sl.skip rfl rfl rfl rfl ?_
    refine Sl.skip rfl rfl rfl rfl ?_
    refine Sl.calm (Cm.pick_t rfl rfl) rfl ?_
    refine Sl.calm (Cm.move rfl) rfl ?_
    refine Sl.skip rfl rfl rfl rfl ?_
    refine Sl.skip rfl rfl rfl rfl ?_
    refine Sl.skip rfl rfl rfl rfl ?_
    refine Sl.calm (Cm.pick_t rfl rfl) rfl ?_
    refine Sl.calm (Cm.move rfl) rfl ?_
    refine Sl.skip rfl rfl rfl rfl ?_
    refine Sl.skip rfl rfl rfl rfl ?_
    refine Sl.skip rfl rfl rfl rfl ?_
    refine Sl.calm (Cm.pick_t rfl rfl) rfl ?_
    refine Sl.calm (Cm.move rfl) rfl ?_
    refine Sl.skip rfl rfl rfl rfl ?_
    refine Sl.skip rfl rfl rfl rfl ?_
    refine Sl.skip rfl rfl rfl rfl ?_
    refine Sl.calm (Cm.pick_t rfl rfl) rfl ?_
    refine Sl.calm (Cm.move rfl) rfl ?_
    refine Sl.skip rfl rfl rfl rfl ?_
    refine Sl.skip rfl rfl rfl rfl ?_
    refine Sl.skip rfl rfl rfl rfl ?_
    refine Sl.calm (Cm.pick_t rfl rfl) rfl ?_
    refine Sl.nil ?_
    refine At.weak [(0, _), (1, _), (2, _), (51, _)] ⟨rfl, rfl, rfl, rfl, trivial⟩ ?_
    refine At.go ?_
    refine Sc.cond_t rfl ?_
    refine Sc.seq ?_
    refine Sc.region ?_
    refine Sl.calm (Cm.assign rfl) rfl ?_
    refine Sl.nil ?_
    refine At.go ?_
    refine Sc.ret ?_
    refine At.then_ret ?_
    refine At.ret1 rfl rfl ?_
    first
      | exact ⟨_, rfl, notD (fun h => by have := h.1; unfold mayA at this; omega), hf1⟩
      | exact ⟨_, rfl, notD (fun h => by have := h.1; unfold mayA at this; omega), hf1.draws 1⟩
      | exact ⟨_, rfl, yesD ⟨by unfold mayA; omega, fun h3 => by omega⟩, hf1⟩
      | exact ⟨_, rfl, yesD ⟨by unfold mayA; omega, fun h3 => by omega⟩, hf1.draws 1⟩
      | exact ⟨_, rfl, notD (fun h => h.2 (by omega) hnul), hf1⟩
      | exact ⟨_, rfl, yesD ⟨by unfold mayA; omega, fun h3 h0 => by obtain ⟨i, hi, e⟩ := List.getElem_of_mem h0; exact hgood i (by omega) (by simp [List.getD, hi, e])⟩, hf1⟩
  ·
    refine Sl.calm (Cm.move rfl) rfl ?_
    refine Sl.want rfl rfl (Cm.field fld33_1 rfl) rfl ?_
    refine Sl.want rfl rfl (Cm.ld sca3 rfl (cellF hg1 rfl)) rfl ?_
    refine Sl.forkWant rfl rfl (Cm.gtr rfl rfl) rfl (fun h10 => ?_) (fun h10 => ?_)
    ·
      refine Sl.calm (Cm.pick_f rfl rfl) rfl ?_
      refine Sl.calm (Cm.move rfl) rfl ?_
      refine Sl.skip rfl rfl rfl rfl ?_
      refine Sl.skip rfl rfl rfl rfl ?_
      refine Sl.skip rfl rfl rfl rfl ?_
      refine Sl.calm (Cm.pick_t rfl rfl) rfl ?_
      refine Sl.calm (Cm.move rfl) rfl ?_
      refine Sl.skip rfl rfl rfl rfl ?_
      refine Sl.skip rfl rfl rfl rfl ?_
      refine Sl.skip rfl rfl rfl rfl ?_
      refine Sl.calm (Cm.pick_t rfl rfl) rfl ?_
      refine Sl.calm (Cm.move rfl) rfl ?_
      refine Sl.skip rfl rfl rfl rfl ?_
      refine Sl.skip rfl rfl rfl rfl ?_
      refine Sl.skip rfl rfl rfl rfl ?_
      refine Sl.calm (Cm.pick_t rfl rfl) rfl ?_
      refine Sl.calm (Cm.move rfl) rfl ?_
      refine Sl.skip rfl rfl rfl rfl ?_
      refine Sl.skip rfl rfl rfl rfl ?_
      refine Sl.skip rfl rfl rfl rfl ?_
      refine Sl.calm (Cm.pick_t rfl rfl) rfl ?_
      refine Sl.calm (Cm.move rfl) rfl ?_
      refine Sl.skip rfl rfl rfl rfl ?_
      refine Sl.skip rfl rfl rfl rfl ?_
      refine Sl.skip rfl rfl rfl rfl ?_
      refine Sl.calm (Cm.pick_t rfl rfl) rfl ?_
      refine Sl.calm (Cm.move rfl) rfl ?_
      refine Sl.skip rfl rfl rfl rfl ?_
      refine Sl.skip rfl rfl rfl rfl ?_
      refine Sl.skip rfl rfl rfl rfl ?_
      refine Sl.calm (Cm.pick_t rfl rfl) rfl ?_
      refine Sl.calm (Cm.move rfl) rfl ?_
      refine Sl.skip rfl rfl rfl rfl ?_
      refine Sl.skip rfl rfl rfl rfl ?_
      refine Sl.skip rfl rfl rfl rfl ?_
      refine Sl.calm (Cm.pick_t rfl rfl) rfl ?_
      refine Sl.calm (Cm.move rfl) rfl ?_
      refine Sl.skip rfl rfl rfl rfl ?_
      refine Sl.skip rfl rfl rfl rfl ?_
      refine Sl.skip rfl rfl rfl rfl ?_
      refine Sl.calm (Cm.pick_t rfl rfl) rfl ?_
      refine Sl.nil ?_
      refine At.weak [(0, _), (1, _), (2, _), (51, _)] ⟨rfl, rfl, rfl, rfl, trivial⟩ ?_
      refine At.go ?_
      refine Sc.cond_t rfl ?_
      refine Sc.seq ?_
      refine Sc.region ?_
      refine Sl.calm (Cm.assign rfl) rfl ?_
      refine Sl.nil ?_
      refine At.go ?_
      refine Sc.ret ?_
      refine At.then_ret ?_
      refine At.ret1 rfl rfl ?_
      first
        | exact ⟨_, rfl, notD (fun h => by have := h.1; unfold mayA at this; omega), hf1⟩
        | exact ⟨_, rfl, notD (fun h => by have := h.1; unfold mayA at this; omega), hf1.draws 1⟩
        | exact ⟨_, rfl, yesD ⟨by unfold mayA; omega, fun h3 => by omega⟩, hf1⟩
        | exact ⟨_, rfl, yesD ⟨by unfold mayA; omega, fun h3 => by omega⟩, hf1.draws 1⟩
        | exact ⟨_, rfl, notD (fun h => h.2 (by omega) hnul), hf1⟩
        | exact ⟨_, rfl, yesD ⟨by unfold mayA; omega, fun h3 h0 => by obtain ⟨i, hi, e⟩ := List.getElem_of_mem h0; exact hgood i (by omega) (by simp [List.getD, hi, e])⟩, hf1⟩
    ·
      refine Sl.calm (Cm.pick_f rfl rfl) rfl ?_
      refine Sl.calm (Cm.move rfl) rfl ?_
      refine Sl.want rfl rfl (Cm.field fld33_2 rfl) rfl ?_
      refine Sl.want rfl rfl (Cm.ld sca3 rfl (cellF hg1 rfl)) rfl ?_
      refine Sl.forkWant rfl rfl (Cm.lss rfl rfl) rfl (fun h15 => ?_) (fun h15 => ?_)
      ·
        refine Sl.calm (Cm.pick_f rfl rfl) rfl ?_
        refine Sl.calm (Cm.move rfl) rfl ?_
        refine Sl.skip rfl rfl rfl rfl ?_
        refine Sl.skip rfl rfl rfl rfl ?_
        refine Sl.skip rfl rfl rfl rfl ?_
        refine Sl.calm (Cm.pick_t rfl rfl) rfl ?_
        refine Sl.calm (Cm.move rfl) rfl ?_
        refine Sl.skip rfl rfl rfl rfl ?_
        refine Sl.skip rfl rfl rfl rfl ?_
        refine Sl.skip rfl rfl rfl rfl ?_
        refine Sl.calm (Cm.pick_t rfl rfl) rfl ?_
        refine Sl.calm (Cm.move rfl) rfl ?_
        refine Sl.skip rfl rfl rfl rfl ?_
        refine Sl.skip rfl rfl rfl rfl ?_
        refine Sl.skip rfl rfl rfl rfl ?_
        refine Sl.calm (Cm.pick_t rfl rfl) rfl ?_
        refine Sl.calm (Cm.move rfl) rfl ?_
        refine Sl.skip rfl rfl rfl rfl ?_
        refine Sl.skip rfl rfl rfl rfl ?_
        refine Sl.skip rfl rfl rfl rfl ?_
        refine Sl.calm (Cm.pick_t rfl rfl) rfl ?_
        refine Sl.calm (Cm.move rfl) rfl ?_
        refine Sl.skip rfl rfl rfl rfl ?_
        refine Sl.skip rfl rfl rfl rfl ?_
        refine Sl.skip rfl rfl rfl rfl ?_
        refine Sl.calm (Cm.pick_t rfl rfl) rfl ?_
        refine Sl.calm (Cm.move rfl) rfl ?_
        refine Sl.skip rfl rfl rfl rfl ?_
        refine Sl.skip rfl rfl rfl rfl ?_
        refine Sl.skip rfl rfl rfl rfl ?_
        refine Sl.calm (Cm.pick_t rfl rfl) rfl ?_
        refine Sl.calm (Cm.move rfl) rfl ?_
        refine Sl.skip rfl rfl rfl rfl ?_
        refine Sl.skip rfl rfl rfl rfl ?_
        refine Sl.skip rfl rfl rfl rfl ?_
        refine Sl.calm (Cm.pick_t rfl rfl) rfl ?_
        refine Sl.nil ?_
        refine At.weak [(0, _), (1, _), (2, _), (51, _)] ⟨rfl, rfl, rfl, rfl, trivial⟩ ?_
        refine At.go ?_
        refine Sc.cond_t rfl ?_
        refine Sc.seq ?_
        refine Sc.region ?_
        refine Sl.calm (Cm.assign rfl) rfl ?_
        refine Sl.nil ?_
        refine At.go ?_
        refine Sc.ret ?_
        refine At.then_ret ?_
        refine At.ret1 rfl rfl ?_
        first
          | exact ⟨_, rfl, notD (fun h => by have := h.1; unfold mayA at this; omega), hf1⟩
          | exact ⟨_, rfl, notD (fun h => by have := h.1; unfold mayA at this; omega), hf1.draws 1⟩
          | exact ⟨_, rfl, yesD ⟨by unfold mayA; omega, fun h3 => by omega⟩, hf1⟩
          | exact ⟨_, rfl, yesD ⟨by unfold mayA; omega, fun h3 => by omega⟩, hf1.draws 1⟩
          | exact ⟨_, rfl, notD (fun h => h.2 (by omega) hnul), hf1⟩
          | exact ⟨_, rfl, yesD ⟨by unfold mayA; omega, fun h3 h0 => by obtain ⟨i, hi, e⟩ := List.getElem_of_mem h0; exact hgood i (by omega) (by simp [List.getD, hi, e])⟩, hf1⟩
      ·
        refine Sl.calm (Cm.pick_f rfl rfl) rfl ?_
        refine Sl.calm (Cm.move rfl) rfl ?_
        refine Sl.want rfl rfl (Cm.field fld33_2 rfl) rfl ?_
        refine Sl.want rfl rfl (Cm.ld sca3 rfl (cellF hg1 rfl)) rfl ?_
        refine Sl.forkWant rfl rfl (Cm.gtr rfl rfl) rfl (fun h20 => ?_) (fun h20 => ?_)
        ·
          refine Sl.calm (Cm.pick_f rfl rfl) rfl ?_
          refine Sl.calm (Cm.move rfl) rfl ?_
          refine Sl.skip rfl rfl rfl rfl ?_
          refine Sl.skip rfl rfl rfl rfl ?_
          refine Sl.skip rfl rfl rfl rfl ?_
          refine Sl.calm (Cm.pick_t rfl rfl) rfl ?_
          refine Sl.calm (Cm.move rfl) rfl ?_
          refine Sl.skip rfl rfl rfl rfl ?_
          refine Sl.skip rfl rfl rfl rfl ?_
          refine Sl.skip rfl rfl rfl rfl ?_
          refine Sl.calm (Cm.pick_t rfl rfl) rfl ?_
          refine Sl.calm (Cm.move rfl) rfl ?_
          refine Sl.skip rfl rfl rfl rfl ?_
          refine Sl.skip rfl rfl rfl rfl ?_
          refine Sl.skip rfl rfl rfl rfl ?_
          refine Sl.calm (Cm.pick_t rfl rfl) rfl ?_
          refine Sl.calm (Cm.move rfl) rfl ?_
          refine Sl.skip rfl rfl rfl rfl ?_
          refine Sl.skip rfl rfl rfl rfl ?_
          refine Sl.skip rfl rfl rfl rfl ?_
          refine Sl.calm (Cm.pick_t rfl rfl) rfl ?_
          refine Sl.calm (Cm.move rfl) rfl ?_
          refine Sl.skip rfl rfl rfl rfl ?_
          refine Sl.skip rfl rfl rfl rfl ?_
          refine Sl.skip rfl rfl rfl rfl ?_
          refine Sl.calm (Cm.pick_t rfl rfl) rfl ?_
          refine Sl.calm (Cm.move rfl) rfl ?_
          refine Sl.skip rfl rfl rfl rfl ?_
          refine Sl.skip rfl rfl rfl rfl ?_
          refine Sl.skip rfl rfl rfl rfl ?_
          refine Sl.calm (Cm.pick_t rfl rfl) rfl ?_
          refine Sl.nil ?_
          refine At.weak [(0, _), (1, _), (2, _), (51, _)] ⟨rfl, rfl, rfl, rfl, trivial⟩ ?_
          refine At.go ?_
          refine Sc.cond_t rfl ?_
          refine Sc.seq ?_
          refine Sc.region ?_
          refine Sl.calm (Cm.assign rfl) rfl ?_
          refine Sl.nil ?_
          refine At.go ?_
          refine Sc.ret ?_
          refine At.then_ret ?_
          refine At.ret1 rfl rfl ?_
          first
            | exact ⟨_, rfl, notD (fun h => by have := h.1; unfold mayA at this; omega), hf1⟩
            | exact ⟨_, rfl, notD (fun h => by have := h.1; unfold mayA at this; omega), hf1.draws 1⟩
            | exact ⟨_, rfl, yesD ⟨by unfold mayA; omega, fun h3 => by omega⟩, hf1⟩
            | exact ⟨_, rfl, yesD ⟨by unfold mayA; omega, fun h3 => by omega⟩, hf1.draws 1⟩
            | exact ⟨_, rfl, notD (fun h => h.2 (by omega) hnul), hf1⟩
            | exact ⟨_, rfl, yesD ⟨by unfold mayA; omega, fun h3 h0 => by obtain ⟨i, hi, e⟩ := List.getElem_of_mem h0; exact hgood i (by omega) (by simp [List.getD, hi, e])⟩, hf1⟩
        ·
          refine Sl.calm (Cm.pick_f rfl rfl) rfl ?_
          refine Sl.calm (Cm.move rfl) rfl ?_
          refine Sl.want rfl rfl (Cm.field fld33_3 rfl) rfl ?_
          refine Sl.want rfl rfl (Cm.ld sca3 rfl (cellF hg1 rfl)) rfl ?_
          refine Sl.forkWant rfl rfl (Cm.lss rfl rfl) rfl (fun h25 => ?_) (fun h25 => ?_)
          ·
            refine Sl.calm (Cm.pick_f rfl rfl) rfl ?_
            refine Sl.calm (Cm.move rfl) rfl ?_
            refine Sl.skip rfl rfl rfl rfl ?_
            refine Sl.skip rfl rfl rfl rfl ?_
            refine Sl.skip rfl rfl rfl rfl ?_
            refine Sl.calm (Cm.pick_t rfl rfl) rfl ?_
            refine Sl.calm (Cm.move rfl) rfl ?_
            refine Sl.skip rfl rfl rfl rfl ?_
            refine Sl.skip rfl rfl rfl rfl ?_
            refine Sl.skip rfl rfl rfl rfl ?_
            refine Sl.calm (Cm.pick_t rfl rfl) rfl ?_
            refine Sl.calm (Cm.move rfl) rfl ?_
            refine Sl.skip rfl rfl rfl rfl ?_
            refine Sl.skip rfl rfl rfl rfl ?_
            refine Sl.skip rfl rfl rfl rfl ?_
            refine Sl.calm (Cm.pick_t rfl rfl) rfl ?_
            refine Sl.calm (Cm.move rfl) rfl ?_
            refine Sl.skip rfl rfl rfl rfl ?_
            refine Sl.skip rfl rfl rfl rfl ?_
            refine Sl.skip rfl rfl rfl rfl ?_
            refine Sl.calm (Cm.pick_t rfl rfl) rfl ?_
            refine Sl.calm (Cm.move rfl) rfl ?_
            refine Sl.skip rfl rfl rfl rfl ?_
            refine Sl.skip rfl rfl rfl rfl ?_
            refine Sl.skip rfl rfl rfl rfl ?_
            refine Sl.calm (Cm.pick_t rfl rfl) rfl ?_
            refine Sl.nil ?_
            refine At.weak [(0, _), (1, _), (2, _), (51, _)] ⟨rfl, rfl, rfl, rfl, trivial⟩ ?_
            refine At.go ?_
            refine Sc.cond_t rfl ?_
            refine Sc.seq ?_
            refine Sc.region ?_
            refine Sl.calm (Cm.assign rfl) rfl ?_
            refine Sl.nil ?_
            refine At.go ?_
            refine Sc.ret ?_
            refine At.then_ret ?_
            refine At.ret1 rfl rfl ?_
            first
              | exact ⟨_, rfl, notD (fun h => by have := h.1; unfold mayA at this; omega), hf1⟩
              | exact ⟨_, rfl, notD (fun h => by have := h.1; unfold mayA at this; omega), hf1.draws 1⟩
              | exact ⟨_, rfl, yesD ⟨by unfold mayA; omega, fun h3 => by omega⟩, hf1⟩
              | exact ⟨_, rfl, yesD ⟨by unfold mayA; omega, fun h3 => by omega⟩, hf1.draws 1⟩
              | exact ⟨_, rfl, notD (fun h => h.2 (by omega) hnul), hf1⟩
              | exact ⟨_, rfl, yesD ⟨by unfold mayA; omega, fun h3 h0 => by obtain ⟨i, hi, e⟩ := List.getElem_of_mem h0; exact hgood i (by omega) (by simp [List.getD, hi, e])⟩, hf1⟩
          ·
            refine Sl.calm (Cm.pick_f rfl rfl) rfl ?_
            refine Sl.calm (Cm.move rfl) rfl ?_
            refine Sl.want rfl rfl (Cm.field fld33_3 rfl) rfl ?_
            refine Sl.want rfl rfl (Cm.ld sca3 rfl (cellF hg1 rfl)) rfl ?_
            refine Sl.forkWant rfl rfl (Cm.gtr rfl rfl) rfl (fun h30 => ?_) (fun h30 => ?_)
            ·
              refine Sl.calm (Cm.pick_f rfl rfl) rfl ?_
              refine Sl.calm (Cm.move rfl) rfl ?_
              refine Sl.skip rfl rfl rfl rfl ?_
              refine Sl.skip rfl rfl rfl rfl ?_
              refine Sl.skip rfl rfl rfl rfl ?_
              refine Sl.calm (Cm.pick_t rfl rfl) rfl ?_
              refine Sl.calm (Cm.move rfl) rfl ?_
              refine Sl.skip rfl rfl rfl rfl ?_
              refine Sl.skip rfl rfl rfl rfl ?_
              refine Sl.skip rfl rfl rfl rfl ?_
              refine Sl.calm (Cm.pick_t rfl rfl) rfl ?_
              refine Sl.calm (Cm.move rfl) rfl ?_
              refine Sl.skip rfl rfl rfl rfl ?_
              refine Sl.skip rfl rfl rfl rfl ?_
              refine Sl.skip rfl rfl rfl rfl ?_
              refine Sl.calm (Cm.pick_t rfl rfl) rfl ?_
              refine Sl.calm (Cm.move rfl) rfl ?_
              refine Sl.skip rfl rfl rfl rfl ?_
              refine Sl.skip rfl rfl rfl rfl ?_
              refine Sl.skip rfl rfl rfl rfl ?_
              refine Sl.calm (Cm.pick_t rfl rfl) rfl ?_
              refine Sl.nil ?_
              refine At.weak [(0, _), (1, _), (2, _), (51, _)] ⟨rfl, rfl, rfl, rfl, trivial⟩ ?_
              refine At.go ?_
              refine Sc.cond_t rfl ?_
              refine Sc.seq ?_
              refine Sc.region ?_
              refine Sl.calm (Cm.assign rfl) rfl ?_
              refine Sl.nil ?_
              refine At.go ?_
              refine Sc.ret ?_
              refine At.then_ret ?_
              refine At.ret1 rfl rfl ?_
              first
                | exact ⟨_, rfl, notD (fun h => by have := h.1; unfold mayA at this; omega), hf1⟩
                | exact ⟨_, rfl, notD (fun h => by have := h.1; unfold mayA at this; omega), hf1.draws 1⟩
                | exact ⟨_, rfl, yesD ⟨by unfold mayA; omega, fun h3 => by omega⟩, hf1⟩
                | exact ⟨_, rfl, yesD ⟨by unfold mayA; omega, fun h3 => by omega⟩, hf1.draws 1⟩
                | exact ⟨_, rfl, notD (fun h => h.2 (by omega) hnul), hf1⟩
                | exact ⟨_, rfl, yesD ⟨by unfold mayA; omega, fun h3 h0 => by obtain ⟨i, hi, e⟩ := List.getElem_of_mem h0; exact hgood i (by omega) (by simp [List.getD, hi, e])⟩, hf1⟩
            ·
              refine Sl.calm (Cm.pick_f rfl rfl) rfl ?_
              refine Sl.calm (Cm.move rfl) rfl ?_
              refine Sl.want rfl rfl (Cm.field fld33_4 rfl) rfl ?_
              refine Sl.want rfl rfl (Cm.ld sca3 rfl (cellF hg1 rfl)) rfl ?_
              refine Sl.forkWant rfl rfl (Cm.lss rfl rfl) rfl (fun h35 => ?_) (fun h35 => ?_)
              ·
                refine Sl.calm (Cm.pick_f rfl rfl) rfl ?_
                refine Sl.calm (Cm.move rfl) rfl ?_
                refine Sl.skip rfl rfl rfl rfl ?_
                refine Sl.skip rfl rfl rfl rfl ?_
                refine Sl.skip rfl rfl rfl rfl ?_
                refine Sl.calm (Cm.pick_t rfl rfl) rfl ?_
                refine Sl.calm (Cm.move rfl) rfl ?_
                refine Sl.skip rfl rfl rfl rfl ?_
                refine Sl.skip rfl rfl rfl rfl ?_
                refine Sl.skip rfl rfl rfl rfl ?_
                refine Sl.calm (Cm.pick_t rfl rfl) rfl ?_
                refine Sl.calm (Cm.move rfl) rfl ?_
                refine Sl.skip rfl rfl rfl rfl ?_
                refine Sl.skip rfl rfl rfl rfl ?_
                refine Sl.skip rfl rfl rfl rfl ?_
                refine Sl.calm (Cm.pick_t rfl rfl) rfl ?_
                refine Sl.nil ?_
                refine At.weak [(0, _), (1, _), (2, _), (51, _)] ⟨rfl, rfl, rfl, rfl, trivial⟩ ?_
                refine At.go ?_
                refine Sc.cond_t rfl ?_
                refine Sc.seq ?_
                refine Sc.region ?_
                refine Sl.calm (Cm.assign rfl) rfl ?_
                refine Sl.nil ?_
                refine At.go ?_
                refine Sc.ret ?_
                refine At.then_ret ?_
                refine At.ret1 rfl rfl ?_
                first
                  | exact ⟨_, rfl, notD (fun h => by have := h.1; unfold mayA at this; omega), hf1⟩
                  | exact ⟨_, rfl, notD (fun h => by have := h.1; unfold mayA at this; omega), hf1.draws 1⟩
                  | exact ⟨_, rfl, yesD ⟨by unfold mayA; omega, fun h3 => by omega⟩, hf1⟩
                  | exact ⟨_, rfl, yesD ⟨by unfold mayA; omega, fun h3 => by omega⟩, hf1.draws 1⟩
                  | exact ⟨_, rfl, notD (fun h => h.2 (by omega) hnul), hf1⟩
                  | exact ⟨_, rfl, yesD ⟨by unfold mayA; omega, fun h3 h0 => by obtain ⟨i, hi, e⟩ := List.getElem_of_mem h0; exact hgood i (by omega) (by simp [List.getD, hi, e])⟩, hf1⟩
              ·
                refine Sl.calm (Cm.pick_f rfl rfl) rfl ?_
                refine Sl.calm (Cm.move rfl) rfl ?_
                refine Sl.want rfl rfl (Cm.field fld33_4 rfl) rfl ?_
                refine Sl.want rfl rfl (Cm.ld sca3 rfl (cellF hg1 rfl)) rfl ?_
                refine Sl.forkWant rfl rfl (Cm.gtr rfl rfl) rfl (fun h40 => ?_) (fun h40 => ?_)
                ·
                  refine Sl.calm (Cm.pick_f rfl rfl) rfl ?_
                  refine Sl.calm (Cm.move rfl) rfl ?_
                  refine Sl.skip rfl rfl rfl rfl ?_
                  refine Sl.skip rfl rfl rfl rfl ?_
                  refine Sl.skip rfl rfl rfl rfl ?_
                  refine Sl.calm (Cm.pick_t rfl rfl) rfl ?_
                  refine Sl.calm (Cm.move rfl) rfl ?_
                  refine Sl.skip rfl rfl rfl rfl ?_
                  refine Sl.skip rfl rfl rfl rfl ?_
                  refine Sl.skip rfl rfl rfl rfl ?_
                  refine Sl.calm (Cm.pick_t rfl rfl) rfl ?_
                  refine Sl.nil ?_
                  refine At.weak [(0, _), (1, _), (2, _), (51, _)] ⟨rfl, rfl, rfl, rfl, trivial⟩ ?_
                  refine At.go ?_
                  refine Sc.cond_t rfl ?_
                  refine Sc.seq ?_
                  refine Sc.region ?_
                  refine Sl.calm (Cm.assign rfl) rfl ?_
                  refine Sl.nil ?_
                  refine At.go ?_
                  refine Sc.ret ?_
                  refine At.then_ret ?_
                  refine At.ret1 rfl rfl ?_
                  first
                    | exact ⟨_, rfl, notD (fun h => by have := h.1; unfold mayA at this; omega), hf1⟩
                    | exact ⟨_, rfl, notD (fun h => by have := h.1; unfold mayA at this; omega), hf1.draws 1⟩
                    | exact ⟨_, rfl, yesD ⟨by unfold mayA; omega, fun h3 => by omega⟩, hf1⟩
                    | exact ⟨_, rfl, yesD ⟨by unfold mayA; omega, fun h3 => by omega⟩, hf1.draws 1⟩
                    | exact ⟨_, rfl, notD (fun h => h.2 (by omega) hnul), hf1⟩
                    | exact ⟨_, rfl, yesD ⟨by unfold mayA; omega, fun h3 h0 => by obtain ⟨i, hi, e⟩ := List.getElem_of_mem h0; exact hgood i (by omega) (by simp [List.getD, hi, e])⟩, hf1⟩
                ·
                  refine Sl.calm (Cm.pick_f rfl rfl) rfl ?_
                  refine Sl.calm (Cm.move rfl) rfl ?_
                  refine Sl.want rfl rfl (Cm.field fld33_5 rfl) rfl ?_
                  refine Sl.want rfl rfl (Cm.ld sca3 rfl (cellF hg1 rfl)) rfl ?_
                  refine Sl.forkWant rfl rfl (Cm.lss rfl rfl) rfl (fun h45 => ?_) (fun h45 => ?_)
                  ·
                    refine Sl.calm (Cm.pick_f rfl rfl) rfl ?_
                    refine Sl.calm (Cm.move rfl) rfl ?_
                    refine Sl.skip rfl rfl rfl rfl ?_
                    refine Sl.skip rfl rfl rfl rfl ?_
                    refine Sl.skip rfl rfl rfl rfl ?_
                    refine Sl.calm (Cm.pick_t rfl rfl) rfl ?_
                    refine Sl.nil ?_
                    refine At.weak [(0, _), (1, _), (2, _), (51, _)] ⟨rfl, rfl, rfl, rfl, trivial⟩ ?_
                    refine At.go ?_
                    refine Sc.cond_t rfl ?_
                    refine Sc.seq ?_
                    refine Sc.region ?_
                    refine Sl.calm (Cm.assign rfl) rfl ?_
                    refine Sl.nil ?_
                    refine At.go ?_
                    refine Sc.ret ?_
                    refine At.then_ret ?_
                    refine At.ret1 rfl rfl ?_
                    first
                      | exact ⟨_, rfl, notD (fun h => by have := h.1; unfold mayA at this; omega), hf1⟩
                      | exact ⟨_, rfl, notD (fun h => by have := h.1; unfold mayA at this; omega), hf1.draws 1⟩
                      | exact ⟨_, rfl, yesD ⟨by unfold mayA; omega, fun h3 => by omega⟩, hf1⟩
                      | exact ⟨_, rfl, yesD ⟨by unfold mayA; omega, fun h3 => by omega⟩, hf1.draws 1⟩
                      | exact ⟨_, rfl, notD (fun h => h.2 (by omega) hnul), hf1⟩
                      | exact ⟨_, rfl, yesD ⟨by unfold mayA; omega, fun h3 h0 => by obtain ⟨i, hi, e⟩ := List.getElem_of_mem h0; exact hgood i (by omega) (by simp [List.getD, hi, e])⟩, hf1⟩
                  ·
                    refine Sl.calm (Cm.pick_f rfl rfl) rfl ?_
                    refine Sl.calm (Cm.move rfl) rfl ?_
                    refine Sl.want rfl rfl (Cm.field fld33_5 rfl) rfl ?_
                    refine Sl.want rfl rfl (Cm.ld sca3 rfl (cellF hg1 rfl)) rfl ?_
                    refine Sl.forkWant rfl rfl (Cm.gtr rfl rfl) rfl (fun h50 => ?_) (fun h50 => ?_)
                    ·
                      refine Sl.calm (Cm.pick_f rfl rfl) rfl ?_
                      refine Sl.nil ?_
                      refine At.weak [(0, _), (1, _), (2, _), (51, _)] ⟨rfl, rfl, rfl, rfl, trivial⟩ ?_
                      refine At.go ?_
                      refine Sc.cond_t rfl ?_
                      refine Sc.seq ?_
                      refine Sc.region ?_
                      refine Sl.calm (Cm.assign rfl) rfl ?_
                      refine Sl.nil ?_
                      refine At.go ?_
                      refine Sc.ret ?_
                      refine At.then_ret ?_
                      refine At.ret1 rfl rfl ?_
                      first
                        | exact ⟨_, rfl, notD (fun h => by have := h.1; unfold mayA at this; omega), hf1⟩
                        | exact ⟨_, rfl, notD (fun h => by have := h.1; unfold mayA at this; omega), hf1.draws 1⟩
                        | exact ⟨_, rfl, yesD ⟨by unfold mayA; omega, fun h3 => by omega⟩, hf1⟩
                        | exact ⟨_, rfl, yesD ⟨by unfold mayA; omega, fun h3 => by omega⟩, hf1.draws 1⟩
                        | exact ⟨_, rfl, notD (fun h => h.2 (by omega) hnul), hf1⟩
                        | exact ⟨_, rfl, yesD ⟨by unfold mayA; omega, fun h3 h0 => by obtain ⟨i, hi, e⟩ := List.getElem_of_mem h0; exact hgood i (by omega) (by simp [List.getD, hi, e])⟩, hf1⟩
                    ·
                      refine Sl.calm (Cm.pick_f rfl rfl) rfl ?_
                      refine Sl.nil ?_
                      refine At.weak [(0, _), (1, _), (2, _), (51, _)] ⟨rfl, rfl, rfl, rfl, trivial⟩ ?_
                      refine At.go ?_
                      refine Sc.cond_f rfl ?_
                      refine Sc.skip ?_
                      refine At.go ?_
                      refine Sc.seq ?_
                      refine Sc.seq ?_
                      refine Sc.region ?_
                      refine Sl.calm (Cm.field fld33_0 rfl) rfl ?_
                      refine Sl.calm (Cm.ld sca3 rfl (cellF hg1 rfl)) rfl ?_
                      refine Sl.nil ?_
                      refine At.weak [(0, _), (1, _), (2, _), (51, _), (53, _)] ⟨rfl, rfl, rfl, rfl, rfl, trivial⟩ ?_
                      refine At.go ?_
                      refine Sc.block ?_
                      refine Sc.seq ?_
                      refine Sc.region ?_
                      refine Sl.fork (Cm.eql rfl rfl) rfl (fun h55 => ?_) (fun h55 => ?_)
                      ·
                        refine Sl.calm (Cm.assign rfl) rfl ?_
                        refine Sl.nil ?_
                        refine At.weak [(0, _), (1, _), (2, _), (51, _), (53, _), (54, _)] ⟨rfl, rfl, rfl, rfl, rfl, rfl, trivial⟩ ?_
                        refine At.go ?_
                        refine Sc.cond_t rfl ?_
                        refine Sc.seq ?_
                        refine Sc.seq ?_
                        refine Sc.region ?_
                        refine Sl.calm (Cm.field fld33_7 rfl) rfl ?_
                        refine Sl.calm (Cm.ld sca3 rfl (cellF hg1 rfl)) rfl ?_
                        refine Sl.fork (Cm.lss rfl rfl) rfl (fun h58 => ?_) (fun h58 => ?_)
                        ·
                          refine Sl.calm (Cm.move rfl) rfl ?_
                          refine Sl.skip rfl rfl rfl rfl ?_
                          refine Sl.skip rfl rfl rfl rfl ?_
                          refine Sl.skip rfl rfl rfl rfl ?_
                          refine Sl.calm (Cm.pick_t rfl rfl) rfl ?_
                          refine Sl.calm (Cm.move rfl) rfl ?_
                          refine Sl.skip rfl rfl rfl rfl ?_
                          refine Sl.skip rfl rfl rfl rfl ?_
                          refine Sl.skip rfl rfl rfl rfl ?_
                          refine Sl.calm (Cm.pick_t rfl rfl) rfl ?_
                          refine Sl.calm (Cm.move rfl) rfl ?_
                          refine Sl.skip rfl rfl rfl rfl ?_
                          refine Sl.skip rfl rfl rfl rfl ?_
                          refine Sl.skip rfl rfl rfl rfl ?_
                          refine Sl.calm (Cm.pick_t rfl rfl) rfl ?_
                          refine Sl.calm (Cm.move rfl) rfl ?_
                          refine Sl.skip rfl rfl rfl rfl ?_
                          refine Sl.skip rfl rfl rfl rfl ?_
                          refine Sl.skip rfl rfl rfl rfl ?_
                          refine Sl.skip rfl rfl rfl rfl ?_
                          refine Sl.skip rfl rfl rfl rfl ?_
                          refine Sl.skip rfl rfl rfl rfl ?_
                          refine Sl.skip rfl rfl rfl rfl ?_
                          refine Sl.skip rfl rfl rfl rfl ?_
                          refine Sl.calm (Cm.pick_t rfl rfl) rfl ?_
                          refine Sl.nil ?_
                          refine At.weak [(0, _), (1, _), (2, _), (51, _), (53, _), (54, _), (83, _)] ⟨rfl, rfl, rfl, rfl, rfl, rfl, rfl, trivial⟩ ?_
                          refine At.go ?_
                          refine Sc.cond_t rfl ?_
                          refine Sc.seq ?_
                          refine Sc.region ?_
                          refine Sl.calm (Cm.assign rfl) rfl ?_
                          refine Sl.nil ?_
                          refine At.go ?_
                          refine Sc.ret ?_
                          refine At.then_ret ?_
                          refine At.block_ret ?_
                          refine At.then_ret ?_
                          refine At.ret1 rfl rfl ?_
                          first
                            | exact ⟨_, rfl, notD (fun h => by have := h.1; unfold mayA at this; omega), hf1⟩
                            | exact ⟨_, rfl, notD (fun h => by have := h.1; unfold mayA at this; omega), hf1.draws 1⟩
                            | exact ⟨_, rfl, yesD ⟨by unfold mayA; omega, fun h3 => by omega⟩, hf1⟩
                            | exact ⟨_, rfl, yesD ⟨by unfold mayA; omega, fun h3 => by omega⟩, hf1.draws 1⟩
                            | exact ⟨_, rfl, notD (fun h => h.2 (by omega) hnul), hf1⟩
                            | exact ⟨_, rfl, yesD ⟨by unfold mayA; omega, fun h3 h0 => by obtain ⟨i, hi, e⟩ := List.getElem_of_mem h0; exact hgood i (by omega) (by simp [List.getD, hi, e])⟩, hf1⟩
                        ·
                          refine Sl.calm (Cm.move rfl) rfl ?_
                          refine Sl.want rfl rfl (Cm.field fld33_7 rfl) rfl ?_
                          refine Sl.want rfl rfl (Cm.ld sca3 rfl (cellF hg1 rfl)) rfl ?_
                          refine Sl.forkWant rfl rfl (Cm.gtr rfl rfl) rfl (fun h62 => ?_) (fun h62 => ?_)
                          ·
                            refine Sl.calm (Cm.pick_f rfl rfl) rfl ?_
                            refine Sl.calm (Cm.move rfl) rfl ?_
                            refine Sl.skip rfl rfl rfl rfl ?_
                            refine Sl.skip rfl rfl rfl rfl ?_
                            refine Sl.skip rfl rfl rfl rfl ?_
                            refine Sl.calm (Cm.pick_t rfl rfl) rfl ?_
                            refine Sl.calm (Cm.move rfl) rfl ?_
                            refine Sl.skip rfl rfl rfl rfl ?_
                            refine Sl.skip rfl rfl rfl rfl ?_
                            refine Sl.skip rfl rfl rfl rfl ?_
                            refine Sl.calm (Cm.pick_t rfl rfl) rfl ?_
                            refine Sl.calm (Cm.move rfl) rfl ?_
                            refine Sl.skip rfl rfl rfl rfl ?_
                            refine Sl.skip rfl rfl rfl rfl ?_
                            refine Sl.skip rfl rfl rfl rfl ?_
                            refine Sl.skip rfl rfl rfl rfl ?_
                            refine Sl.skip rfl rfl rfl rfl ?_
                            refine Sl.skip rfl rfl rfl rfl ?_
                            refine Sl.skip rfl rfl rfl rfl ?_
                            refine Sl.skip rfl rfl rfl rfl ?_
                            refine Sl.calm (Cm.pick_t rfl rfl) rfl ?_
                            refine Sl.nil ?_
                            refine At.weak [(0, _), (1, _), (2, _), (51, _), (53, _), (54, _), (83, _)] ⟨rfl, rfl, rfl, rfl, rfl, rfl, rfl, trivial⟩ ?_
                            refine At.go ?_
                            refine Sc.cond_t rfl ?_
                            refine Sc.seq ?_
                            refine Sc.region ?_
                            refine Sl.calm (Cm.assign rfl) rfl ?_
                            refine Sl.nil ?_
                            refine At.go ?_
                            refine Sc.ret ?_
                            refine At.then_ret ?_
                            refine At.block_ret ?_
                            refine At.then_ret ?_
                            refine At.ret1 rfl rfl ?_
                            first
                              | exact ⟨_, rfl, notD (fun h => by have := h.1; unfold mayA at this; omega), hf1⟩
                              | exact ⟨_, rfl, notD (fun h => by have := h.1; unfold mayA at this; omega), hf1.draws 1⟩
                              | exact ⟨_, rfl, yesD ⟨by unfold mayA; omega, fun h3 => by omega⟩, hf1⟩
                              | exact ⟨_, rfl, yesD ⟨by unfold mayA; omega, fun h3 => by omega⟩, hf1.draws 1⟩
                              | exact ⟨_, rfl, notD (fun h => h.2 (by omega) hnul), hf1⟩
                              | exact ⟨_, rfl, yesD ⟨by unfold mayA; omega, fun h3 h0 => by obtain ⟨i, hi, e⟩ := List.getElem_of_mem h0; exact hgood i (by omega) (by simp [List.getD, hi, e])⟩, hf1⟩
                          ·
                            refine Sl.calm (Cm.pick_f rfl rfl) rfl ?_
                            refine Sl.calm (Cm.move rfl) rfl ?_
                            refine Sl.want rfl rfl (Cm.field fld33_8 rfl) rfl ?_
                            refine Sl.want rfl rfl (Cm.ld sca3 rfl (cellF hg1 rfl)) rfl ?_
                            refine Sl.forkWant rfl rfl (Cm.lss rfl rfl) rfl (fun h67 => ?_) (fun h67 => ?_)
                            ·
                              refine Sl.calm (Cm.pick_f rfl rfl) rfl ?_
                              refine Sl.calm (Cm.move rfl) rfl ?_
                              refine Sl.skip rfl rfl rfl rfl ?_
                              refine Sl.skip rfl rfl rfl rfl ?_
                              refine Sl.skip rfl rfl rfl rfl ?_
                              refine Sl.calm (Cm.pick_t rfl rfl) rfl ?_
                              refine Sl.calm (Cm.move rfl) rfl ?_
                              refine Sl.skip rfl rfl rfl rfl ?_
                              refine Sl.skip rfl rfl rfl rfl ?_
                              refine Sl.skip rfl rfl rfl rfl ?_
                              refine Sl.skip rfl rfl rfl rfl ?_
                              refine Sl.skip rfl rfl rfl rfl ?_
                              refine Sl.skip rfl rfl rfl rfl ?_
                              refine Sl.skip rfl rfl rfl rfl ?_
                              refine Sl.skip rfl rfl rfl rfl ?_
                              refine Sl.calm (Cm.pick_t rfl rfl) rfl ?_
                              refine Sl.nil ?_
                              refine At.weak [(0, _), (1, _), (2, _), (51, _), (53, _), (54, _), (83, _)] ⟨rfl, rfl, rfl, rfl, rfl, rfl, rfl, trivial⟩ ?_
                              refine At.go ?_
                              refine Sc.cond_t rfl ?_
                              refine Sc.seq ?_
                              refine Sc.region ?_
                              refine Sl.calm (Cm.assign rfl) rfl ?_
                              refine Sl.nil ?_
                              refine At.go ?_
                              refine Sc.ret ?_
                              refine At.then_ret ?_
                              refine At.block_ret ?_
                              refine At.then_ret ?_
                              refine At.ret1 rfl rfl ?_
                              first
                                | exact ⟨_, rfl, notD (fun h => by have := h.1; unfold mayA at this; omega), hf1⟩
                                | exact ⟨_, rfl, notD (fun h => by have := h.1; unfold mayA at this; omega), hf1.draws 1⟩
                                | exact ⟨_, rfl, yesD ⟨by unfold mayA; omega, fun h3 => by omega⟩, hf1⟩
                                | exact ⟨_, rfl, yesD ⟨by unfold mayA; omega, fun h3 => by omega⟩, hf1.draws 1⟩
                                | exact ⟨_, rfl, notD (fun h => h.2 (by omega) hnul), hf1⟩
                                | exact ⟨_, rfl, yesD ⟨by unfold mayA; omega, fun h3 h0 => by obtain ⟨i, hi, e⟩ := List.getElem_of_mem h0; exact hgood i (by omega) (by simp [List.getD, hi, e])⟩, hf1⟩
                            ·
                              refine Sl.calm (Cm.pick_f rfl rfl) rfl ?_
                              refine Sl.calm (Cm.move rfl) rfl ?_
                              refine Sl.want rfl rfl (Cm.field fld33_8 rfl) rfl ?_
                              refine Sl.want rfl rfl (Cm.ld sca3 rfl (cellF hg1 rfl)) rfl ?_
                              refine Sl.forkWant rfl rfl (Cm.gtr rfl rfl) rfl (fun h72 => ?_) (fun h72 => ?_)
                              ·
                                refine Sl.calm (Cm.pick_f rfl rfl) rfl ?_
                                refine Sl.calm (Cm.move rfl) rfl ?_
                                refine Sl.skip rfl rfl rfl rfl ?_
                                refine Sl.skip rfl rfl rfl rfl ?_
                                refine Sl.skip rfl rfl rfl rfl ?_
                                refine Sl.skip rfl rfl rfl rfl ?_
                                refine Sl.skip rfl rfl rfl rfl ?_
                                refine Sl.skip rfl rfl rfl rfl ?_
                                refine Sl.skip rfl rfl rfl rfl ?_
                                refine Sl.skip rfl rfl rfl rfl ?_
                                refine Sl.calm (Cm.pick_t rfl rfl) rfl ?_
                                refine Sl.nil ?_
                                refine At.weak [(0, _), (1, _), (2, _), (51, _), (53, _), (54, _), (83, _)] ⟨rfl, rfl, rfl, rfl, rfl, rfl, rfl, trivial⟩ ?_
                                refine At.go ?_
                                refine Sc.cond_t rfl ?_
                                refine Sc.seq ?_
                                refine Sc.region ?_
                                refine Sl.calm (Cm.assign rfl) rfl ?_
                                refine Sl.nil ?_
                                refine At.go ?_
                                refine Sc.ret ?_
                                refine At.then_ret ?_
                                refine At.block_ret ?_
                                refine At.then_ret ?_
                                refine At.ret1 rfl rfl ?_
                                first
                                  | exact ⟨_, rfl, notD (fun h => by have := h.1; unfold mayA at this; omega), hf1⟩
                                  | exact ⟨_, rfl, notD (fun h => by have := h.1; unfold mayA at this; omega), hf1.draws 1⟩
                                  | exact ⟨_, rfl, yesD ⟨by unfold mayA; omega, fun h3 => by omega⟩, hf1⟩
                                  | exact ⟨_, rfl, yesD ⟨by unfold mayA; omega, fun h3 => by omega⟩, hf1.draws 1⟩
                                  | exact ⟨_, rfl, notD (fun h => h.2 (by omega) hnul), hf1⟩
                                  | exact ⟨_, rfl, yesD ⟨by unfold mayA; omega, fun h3 h0 => by obtain ⟨i, hi, e⟩ := List.getElem_of_mem h0; exact hgood i (by omega) (by simp [List.getD, hi, e])⟩, hf1⟩
                              ·
                                refine Sl.calm (Cm.pick_f rfl rfl) rfl ?_
                                refine Sl.calm (Cm.move rfl) rfl ?_
                                refine Sl.want rfl rfl (Cm.field fld33_8 rfl) rfl ?_
                                refine Sl.want rfl rfl (Cm.ld sca3 rfl (cellF hg1 rfl)) rfl ?_
                                refine Sl.forkWant rfl rfl (Cm.gtr rfl rfl) rfl (fun h77 => ?_) (fun h77 => ?_)
                                ·
                                  refine Sl.want rfl rfl (Cm.field fld33_7 rfl) rfl ?_
                                  refine Sl.want rfl rfl (Cm.ld sca3 rfl (cellF hg1 rfl)) rfl ?_
                                  refine Sl.want rfl rfl (Cm.rem64 rfl rfl (by omega) (by decide)) rfl ?_
                                  refine Sl.forkWant rfl rfl (Cm.gtr rfl rfl) rfl (fun h81 => ?_) (fun h81 => ?_)
                                  ·
                                    refine Sl.want rfl rfl (Cm.neqBool ty4 rfl rfl) rfl ?_
                                    refine Sl.calm (Cm.pick_f rfl rfl) rfl ?_
                                    refine Sl.nil ?_
                                    refine At.weak [(0, _), (1, _), (2, _), (51, _), (53, _), (54, _), (83, _)] ⟨rfl, rfl, rfl, rfl, rfl, rfl, rfl, trivial⟩ ?_
                                    refine At.go ?_
                                    refine Sc.cond_f rfl ?_
                                    refine Sc.skip ?_
                                    refine At.go ?_
                                    refine Sc.seq ?_
                                    refine Sc.region ?_
                                    refine Sl.calm (Cm.field fld33_6 rfl) rfl ?_
                                    refine Sl.calm (Cm.ld sca3 rfl (cellF hg1 rfl)) rfl ?_
                                    refine Sl.fork (Cm.geq rfl rfl) rfl (fun h86 => ?_) (fun h86 => ?_)
                                    ·
                                      refine Sl.calm (Cm.move rfl) rfl ?_
                                      refine Sl.want rfl rfl (Cm.field fld33_6 rfl) rfl ?_
                                      refine Sl.want rfl rfl (Cm.ld sca3 rfl (cellF hg1 rfl)) rfl ?_
                                      refine Sl.forkWant rfl rfl (Cm.leq rfl rfl) rfl (fun h90 => ?_) (fun h90 => ?_)
                                      ·
                                        refine Sl.calm (Cm.pick_t rfl rfl) rfl ?_
                                        refine Sl.calm (Cm.move rfl) rfl ?_
                                        refine Sl.want rfl rfl (Cm.field fld33_9 rfl) rfl ?_
                                        refine Sl.want rfl rfl (Cm.ld sca3 rfl (cellF hg1 rfl)) rfl ?_
                                        refine Sl.forkWant rfl rfl (Cm.geq rfl rfl) rfl (fun h95 => ?_) (fun h95 => ?_)
                                        ·
                                          refine Sl.calm (Cm.pick_t rfl rfl) rfl ?_
                                          refine Sl.calm (Cm.move rfl) rfl ?_
                                          refine Sl.want rfl rfl (Cm.field fld33_9 rfl) rfl ?_
                                          refine Sl.want rfl rfl (Cm.ld sca3 rfl (cellF hg1 rfl)) rfl ?_
                                          refine Sl.forkWant rfl rfl (Cm.lss rfl rfl) rfl (fun h100 => ?_) (fun h100 => ?_)
                                          ·
                                            refine Sl.calm (Cm.pick_t rfl rfl) rfl ?_
                                            refine Sl.calm (Cm.move rfl) rfl ?_
                                            refine Sl.want rfl rfl (Cm.field fld33_8 rfl) rfl ?_
                                            refine Sl.want rfl rfl (Cm.ld sca3 rfl (cellF hg1 rfl)) rfl ?_
                                            refine Sl.forkWant rfl rfl (Cm.gtr rfl rfl) rfl (fun h105 => ?_) (fun h105 => ?_)
                                            ·
                                              refine Sl.want rfl rfl (Cm.move rfl) rfl ?_
                                              refine Sl.skip rfl rfl rfl rfl ?_
                                              refine Sl.skip rfl rfl rfl rfl ?_
                                              refine Sl.skip rfl rfl rfl rfl ?_
                                              refine Sl.want rfl rfl (Cm.pick_t rfl rfl) rfl ?_
                                              refine Sl.calm (Cm.pick_t rfl rfl) rfl ?_
                                              refine Sl.calm (Cm.move rfl) rfl ?_
                                              refine Sl.want rfl rfl (Cm.field fld33_10 rfl) rfl ?_
                                              refine Sl.want rfl rfl (Cm.ld sca9 rfl (cellF hg1 rfl)) rfl ?_
                                              refine Sl.forkWant rfl rfl (Cm.eqlBs rfl rfl) rfl (fun h115 => ?_) (fun h115 => ?_)
                                              ·
                                                have hT0 : T.length = 0 := by rw [h115]; rfl
                                                refine Sl.calm (Cm.pick_t rfl rfl) rfl ?_
                                                refine Sl.calm (Cm.assign rfl) rfl ?_
                                                refine Sl.nil ?_
                                                refine At.weak [(0, _), (1, _), (2, _), (51, _), (53, _), (54, _), (83, _)] ⟨rfl, rfl, rfl, rfl, rfl, rfl, rfl, trivial⟩ ?_
                                                refine At.go ?_
                                                refine Sc.ret ?_
                                                refine At.block_ret ?_
                                                refine At.then_ret ?_
                                                refine At.ret1 rfl rfl ?_
                                                first
                                                  | exact ⟨_, rfl, notD (fun h => by have := h.1; unfold mayA at this; omega), hf1⟩
                                                  | exact ⟨_, rfl, notD (fun h => by have := h.1; unfold mayA at this; omega), hf1.draws 1⟩
                                                  | exact ⟨_, rfl, yesD ⟨by unfold mayA; omega, fun h3 => by omega⟩, hf1⟩
                                                  | exact ⟨_, rfl, yesD ⟨by unfold mayA; omega, fun h3 => by omega⟩, hf1.draws 1⟩
                                                  | exact ⟨_, rfl, notD (fun h => h.2 (by omega) hnul), hf1⟩
                                                  | exact ⟨_, rfl, yesD ⟨by unfold mayA; omega, fun h3 h0 => by obtain ⟨i, hi, e⟩ := List.getElem_of_mem h0; exact hgood i (by omega) (by simp [List.getD, hi, e])⟩, hf1⟩
                                              ·
                                                have hT0 : T.length ≠ 0 := fun e => h115 (List.eq_nil_of_length_eq_zero e)
                                                refine Sl.calm (Cm.pick_t rfl rfl) rfl ?_
                                                refine Sl.calm (Cm.assign rfl) rfl ?_
                                                refine Sl.nil ?_
                                                refine At.weak [(0, _), (1, _), (2, _), (51, _), (53, _), (54, _), (83, _)] ⟨rfl, rfl, rfl, rfl, rfl, rfl, rfl, trivial⟩ ?_
                                                refine At.go ?_
                                                refine Sc.ret ?_
                                                refine At.block_ret ?_
                                                refine At.then_ret ?_
                                                refine At.ret1 rfl rfl ?_
                                                first
                                                  | exact ⟨_, rfl, notD (fun h => by have := h.1; unfold mayA at this; omega), hf1⟩
                                                  | exact ⟨_, rfl, notD (fun h => by have := h.1; unfold mayA at this; omega), hf1.draws 1⟩
                                                  | exact ⟨_, rfl, yesD ⟨by unfold mayA; omega, fun h3 => by omega⟩, hf1⟩
                                                  | exact ⟨_, rfl, yesD ⟨by unfold mayA; omega, fun h3 => by omega⟩, hf1.draws 1⟩
                                                  | exact ⟨_, rfl, notD (fun h => h.2 (by omega) hnul), hf1⟩
                                                  | exact ⟨_, rfl, yesD ⟨by unfold mayA; omega, fun h3 h0 => by obtain ⟨i, hi, e⟩ := List.getElem_of_mem h0; exact hgood i (by omega) (by simp [List.getD, hi, e])⟩, hf1⟩
                                            ·
                                              refine Sl.want rfl rfl (Cm.move rfl) rfl ?_
                                              refine Sl.want rfl rfl (Cm.field fld33_9 rfl) rfl ?_
                                              refine Sl.want rfl rfl (Cm.ld sca3 rfl (cellF hg1 rfl)) rfl ?_
                                              refine Sl.forkWant rfl rfl (Cm.eql rfl rfl) rfl (fun h109 => ?_) (fun h109 => ?_)
                                              ·
                                                refine Sl.want rfl rfl (Cm.pick_f rfl rfl) rfl ?_
                                                refine Sl.calm (Cm.pick_t rfl rfl) rfl ?_
                                                refine Sl.calm (Cm.move rfl) rfl ?_
                                                refine Sl.want rfl rfl (Cm.field fld33_10 rfl) rfl ?_
                                                refine Sl.want rfl rfl (Cm.ld sca9 rfl (cellF hg1 rfl)) rfl ?_
                                                refine Sl.forkWant rfl rfl (Cm.eqlBs rfl rfl) rfl (fun h115 => ?_) (fun h115 => ?_)
                                                ·
                                                  have hT0 : T.length = 0 := by rw [h115]; rfl
                                                  refine Sl.calm (Cm.pick_t rfl rfl) rfl ?_
                                                  refine Sl.calm (Cm.assign rfl) rfl ?_
                                                  refine Sl.nil ?_
                                                  refine At.weak [(0, _), (1, _), (2, _), (51, _), (53, _), (54, _), (83, _)] ⟨rfl, rfl, rfl, rfl, rfl, rfl, rfl, trivial⟩ ?_
                                                  refine At.go ?_
                                                  refine Sc.ret ?_
                                                  refine At.block_ret ?_
                                                  refine At.then_ret ?_
                                                  refine At.ret1 rfl rfl ?_
                                                  first
                                                    | exact ⟨_, rfl, notD (fun h => by have := h.1; unfold mayA at this; omega), hf1⟩
                                                    | exact ⟨_, rfl, notD (fun h => by have := h.1; unfold mayA at this; omega), hf1.draws 1⟩
                                                    | exact ⟨_, rfl, yesD ⟨by unfold mayA; omega, fun h3 => by omega⟩, hf1⟩
                                                    | exact ⟨_, rfl, yesD ⟨by unfold mayA; omega, fun h3 => by omega⟩, hf1.draws 1⟩
                                                    | exact ⟨_, rfl, notD (fun h => h.2 (by omega) hnul), hf1⟩
                                                    | exact ⟨_, rfl, yesD ⟨by unfold mayA; omega, fun h3 h0 => by obtain ⟨i, hi, e⟩ := List.getElem_of_mem h0; exact hgood i (by omega) (by simp [List.getD, hi, e])⟩, hf1⟩
                                                ·
                                                  have hT0 : T.length ≠ 0 := fun e => h115 (List.eq_nil_of_length_eq_zero e)
                                                  refine Sl.calm (Cm.pick_t rfl rfl) rfl ?_
                                                  refine Sl.calm (Cm.assign rfl) rfl ?_
                                                  refine Sl.nil ?_
                                                  refine At.weak [(0, _), (1, _), (2, _), (51, _), (53, _), (54, _), (83, _)] ⟨rfl, rfl, rfl, rfl, rfl, rfl, rfl, trivial⟩ ?_
                                                  refine At.go ?_
                                                  refine Sc.ret ?_
                                                  refine At.block_ret ?_
                                                  refine At.then_ret ?_
                                                  refine At.ret1 rfl rfl ?_
                                                  first
                                                    | exact ⟨_, rfl, notD (fun h => by have := h.1; unfold mayA at this; omega), hf1⟩
                                                    | exact ⟨_, rfl, notD (fun h => by have := h.1; unfold mayA at this; omega), hf1.draws 1⟩
                                                    | exact ⟨_, rfl, yesD ⟨by unfold mayA; omega, fun h3 => by omega⟩, hf1⟩
                                                    | exact ⟨_, rfl, yesD ⟨by unfold mayA; omega, fun h3 => by omega⟩, hf1.draws 1⟩
                                                    | exact ⟨_, rfl, notD (fun h => h.2 (by omega) hnul), hf1⟩
                                                    | exact ⟨_, rfl, yesD ⟨by unfold mayA; omega, fun h3 h0 => by obtain ⟨i, hi, e⟩ := List.getElem_of_mem h0; exact hgood i (by omega) (by simp [List.getD, hi, e])⟩, hf1⟩
                                              ·
                                                refine Sl.want rfl rfl (Cm.pick_f rfl rfl) rfl ?_
                                                refine Sl.calm (Cm.pick_t rfl rfl) rfl ?_
                                                refine Sl.calm (Cm.move rfl) rfl ?_
                                                refine Sl.skip rfl rfl rfl rfl ?_
                                                refine Sl.skip rfl rfl rfl rfl ?_
                                                refine Sl.skip rfl rfl rfl rfl ?_
                                                refine Sl.calm (Cm.pick_f rfl rfl) rfl ?_
                                                refine Sl.calm (Cm.assign rfl) rfl ?_
                                                refine Sl.nil ?_
                                                refine At.weak [(0, _), (1, _), (2, _), (51, _), (53, _), (54, _), (83, _)] ⟨rfl, rfl, rfl, rfl, rfl, rfl, rfl, trivial⟩ ?_
                                                refine At.go ?_
                                                refine Sc.ret ?_
                                                refine At.block_ret ?_
                                                refine At.then_ret ?_
                                                refine At.ret1 rfl rfl ?_
                                                first
                                                  | exact ⟨_, rfl, notD (fun h => by have := h.1; unfold mayA at this; omega), hf1⟩
                                                  | exact ⟨_, rfl, notD (fun h => by have := h.1; unfold mayA at this; omega), hf1.draws 1⟩
                                                  | exact ⟨_, rfl, yesD ⟨by unfold mayA; omega, fun h3 => by omega⟩, hf1⟩
                                                  | exact ⟨_, rfl, yesD ⟨by unfold mayA; omega, fun h3 => by omega⟩, hf1.draws 1⟩
                                                  | exact ⟨_, rfl, notD (fun h => h.2 (by omega) hnul), hf1⟩
                                                  | exact ⟨_, rfl, yesD ⟨by unfold mayA; omega, fun h3 h0 => by obtain ⟨i, hi, e⟩ := List.getElem_of_mem h0; exact hgood i (by omega) (by simp [List.getD, hi, e])⟩, hf1⟩
                                          ·
                                            refine Sl.calm (Cm.pick_t rfl rfl) rfl ?_
                                            refine Sl.calm (Cm.move rfl) rfl ?_
                                            refine Sl.skip rfl rfl rfl rfl ?_
                                            refine Sl.skip rfl rfl rfl rfl ?_
                                            refine Sl.skip rfl rfl rfl rfl ?_
                                            refine Sl.skip rfl rfl rfl rfl ?_
                                            refine Sl.skip rfl rfl rfl rfl ?_
                                            refine Sl.skip rfl rfl rfl rfl ?_
                                            refine Sl.skip rfl rfl rfl rfl ?_
                                            refine Sl.skip rfl rfl rfl rfl ?_
                                            refine Sl.calm (Cm.pick_f rfl rfl) rfl ?_
                                            refine Sl.calm (Cm.move rfl) rfl ?_
                                            refine Sl.skip rfl rfl rfl rfl ?_
                                            refine Sl.skip rfl rfl rfl rfl ?_
                                            refine Sl.skip rfl rfl rfl rfl ?_
                                            refine Sl.calm (Cm.pick_f rfl rfl) rfl ?_
                                            refine Sl.calm (Cm.assign rfl) rfl ?_
                                            refine Sl.nil ?_
                                            refine At.weak [(0, _), (1, _), (2, _), (51, _), (53, _), (54, _), (83, _)] ⟨rfl, rfl, rfl, rfl, rfl, rfl, rfl, trivial⟩ ?_
                                            refine At.go ?_
                                            refine Sc.ret ?_
                                            refine At.block_ret ?_
                                            refine At.then_ret ?_
                                            refine At.ret1 rfl rfl ?_
                                            first
                                              | exact ⟨_, rfl, notD (fun h => by have := h.1; unfold mayA at this; omega), hf1⟩
                                              | exact ⟨_, rfl, notD (fun h => by have := h.1; unfold mayA at this; omega), hf1.draws 1⟩
                                              | exact ⟨_, rfl, yesD ⟨by unfold mayA; omega, fun h3 => by omega⟩, hf1⟩
                                              | exact ⟨_, rfl, yesD ⟨by unfold mayA; omega, fun h3 => by omega⟩, hf1.draws 1⟩
                                              | exact ⟨_, rfl, notD (fun h => h.2 (by omega) hnul), hf1⟩
                                              | exact ⟨_, rfl, yesD ⟨by unfold mayA; omega, fun h3 h0 => by obtain ⟨i, hi, e⟩ := List.getElem_of_mem h0; exact hgood i (by omega) (by simp [List.getD, hi, e])⟩, hf1⟩
                                        ·
                                          refine Sl.calm (Cm.pick_t rfl rfl) rfl ?_
                                          refine Sl.calm (Cm.move rfl) rfl ?_
                                          refine Sl.skip rfl rfl rfl rfl ?_
                                          refine Sl.skip rfl rfl rfl rfl ?_
                                          refine Sl.skip rfl rfl rfl rfl ?_
                                          refine Sl.calm (Cm.pick_f rfl rfl) rfl ?_
                                          refine Sl.calm (Cm.move rfl) rfl ?_
                                          refine Sl.skip rfl rfl rfl rfl ?_
                                          refine Sl.skip rfl rfl rfl rfl ?_
                                          refine Sl.skip rfl rfl rfl rfl ?_
                                          refine Sl.skip rfl rfl rfl rfl ?_
                                          refine Sl.skip rfl rfl rfl rfl ?_
                                          refine Sl.skip rfl rfl rfl rfl ?_
                                          refine Sl.skip rfl rfl rfl rfl ?_
                                          refine Sl.skip rfl rfl rfl rfl ?_
                                          refine Sl.calm (Cm.pick_f rfl rfl) rfl ?_
                                          refine Sl.calm (Cm.move rfl) rfl ?_
                                          refine Sl.skip rfl rfl rfl rfl ?_
                                          refine Sl.skip rfl rfl rfl rfl ?_
                                          refine Sl.skip rfl rfl rfl rfl ?_
                                          refine Sl.calm (Cm.pick_f rfl rfl) rfl ?_
                                          refine Sl.calm (Cm.assign rfl) rfl ?_
                                          refine Sl.nil ?_
                                          refine At.weak [(0, _), (1, _), (2, _), (51, _), (53, _), (54, _), (83, _)] ⟨rfl, rfl, rfl, rfl, rfl, rfl, rfl, trivial⟩ ?_
                                          refine At.go ?_
                                          refine Sc.ret ?_
                                          refine At.block_ret ?_
                                          refine At.then_ret ?_
                                          refine At.ret1 rfl rfl ?_
                                          first
                                            | exact ⟨_, rfl, notD (fun h => by have := h.1; unfold mayA at this; omega), hf1⟩
                                            | exact ⟨_, rfl, notD (fun h => by have := h.1; unfold mayA at this; omega), hf1.draws 1⟩
                                            | exact ⟨_, rfl, yesD ⟨by unfold mayA; omega, fun h3 => by omega⟩, hf1⟩
                                            | exact ⟨_, rfl, yesD ⟨by unfold mayA; omega, fun h3 => by omega⟩, hf1.draws 1⟩
                                            | exact ⟨_, rfl, notD (fun h => h.2 (by omega) hnul), hf1⟩
                                            | exact ⟨_, rfl, yesD ⟨by unfold mayA; omega, fun h3 h0 => by obtain ⟨i, hi, e⟩ := List.getElem_of_mem h0; exact hgood i (by omega) (by simp [List.getD, hi, e])⟩, hf1⟩
                                      ·
                                        refine Sl.calm (Cm.pick_t rfl rfl) rfl ?_
                                        refine Sl.calm (Cm.move rfl) rfl ?_
                                        refine Sl.skip rfl rfl rfl rfl ?_
                                        refine Sl.skip rfl rfl rfl rfl ?_
                                        refine Sl.skip rfl rfl rfl rfl ?_
                                        refine Sl.calm (Cm.pick_f rfl rfl) rfl ?_
                                        refine Sl.calm (Cm.move rfl) rfl ?_
                                        refine Sl.skip rfl rfl rfl rfl ?_
                                        refine Sl.skip rfl rfl rfl rfl ?_
                                        refine Sl.skip rfl rfl rfl rfl ?_
                                        refine Sl.calm (Cm.pick_f rfl rfl) rfl ?_
                                        refine Sl.calm (Cm.move rfl) rfl ?_
                                        refine Sl.skip rfl rfl rfl rfl ?_
                                        refine Sl.skip rfl rfl rfl rfl ?_
                                        refine Sl.skip rfl rfl rfl rfl ?_
                                        refine Sl.skip rfl rfl rfl rfl ?_
                                        refine Sl.skip rfl rfl rfl rfl ?_
                                        refine Sl.skip rfl rfl rfl rfl ?_
                                        refine Sl.skip rfl rfl rfl rfl ?_
                                        refine Sl.skip rfl rfl rfl rfl ?_
                                        refine Sl.calm (Cm.pick_f rfl rfl) rfl ?_
                                        refine Sl.calm (Cm.move rfl) rfl ?_
                                        refine Sl.skip rfl rfl rfl rfl ?_
                                        refine Sl.skip rfl rfl rfl rfl ?_
                                        refine Sl.skip rfl rfl rfl rfl ?_
                                        refine Sl.calm (Cm.pick_f rfl rfl) rfl ?_
                                        refine Sl.calm (Cm.assign rfl) rfl ?_
                                        refine Sl.nil ?_
                                        refine At.weak [(0, _), (1, _), (2, _), (51, _), (53, _), (54, _), (83, _)] ⟨rfl, rfl, rfl, rfl, rfl, rfl, rfl, trivial⟩ ?_
                                        refine At.go ?_
                                        refine Sc.ret ?_
                                        refine At.block_ret ?_
                                        refine At.then_ret ?_
                                        refine At.ret1 rfl rfl ?_
                                        first
                                          | exact ⟨_, rfl, notD (fun h => by have := h.1; unfold mayA at this; omega), hf1⟩
                                          | exact ⟨_, rfl, notD (fun h => by have := h.1; unfold mayA at this; omega), hf1.draws 1⟩
                                          | exact ⟨_, rfl, yesD ⟨by unfold mayA; omega, fun h3 => by omega⟩, hf1⟩
                                          | exact ⟨_, rfl, yesD ⟨by unfold mayA; omega, fun h3 => by omega⟩, hf1.draws 1⟩
                                          | exact ⟨_, rfl, notD (fun h => h.2 (by omega) hnul), hf1⟩
                                          | exact ⟨_, rfl, yesD ⟨by unfold mayA; omega, fun h3 h0 => by obtain ⟨i, hi, e⟩ := List.getElem_of_mem h0; exact hgood i (by omega) (by simp [List.getD, hi, e])⟩, hf1⟩
                                    ·
                                      refine Sl.calm (Cm.move rfl) rfl ?_
                                      refine Sl.skip rfl rfl rfl rfl ?_
                                      refine Sl.skip rfl rfl rfl rfl ?_
                                      refine Sl.skip rfl rfl rfl rfl ?_
                                      refine Sl.calm (Cm.pick_f rfl rfl) rfl ?_
                                      refine Sl.calm (Cm.move rfl) rfl ?_
                                      refine Sl.skip rfl rfl rfl rfl ?_
                                      refine Sl.skip rfl rfl rfl rfl ?_
                                      refine Sl.skip rfl rfl rfl rfl ?_
                                      refine Sl.calm (Cm.pick_f rfl rfl) rfl ?_
                                      refine Sl.calm (Cm.move rfl) rfl ?_
                                      refine Sl.skip rfl rfl rfl rfl ?_
                                      refine Sl.skip rfl rfl rfl rfl ?_
                                      refine Sl.skip rfl rfl rfl rfl ?_
                                      refine Sl.calm (Cm.pick_f rfl rfl) rfl ?_
                                      refine Sl.calm (Cm.move rfl) rfl ?_
                                      refine Sl.skip rfl rfl rfl rfl ?_
                                      refine Sl.skip rfl rfl rfl rfl ?_
                                      refine Sl.skip rfl rfl rfl rfl ?_
                                      refine Sl.skip rfl rfl rfl rfl ?_
                                      refine Sl.skip rfl rfl rfl rfl ?_
                                      refine Sl.skip rfl rfl rfl rfl ?_
                                      refine Sl.skip rfl rfl rfl rfl ?_
                                      refine Sl.skip rfl rfl rfl rfl ?_
                                      refine Sl.calm (Cm.pick_f rfl rfl) rfl ?_
                                      refine Sl.calm (Cm.move rfl) rfl ?_
                                      refine Sl.skip rfl rfl rfl rfl ?_
                                      refine Sl.skip rfl rfl rfl rfl ?_
                                      refine Sl.skip rfl rfl rfl rfl ?_
                                      refine Sl.calm (Cm.pick_f rfl rfl) rfl ?_
                                      refine Sl.calm (Cm.assign rfl) rfl ?_
                                      refine Sl.nil ?_
                                      refine At.weak [(0, _), (1, _), (2, _), (51, _), (53, _), (54, _), (83, _)] ⟨rfl, rfl, rfl, rfl, rfl, rfl, rfl, trivial⟩ ?_
                                      refine At.go ?_
                                      refine Sc.ret ?_
                                      refine At.block_ret ?_
                                      refine At.then_ret ?_
                                      refine At.ret1 rfl rfl ?_
                                      first
                                        | exact ⟨_, rfl, notD (fun h => by have := h.1; unfold mayA at this; omega), hf1⟩
                                        | exact ⟨_, rfl, notD (fun h => by have := h.1; unfold mayA at this; omega), hf1.draws 1⟩
                                        | exact ⟨_, rfl, yesD ⟨by unfold mayA; omega, fun h3 => by omega⟩, hf1⟩
                                        | exact ⟨_, rfl, yesD ⟨by unfold mayA; omega, fun h3 => by omega⟩, hf1.draws 1⟩
                                        | exact ⟨_, rfl, notD (fun h => h.2 (by omega) hnul), hf1⟩
                                        | exact ⟨_, rfl, yesD ⟨by unfold mayA; omega, fun h3 h0 => by obtain ⟨i, hi, e⟩ := List.getElem_of_mem h0; exact hgood i (by omega) (by simp [List.getD, hi, e])⟩, hf1⟩
                                  ·
                                    refine Sl.want rfl rfl (Cm.neqBool ty4 rfl rfl) rfl ?_
                                    refine Sl.calm (Cm.pick_f rfl rfl) rfl ?_
                                    refine Sl.nil ?_
                                    refine At.weak [(0, _), (1, _), (2, _), (51, _), (53, _), (54, _), (83, _)] ⟨rfl, rfl, rfl, rfl, rfl, rfl, rfl, trivial⟩ ?_
                                    refine At.go ?_
                                    refine Sc.cond_t rfl ?_
                                    refine Sc.seq ?_
                                    refine Sc.region ?_
                                    refine Sl.calm (Cm.assign rfl) rfl ?_
                                    refine Sl.nil ?_
                                    refine At.go ?_
                                    refine Sc.ret ?_
                                    refine At.then_ret ?_
                                    refine At.block_ret ?_
                                    refine At.then_ret ?_
                                    refine At.ret1 rfl rfl ?_
                                    first
                                      | exact ⟨_, rfl, notD (fun h => by have := h.1; unfold mayA at this; omega), hf1⟩
                                      | exact ⟨_, rfl, notD (fun h => by have := h.1; unfold mayA at this; omega), hf1.draws 1⟩
                                      | exact ⟨_, rfl, yesD ⟨by unfold mayA; omega, fun h3 => by omega⟩, hf1⟩
                                      | exact ⟨_, rfl, yesD ⟨by unfold mayA; omega, fun h3 => by omega⟩, hf1.draws 1⟩
                                      | exact ⟨_, rfl, notD (fun h => h.2 (by omega) hnul), hf1⟩
                                      | exact ⟨_, rfl, yesD ⟨by unfold mayA; omega, fun h3 h0 => by obtain ⟨i, hi, e⟩ := List.getElem_of_mem h0; exact hgood i (by omega) (by simp [List.getD, hi, e])⟩, hf1⟩
                                ·
                                  refine Sl.want rfl rfl (Cm.field fld33_7 rfl) rfl ?_
                                  refine Sl.want rfl rfl (Cm.ld sca3 rfl (cellF hg1 rfl)) rfl ?_
                                  refine Sl.want rfl rfl (Cm.rem64 rfl rfl (by omega) (by decide)) rfl ?_
                                  refine Sl.forkWant rfl rfl (Cm.gtr rfl rfl) rfl (fun h81 => ?_) (fun h81 => ?_)
                                  ·
                                    refine Sl.want rfl rfl (Cm.neqBool ty4 rfl rfl) rfl ?_
                                    refine Sl.calm (Cm.pick_f rfl rfl) rfl ?_
                                    refine Sl.nil ?_
                                    refine At.weak [(0, _), (1, _), (2, _), (51, _), (53, _), (54, _), (83, _)] ⟨rfl, rfl, rfl, rfl, rfl, rfl, rfl, trivial⟩ ?_
                                    refine At.go ?_
                                    refine Sc.cond_t rfl ?_
                                    refine Sc.seq ?_
                                    refine Sc.region ?_
                                    refine Sl.calm (Cm.assign rfl) rfl ?_
                                    refine Sl.nil ?_
                                    refine At.go ?_
                                    refine Sc.ret ?_
                                    refine At.then_ret ?_
                                    refine At.block_ret ?_
                                    refine At.then_ret ?_
                                    refine At.ret1 rfl rfl ?_
                                    first
                                      | exact ⟨_, rfl, notD (fun h => by have := h.1; unfold mayA at this; omega), hf1⟩
                                      | exact ⟨_, rfl, notD (fun h => by have := h.1; unfold mayA at this; omega), hf1.draws 1⟩
                                      | exact ⟨_, rfl, yesD ⟨by unfold mayA; omega, fun h3 => by omega⟩, hf1⟩
                                      | exact ⟨_, rfl, yesD ⟨by unfold mayA; omega, fun h3 => by omega⟩, hf1.draws 1⟩
                                      | exact ⟨_, rfl, notD (fun h => h.2 (by omega) hnul), hf1⟩
                                      | exact ⟨_, rfl, yesD ⟨by unfold mayA; omega, fun h3 h0 => by obtain ⟨i, hi, e⟩ := List.getElem_of_mem h0; exact hgood i (by omega) (by simp [List.getD, hi, e])⟩, hf1⟩
                                  ·
                                    refine Sl.want rfl rfl (Cm.neqBool ty4 rfl rfl) rfl ?_
                                    refine Sl.calm (Cm.pick_f rfl rfl) rfl ?_
                                    refine Sl.nil ?_
                                    refine At.weak [(0, _), (1, _), (2, _), (51, _), (53, _), (54, _), (83, _)] ⟨rfl, rfl, rfl, rfl, rfl, rfl, rfl, trivial⟩ ?_
                                    refine At.go ?_
                                    refine Sc.cond_f rfl ?_
                                    refine Sc.skip ?_
                                    refine At.go ?_
                                    refine Sc.seq ?_
                                    refine Sc.region ?_
                                    refine Sl.calm (Cm.field fld33_6 rfl) rfl ?_
                                    refine Sl.calm (Cm.ld sca3 rfl (cellF hg1 rfl)) rfl ?_
                                    refine Sl.fork (Cm.geq rfl rfl) rfl (fun h86 => ?_) (fun h86 => ?_)
                                    ·
                                      refine Sl.calm (Cm.move rfl) rfl ?_
                                      refine Sl.want rfl rfl (Cm.field fld33_6 rfl) rfl ?_
                                      refine Sl.want rfl rfl (Cm.ld sca3 rfl (cellF hg1 rfl)) rfl ?_
                                      refine Sl.forkWant rfl rfl (Cm.leq rfl rfl) rfl (fun h90 => ?_) (fun h90 => ?_)
                                      ·
                                        refine Sl.calm (Cm.pick_t rfl rfl) rfl ?_
                                        refine Sl.calm (Cm.move rfl) rfl ?_
                                        refine Sl.want rfl rfl (Cm.field fld33_9 rfl) rfl ?_
                                        refine Sl.want rfl rfl (Cm.ld sca3 rfl (cellF hg1 rfl)) rfl ?_
                                        refine Sl.forkWant rfl rfl (Cm.geq rfl rfl) rfl (fun h95 => ?_) (fun h95 => ?_)
                                        ·
                                          refine Sl.calm (Cm.pick_t rfl rfl) rfl ?_
                                          refine Sl.calm (Cm.move rfl) rfl ?_
                                          refine Sl.want rfl rfl (Cm.field fld33_9 rfl) rfl ?_
                                          refine Sl.want rfl rfl (Cm.ld sca3 rfl (cellF hg1 rfl)) rfl ?_
                                          refine Sl.forkWant rfl rfl (Cm.lss rfl rfl) rfl (fun h100 => ?_) (fun h100 => ?_)
                                          ·
                                            refine Sl.calm (Cm.pick_t rfl rfl) rfl ?_
                                            refine Sl.calm (Cm.move rfl) rfl ?_
                                            refine Sl.want rfl rfl (Cm.field fld33_8 rfl) rfl ?_
                                            refine Sl.want rfl rfl (Cm.ld sca3 rfl (cellF hg1 rfl)) rfl ?_
                                            refine Sl.forkWant rfl rfl (Cm.gtr rfl rfl) rfl (fun h105 => ?_) (fun h105 => ?_)
                                            ·
                                              refine Sl.want rfl rfl (Cm.move rfl) rfl ?_
                                              refine Sl.skip rfl rfl rfl rfl ?_
                                              refine Sl.skip rfl rfl rfl rfl ?_
                                              refine Sl.skip rfl rfl rfl rfl ?_
                                              refine Sl.want rfl rfl (Cm.pick_t rfl rfl) rfl ?_
                                              refine Sl.calm (Cm.pick_t rfl rfl) rfl ?_
                                              refine Sl.calm (Cm.move rfl) rfl ?_
                                              refine Sl.want rfl rfl (Cm.field fld33_10 rfl) rfl ?_
                                              refine Sl.want rfl rfl (Cm.ld sca9 rfl (cellF hg1 rfl)) rfl ?_
                                              refine Sl.forkWant rfl rfl (Cm.eqlBs rfl rfl) rfl (fun h115 => ?_) (fun h115 => ?_)
                                              ·
                                                have hT0 : T.length = 0 := by rw [h115]; rfl
                                                refine Sl.calm (Cm.pick_t rfl rfl) rfl ?_
                                                refine Sl.calm (Cm.assign rfl) rfl ?_
                                                refine Sl.nil ?_
                                                refine At.weak [(0, _), (1, _), (2, _), (51, _), (53, _), (54, _), (83, _)] ⟨rfl, rfl, rfl, rfl, rfl, rfl, rfl, trivial⟩ ?_
                                                refine At.go ?_
                                                refine Sc.ret ?_
                                                refine At.block_ret ?_
                                                refine At.then_ret ?_
                                                refine At.ret1 rfl rfl ?_
                                                first
                                                  | exact ⟨_, rfl, notD (fun h => by have := h.1; unfold mayA at this; omega), hf1⟩
                                                  | exact ⟨_, rfl, notD (fun h => by have := h.1; unfold mayA at this; omega), hf1.draws 1⟩
                                                  | exact ⟨_, rfl, yesD ⟨by unfold mayA; omega, fun h3 => by omega⟩, hf1⟩
                                                  | exact ⟨_, rfl, yesD ⟨by unfold mayA; omega, fun h3 => by omega⟩, hf1.draws 1⟩
                                                  | exact ⟨_, rfl, notD (fun h => h.2 (by omega) hnul), hf1⟩
                                                  | exact ⟨_, rfl, yesD ⟨by unfold mayA; omega, fun h3 h0 => by obtain ⟨i, hi, e⟩ := List.getElem_of_mem h0; exact hgood i (by omega) (by simp [List.getD, hi, e])⟩, hf1⟩
                                              ·
                                                have hT0 : T.length ≠ 0 := fun e => h115 (List.eq_nil_of_length_eq_zero e)
                                                refine Sl.calm (Cm.pick_t rfl rfl) rfl ?_
                                                refine Sl.calm (Cm.assign rfl) rfl ?_
                                                refine Sl.nil ?_
                                                refine At.weak [(0, _), (1, _), (2, _), (51, _), (53, _), (54, _), (83, _)] ⟨rfl, rfl, rfl, rfl, rfl, rfl, rfl, trivial⟩ ?_
                                                refine At.go ?_
                                                refine Sc.ret ?_
                                                refine At.block_ret ?_
                                                refine At.then_ret ?_
                                                refine At.ret1 rfl rfl ?_
                                                first
                                                  | exact ⟨_, rfl, notD (fun h => by have := h.1; unfold mayA at this; omega), hf1⟩
                                                  | exact ⟨_, rfl, notD (fun h => by have := h.1; unfold mayA at this; omega), hf1.draws 1⟩
                                                  | exact ⟨_, rfl, yesD ⟨by unfold mayA; omega, fun h3 => by omega⟩, hf1⟩
                                                  | exact ⟨_, rfl, yesD ⟨by unfold mayA; omega, fun h3 => by omega⟩, hf1.draws 1⟩
                                                  | exact ⟨_, rfl, notD (fun h => h.2 (by omega) hnul), hf1⟩
                                                  | exact ⟨_, rfl, yesD ⟨by unfold mayA; omega, fun h3 h0 => by obtain ⟨i, hi, e⟩ := List.getElem_of_mem h0; exact hgood i (by omega) (by simp [List.getD, hi, e])⟩, hf1⟩
                                            ·
                                              refine Sl.want rfl rfl (Cm.move rfl) rfl ?_
                                              refine Sl.want rfl rfl (Cm.field fld33_9 rfl) rfl ?_
                                              refine Sl.want rfl rfl (Cm.ld sca3 rfl (cellF hg1 rfl)) rfl ?_
                                              refine Sl.forkWant rfl rfl (Cm.eql rfl rfl) rfl (fun h109 => ?_) (fun h109 => ?_)
                                              ·
                                                refine Sl.want rfl rfl (Cm.pick_f rfl rfl) rfl ?_
                                                refine Sl.calm (Cm.pick_t rfl rfl) rfl ?_
                                                refine Sl.calm (Cm.move rfl) rfl ?_
                                                refine Sl.want rfl rfl (Cm.field fld33_10 rfl) rfl ?_
                                                refine Sl.want rfl rfl (Cm.ld sca9 rfl (cellF hg1 rfl)) rfl ?_
                                                refine Sl.forkWant rfl rfl (Cm.eqlBs rfl rfl) rfl (fun h115 => ?_) (fun h115 => ?_)
                                                ·
                                                  have hT0 : T.length = 0 := by rw [h115]; rfl
                                                  refine Sl.calm (Cm.pick_t rfl rfl) rfl ?_
                                                  refine Sl.calm (Cm.assign rfl) rfl ?_
                                                  refine Sl.nil ?_
                                                  refine At.weak [(0, _), (1, _), (2, _), (51, _), (53, _), (54, _), (83, _)] ⟨rfl, rfl, rfl, rfl, rfl, rfl, rfl, trivial⟩ ?_
                                                  refine At.go ?_
                                                  refine Sc.ret ?_
                                                  refine At.block_ret ?_
                                                  refine At.then_ret ?_
                                                  refine At.ret1 rfl rfl ?_
                                                  first
                                                    | exact ⟨_, rfl, notD (fun h => by have := h.1; unfold mayA at this; omega), hf1⟩
                                                    | exact ⟨_, rfl, notD (fun h => by have := h.1; unfold mayA at this; omega), hf1.draws 1⟩
                                                    | exact ⟨_, rfl, yesD ⟨by unfold mayA; omega, fun h3 => by omega⟩, hf1⟩
                                                    | exact ⟨_, rfl, yesD ⟨by unfold mayA; omega, fun h3 => by omega⟩, hf1.draws 1⟩
                                                    | exact ⟨_, rfl, notD (fun h => h.2 (by omega) hnul), hf1⟩
                                                    | exact ⟨_, rfl, yesD ⟨by unfold mayA; omega, fun h3 h0 => by obtain ⟨i, hi, e⟩ := List.getElem_of_mem h0; exact hgood i (by omega) (by simp [List.getD, hi, e])⟩, hf1⟩
                                                ·
                                                  have hT0 : T.length ≠ 0 := fun e => h115 (List.eq_nil_of_length_eq_zero e)
                                                  refine Sl.calm (Cm.pick_t rfl rfl) rfl ?_
                                                  refine Sl.calm (Cm.assign rfl) rfl ?_
                                                  refine Sl.nil ?_
                                                  refine At.weak [(0, _), (1, _), (2, _), (51, _), (53, _), (54, _), (83, _)] ⟨rfl, rfl, rfl, rfl, rfl, rfl, rfl, trivial⟩ ?_
                                                  refine At.go ?_
                                                  refine Sc.ret ?_
                                                  refine At.block_ret ?_
                                                  refine At.then_ret ?_
                                                  refine At.ret1 rfl rfl ?_
                                                  first
                                                    | exact ⟨_, rfl, notD (fun h => by have := h.1; unfold mayA at this; omega), hf1⟩
                                                    | exact ⟨_, rfl, notD (fun h => by have := h.1; unfold mayA at this; omega), hf1.draws 1⟩
                                                    | exact ⟨_, rfl, yesD ⟨by unfold mayA; omega, fun h3 => by omega⟩, hf1⟩
                                                    | exact ⟨_, rfl, yesD ⟨by unfold mayA; omega, fun h3 => by omega⟩, hf1.draws 1⟩
                                                    | exact ⟨_, rfl, notD (fun h => h.2 (by omega) hnul), hf1⟩
                                                    | exact ⟨_, rfl, yesD ⟨by unfold mayA; omega, fun h3 h0 => by obtain ⟨i, hi, e⟩ := List.getElem_of_mem h0; exact hgood i (by omega) (by simp [List.getD, hi, e])⟩, hf1⟩
                                              ·
                                                refine Sl.want rfl rfl (Cm.pick_f rfl rfl) rfl ?_
                                                refine Sl.calm (Cm.pick_t rfl rfl) rfl ?_
                                                refine Sl.calm (Cm.move rfl) rfl ?_
                                                refine Sl.skip rfl rfl rfl rfl ?_
                                                refine Sl.skip rfl rfl rfl rfl ?_
                                                refine Sl.skip rfl rfl rfl rfl ?_
                                                refine Sl.calm (Cm.pick_f rfl rfl) rfl ?_
                                                refine Sl.calm (Cm.assign rfl) rfl ?_
                                                refine Sl.nil ?_
                                                refine At.weak [(0, _), (1, _), (2, _), (51, _), (53, _), (54, _), (83, _)] ⟨rfl, rfl, rfl, rfl, rfl, rfl, rfl, trivial⟩ ?_
                                                refine At.go ?_
                                                refine Sc.ret ?_
                                                refine At.block_ret ?_
                                                refine At.then_ret ?_
                                                refine At.ret1 rfl rfl ?_
                                                first
                                                  | exact ⟨_, rfl, notD (fun h => by have := h.1; unfold mayA at this; omega), hf1⟩
                                                  | exact ⟨_, rfl, notD (fun h => by have := h.1; unfold mayA at this; omega), hf1.draws 1⟩
                                                  | exact ⟨_, rfl, yesD ⟨by unfold mayA; omega, fun h3 => by omega⟩, hf1⟩
                                                  | exact ⟨_, rfl, yesD ⟨by unfold mayA; omega, fun h3 => by omega⟩, hf1.draws 1⟩
                                                  | exact ⟨_, rfl, notD (fun h => h.2 (by omega) hnul), hf1⟩
                                                  | exact ⟨_, rfl, yesD ⟨by unfold mayA; omega, fun h3 h0 => by obtain ⟨i, hi, e⟩ := List.getElem_of_mem h0; exact hgood i (by omega) (by simp [List.getD, hi, e])⟩, hf1⟩
                                          ·
                                            refine Sl.calm (Cm.pick_t rfl rfl) rfl ?_
                                            refine Sl.calm (Cm.move rfl) rfl ?_
                                            refine Sl.skip rfl rfl rfl rfl ?_
                                            refine Sl.skip rfl rfl rfl rfl ?_
                                            refine Sl.skip rfl rfl rfl rfl ?_
                                            refine Sl.skip rfl rfl rfl rfl ?_
                                            refine Sl.skip rfl rfl rfl rfl ?_
                                            refine Sl.skip rfl rfl rfl rfl ?_
                                            refine Sl.skip rfl rfl rfl rfl ?_
                                            refine Sl.skip rfl rfl rfl rfl ?_
                                            refine Sl.calm (Cm.pick_f rfl rfl) rfl ?_
                                            refine Sl.calm (Cm.move rfl) rfl ?_
                                            refine Sl.skip rfl rfl rfl rfl ?_
                                            refine Sl.skip rfl rfl rfl rfl ?_
                                            refine Sl.skip rfl rfl rfl rfl ?_
                                            refine Sl.calm (Cm.pick_f rfl rfl) rfl ?_
                                            refine Sl.calm (Cm.assign rfl) rfl ?_
                                            refine Sl.nil ?_
                                            refine At.weak [(0, _), (1, _), (2, _), (51, _), (53, _), (54, _), (83, _)] ⟨rfl, rfl, rfl, rfl, rfl, rfl, rfl, trivial⟩ ?_
                                            refine At.go ?_
                                            refine Sc.ret ?_
                                            refine At.block_ret ?_
                                            refine At.then_ret ?_
                                            refine At.ret1 rfl rfl ?_
                                            first
                                              | exact ⟨_, rfl, notD (fun h => by have := h.1; unfold mayA at this; omega), hf1⟩
                                              | exact ⟨_, rfl, notD (fun h => by have := h.1; unfold mayA at this; omega), hf1.draws 1⟩
                                              | exact ⟨_, rfl, yesD ⟨by unfold mayA; omega, fun h3 => by omega⟩, hf1⟩
                                              | exact ⟨_, rfl, yesD ⟨by unfold mayA; omega, fun h3 => by omega⟩, hf1.draws 1⟩
                                              | exact ⟨_, rfl, notD (fun h => h.2 (by omega) hnul), hf1⟩
                                              | exact ⟨_, rfl, yesD ⟨by unfold mayA; omega, fun h3 h0 => by obtain ⟨i, hi, e⟩ := List.getElem_of_mem h0; exact hgood i (by omega) (by simp [List.getD, hi, e])⟩, hf1⟩
                                        ·
                                          refine Sl.calm (Cm.pick_t rfl rfl) rfl ?_
                                          refine Sl.calm (Cm.move rfl) rfl ?_
                                          refine Sl.skip rfl rfl rfl rfl ?_
                                          refine Sl.skip rfl rfl rfl rfl ?_
                                          refine Sl.skip rfl rfl rfl rfl ?_
                                          refine Sl.calm (Cm.pick_f rfl rfl) rfl ?_
                                          refine Sl.calm (Cm.move rfl) rfl ?_
                                          refine Sl.skip rfl rfl rfl rfl ?_
                                          refine Sl.skip rfl rfl rfl rfl ?_
                                          refine Sl.skip rfl rfl rfl rfl ?_
                                          refine Sl.skip rfl rfl rfl rfl ?_
                                          refine Sl.skip rfl rfl rfl rfl ?_
                                          refine Sl.skip rfl rfl rfl rfl ?_
                                          refine Sl.skip rfl rfl rfl rfl ?_
                                          refine Sl.skip rfl rfl rfl rfl ?_
                                          refine Sl.calm (Cm.pick_f rfl rfl) rfl ?_
                                          refine Sl.calm (Cm.move rfl) rfl ?_
                                          refine Sl.skip rfl rfl rfl rfl ?_
                                          refine Sl.skip rfl rfl rfl rfl ?_
                                          refine Sl.skip rfl rfl rfl rfl ?_
                                          refine Sl.calm (Cm.pick_f rfl rfl) rfl ?_
                                          refine Sl.calm (Cm.assign rfl) rfl ?_
                                          refine Sl.nil ?_
                                          refine At.weak [(0, _), (1, _), (2, _), (51, _), (53, _), (54, _), (83, _)] ⟨rfl, rfl, rfl, rfl, rfl, rfl, rfl, trivial⟩ ?_
                                          refine At.go ?_
                                          refine Sc.ret ?_
                                          refine At.block_ret ?_
                                          refine At.then_ret ?_
                                          refine At.ret1 rfl rfl ?_
                                          first
                                            | exact ⟨_, rfl, notD (fun h => by have := h.1; unfold mayA at this; omega), hf1⟩
                                            | exact ⟨_, rfl, notD (fun h => by have := h.1; unfold mayA at this; omega), hf1.draws 1⟩
                                            | exact ⟨_, rfl, yesD ⟨by unfold mayA; omega, fun h3 => by omega⟩, hf1⟩
                                            | exact ⟨_, rfl, yesD ⟨by unfold mayA; omega, fun h3 => by omega⟩, hf1.draws 1⟩
                                            | exact ⟨_, rfl, notD (fun h => h.2 (by omega) hnul), hf1⟩
                                            | exact ⟨_, rfl, yesD ⟨by unfold mayA; omega, fun h3 h0 => by obtain ⟨i, hi, e⟩ := List.getElem_of_mem h0; exact hgood i (by omega) (by simp [List.getD, hi, e])⟩, hf1⟩
                                      ·
                                        refine Sl.calm (Cm.pick_t rfl rfl) rfl ?_
                                        refine Sl.calm (Cm.move rfl) rfl ?_
                                        refine Sl.skip rfl rfl rfl rfl ?_
                                        refine Sl.skip rfl rfl rfl rfl ?_
                                        refine Sl.skip rfl rfl rfl rfl ?_
                                        refine Sl.calm (Cm.pick_f rfl rfl) rfl ?_
                                        refine Sl.calm (Cm.move rfl) rfl ?_
                                        refine Sl.skip rfl rfl rfl rfl ?_
                                        refine Sl.skip rfl rfl rfl rfl ?_
                                        refine Sl.skip rfl rfl rfl rfl ?_
                                        refine Sl.calm (Cm.pick_f rfl rfl) rfl ?_
                                        refine Sl.calm (Cm.move rfl) rfl ?_
                                        refine Sl.skip rfl rfl rfl rfl ?_
                                        refine Sl.skip rfl rfl rfl rfl ?_
                                        refine Sl.skip rfl rfl rfl rfl ?_
                                        refine Sl.skip rfl rfl rfl rfl ?_
                                        refine Sl.skip rfl rfl rfl rfl ?_
                                        refine Sl.skip rfl rfl rfl rfl ?_
                                        refine Sl.skip rfl rfl rfl rfl ?_
                                        refine Sl.skip rfl rfl rfl rfl ?_
                                        refine Sl.calm (Cm.pick_f rfl rfl) rfl ?_
                                        refine Sl.calm (Cm.move rfl) rfl ?_
                                        refine Sl.skip rfl rfl rfl rfl ?_
                                        refine Sl.skip rfl rfl rfl rfl ?_
                                        refine Sl.skip rfl rfl rfl rfl ?_
                                        refine Sl.calm (Cm.pick_f rfl rfl) rfl ?_
                                        refine Sl.calm (Cm.assign rfl) rfl ?_
                                        refine Sl.nil ?_
                                        refine At.weak [(0, _), (1, _), (2, _), (51, _), (53, _), (54, _), (83, _)] ⟨rfl, rfl, rfl, rfl, rfl, rfl, rfl, trivial⟩ ?_
                                        refine At.go ?_
                                        refine Sc.ret ?_
                                        refine At.block_ret ?_
                                        refine At.then_ret ?_
                                        refine At.ret1 rfl rfl ?_
                                        first
                                          | exact ⟨_, rfl, notD (fun h => by have := h.1; unfold mayA at this; omega), hf1⟩
                                          | exact ⟨_, rfl, notD (fun h => by have := h.1; unfold mayA at this; omega), hf1.draws 1⟩
                                          | exact ⟨_, rfl, yesD ⟨by unfold mayA; omega, fun h3 => by omega⟩, hf1⟩
                                          | exact ⟨_, rfl, yesD ⟨by unfold mayA; omega, fun h3 => by omega⟩, hf1.draws 1⟩
                                          | exact ⟨_, rfl, notD (fun h => h.2 (by omega) hnul), hf1⟩
                                          | exact ⟨_, rfl, yesD ⟨by unfold mayA; omega, fun h3 h0 => by obtain ⟨i, hi, e⟩ := List.getElem_of_mem h0; exact hgood i (by omega) (by simp [List.getD, hi, e])⟩, hf1⟩
                                    ·
                                      refine Sl.calm (Cm.move rfl) rfl ?_
                                      refine Sl.skip rfl rfl rfl rfl ?_
                                      refine Sl.skip rfl rfl rfl rfl ?_
                                      refine Sl.skip rfl rfl rfl rfl ?_
                                      refine Sl.calm (Cm.pick_f rfl rfl) rfl ?_
                                      refine Sl.calm (Cm.move rfl) rfl ?_
                                      refine Sl.skip rfl rfl rfl rfl ?_
                                      refine Sl.skip rfl rfl rfl rfl ?_
                                      refine Sl.skip rfl rfl rfl rfl ?_
                                      refine Sl.calm (Cm.pick_f rfl rfl) rfl ?_
                                      refine Sl.calm (Cm.move rfl) rfl ?_
                                      refine Sl.skip rfl rfl rfl rfl ?_
                                      refine Sl.skip rfl rfl rfl rfl ?_
                                      refine Sl.skip rfl rfl rfl rfl ?_
                                      refine Sl.calm (Cm.pick_f rfl rfl) rfl ?_
                                      refine Sl.calm (Cm.move rfl) rfl ?_
                                      refine Sl.skip rfl rfl rfl rfl ?_
                                      refine Sl.skip rfl rfl rfl rfl ?_
                                      refine Sl.skip rfl rfl rfl rfl ?_
                                      refine Sl.skip rfl rfl rfl rfl ?_
                                      refine Sl.skip rfl rfl rfl rfl ?_
                                      refine Sl.skip rfl rfl rfl rfl ?_
                                      refine Sl.skip rfl rfl rfl rfl ?_
                                      refine Sl.skip rfl rfl rfl rfl ?_
                                      refine Sl.calm (Cm.pick_f rfl rfl) rfl ?_
                                      refine Sl.calm (Cm.move rfl) rfl ?_
                                      refine Sl.skip rfl rfl rfl rfl ?_
                                      refine Sl.skip rfl rfl rfl rfl ?_
                                      refine Sl.skip rfl rfl rfl rfl ?_
                                      refine Sl.calm (Cm.pick_f rfl rfl) rfl ?_
                                      refine Sl.calm (Cm.assign rfl) rfl ?_
                                      refine Sl.nil ?_
                                      refine At.weak [(0, _), (1, _), (2, _), (51, _), (53, _), (54, _), (83, _)] ⟨rfl, rfl, rfl, rfl, rfl, rfl, rfl, trivial⟩ ?_
                                      refine At.go ?_
                                      refine Sc.ret ?_
                                      refine At.block_ret ?_
                                      refine At.then_ret ?_
                                      refine At.ret1 rfl rfl ?_
                                      first
                                        | exact ⟨_, rfl, notD (fun h => by have := h.1; unfold mayA at this; omega), hf1⟩
                                        | exact ⟨_, rfl, notD (fun h => by have := h.1; unfold mayA at this; omega), hf1.draws 1⟩
                                        | exact ⟨_, rfl, yesD ⟨by unfold mayA; omega, fun h3 => by omega⟩, hf1⟩
                                        | exact ⟨_, rfl, yesD ⟨by unfold mayA; omega, fun h3 => by omega⟩, hf1.draws 1⟩
                                        | exact ⟨_, rfl, notD (fun h => h.2 (by omega) hnul), hf1⟩
                                        | exact ⟨_, rfl, yesD ⟨by unfold mayA; omega, fun h3 h0 => by obtain ⟨i, hi, e⟩ := List.getElem_of_mem h0; exact hgood i (by omega) (by simp [List.getD, hi, e])⟩, hf1⟩
                      ·
                        refine Sl.calm (Cm.assign rfl) rfl ?_
                        refine Sl.nil ?_
                        refine At.weak [(0, _), (1, _), (2, _), (51, _), (53, _), (54, _)] ⟨rfl, rfl, rfl, rfl, rfl, rfl, trivial⟩ ?_
                        refine At.go ?_
                        refine Sc.cond_f rfl ?_
                        refine Sc.seq ?_
                        refine Sc.region ?_
                        refine Sl.fork (Cm.eql rfl rfl) rfl (fun h118 => ?_) (fun h118 => ?_)
                        ·
                          refine Sl.calm (Cm.assign rfl) rfl ?_
                          refine Sl.nil ?_
                          refine At.weak [(0, _), (1, _), (2, _), (51, _), (53, _), (54, _), (117, _)] ⟨rfl, rfl, rfl, rfl, rfl, rfl, rfl, trivial⟩ ?_
                          refine At.go ?_
                          refine Sc.cond_t rfl ?_
                          refine Sc.seq ?_
                          refine Sc.region ?_
                          refine Sl.calm (Cm.field fld33_6 rfl) rfl ?_
                          refine Sl.calm (Cm.ld sca3 rfl (cellF hg1 rfl)) rfl ?_
                          refine Sl.fork (Cm.geq rfl rfl) rfl (fun h121 => ?_) (fun h121 => ?_)
                          ·
                            refine Sl.calm (Cm.move rfl) rfl ?_
                            refine Sl.want rfl rfl (Cm.field fld33_6 rfl) rfl ?_
                            refine Sl.want rfl rfl (Cm.ld sca3 rfl (cellF hg1 rfl)) rfl ?_
                            refine Sl.forkWant rfl rfl (Cm.leq rfl rfl) rfl (fun h125 => ?_) (fun h125 => ?_)
                            ·
                              refine Sl.calm (Cm.pick_t rfl rfl) rfl ?_
                              refine Sl.calm (Cm.move rfl) rfl ?_
                              refine Sl.want rfl rfl (Cm.field fld33_7 rfl) rfl ?_
                              refine Sl.want rfl rfl (Cm.ld sca3 rfl (cellF hg1 rfl)) rfl ?_
                              refine Sl.forkWant rfl rfl (Cm.geq rfl rfl) rfl (fun h130 => ?_) (fun h130 => ?_)
                              ·
                                refine Sl.calm (Cm.pick_t rfl rfl) rfl ?_
                                refine Sl.calm (Cm.move rfl) rfl ?_
                                refine Sl.want rfl rfl (Cm.field fld33_7 rfl) rfl ?_
                                refine Sl.want rfl rfl (Cm.ld sca3 rfl (cellF hg1 rfl)) rfl ?_
                                refine Sl.forkWant rfl rfl (Cm.leq rfl rfl) rfl (fun h135 => ?_) (fun h135 => ?_)
                                ·
                                  refine Sl.calm (Cm.pick_t rfl rfl) rfl ?_
                                  refine Sl.calm (Cm.move rfl) rfl ?_
                                  refine Sl.want rfl rfl (Cm.field fld33_4 rfl) rfl ?_
                                  refine Sl.want rfl rfl (Cm.ld sca3 rfl (cellF hg1 rfl)) rfl ?_
                                  refine Sl.forkWant rfl rfl (Cm.eql rfl rfl) rfl (fun h140 => ?_) (fun h140 => ?_)
                                  ·
                                    refine Sl.calm (Cm.pick_t rfl rfl) rfl ?_
                                    refine Sl.calm (Cm.move rfl) rfl ?_
                                    refine Sl.want rfl rfl (Cm.field fld33_8 rfl) rfl ?_
                                    refine Sl.want rfl rfl (Cm.ld sca3 rfl (cellF hg1 rfl)) rfl ?_
                                    refine Sl.forkWant rfl rfl (Cm.eql rfl rfl) rfl (fun h145 => ?_) (fun h145 => ?_)
                                    ·
                                      refine Sl.calm (Cm.pick_t rfl rfl) rfl ?_
                                      refine Sl.calm (Cm.move rfl) rfl ?_
                                      refine Sl.want rfl rfl (Cm.field fld33_9 rfl) rfl ?_
                                      refine Sl.want rfl rfl (Cm.ld sca3 rfl (cellF hg1 rfl)) rfl ?_
                                      refine Sl.forkWant rfl rfl (Cm.eql rfl rfl) rfl (fun h150 => ?_) (fun h150 => ?_)
                                      ·
                                        refine Sl.calm (Cm.pick_t rfl rfl) rfl ?_
                                        refine Sl.calm (Cm.move rfl) rfl ?_
                                        refine Sl.want rfl rfl (Cm.field fld33_10 rfl) rfl ?_
                                        refine Sl.want rfl rfl (Cm.ld sca9 rfl (cellF hg1 rfl)) rfl ?_
                                        refine Sl.forkWant rfl rfl (Cm.eqlBs rfl rfl) rfl (fun h155 => ?_) (fun h155 => ?_)
                                        ·
                                          have hT0 : T.length = 0 := by rw [h155]; rfl
                                          refine Sl.calm (Cm.pick_t rfl rfl) rfl ?_
                                          refine Sl.calm (Cm.assign rfl) rfl ?_
                                          refine Sl.nil ?_
                                          refine At.weak [(0, _), (1, _), (2, _), (51, _), (53, _), (54, _), (117, _)] ⟨rfl, rfl, rfl, rfl, rfl, rfl, rfl, trivial⟩ ?_
                                          refine At.go ?_
                                          refine Sc.ret ?_
                                          refine At.block_ret ?_
                                          refine At.then_ret ?_
                                          refine At.ret1 rfl rfl ?_
                                          first
                                            | exact ⟨_, rfl, notD (fun h => by have := h.1; unfold mayA at this; omega), hf1⟩
                                            | exact ⟨_, rfl, notD (fun h => by have := h.1; unfold mayA at this; omega), hf1.draws 1⟩
                                            | exact ⟨_, rfl, yesD ⟨by unfold mayA; omega, fun h3 => by omega⟩, hf1⟩
                                            | exact ⟨_, rfl, yesD ⟨by unfold mayA; omega, fun h3 => by omega⟩, hf1.draws 1⟩
                                            | exact ⟨_, rfl, notD (fun h => h.2 (by omega) hnul), hf1⟩
                                            | exact ⟨_, rfl, yesD ⟨by unfold mayA; omega, fun h3 h0 => by obtain ⟨i, hi, e⟩ := List.getElem_of_mem h0; exact hgood i (by omega) (by simp [List.getD, hi, e])⟩, hf1⟩
                                        ·
                                          have hT0 : T.length ≠ 0 := fun e => h155 (List.eq_nil_of_length_eq_zero e)
                                          refine Sl.calm (Cm.pick_t rfl rfl) rfl ?_
                                          refine Sl.calm (Cm.assign rfl) rfl ?_
                                          refine Sl.nil ?_
                                          refine At.weak [(0, _), (1, _), (2, _), (51, _), (53, _), (54, _), (117, _)] ⟨rfl, rfl, rfl, rfl, rfl, rfl, rfl, trivial⟩ ?_
                                          refine At.go ?_
                                          refine Sc.ret ?_
                                          refine At.block_ret ?_
                                          refine At.then_ret ?_
                                          refine At.ret1 rfl rfl ?_
                                          first
                                            | exact ⟨_, rfl, notD (fun h => by have := h.1; unfold mayA at this; omega), hf1⟩
                                            | exact ⟨_, rfl, notD (fun h => by have := h.1; unfold mayA at this; omega), hf1.draws 1⟩
                                            | exact ⟨_, rfl, yesD ⟨by unfold mayA; omega, fun h3 => by omega⟩, hf1⟩
                                            | exact ⟨_, rfl, yesD ⟨by unfold mayA; omega, fun h3 => by omega⟩, hf1.draws 1⟩
                                            | exact ⟨_, rfl, notD (fun h => h.2 (by omega) hnul), hf1⟩
                                            | exact ⟨_, rfl, yesD ⟨by unfold mayA; omega, fun h3 h0 => by obtain ⟨i, hi, e⟩ := List.getElem_of_mem h0; exact hgood i (by omega) (by simp [List.getD, hi, e])⟩, hf1⟩
                                      ·
                                        refine Sl.calm (Cm.pick_t rfl rfl) rfl ?_
                                        refine Sl.calm (Cm.move rfl) rfl ?_
                                        refine Sl.skip rfl rfl rfl rfl ?_
                                        refine Sl.skip rfl rfl rfl rfl ?_
                                        refine Sl.skip rfl rfl rfl rfl ?_
                                        refine Sl.calm (Cm.pick_f rfl rfl) rfl ?_
                                        refine Sl.calm (Cm.assign rfl) rfl ?_
                                        refine Sl.nil ?_
                                        refine At.weak [(0, _), (1, _), (2, _), (51, _), (53, _), (54, _), (117, _)] ⟨rfl, rfl, rfl, rfl, rfl, rfl, rfl, trivial⟩ ?_
                                        refine At.go ?_
                                        refine Sc.ret ?_
                                        refine At.block_ret ?_
                                        refine At.then_ret ?_
                                        refine At.ret1 rfl rfl ?_
                                        first
                                          | exact ⟨_, rfl, notD (fun h => by have := h.1; unfold mayA at this; omega), hf1⟩
                                          | exact ⟨_, rfl, notD (fun h => by have := h.1; unfold mayA at this; omega), hf1.draws 1⟩
                                          | exact ⟨_, rfl, yesD ⟨by unfold mayA; omega, fun h3 => by omega⟩, hf1⟩
                                          | exact ⟨_, rfl, yesD ⟨by unfold mayA; omega, fun h3 => by omega⟩, hf1.draws 1⟩
                                          | exact ⟨_, rfl, notD (fun h => h.2 (by omega) hnul), hf1⟩
                                          | exact ⟨_, rfl, yesD ⟨by unfold mayA; omega, fun h3 h0 => by obtain ⟨i, hi, e⟩ := List.getElem_of_mem h0; exact hgood i (by omega) (by simp [List.getD, hi, e])⟩, hf1⟩
                                    ·
                                      refine Sl.calm (Cm.pick_t rfl rfl) rfl ?_
                                      refine Sl.calm (Cm.move rfl) rfl ?_
                                      refine Sl.skip rfl rfl rfl rfl ?_
                                      refine Sl.skip rfl rfl rfl rfl ?_
                                      refine Sl.skip rfl rfl rfl rfl ?_
                                      refine Sl.calm (Cm.pick_f rfl rfl) rfl ?_
                                      refine Sl.calm (Cm.move rfl) rfl ?_
                                      refine Sl.skip rfl rfl rfl rfl ?_
                                      refine Sl.skip rfl rfl rfl rfl ?_
                                      refine Sl.skip rfl rfl rfl rfl ?_
                                      refine Sl.calm (Cm.pick_f rfl rfl) rfl ?_
                                      refine Sl.calm (Cm.assign rfl) rfl ?_
                                      refine Sl.nil ?_
                                      refine At.weak [(0, _), (1, _), (2, _), (51, _), (53, _), (54, _), (117, _)] ⟨rfl, rfl, rfl, rfl, rfl, rfl, rfl, trivial⟩ ?_
                                      refine At.go ?_
                                      refine Sc.ret ?_
                                      refine At.block_ret ?_
                                      refine At.then_ret ?_
                                      refine At.ret1 rfl rfl ?_
                                      first
                                        | exact ⟨_, rfl, notD (fun h => by have := h.1; unfold mayA at this; omega), hf1⟩
                                        | exact ⟨_, rfl, notD (fun h => by have := h.1; unfold mayA at this; omega), hf1.draws 1⟩
                                        | exact ⟨_, rfl, yesD ⟨by unfold mayA; omega, fun h3 => by omega⟩, hf1⟩
                                        | exact ⟨_, rfl, yesD ⟨by unfold mayA; omega, fun h3 => by omega⟩, hf1.draws 1⟩
                                        | exact ⟨_, rfl, notD (fun h => h.2 (by omega) hnul), hf1⟩
                                        | exact ⟨_, rfl, yesD ⟨by unfold mayA; omega, fun h3 h0 => by obtain ⟨i, hi, e⟩ := List.getElem_of_mem h0; exact hgood i (by omega) (by simp [List.getD, hi, e])⟩, hf1⟩
                                  ·
                                    refine Sl.calm (Cm.pick_t rfl rfl) rfl ?_
                                    refine Sl.calm (Cm.move rfl) rfl ?_
                                    refine Sl.skip rfl rfl rfl rfl ?_
                                    refine Sl.skip rfl rfl rfl rfl ?_
                                    refine Sl.skip rfl rfl rfl rfl ?_
                                    refine Sl.calm (Cm.pick_f rfl rfl) rfl ?_
                                    refine Sl.calm (Cm.move rfl) rfl ?_
                                    refine Sl.skip rfl rfl rfl rfl ?_
                                    refine Sl.skip rfl rfl rfl rfl ?_
                                    refine Sl.skip rfl rfl rfl rfl ?_
                                    refine Sl.calm (Cm.pick_f rfl rfl) rfl ?_
                                    refine Sl.calm (Cm.move rfl) rfl ?_
                                    refine Sl.skip rfl rfl rfl rfl ?_
                                    refine Sl.skip rfl rfl rfl rfl ?_
                                    refine Sl.skip rfl rfl rfl rfl ?_
                                    refine Sl.calm (Cm.pick_f rfl rfl) rfl ?_
                                    refine Sl.calm (Cm.assign rfl) rfl ?_
                                    refine Sl.nil ?_
                                    refine At.weak [(0, _), (1, _), (2, _), (51, _), (53, _), (54, _), (117, _)] ⟨rfl, rfl, rfl, rfl, rfl, rfl, rfl, trivial⟩ ?_
                                    refine At.go ?_
                                    refine Sc.ret ?_
                                    refine At.block_ret ?_
                                    refine At.then_ret ?_
                                    refine At.ret1 rfl rfl ?_
                                    first
                                      | exact ⟨_, rfl, notD (fun h => by have := h.1; unfold mayA at this; omega), hf1⟩
                                      | exact ⟨_, rfl, notD (fun h => by have := h.1; unfold mayA at this; omega), hf1.draws 1⟩
                                      | exact ⟨_, rfl, yesD ⟨by unfold mayA; omega, fun h3 => by omega⟩, hf1⟩
                                      | exact ⟨_, rfl, yesD ⟨by unfold mayA; omega, fun h3 => by omega⟩, hf1.draws 1⟩
                                      | exact ⟨_, rfl, notD (fun h => h.2 (by omega) hnul), hf1⟩
                                      | exact ⟨_, rfl, yesD ⟨by unfold mayA; omega, fun h3 h0 => by obtain ⟨i, hi, e⟩ := List.getElem_of_mem h0; exact hgood i (by omega) (by simp [List.getD, hi, e])⟩, hf1⟩
                                ·
                                  refine Sl.calm (Cm.pick_t rfl rfl) rfl ?_
                                  refine Sl.calm (Cm.move rfl) rfl ?_
                                  refine Sl.skip rfl rfl rfl rfl ?_
                                  refine Sl.skip rfl rfl rfl rfl ?_
                                  refine Sl.skip rfl rfl rfl rfl ?_
                                  refine Sl.calm (Cm.pick_f rfl rfl) rfl ?_
                                  refine Sl.calm (Cm.move rfl) rfl ?_
                                  refine Sl.skip rfl rfl rfl rfl ?_
                                  refine Sl.skip rfl rfl rfl rfl ?_
                                  refine Sl.skip rfl rfl rfl rfl ?_
                                  refine Sl.calm (Cm.pick_f rfl rfl) rfl ?_
                                  refine Sl.calm (Cm.move rfl) rfl ?_
                                  refine Sl.skip rfl rfl rfl rfl ?_
                                  refine Sl.skip rfl rfl rfl rfl ?_
                                  refine Sl.skip rfl rfl rfl rfl ?_
                                  refine Sl.calm (Cm.pick_f rfl rfl) rfl ?_
                                  refine Sl.calm (Cm.move rfl) rfl ?_
                                  refine Sl.skip rfl rfl rfl rfl ?_
                                  refine Sl.skip rfl rfl rfl rfl ?_
                                  refine Sl.skip rfl rfl rfl rfl ?_
                                  refine Sl.calm (Cm.pick_f rfl rfl) rfl ?_
                                  refine Sl.calm (Cm.assign rfl) rfl ?_
                                  refine Sl.nil ?_
                                  refine At.weak [(0, _), (1, _), (2, _), (51, _), (53, _), (54, _), (117, _)] ⟨rfl, rfl, rfl, rfl, rfl, rfl, rfl, trivial⟩ ?_
                                  refine At.go ?_
                                  refine Sc.ret ?_
                                  refine At.block_ret ?_
                                  refine At.then_ret ?_
                                  refine At.ret1 rfl rfl ?_
                                  first
                                    | exact ⟨_, rfl, notD (fun h => by have := h.1; unfold mayA at this; omega), hf1⟩
                                    | exact ⟨_, rfl, notD (fun h => by have := h.1; unfold mayA at this; omega), hf1.draws 1⟩
                                    | exact ⟨_, rfl, yesD ⟨by unfold mayA; omega, fun h3 => by omega⟩, hf1⟩
                                    | exact ⟨_, rfl, yesD ⟨by unfold mayA; omega, fun h3 => by omega⟩, hf1.draws 1⟩
                                    | exact ⟨_, rfl, notD (fun h => h.2 (by omega) hnul), hf1⟩
                                    | exact ⟨_, rfl, yesD ⟨by unfold mayA; omega, fun h3 h0 => by obtain ⟨i, hi, e⟩ := List.getElem_of_mem h0; exact hgood i (by omega) (by simp [List.getD, hi, e])⟩, hf1⟩
                              ·
                                refine Sl.calm (Cm.pick_t rfl rfl) rfl ?_
                                refine Sl.calm (Cm.move rfl) rfl ?_
                                refine Sl.skip rfl rfl rfl rfl ?_
                                refine Sl.skip rfl rfl rfl rfl ?_
                                refine Sl.skip rfl rfl rfl rfl ?_
                                refine Sl.calm (Cm.pick_f rfl rfl) rfl ?_
                                refine Sl.calm (Cm.move rfl) rfl ?_
                                refine Sl.skip rfl rfl rfl rfl ?_
                                refine Sl.skip rfl rfl rfl rfl ?_
                                refine Sl.skip rfl rfl rfl rfl ?_
                                refine Sl.calm (Cm.pick_f rfl rfl) rfl ?_
                                refine Sl.calm (Cm.move rfl) rfl ?_
                                refine Sl.skip rfl rfl rfl rfl ?_
                                refine Sl.skip rfl rfl rfl rfl ?_
                                refine Sl.skip rfl rfl rfl rfl ?_
                                refine Sl.calm (Cm.pick_f rfl rfl) rfl ?_
                                refine Sl.calm (Cm.move rfl) rfl ?_
                                refine Sl.skip rfl rfl rfl rfl ?_
                                refine Sl.skip rfl rfl rfl rfl ?_
                                refine Sl.skip rfl rfl rfl rfl ?_
                                refine Sl.calm (Cm.pick_f rfl rfl) rfl ?_
                                refine Sl.calm (Cm.move rfl) rfl ?_
                                refine Sl.skip rfl rfl rfl rfl ?_
                                refine Sl.skip rfl rfl rfl rfl ?_
                                refine Sl.skip rfl rfl rfl rfl ?_
                                refine Sl.calm (Cm.pick_f rfl rfl) rfl ?_
                                refine Sl.calm (Cm.assign rfl) rfl ?_
                                refine Sl.nil ?_
                                refine At.weak [(0, _), (1, _), (2, _), (51, _), (53, _), (54, _), (117, _)] ⟨rfl, rfl, rfl, rfl, rfl, rfl, rfl, trivial⟩ ?_
                                refine At.go ?_
                                refine Sc.ret ?_
                                refine At.block_ret ?_
                                refine At.then_ret ?_
                                refine At.ret1 rfl rfl ?_
                                first
                                  | exact ⟨_, rfl, notD (fun h => by have := h.1; unfold mayA at this; omega), hf1⟩
                                  | exact ⟨_, rfl, notD (fun h => by have := h.1; unfold mayA at this; omega), hf1.draws 1⟩
                                  | exact ⟨_, rfl, yesD ⟨by unfold mayA; omega, fun h3 => by omega⟩, hf1⟩
                                  | exact ⟨_, rfl, yesD ⟨by unfold mayA; omega, fun h3 => by omega⟩, hf1.draws 1⟩
                                  | exact ⟨_, rfl, notD (fun h => h.2 (by omega) hnul), hf1⟩
                                  | exact ⟨_, rfl, yesD ⟨by unfold mayA; omega, fun h3 h0 => by obtain ⟨i, hi, e⟩ := List.getElem_of_mem h0; exact hgood i (by omega) (by simp [List.getD, hi, e])⟩, hf1⟩
                            ·
                              refine Sl.calm (Cm.pick_t rfl rfl) rfl ?_
                              refine Sl.calm (Cm.move rfl) rfl ?_
                              refine Sl.skip rfl rfl rfl rfl ?_
                              refine Sl.skip rfl rfl rfl rfl ?_
                              refine Sl.skip rfl rfl rfl rfl ?_
                              refine Sl.calm (Cm.pick_f rfl rfl) rfl ?_
                              refine Sl.calm (Cm.move rfl) rfl ?_
                              refine Sl.skip rfl rfl rfl rfl ?_
                              refine Sl.skip rfl rfl rfl rfl ?_
                              refine Sl.skip rfl rfl rfl rfl ?_
                              refine Sl.calm (Cm.pick_f rfl rfl) rfl ?_
                              refine Sl.calm (Cm.move rfl) rfl ?_
                              refine Sl.skip rfl rfl rfl rfl ?_
                              refine Sl.skip rfl rfl rfl rfl ?_
                              refine Sl.skip rfl rfl rfl rfl ?_
                              refine Sl.calm (Cm.pick_f rfl rfl) rfl ?_
                              refine Sl.calm (Cm.move rfl) rfl ?_
                              refine Sl.skip rfl rfl rfl rfl ?_
                              refine Sl.skip rfl rfl rfl rfl ?_
                              refine Sl.skip rfl rfl rfl rfl ?_
                              refine Sl.calm (Cm.pick_f rfl rfl) rfl ?_
                              refine Sl.calm (Cm.move rfl) rfl ?_
                              refine Sl.skip rfl rfl rfl rfl ?_
                              refine Sl.skip rfl rfl rfl rfl ?_
                              refine Sl.skip rfl rfl rfl rfl ?_
                              refine Sl.calm (Cm.pick_f rfl rfl) rfl ?_
                              refine Sl.calm (Cm.move rfl) rfl ?_
                              refine Sl.skip rfl rfl rfl rfl ?_
                              refine Sl.skip rfl rfl rfl rfl ?_
                              refine Sl.skip rfl rfl rfl rfl ?_
                              refine Sl.calm (Cm.pick_f rfl rfl) rfl ?_
                              refine Sl.calm (Cm.assign rfl) rfl ?_
                              refine Sl.nil ?_
                              refine At.weak [(0, _), (1, _), (2, _), (51, _), (53, _), (54, _), (117, _)] ⟨rfl, rfl, rfl, rfl, rfl, rfl, rfl, trivial⟩ ?_
                              refine At.go ?_
                              refine Sc.ret ?_
                              refine At.block_ret ?_
                              refine At.then_ret ?_
                              refine At.ret1 rfl rfl ?_
                              first
                                | exact ⟨_, rfl, notD (fun h => by have := h.1; unfold mayA at this; omega), hf1⟩
                                | exact ⟨_, rfl, notD (fun h => by have := h.1; unfold mayA at this; omega), hf1.draws 1⟩
                                | exact ⟨_, rfl, yesD ⟨by unfold mayA; omega, fun h3 => by omega⟩, hf1⟩
                                | exact ⟨_, rfl, yesD ⟨by unfold mayA; omega, fun h3 => by omega⟩, hf1.draws 1⟩
                                | exact ⟨_, rfl, notD (fun h => h.2 (by omega) hnul), hf1⟩
                                | exact ⟨_, rfl, yesD ⟨by unfold mayA; omega, fun h3 h0 => by obtain ⟨i, hi, e⟩ := List.getElem_of_mem h0; exact hgood i (by omega) (by simp [List.getD, hi, e])⟩, hf1⟩
                          ·
                            refine Sl.calm (Cm.move rfl) rfl ?_
                            refine Sl.skip rfl rfl rfl rfl ?_
                            refine Sl.skip rfl rfl rfl rfl ?_
                            refine Sl.skip rfl rfl rfl rfl ?_
                            refine Sl.calm (Cm.pick_f rfl rfl) rfl ?_
                            refine Sl.calm (Cm.move rfl) rfl ?_
                            refine Sl.skip rfl rfl rfl rfl ?_
                            refine Sl.skip rfl rfl rfl rfl ?_
                            refine Sl.skip rfl rfl rfl rfl ?_
                            refine Sl.calm (Cm.pick_f rfl rfl) rfl ?_
                            refine Sl.calm (Cm.move rfl) rfl ?_
                            refine Sl.skip rfl rfl rfl rfl ?_
                            refine Sl.skip rfl rfl rfl rfl ?_
                            refine Sl.skip rfl rfl rfl rfl ?_
                            refine Sl.calm (Cm.pick_f rfl rfl) rfl ?_
                            refine Sl.calm (Cm.move rfl) rfl ?_
                            refine Sl.skip rfl rfl rfl rfl ?_
                            refine Sl.skip rfl rfl rfl rfl ?_
                            refine Sl.skip rfl rfl rfl rfl ?_
                            refine Sl.calm (Cm.pick_f rfl rfl) rfl ?_
                            refine Sl.calm (Cm.move rfl) rfl ?_
                            refine Sl.skip rfl rfl rfl rfl ?_
                            refine Sl.skip rfl rfl rfl rfl ?_
                            refine Sl.skip rfl rfl rfl rfl ?_
                            refine Sl.calm (Cm.pick_f rfl rfl) rfl ?_
                            refine Sl.calm (Cm.move rfl) rfl ?_
                            refine Sl.skip rfl rfl rfl rfl ?_
                            refine Sl.skip rfl rfl rfl rfl ?_
                            refine Sl.skip rfl rfl rfl rfl ?_
                            refine Sl.calm (Cm.pick_f rfl rfl) rfl ?_
                            refine Sl.calm (Cm.move rfl) rfl ?_
                            refine Sl.skip rfl rfl rfl rfl ?_
                            refine Sl.skip rfl rfl rfl rfl ?_
                            refine Sl.skip rfl rfl rfl rfl ?_
                            refine Sl.calm (Cm.pick_f rfl rfl) rfl ?_
                            refine Sl.calm (Cm.assign rfl) rfl ?_
                            refine Sl.nil ?_
                            refine At.weak [(0, _), (1, _), (2, _), (51, _), (53, _), (54, _), (117, _)] ⟨rfl, rfl, rfl, rfl, rfl, rfl, rfl, trivial⟩ ?_
                            refine At.go ?_
                            refine Sc.ret ?_
                            refine At.block_ret ?_
                            refine At.then_ret ?_
                            refine At.ret1 rfl rfl ?_
                            first
                              | exact ⟨_, rfl, notD (fun h => by have := h.1; unfold mayA at this; omega), hf1⟩
                              | exact ⟨_, rfl, notD (fun h => by have := h.1; unfold mayA at this; omega), hf1.draws 1⟩
                              | exact ⟨_, rfl, yesD ⟨by unfold mayA; omega, fun h3 => by omega⟩, hf1⟩
                              | exact ⟨_, rfl, yesD ⟨by unfold mayA; omega, fun h3 => by omega⟩, hf1.draws 1⟩
                              | exact ⟨_, rfl, notD (fun h => h.2 (by omega) hnul), hf1⟩
                              | exact ⟨_, rfl, yesD ⟨by unfold mayA; omega, fun h3 h0 => by obtain ⟨i, hi, e⟩ := List.getElem_of_mem h0; exact hgood i (by omega) (by simp [List.getD, hi, e])⟩, hf1⟩
                        ·
                          refine Sl.calm (Cm.assign rfl) rfl ?_
                          refine Sl.nil ?_
                          refine At.weak [(0, _), (1, _), (2, _), (51, _), (53, _), (54, _), (117, _)] ⟨rfl, rfl, rfl, rfl, rfl, rfl, rfl, trivial⟩ ?_
                          refine At.go ?_
                          refine Sc.cond_f rfl ?_
                          refine Sc.seq ?_
                          refine Sc.region ?_
                          refine Sl.fork (Cm.eql rfl rfl) rfl (fun h158 => ?_) (fun h158 => ?_)
                          ·
                            refine Sl.calm (Cm.assign rfl) rfl ?_
                            refine Sl.nil ?_
                            refine At.weak [(0, _), (1, _), (2, _), (51, _), (53, _), (54, _), (117, _), (157, _)] ⟨rfl, rfl, rfl, rfl, rfl, rfl, rfl, rfl, trivial⟩ ?_
                            refine At.go ?_
                            refine Sc.cond_t rfl ?_
                            refine Sc.seq ?_
                            refine Sc.seq ?_
                            refine Sc.region ?_
                            refine Sl.calm (Cm.assign rfl) rfl ?_
                            refine Sl.nil ?_
                            refine At.go ?_
                            refine Sc.block ?_
                            refine Sc.loop (β := Nat) (fun k => [(1, .pointer (some ⟨W.heap.size, 0, none⟩)), (3, .int .i64 k)]) (fun k w => k ≤ T.length ∧ (∀ i, i < k → T.getD i 0 ≠ 0) ∧ w = w1) (fun k => T.length - k) 0 ⟨rfl, rfl, trivial⟩ ⟨Nat.zero_le _, by intro i hi; omega, rfl⟩ ?_
                            rintro k w2 ⟨hk, hgood, hw2⟩
                            subst hw2
                            refine Sc.seq ?_
                            refine Sc.seq ?_
                            refine Sc.region ?_
                            refine Sl.calm (Cm.move rfl) rfl ?_
                            refine Sl.calm (Cm.field fld33_10 rfl) rfl ?_
                            refine Sl.calm (Cm.ld sca9 rfl (cellF hg1 rfl)) rfl ?_
                            refine Sl.calm (Cm.lenBs ty9 rfl) rfl ?_
                            refine Sl.fork (Cm.lss rfl rfl) rfl (fun h163 => ?_) (fun h163 => ?_)
                            ·
                              refine Sl.nil ?_
                              refine At.weak [(1, _), (3, _), (163, _)] ⟨rfl, rfl, rfl, trivial⟩ ?_
                              refine At.go ?_
                              refine Sc.cond_t rfl ?_
                              refine Sc.skip ?_
                              refine At.go ?_
                              refine Sc.seq ?_
                              refine Sc.block ?_
                              refine Sc.seq ?_
                              refine Sc.region ?_
                              refine Sl.calm (Cm.field fld33_10 rfl) rfl ?_
                              refine Sl.calm (Cm.ld sca9 rfl (cellF hg1 rfl)) rfl ?_
                              refine Sl.calm (Cm.move rfl) rfl ?_
                              refine Sl.calm (Cm.idxS ty9 rfl rfl (by omega)) rfl ?_
                              refine Sl.fork (Cm.eql rfl rfl) rfl (fun h170 => ?_) (fun h170 => ?_)
                              ·
                                have hnul : (0 : UInt8) ∈ T := by
                                  have e : T.getD k 0 = 0 := UInt8.toNat_inj.1 (by have : ((T.getD ((k : Int)).toNat 0).toNat : Int) = 0 := h170; have e2 : ((k : Int)).toNat = k := rfl; rw [e2] at this; show _ = 0; omega)
                                  have hk2 : k < T.length := by omega
                                  rw [List.getD, List.getElem?_eq_getElem hk2] at e
                                  rw [← e]; exact List.getElem_mem hk2
                                refine Sl.nil ?_
                                refine At.weak [(1, _), (3, _), (163, _), (170, _)] ⟨rfl, rfl, rfl, rfl, trivial⟩ ?_
                                refine At.go ?_
                                refine Sc.cond_t rfl ?_
                                refine Sc.seq ?_
                                refine Sc.region ?_
                                refine Sl.calm (Cm.assign rfl) rfl ?_
                                refine Sl.nil ?_
                                refine At.go ?_
                                refine Sc.ret ?_
                                refine At.block_ret ?_
                                refine At.then_ret ?_
                                refine At.then_ret ?_
                                refine At.block_ret ?_
                                refine At.then_ret ?_
                                refine At.block_ret ?_
                                refine At.then_ret ?_
                                refine At.ret1 rfl rfl ?_
                                first
                                  | exact ⟨_, rfl, notD (fun h => by have := h.1; unfold mayA at this; omega), hf1⟩
                                  | exact ⟨_, rfl, notD (fun h => by have := h.1; unfold mayA at this; omega), hf1.draws 1⟩
                                  | exact ⟨_, rfl, yesD ⟨by unfold mayA; omega, fun h3 => by omega⟩, hf1⟩
                                  | exact ⟨_, rfl, yesD ⟨by unfold mayA; omega, fun h3 => by omega⟩, hf1.draws 1⟩
                                  | exact ⟨_, rfl, notD (fun h => h.2 (by omega) hnul), hf1⟩
                                  | exact ⟨_, rfl, yesD ⟨by unfold mayA; omega, fun h3 h0 => by obtain ⟨i, hi, e⟩ := List.getElem_of_mem h0; exact hgood i (by omega) (by simp [List.getD, hi, e])⟩, hf1⟩
                              ·
                                refine Sl.nil ?_
                                refine At.weak [(1, _), (3, _), (163, _), (170, _)] ⟨rfl, rfl, rfl, rfl, trivial⟩ ?_
                                refine At.go ?_
                                refine Sc.cond_f rfl ?_
                                refine Sc.skip ?_
                                refine At.block_normal ?_
                                refine At.go ?_
                                refine Sc.region ?_
                                refine Sl.calm (Cm.move rfl) rfl ?_
                                refine Sl.calm (Cm.add64 rfl rfl (by omega)) rfl ?_
                                refine Sl.calm (Cm.assign rfl) rfl ?_
                                refine Sl.nil ?_
                                refine At.again (k + 1) ⟨rfl, rfl, trivial⟩ ?_ (by show T.length - (k + 1) < T.length - k; omega)
                                refine ⟨by omega, fun i hi => ?_, rfl⟩
                                by_cases hik : i = k
                                · subst hik; intro e; exact h170 (by rw [show ((i : Int)).toNat = i from rfl, e]; rfl)
                                · exact hgood i (by omega)
                            ·
                              refine Sl.nil ?_
                              refine At.weak [(1, _), (3, _), (163, _)] ⟨rfl, rfl, rfl, trivial⟩ ?_
                              refine At.go ?_
                              refine Sc.cond_f rfl ?_
                              refine Sc.exit ?_
                              refine At.then_exit ?_
                              refine At.then_exit ?_
                              refine At.block_hit ?_
                              refine At.go ?_
                              refine Sc.seq ?_
                              refine Sc.region ?_
                              refine Sl.calm (Cm.field fld33_10 rfl) rfl ?_
                              refine Sl.calm (Cm.ld sca9 rfl (cellF hg1 rfl)) rfl ?_
                              refine Sl.calm (Cm.lenBs ty9 rfl) rfl ?_
                              refine Sl.fork (Cm.geq rfl rfl) rfl (fun h174 => ?_) (fun h174 => ?_)
                              ·
                                refine Sl.calm (Cm.move rfl) rfl ?_
                                refine Sl.want rfl rfl (Cm.field fld33_10 rfl) rfl ?_
                                refine Sl.want rfl rfl (Cm.ld sca9 rfl (cellF hg1 rfl)) rfl ?_
                                refine Sl.want rfl rfl (Cm.lenBs ty9 rfl) rfl ?_
                                refine Sl.forkWant rfl rfl (Cm.leq rfl rfl) rfl (fun h179 => ?_) (fun h179 => ?_)
                                ·
                                  refine Sl.calm (Cm.pick_t rfl rfl) rfl ?_
                                  refine Sl.calm (Cm.move rfl) rfl ?_
                                  refine Sl.want rfl rfl (Cm.field fld33_6 rfl) rfl ?_
                                  refine Sl.want rfl rfl (Cm.ld sca3 rfl (cellF hg1 rfl)) rfl ?_
                                  refine Sl.forkWant rfl rfl (Cm.eql rfl rfl) rfl (fun h184 => ?_) (fun h184 => ?_)
                                  ·
                                    refine Sl.calm (Cm.pick_t rfl rfl) rfl ?_
                                    refine Sl.calm (Cm.move rfl) rfl ?_
                                    refine Sl.want rfl rfl (Cm.field fld33_7 rfl) rfl ?_
                                    refine Sl.want rfl rfl (Cm.ld sca3 rfl (cellF hg1 rfl)) rfl ?_
                                    refine Sl.forkWant rfl rfl (Cm.eql rfl rfl) rfl (fun h189 => ?_) (fun h189 => ?_)
                                    ·
                                      refine Sl.calm (Cm.pick_t rfl rfl) rfl ?_
                                      refine Sl.calm (Cm.move rfl) rfl ?_
                                      refine Sl.want rfl rfl (Cm.field fld33_8 rfl) rfl ?_
                                      refine Sl.want rfl rfl (Cm.ld sca3 rfl (cellF hg1 rfl)) rfl ?_
                                      refine Sl.forkWant rfl rfl (Cm.eql rfl rfl) rfl (fun h194 => ?_) (fun h194 => ?_)
                                      ·
                                        refine Sl.calm (Cm.pick_t rfl rfl) rfl ?_
                                        refine Sl.calm (Cm.move rfl) rfl ?_
                                        refine Sl.want rfl rfl (Cm.field fld33_9 rfl) rfl ?_
                                        refine Sl.want rfl rfl (Cm.ld sca3 rfl (cellF hg1 rfl)) rfl ?_
                                        refine Sl.forkWant rfl rfl (Cm.eql rfl rfl) rfl (fun h199 => ?_) (fun h199 => ?_)
                                        ·
                                          refine Sl.calm (Cm.pick_t rfl rfl) rfl ?_
                                          refine Sl.calm (Cm.assign rfl) rfl ?_
                                          refine Sl.nil ?_
                                          refine At.weak [(1, _), (2, _), (3, _), (163, _)] ⟨rfl, rfl, rfl, rfl, trivial⟩ ?_
                                          refine At.go ?_
                                          refine Sc.ret ?_
                                          refine At.block_ret ?_
                                          refine At.then_ret ?_
                                          refine At.ret1 rfl rfl ?_
                                          first
                                            | exact ⟨_, rfl, notD (fun h => by have := h.1; unfold mayA at this; omega), hf1⟩
                                            | exact ⟨_, rfl, notD (fun h => by have := h.1; unfold mayA at this; omega), hf1.draws 1⟩
                                            | exact ⟨_, rfl, yesD ⟨by unfold mayA; omega, fun h3 => by omega⟩, hf1⟩
                                            | exact ⟨_, rfl, yesD ⟨by unfold mayA; omega, fun h3 => by omega⟩, hf1.draws 1⟩
                                            | exact ⟨_, rfl, notD (fun h => h.2 (by omega) hnul), hf1⟩
                                            | exact ⟨_, rfl, yesD ⟨by unfold mayA; omega, fun h3 h0 => by obtain ⟨i, hi, e⟩ := List.getElem_of_mem h0; exact hgood i (by omega) (by simp [List.getD, hi, e])⟩, hf1⟩
                                        ·
                                          refine Sl.calm (Cm.pick_t rfl rfl) rfl ?_
                                          refine Sl.calm (Cm.assign rfl) rfl ?_
                                          refine Sl.nil ?_
                                          refine At.weak [(1, _), (2, _), (3, _), (163, _)] ⟨rfl, rfl, rfl, rfl, trivial⟩ ?_
                                          refine At.go ?_
                                          refine Sc.ret ?_
                                          refine At.block_ret ?_
                                          refine At.then_ret ?_
                                          refine At.ret1 rfl rfl ?_
                                          first
                                            | exact ⟨_, rfl, notD (fun h => by have := h.1; unfold mayA at this; omega), hf1⟩
                                            | exact ⟨_, rfl, notD (fun h => by have := h.1; unfold mayA at this; omega), hf1.draws 1⟩
                                            | exact ⟨_, rfl, yesD ⟨by unfold mayA; omega, fun h3 => by omega⟩, hf1⟩
                                            | exact ⟨_, rfl, yesD ⟨by unfold mayA; omega, fun h3 => by omega⟩, hf1.draws 1⟩
                                            | exact ⟨_, rfl, notD (fun h => h.2 (by omega) hnul), hf1⟩
                                            | exact ⟨_, rfl, yesD ⟨by unfold mayA; omega, fun h3 h0 => by obtain ⟨i, hi, e⟩ := List.getElem_of_mem h0; exact hgood i (by omega) (by simp [List.getD, hi, e])⟩, hf1⟩
                                      ·
                                        refine Sl.calm (Cm.pick_t rfl rfl) rfl ?_
                                        refine Sl.calm (Cm.move rfl) rfl ?_
                                        refine Sl.skip rfl rfl rfl rfl ?_
                                        refine Sl.skip rfl rfl rfl rfl ?_
                                        refine Sl.skip rfl rfl rfl rfl ?_
                                        refine Sl.calm (Cm.pick_f rfl rfl) rfl ?_
                                        refine Sl.calm (Cm.assign rfl) rfl ?_
                                        refine Sl.nil ?_
                                        refine At.weak [(1, _), (2, _), (3, _), (163, _)] ⟨rfl, rfl, rfl, rfl, trivial⟩ ?_
                                        refine At.go ?_
                                        refine Sc.ret ?_
                                        refine At.block_ret ?_
                                        refine At.then_ret ?_
                                        refine At.ret1 rfl rfl ?_
                                        first
                                          | exact ⟨_, rfl, notD (fun h => by have := h.1; unfold mayA at this; omega), hf1⟩
                                          | exact ⟨_, rfl, notD (fun h => by have := h.1; unfold mayA at this; omega), hf1.draws 1⟩
                                          | exact ⟨_, rfl, yesD ⟨by unfold mayA; omega, fun h3 => by omega⟩, hf1⟩
                                          | exact ⟨_, rfl, yesD ⟨by unfold mayA; omega, fun h3 => by omega⟩, hf1.draws 1⟩
                                          | exact ⟨_, rfl, notD (fun h => h.2 (by omega) hnul), hf1⟩
                                          | exact ⟨_, rfl, yesD ⟨by unfold mayA; omega, fun h3 h0 => by obtain ⟨i, hi, e⟩ := List.getElem_of_mem h0; exact hgood i (by omega) (by simp [List.getD, hi, e])⟩, hf1⟩
                                    ·
                                      refine Sl.calm (Cm.pick_t rfl rfl) rfl ?_
                                      refine Sl.calm (Cm.move rfl) rfl ?_
                                      refine Sl.skip rfl rfl rfl rfl ?_
                                      refine Sl.skip rfl rfl rfl rfl ?_
                                      refine Sl.skip rfl rfl rfl rfl ?_
                                      refine Sl.calm (Cm.pick_f rfl rfl) rfl ?_
                                      refine Sl.calm (Cm.move rfl) rfl ?_
                                      refine Sl.skip rfl rfl rfl rfl ?_
                                      refine Sl.skip rfl rfl rfl rfl ?_
                                      refine Sl.skip rfl rfl rfl rfl ?_
                                      refine Sl.calm (Cm.pick_f rfl rfl) rfl ?_
                                      refine Sl.calm (Cm.assign rfl) rfl ?_
                                      refine Sl.nil ?_
                                      refine At.weak [(1, _), (2, _), (3, _), (163, _)] ⟨rfl, rfl, rfl, rfl, trivial⟩ ?_
                                      refine At.go ?_
                                      refine Sc.ret ?_
                                      refine At.block_ret ?_
                                      refine At.then_ret ?_
                                      refine At.ret1 rfl rfl ?_
                                      first
                                        | exact ⟨_, rfl, notD (fun h => by have := h.1; unfold mayA at this; omega), hf1⟩
                                        | exact ⟨_, rfl, notD (fun h => by have := h.1; unfold mayA at this; omega), hf1.draws 1⟩
                                        | exact ⟨_, rfl, yesD ⟨by unfold mayA; omega, fun h3 => by omega⟩, hf1⟩
                                        | exact ⟨_, rfl, yesD ⟨by unfold mayA; omega, fun h3 => by omega⟩, hf1.draws 1⟩
                                        | exact ⟨_, rfl, notD (fun h => h.2 (by omega) hnul), hf1⟩
                                        | exact ⟨_, rfl, yesD ⟨by unfold mayA; omega, fun h3 h0 => by obtain ⟨i, hi, e⟩ := List.getElem_of_mem h0; exact hgood i (by omega) (by simp [List.getD, hi, e])⟩, hf1⟩
                                  ·
                                    refine Sl.calm (Cm.pick_t rfl rfl) rfl ?_
                                    refine Sl.calm (Cm.move rfl) rfl ?_
                                    refine Sl.skip rfl rfl rfl rfl ?_
                                    refine Sl.skip rfl rfl rfl rfl ?_
                                    refine Sl.skip rfl rfl rfl rfl ?_
                                    refine Sl.calm (Cm.pick_f rfl rfl) rfl ?_
                                    refine Sl.calm (Cm.move rfl) rfl ?_
                                    refine Sl.skip rfl rfl rfl rfl ?_
                                    refine Sl.skip rfl rfl rfl rfl ?_
                                    refine Sl.skip rfl rfl rfl rfl ?_
                                    refine Sl.calm (Cm.pick_f rfl rfl) rfl ?_
                                    refine Sl.calm (Cm.move rfl) rfl ?_
                                    refine Sl.skip rfl rfl rfl rfl ?_
                                    refine Sl.skip rfl rfl rfl rfl ?_
                                    refine Sl.skip rfl rfl rfl rfl ?_
                                    refine Sl.calm (Cm.pick_f rfl rfl) rfl ?_
                                    refine Sl.calm (Cm.assign rfl) rfl ?_
                                    refine Sl.nil ?_
                                    refine At.weak [(1, _), (2, _), (3, _), (163, _)] ⟨rfl, rfl, rfl, rfl, trivial⟩ ?_
                                    refine At.go ?_
                                    refine Sc.ret ?_
                                    refine At.block_ret ?_
                                    refine At.then_ret ?_
                                    refine At.ret1 rfl rfl ?_
                                    first
                                      | exact ⟨_, rfl, notD (fun h => by have := h.1; unfold mayA at this; omega), hf1⟩
                                      | exact ⟨_, rfl, notD (fun h => by have := h.1; unfold mayA at this; omega), hf1.draws 1⟩
                                      | exact ⟨_, rfl, yesD ⟨by unfold mayA; omega, fun h3 => by omega⟩, hf1⟩
                                      | exact ⟨_, rfl, yesD ⟨by unfold mayA; omega, fun h3 => by omega⟩, hf1.draws 1⟩
                                      | exact ⟨_, rfl, notD (fun h => h.2 (by omega) hnul), hf1⟩
                                      | exact ⟨_, rfl, yesD ⟨by unfold mayA; omega, fun h3 h0 => by obtain ⟨i, hi, e⟩ := List.getElem_of_mem h0; exact hgood i (by omega) (by simp [List.getD, hi, e])⟩, hf1⟩
                                ·
                                  refine Sl.calm (Cm.pick_t rfl rfl) rfl ?_
                                  refine Sl.calm (Cm.move rfl) rfl ?_
                                  refine Sl.skip rfl rfl rfl rfl ?_
                                  refine Sl.skip rfl rfl rfl rfl ?_
                                  refine Sl.skip rfl rfl rfl rfl ?_
                                  refine Sl.calm (Cm.pick_f rfl rfl) rfl ?_
                                  refine Sl.calm (Cm.move rfl) rfl ?_
                                  refine Sl.skip rfl rfl rfl rfl ?_
                                  refine Sl.skip rfl rfl rfl rfl ?_
                                  refine Sl.skip rfl rfl rfl rfl ?_
                                  refine Sl.calm (Cm.pick_f rfl rfl) rfl ?_
                                  refine Sl.calm (Cm.move rfl) rfl ?_
                                  refine Sl.skip rfl rfl rfl rfl ?_
                                  refine Sl.skip rfl rfl rfl rfl ?_
                                  refine Sl.skip rfl rfl rfl rfl ?_
                                  refine Sl.calm (Cm.pick_f rfl rfl) rfl ?_
                                  refine Sl.calm (Cm.move rfl) rfl ?_
                                  refine Sl.skip rfl rfl rfl rfl ?_
                                  refine Sl.skip rfl rfl rfl rfl ?_
                                  refine Sl.skip rfl rfl rfl rfl ?_
                                  refine Sl.calm (Cm.pick_f rfl rfl) rfl ?_
                                  refine Sl.calm (Cm.assign rfl) rfl ?_
                                  refine Sl.nil ?_
                                  refine At.weak [(1, _), (2, _), (3, _), (163, _)] ⟨rfl, rfl, rfl, rfl, trivial⟩ ?_
                                  refine At.go ?_
                                  refine Sc.ret ?_
                                  refine At.block_ret ?_
                                  refine At.then_ret ?_
                                  refine At.ret1 rfl rfl ?_
                                  first
                                    | exact ⟨_, rfl, notD (fun h => by have := h.1; unfold mayA at this; omega), hf1⟩
                                    | exact ⟨_, rfl, notD (fun h => by have := h.1; unfold mayA at this; omega), hf1.draws 1⟩
                                    | exact ⟨_, rfl, yesD ⟨by unfold mayA; omega, fun h3 => by omega⟩, hf1⟩
                                    | exact ⟨_, rfl, yesD ⟨by unfold mayA; omega, fun h3 => by omega⟩, hf1.draws 1⟩
                                    | exact ⟨_, rfl, notD (fun h => h.2 (by omega) hnul), hf1⟩
                                    | exact ⟨_, rfl, yesD ⟨by unfold mayA; omega, fun h3 h0 => by obtain ⟨i, hi, e⟩ := List.getElem_of_mem h0; exact hgood i (by omega) (by simp [List.getD, hi, e])⟩, hf1⟩
                              ·
                                refine Sl.calm (Cm.move rfl) rfl ?_
                                refine Sl.skip rfl rfl rfl rfl ?_
                                refine Sl.skip rfl rfl rfl rfl ?_
                                refine Sl.skip rfl rfl rfl rfl ?_
                                refine Sl.skip rfl rfl rfl rfl ?_
                                refine Sl.calm (Cm.pick_f rfl rfl) rfl ?_
                                refine Sl.calm (Cm.move rfl) rfl ?_
                                refine Sl.skip rfl rfl rfl rfl ?_
                                refine Sl.skip rfl rfl rfl rfl ?_
                                refine Sl.skip rfl rfl rfl rfl ?_
                                refine Sl.calm (Cm.pick_f rfl rfl) rfl ?_
                                refine Sl.calm (Cm.move rfl) rfl ?_
                                refine Sl.skip rfl rfl rfl rfl ?_
                                refine Sl.skip rfl rfl rfl rfl ?_
                                refine Sl.skip rfl rfl rfl rfl ?_
                                refine Sl.calm (Cm.pick_f rfl rfl) rfl ?_
                                refine Sl.calm (Cm.move rfl) rfl ?_
                                refine Sl.skip rfl rfl rfl rfl ?_
                                refine Sl.skip rfl rfl rfl rfl ?_
                                refine Sl.skip rfl rfl rfl rfl ?_
                                refine Sl.calm (Cm.pick_f rfl rfl) rfl ?_
                                refine Sl.calm (Cm.move rfl) rfl ?_
                                refine Sl.skip rfl rfl rfl rfl ?_
                                refine Sl.skip rfl rfl rfl rfl ?_
                                refine Sl.skip rfl rfl rfl rfl ?_
                                refine Sl.calm (Cm.pick_f rfl rfl) rfl ?_
                                refine Sl.calm (Cm.assign rfl) rfl ?_
                                refine Sl.nil ?_
                                refine At.weak [(1, _), (2, _), (3, _), (163, _)] ⟨rfl, rfl, rfl, rfl, trivial⟩ ?_
                                refine At.go ?_
                                refine Sc.ret ?_
                                refine At.block_ret ?_
                                refine At.then_ret ?_
                                refine At.ret1 rfl rfl ?_
                                first
                                  | exact ⟨_, rfl, notD (fun h => by have := h.1; unfold mayA at this; omega), hf1⟩
                                  | exact ⟨_, rfl, notD (fun h => by have := h.1; unfold mayA at this; omega), hf1.draws 1⟩
                                  | exact ⟨_, rfl, yesD ⟨by unfold mayA; omega, fun h3 => by omega⟩, hf1⟩
                                  | exact ⟨_, rfl, yesD ⟨by unfold mayA; omega, fun h3 => by omega⟩, hf1.draws 1⟩
                                  | exact ⟨_, rfl, notD (fun h => h.2 (by omega) hnul), hf1⟩
                                  | exact ⟨_, rfl, yesD ⟨by unfold mayA; omega, fun h3 h0 => by obtain ⟨i, hi, e⟩ := List.getElem_of_mem h0; exact hgood i (by omega) (by simp [List.getD, hi, e])⟩, hf1⟩
                          ·
                            refine Sl.calm (Cm.assign rfl) rfl ?_
                            refine Sl.nil ?_
                            refine At.weak [(0, _), (1, _), (2, _), (51, _), (53, _), (54, _), (117, _), (157, _)] ⟨rfl, rfl, rfl, rfl, rfl, rfl, rfl, rfl, trivial⟩ ?_
                            refine At.go ?_
                            refine Sc.cond_f rfl ?_
                            refine Sc.skip ?_
                            refine At.block_normal ?_
                            refine At.go ?_
                            refine Sc.seq ?_
                            refine Sc.region ?_
                            refine Sl.calm (Cm.assign rfl) rfl ?_
                            refine Sl.nil ?_
                            refine At.go ?_
                            refine Sc.ret ?_
                            refine At.ret1 rfl rfl ?_
                            first
                              | exact ⟨_, rfl, notD (fun h => by have := h.1; unfold mayA at this; omega), hf1⟩
                              | exact ⟨_, rfl, notD (fun h => by have := h.1; unfold mayA at this; omega), hf1.draws 1⟩
                              | exact ⟨_, rfl, yesD ⟨by unfold mayA; omega, fun h3 => by omega⟩, hf1⟩
                              | exact ⟨_, rfl, yesD ⟨by unfold mayA; omega, fun h3 => by omega⟩, hf1.draws 1⟩
                              | exact ⟨_, rfl, notD (fun h => h.2 (by omega) hnul), hf1⟩
                              | exact ⟨_, rfl, yesD ⟨by unfold mayA; omega, fun h3 h0 => by obtain ⟨i, hi, e⟩ := List.getElem_of_mem h0; exact hgood i (by omega) (by simp [List.getD, hi, e])⟩, hf1⟩
end Go.Proofs.Ytoaplldahbbaiaa
/- inode: Put, the program's and the reference's. No condition. -/
namespace Go.Proofs.Ytoaplldahbbaiaa
open Go Go.RowKit
set_option linter.unusedVariables false

def putF (F : Nat → Int) (s : Int × List UInt8) (x : Fd) : Int × List UInt8 := putNum x.b s (F x.o)
def rSt (F : Nat → Int) (k : Nat) : Int × List UInt8 := ((recL (F 0)).take k).foldl (putF F) (putNum 1 (0, []) (F 0))
def rEnd (F : Nat → Int) (T : List UInt8) : Int × List UInt8 := if F 0 = 3 then txtS (rSt F (recL (F 0)).length) T else rSt F (recL (F 0)).length
def putI (F : Nat → Int) (T : List UInt8) : List UInt8 × Int := if mayI F T then ((rEnd F T).2, 0) else ([], 1)
theorem rSt_succ (F : Nat → Int) (k : Nat) (h : k < (recL (F 0)).length) : rSt F (k + 1) = putF F (rSt F k) ((recL (F 0)).getD k fd0) := by
  unfold rSt
  rw [fd_off h, List.foldl_append]; rfl
theorem putNum_good {s : Int × List UInt8} {z n : Int} (h : s.1 = 0) (hb : ¬ badN z n) : (putNum n s z).1 = 0 ∧ (putNum n s z).2 = s.2 ++ le z n.toNat := by
  have h1 : numE s.1 z n = 0 := by rw [numE_of_good hb, h]
  exact ⟨h1, numX_good h1⟩
theorem fit_good {z n m : Int} (h1 : 1 ≤ n) (h4 : n ≤ 4) (h0 : 0 ≤ z) (hm : z ≤ m) (hb : m < 2 ^ (8 * n).toNat) : ¬ badN z n := by
  unfold badN
  have h2 : z / 2 ^ (8 * n).toNat = 0 := Int.ediv_eq_zero_of_lt h0 (by omega)
  rw [h2]; omega
theorem may_kind {F : Nat → Int} {T : List UInt8} (h : mayI F T) : F 0 = 1 ∨ F 0 = 2 ∨ F 0 = 3 := by
  have := h.1; unfold mayA at this; omega
theorem rSt_good {F : Nat → Int} {T : List UInt8} (h : mayI F T) : ∀ k, k ≤ (recL (F 0)).length → (rSt F k).1 = 0 ∧ (rSt F k).2.length = 1 + (((recL (F 0)).take k).map (fun x => x.b.toNat)).sum
  | 0, _ => by
    have hk := may_kind h
    obtain ⟨a, b⟩ := putNum_good (s := (0, [])) (z := F 0) (n := 1) rfl (fit_good (m := 3) (by decide) (by decide) (by omega) (by omega) (by decide))
    exact ⟨a, by show (putNum 1 (0, []) (F 0)).2.length = _; rw [b, List.length_append, le_length]; rfl⟩
  | k + 1, hk => by
    obtain ⟨h1, h2⟩ := rSt_good h k (by omega)
    have hm := recL_at (k := F 0) (i := k) (by omega)
    obtain ⟨_, b1, b4, m0, mb⟩ := recL_off hm
    have ho := rec_may h _ hm
    obtain ⟨a, b⟩ := putNum_good (s := rSt F k) (z := F ((recL (F 0)).getD k fd0).o) (n := ((recL (F 0)).getD k fd0).b) h1 (fit_good b1 b4 ho.1 ho.2 mb)
    rw [rSt_succ F k (by omega)]
    refine ⟨a, ?_⟩
    show (putNum _ _ _).2.length = _
    rw [b, List.length_append, le_length, fd_off (by omega), List.map_append, List.sum_append, h2]
    simp; omega
theorem sum_le (F : Nat → Int) (k : Nat) : (((recL (F 0)).take k).map (fun x => x.b.toNat)).sum ≤ 36 := by
  have h1 : ∀ (L : List Fd), (∀ x ∈ L, x.b.toNat ≤ 4) → (L.map (fun x => x.b.toNat)).sum ≤ 4 * L.length := by
    intro L
    induction L with
    | nil => intro _; simp
    | cons x r ih => intro h; have := ih (fun y hy => h y (by simp [hy])); have := h x (by simp); simp only [List.map_cons, List.sum_cons, List.length_cons]; omega
  have h2 := h1 ((recL (F 0)).take k) (fun x hx => by have := recL_off (List.mem_of_mem_take hx); omega)
  have h3 := recL_len (F 0)
  rw [List.length_take] at h2
  omega
theorem rEnd_good {F : Nat → Int} {T : List UInt8} (h : mayI F T) : (rEnd F T).1 = 0 := by
  obtain ⟨h1, h2⟩ := rSt_good h _ (Nat.le_refl _)
  unfold rEnd
  split
  · rename_i h3
    have := h.1; unfold mayA at this
    exact (txtS_good h1 (by omega)).1
  · exact h1

set_option maxHeartbeats 2000000 in
theorem put_ok (F : Nat → Int) (T : List UInt8) (W : World) (hT : T.length ≤ maxLen) :
    Calls Try.prog 21 [.agg (inoC F T).toArray].toArray W (Ret (PutP W (putI F T))) := by
  refine calls_of_sc 41 [(0, _)] Try.func21 rfl rfl rfl (enter_slots ⟨rfl, trivial⟩) ?_
  refine Sc.seq ?_
  refine Sc.region ?_
  refine Sl.box rfl rfl ?_
  intro w1 hg1 hs1 hf1
  have hg1 : w1.heap[W.heap.size]? = some (.cells (inoC F T).toArray 33 (0, 0)) := hg1
  refine Sl.calm (Cm.assign rfl) rfl ?_
  refine Sl.calm (Cm.assign rfl) rfl ?_
  refine Sl.nil ?_
  refine At.go ?_
  refine Sc.seq ?_
  refine Sc.seq ?_
  refine Sc.region ?_
  refine Sl.calm (Cm.ldM (cs := inoC F T) agg33 rfl (fun j v hj => cellF hg1 hj)) rfl ?_
  refine Sl.call fn23 rfl (may_ok F T w1 hT) rfl ?_
  rintro _ w2 ⟨rfl, hf2⟩
  refine Sl.fork (Cm.notB rfl) rfl (fun h9 => ?_) (fun h9 => ?_)
  ·
    have hm : ¬ mayI F T := of_decide_eq_false h9
    refine Sl.nil ?_
    refine At.weak [(0, _), (1, _), (2, _), (3, _), (9, _)] ⟨rfl, rfl, rfl, rfl, rfl, trivial⟩ ?_
    refine At.go ?_
    refine Sc.cond_t rfl ?_
    refine Sc.seq ?_
    refine Sc.region ?_
    refine Sl.calm (Cm.assign rfl) rfl ?_
    refine Sl.calm (Cm.assign rfl) rfl ?_
    refine Sl.nil ?_
    refine At.go ?_
    refine Sc.ret ?_
    refine At.then_ret ?_
    refine At.ret2 rfl rfl rfl ?_
    have e : putI F T = ([], 1) := by unfold putI; rw [if_neg hm]
    rw [e]
    exact ⟨_, rfl, none, 0, rfl, Own.nil, Fr.none, hf1.trans hf2⟩
  ·
    have hm : mayI F T := Classical.byContradiction fun h => h9 (decide_eq_false h)
    have hlen := rSt_good hm
    have hp2 := hf2.obj hg1 id
    have hF2 := hf1.trans hf2
    have hlt2 : W.heap.size < w2.heap.size := by have := hf2.size; omega
    refine Sl.nil ?_
    refine At.weak [(0, _), (1, _), (2, _), (3, _), (9, _)] ⟨rfl, rfl, rfl, rfl, rfl, trivial⟩ ?_
    refine At.go ?_
    refine Sc.cond_f rfl ?_
    refine Sc.skip ?_
    refine At.go ?_
    refine Sc.seq ?_
    refine Sc.region ?_
    refine Sl.allocC zc87 rfl ?_
    intro w3 hg3 hs3 hf3
    have hp3 := hf3.obj hp2 id
    refine Sl.nil ?_
    refine At.go ?_
    refine Sc.seq ?_
    refine Sc.region ?_
    refine Sl.calm (Cm.field fld33_0 rfl) rfl ?_
    refine Sl.calm (Cm.ld sca3 rfl (cellF hp3 rfl)) rfl ?_
    refine Sl.call fn43 rfl (num_ok (fun k => w2.heap.size ≤ k) w2.heap.size 0 [] (F 0) 1 w3 (WrO.zeroL hg3 (Nat.le_refl _)) (hf_lt hf3 (fun k hk => hk)) (by simp)) rfl ?_
    rintro _ w4 ⟨hP4, hf4⟩
    have hp4 := hf4.obj hp3 (by omega)
    have hF4 : Foot nob w2 w4 := (hf3.any.trans hf4).fresh (fun k hk => hk)
    have hP4 : WrL (fun k => w2.heap.size ≤ k) w4.heap w2.heap.size (rSt F 0).1 (rSt F 0).2 := hP4
    refine Sl.nil ?_
    refine At.weak [(0, _), (1, _), (2, _), (3, _), (4, _), (9, _)] ⟨rfl, rfl, rfl, rfl, rfl, rfl, trivial⟩ ?_
    refine At.go ?_
    refine Sc.seq ?_
    refine Sc.seq ?_
    refine Sc.draw 7 (fun H => H[W.heap.size]? = some (.cells (inoC F T).toArray 33 (0, 0))) [0, 3, 4] [1, 2, 6, 0, 3, 4, 5] mixed (by kernel_rfl) (hp4) ?_
    refine Sx.calm rfl rfl (Cm.field fld33_0 rfl) rfl ?_
    refine Sx.calm rfl rfl (Cm.load sca3 rfl (fun H hH => cellF hH rfl)) rfl ?_
    refine Sx.calm rfl rfl (Cm.move rfl) rfl ?_
    refine Sx.eff rfl rfl (Sl.call fn52 rfl (common_ok _) rfl ?_)
    rintro _ w5 ⟨ao2, c2, rfl, ho2, hfr2, hf5⟩
    refine Sx.on (by exact hf5.obj hp4 id) ?_
    refine Sx.eff rfl rfl (Sl.call fn53 rfl (fields_ok (F 0) w5) rfl ?_)
    rintro _ w6 ⟨ao3, c3, rfl, ho3, hfr3, hf6⟩
    refine Sx.on (by exact hf6.obj (hf5.obj hp4 id) id) ?_
    refine Sx.eff rfl rfl (Sl.appendM fdV_cells rfl sl94 rfl rfl (ho2.grow hf6) (ho3.vw fdV_cells) (by have := recL_len (F 0); unfold recL at this; rw [List.length_append] at this; omega) (by have := recL_len (F 0); unfold recL at this; rw [List.length_append] at this; unfold maxLen; omega) rfl ?_)
    intro ao4 c4 w7 ho4 hf7 hr4 hn4
    have hfr2 : Fr w4.heap.size ao2 := hfr2
    have hlt4 := hF4.size
    have hp7 := hf7.obj (hf6.obj (hf5.obj hp4 id) id) (fun ⟨a, ha, hb⟩ => by have := hfr2 a ha; omega)
    have hF47 : Foot nob w4 w7 := (hf5.undraw.trans hf6).trans_to hf7 hfr2.step
    have hP7 := hP4.shrink hF47
    have hne4 : ∀ a, ao4 = some a → w4.heap.size ≤ a.block ∧ a.block < w7.heap.size := fun a ha => ⟨by rcases hr4 a ha with h | h; exact hfr2 a h; have := hf5.undraw.size; have := hf6.size; omega, ho4.lt a ha⟩
    have hL7 : VwM 3 fdV w7.heap ao4 c4 (recL (F 0)) := ho4.vw fdV_cells
    have hLlen := recL_len (F 0)
    refine Sx.on (by exact hp7) ?_
    refine Sx.calm rfl rfl (Cm.len sl94 rfl) rfl ?_
    refine Sx.nil ?_
    refine At.weak [(0, _), (1, _), (2, _), (3, _), (4, _), (9, _), (17, _), (18, _), (19, _)] ⟨rfl, rfl, rfl, rfl, rfl, rfl, rfl, rfl, rfl, trivial⟩ ?_
    refine At.go ?_
    refine Sc.block ?_
    refine Sc.loop (β := Nat) (fun k => [(1, .pointer (some ⟨W.heap.size, 0, none⟩)), (4, .pointer (some ⟨w2.heap.size, 0, none⟩)), (17, .slice ao4 (recL (F 0)).length c4), (18, .int .i64 (recL (F 0)).length), (19, .int .i64 k)]) (fun k w => k ≤ (recL (F 0)).length ∧ WrL (fun k => w2.heap.size ≤ k ∧ (k < w4.heap.size ∨ w7.heap.size ≤ k)) w.heap w2.heap.size (rSt F k).1 (rSt F k).2 ∧ VwM 3 fdV w.heap ao4 c4 (recL (F 0)) ∧ w.heap[W.heap.size]? = some (.cells (inoC F T).toArray 33 (0, 0)) ∧ w7.heap.size ≤ w.heap.size ∧ w2.heap.size ≤ w.heap.size ∧ Foot nob W w) (fun k => (recL (F 0)).length - k) 0 ⟨rfl, rfl, rfl, rfl, rfl, trivial⟩ ⟨Nat.zero_le _, hP7, hL7, hp7, Nat.le_refl _, by have := hF47.size; omega, (hF2.trans hF4).trans hF47⟩ ?_
    rintro k w8 ⟨hk, hP8, hL, hp8, hlt8, hlt82, hF8⟩
    refine Sc.seq ?_
    refine Sc.region ?_
    refine Sl.fork (Cm.lss rfl rfl) rfl (fun h20 => ?_) (fun h20 => ?_)
    ·
      refine Sl.nil ?_
      refine At.go ?_
      refine Sc.seq ?_
      refine Sc.cond_t rfl ?_
      refine Sc.skip ?_
      refine At.go ?_
      refine Sc.seq ?_
      refine Sc.block ?_
      refine Sc.seq ?_
      refine Sc.region ?_
      have hkL : k < (recL (F 0)).length := by omega
      have hrow := fd_row hL (k := k) rfl hkL
      have hmem := recL_at hkL
      obtain ⟨⟨hfn, ho10, ho0, hcall⟩, hb1, hb4, hm0, hmb⟩ := recL_off hmem
      obtain ⟨x, hx⟩ : ∃ x, x = (recL (F 0)).getD k fd0 := ⟨_, rfl⟩
      rw [← hx] at hrow hmem hfn ho10 ho0 hcall hb1 hb4 hm0
      refine Sl.calm (Cm.indexAddr sl94 rfl rfl hL.non (by omega)) rfl ?_
      refine Sl.calm (Cm.ldM (cs := fdV x) agg99 rfl hrow) rfl ?_
      refine Sl.allocC zc99 rfl ?_
      intro w9 hg9 hs9 hf9
      refine Sl.storeAll (vs := fdV x) agg99 rfl rfl (by simp [fdV, Value.oneCell']) hg9 rfl ?_
      intro w10 hg10 hs10 hf10
      have hF10 : Foot nob w8 w10 := hf9.trans_to hf10 (fun k hk => .inr (by omega))
      have hp10 := hF10.obj hp8 id
      have hP10 := hP8.shrink hF10
      have hF10s := hF10.size
      obtain ⟨z1, z2⟩ := hlen k hk
      have z3 := sum_le F k
      refine Sl.nil ?_
      refine At.weak [(1, _), (4, _), (6, _), (17, _), (18, _), (19, _), (20, _)] ⟨rfl, rfl, rfl, rfl, rfl, rfl, rfl, trivial⟩ ?_
      refine At.go ?_
      refine Sc.draw 7 (fun H => H[W.heap.size]? = some (.cells (inoC F T).toArray 33 (0, 0)) ∧ H[w8.heap.size]? = some (.cells (fdV x).toArray 99 (0, 0))) [2, 7] [0, 1, 5, 6, 2, 3, 4, 7] mixed (by kernel_rfl) (⟨hp10, hg10⟩) ?_
      refine Sx.calm rfl rfl (Cm.field fld99_0 rfl) rfl ?_
      refine Sx.calm rfl rfl (Cm.load sca97 rfl (fun H hH => cellF hH.2 rfl)) rfl ?_
      refine Sx.calm rfl rfl (Cm.field fld99_1 rfl) rfl ?_
      refine Sx.calm rfl rfl (Cm.load sca3 rfl (fun H hH => cellF hH.2 rfl)) rfl ?_
      refine Sx.eff rfl rfl (Sl.callV hfn rfl rfl (hcall W.heap.size _) rfl ?_)
      rintro _ w9b ⟨rfl, hw9⟩
      subst w9b
      refine Sx.on (by exact ⟨hp10, hg10⟩) ?_
      refine Sx.calm rfl rfl (Cm.nilCheck rfl) rfl ?_
      refine Sx.calm rfl rfl (Cm.load sca3 rfl (fun H hH => cellF0 hH.1 (inoC_get F T ho10))) rfl ?_
      refine Sx.eff rfl rfl (Sl.call fn43 rfl (num_ok _ w2.heap.size _ _ (F x.o) x.b _ hP10 (fun k hk => ⟨⟨by have : w10.heap.size ≤ k := hk; omega, .inr (by have : w10.heap.size ≤ k := hk; omega)⟩, .inr hk⟩) (by omega)) rfl ?_)
      rintro _ w11 ⟨hP11, hf11⟩
      refine Sx.last rfl ?_
      refine Sx.nil ?_
      refine At.block_normal ?_
      refine At.weak [(1, _), (4, _), (6, _), (17, _), (18, _), (19, _), (20, _)] ⟨rfl, rfl, rfl, rfl, rfl, rfl, rfl, trivial⟩ ?_
      refine At.go ?_
      refine Sc.region ?_
      refine Sl.calm (Cm.add64 rfl rfl (by omega)) rfl ?_
      refine Sl.calm (Cm.move rfl) rfl ?_
      refine Sl.nil ?_
      refine At.again (k + 1) ⟨rfl, rfl, rfl, rfl, rfl, trivial⟩ ?_ (by show (recL (F 0)).length - (k + 1) < (recL (F 0)).length - k; omega)
      have hf11 := hf11.undraw
      have hs11 := hf11.size
      exact ⟨by omega, by rw [rSt_succ F k hkL, ← hx]; exact hP11.mono (fun q hq => hq.1), (hL.grow hF10).keep hf11 (fun a ha h => by have := hne4 a ha; have := h.1.2; omega), hf11.obj hp10 (fun h => by have := h.1.1; omega), by omega, by omega, ((hF8.trans hF10).any.trans hf11).fresh (fun k hk => by have := hk.1.1; omega)⟩
    ·
      refine Sl.nil ?_
      refine At.go ?_
      refine Sc.seq ?_
      refine Sc.cond_f rfl ?_
      refine Sc.exit ?_
      refine At.then_exit ?_
      refine At.then_exit ?_
      refine At.block_hit ?_
      refine At.go ?_
      refine Sc.seq ?_
      refine Sc.seq ?_
      refine Sc.region ?_
      refine Sl.calm (Cm.field fld33_0 rfl) rfl ?_
      have hkk : k = (recL (F 0)).length := by omega
      subst hkk
      have z := hlen _ (Nat.le_refl _)
      have z3 := sum_le F (recL (F 0)).length
      refine Sl.calm (Cm.ld sca3 rfl (cellF hp8 rfl)) rfl ?_
      refine Sl.fork (Cm.eql rfl rfl) rfl (fun h34 => ?_) (fun h34 => ?_)
      ·
        refine Sl.nil ?_
        refine At.weak [(1, _), (4, _), (17, _), (18, _), (19, _), (20, _), (34, _)] ⟨rfl, rfl, rfl, rfl, rfl, rfl, rfl, trivial⟩ ?_
        refine At.go ?_
        refine Sc.cond_t rfl ?_
        refine Sc.region ?_
        refine Sl.calm (Cm.field fld33_10 rfl) rfl ?_
        refine Sl.calm (Cm.ld sca9 rfl (cellF hp8 rfl)) rfl ?_
        refine Sl.call fn48 rfl (wtext_ok _ w2.heap.size _ _ T w8 hP8 (fun k hk => ⟨by omega, .inr (by omega)⟩) (by omega)) rfl ?_
        rintro _ w12 ⟨hP12, hf12⟩
        have hm3 := hm.1
        unfold mayA at hm3
        have hz := txtS_good (s := rSt F (recL (F 0)).length) (t := T) z.1 (by omega)
        have hz2 : (txtX (rSt F (recL (F 0)).length).1 (rSt F (recL (F 0)).length).2 T).length = _ := hz.2
        have hF12 : Foot nob W w12 := (hF8.any.trans hf12).fresh (fun k hk => by have := hk.1; omega)
        refine Sl.nil ?_
        refine At.weak [(1, _), (4, _), (17, _), (18, _), (19, _), (20, _), (34, _)] ⟨rfl, rfl, rfl, rfl, rfl, rfl, rfl, trivial⟩ ?_
        refine At.go ?_
        refine Sc.seq ?_
        refine Sc.region ?_
        refine Sl.call fn44 rfl (wdone_ok _ w2.heap.size _ _ w12 hP12 (by omega)) rfl ?_
        rintro _ w13 ⟨ao13, c13, rfl, ho13, hfr13, hf13⟩
        refine Sl.calm (Cm.field fld87_0 rfl) rfl ?_
        refine Sl.call fn45 rfl (err_ok _ w2.heap.size _ _ w13 (hP12.grow hf13)) rfl ?_
        rintro _ w14 ⟨rfl, hw14⟩
        subst w14
        refine Sl.calm (Cm.assign rfl) rfl ?_
        refine Sl.calm (Cm.assign rfl) rfl ?_
        refine Sl.nil ?_
        refine At.weak [(1, _), (2, _), (3, _), (4, _), (17, _), (18, _), (19, _), (20, _), (34, _)] ⟨rfl, rfl, rfl, rfl, rfl, rfl, rfl, rfl, rfl, trivial⟩ ?_
        refine At.go ?_
        refine Sc.ret ?_
        refine At.ret2 rfl rfl rfl ?_
        have eE : rEnd F T = txtS (rSt F (recL (F 0)).length) T := by unfold rEnd; rw [if_pos h34]
        have e : putI F T = (doneX (txtE (rSt F (recL (F 0)).length).1 T) (txtX (rSt F (recL (F 0)).length).1 (rSt F (recL (F 0)).length).2 T), txtE (rSt F (recL (F 0)).length).1 T) := by
          have e0 : txtE (rSt F (recL (F 0)).length).1 T = 0 := hz.1
          unfold putI doneX; rw [if_pos hm, eE, e0, if_neg (by omega)]; rfl
        rw [e]
        exact ⟨_, rfl, ao13, c13, rfl, ho13, hfr13.mono hF12.size, hF12.trans hf13⟩
      ·
        refine Sl.nil ?_
        refine At.weak [(1, _), (4, _), (17, _), (18, _), (19, _), (20, _), (34, _)] ⟨rfl, rfl, rfl, rfl, rfl, rfl, rfl, trivial⟩ ?_
        refine At.go ?_
        refine Sc.cond_f rfl ?_
        refine Sc.skip ?_
        refine At.go ?_
        refine Sc.seq ?_
        refine Sc.region ?_
        refine Sl.call fn44 rfl (wdone_ok _ w2.heap.size _ _ w8 hP8 (by omega)) rfl ?_
        rintro _ w13 ⟨ao13, c13, rfl, ho13, hfr13, hf13⟩
        refine Sl.calm (Cm.field fld87_0 rfl) rfl ?_
        refine Sl.call fn45 rfl (err_ok _ w2.heap.size _ _ w13 (hP8.grow hf13)) rfl ?_
        rintro _ w14 ⟨rfl, hw14⟩
        subst w14
        refine Sl.calm (Cm.assign rfl) rfl ?_
        refine Sl.calm (Cm.assign rfl) rfl ?_
        refine Sl.nil ?_
        refine At.weak [(1, _), (2, _), (3, _), (4, _), (17, _), (18, _), (19, _), (20, _), (34, _)] ⟨rfl, rfl, rfl, rfl, rfl, rfl, rfl, rfl, rfl, trivial⟩ ?_
        refine At.go ?_
        refine Sc.ret ?_
        refine At.ret2 rfl rfl rfl ?_
        have eE : rEnd F T = rSt F (recL (F 0)).length := by unfold rEnd; rw [if_neg h34]
        have e : putI F T = (doneX (rSt F (recL (F 0)).length).1 (rSt F (recL (F 0)).length).2, (rSt F (recL (F 0)).length).1) := by
          unfold putI doneX; rw [if_pos hm, eE, z.1, if_neg (by omega)]
        rw [e]
        exact ⟨_, rfl, ao13, c13, rfl, ho13, hfr13.mono hF8.size, hF8.trans hf13⟩

set_option maxHeartbeats 2000000 in
theorem rput_ok (F : Nat → Int) (T : List UInt8) (W : World) (hT : T.length ≤ maxLen) :
    Calls Try.prog 22 [.agg (inoC F T).toArray].toArray W (Ret (PutP W (putI F T))) := by
  refine calls_of_sc 59 [(0, _)] Try.func22 rfl rfl rfl (enter_slots ⟨rfl, trivial⟩) ?_
  refine Sc.seq ?_
  refine Sc.region ?_
  refine Sl.box rfl rfl ?_
  intro w1 hg1 hs1 hf1
  have hg1 : w1.heap[W.heap.size]? = some (.cells (inoC F T).toArray 33 (0, 0)) := hg1
  refine Sl.calm (Cm.assign rfl) rfl ?_
  refine Sl.calm (Cm.assign rfl) rfl ?_
  refine Sl.nil ?_
  refine At.go ?_
  refine Sc.seq ?_
  refine Sc.region ?_
  refine Sl.calm (Cm.ldM (cs := inoC F T) agg33 rfl (fun j v hj => cellF hg1 hj)) rfl ?_
  refine Sl.call fn24 rfl (rmay_ok F T w1 hT) rfl ?_
  rintro _ w2 ⟨rfl, hf2⟩
  refine Sl.calm (Cm.assign rfl) rfl ?_
  refine Sl.nil ?_
  refine At.weak [(0, _), (1, _), (2, _), (3, _), (4, _)] ⟨rfl, rfl, rfl, rfl, rfl, trivial⟩ ?_
  refine At.go ?_
  refine Sc.seq ?_
  refine Sc.seq ?_
  refine Sc.region ?_
  refine Sl.calm (Cm.move rfl) rfl ?_
  refine Sl.fork (Cm.notB rfl) rfl (fun h9 => ?_) (fun h9 => ?_)
  ·
    have hm : ¬ mayI F T := of_decide_eq_false h9
    refine Sl.nil ?_
    refine At.weak [(0, _), (1, _), (2, _), (3, _), (4, _), (9, _)] ⟨rfl, rfl, rfl, rfl, rfl, rfl, trivial⟩ ?_
    refine At.go ?_
    refine Sc.cond_t rfl ?_
    refine Sc.seq ?_
    refine Sc.region ?_
    refine Sl.calm (Cm.assign rfl) rfl ?_
    refine Sl.calm (Cm.assign rfl) rfl ?_
    refine Sl.nil ?_
    refine At.go ?_
    refine Sc.ret ?_
    refine At.then_ret ?_
    refine At.ret2 rfl rfl rfl ?_
    have e : putI F T = ([], 1) := by unfold putI; rw [if_neg hm]
    rw [e]
    exact ⟨_, rfl, none, 0, rfl, Own.nil, Fr.none, hf1.trans hf2⟩
  ·
    have hm : mayI F T := Classical.byContradiction fun h => h9 (decide_eq_false h)
    have hpw2 := hf2.obj hg1 id
    have hF2 := hf1.trans hf2
    have hE := rEnd_good hm
    have hkind := may_kind hm
    refine Sl.nil ?_
    refine At.weak [(0, _), (1, _), (2, _), (3, _), (4, _), (9, _)] ⟨rfl, rfl, rfl, rfl, rfl, rfl, trivial⟩ ?_
    refine At.go ?_
    refine Sc.cond_f rfl ?_
    refine Sc.skip ?_
    refine At.go ?_
    refine Sc.seq ?_
    refine Sc.region ?_
    refine Sl.calm (Cm.build plc91 zc91 rfl rfl) rfl ?_
    refine Sl.allocC zc91 rfl ?_
    intro w3 hg3 hs3 hf3
    refine Sl.storeAll (vs := [.slice none 0 0, .int .i64 0]) agg91 rfl rfl (by simp [Value.oneCell']) hg3 rfl ?_
    intro v0 hgv hsv hfv
    have hV0 : Foot nob w2 v0 := hf3.trans_to hfv (fun k hk => .inr (by have : k = w2.heap.size := hk; omega))
    have hp0 := hV0.obj hpw2 id
    obtain ⟨s0, hs0⟩ : ∃ s : Int × List UInt8, s = (0, []) := ⟨_, rfl⟩
    have hQ0 : WrR (fun k => w2.heap.size ≤ k) v0.heap w2.heap.size s0.1 s0.2 := by rw [hs0]; exact WrO.zeroR hgv (Nat.le_refl _)
    have hl0 : s0.2.length = 0 := by rw [hs0]; rfl
    refine Sl.nil ?_
    refine At.weak [(0, _), (1, _), (2, _), (3, _), (4, _), (5, _), (9, _)] ⟨rfl, rfl, rfl, rfl, rfl, rfl, rfl, trivial⟩ ?_
    refine At.go ?_
    refine Sc.seq ?_
    refine Sc.region ?_
    refine Sl.calm (Cm.field fld33_0 rfl) rfl ?_
    refine Sl.calm (Cm.ld sca3 rfl (cellF hp0 rfl)) rfl ?_
    refine Sl.call fn46 rfl (rnum_ok _ w2.heap.size _ _ (F 0) 1 v0 hQ0 (hf_lt hV0 (fun k hk => hk)) (by omega)) rfl ?_
    rintro _ v1 ⟨hQ, hv1⟩
    obtain ⟨s1, hs1⟩ : ∃ s, s = putNum 1 s0 (F 0) := ⟨_, rfl⟩
    have hQ1 : WrR (fun k => w2.heap.size ≤ k) v1.heap w2.heap.size s1.1 s1.2 := by rw [hs1]; exact hQ
    have hl1 : s1.2.length ≤ s0.2.length + 4 := by rw [hs1]; exact numX_le _ _ _ _
    have hV1 : Foot nob w2 v1 := (hV0.any.trans hv1).fresh (fun k hk => hk)
    have hp1 := hV1.obj hpw2 id
    refine Sl.nil ?_
    refine At.weak [(0, _), (1, _), (2, _), (3, _), (4, _), (5, _), (9, _)] ⟨rfl, rfl, rfl, rfl, rfl, rfl, rfl, trivial⟩ ?_
    refine At.go ?_
    refine Sc.seq ?_
    refine Sc.region ?_
    refine Sl.calm (Cm.field fld33_1 rfl) rfl ?_
    refine Sl.calm (Cm.ld sca3 rfl (cellF hp1 rfl)) rfl ?_
    refine Sl.call fn46 rfl (rnum_ok _ w2.heap.size _ _ (F 1) 2 v1 hQ1 (hf_lt hV1 (fun k hk => hk)) (by omega)) rfl ?_
    rintro _ v2 ⟨hQ, hv2⟩
    obtain ⟨s2, hs2⟩ : ∃ s, s = putNum 2 s1 (F 1) := ⟨_, rfl⟩
    have hQ2 : WrR (fun k => w2.heap.size ≤ k) v2.heap w2.heap.size s2.1 s2.2 := by rw [hs2]; exact hQ
    have hl2 : s2.2.length ≤ s1.2.length + 4 := by rw [hs2]; exact numX_le _ _ _ _
    have hV2 : Foot nob w2 v2 := (hV1.any.trans hv2).fresh (fun k hk => hk)
    have hp2 := hV2.obj hpw2 id
    refine Sl.nil ?_
    refine At.weak [(0, _), (1, _), (2, _), (3, _), (4, _), (5, _), (9, _)] ⟨rfl, rfl, rfl, rfl, rfl, rfl, rfl, trivial⟩ ?_
    refine At.go ?_
    refine Sc.seq ?_
    refine Sc.region ?_
    refine Sl.calm (Cm.field fld33_2 rfl) rfl ?_
    refine Sl.calm (Cm.ld sca3 rfl (cellF hp2 rfl)) rfl ?_
    refine Sl.call fn46 rfl (rnum_ok _ w2.heap.size _ _ (F 2) 2 v2 hQ2 (hf_lt hV2 (fun k hk => hk)) (by omega)) rfl ?_
    rintro _ v3 ⟨hQ, hv3⟩
    obtain ⟨s3, hs3⟩ : ∃ s, s = putNum 2 s2 (F 2) := ⟨_, rfl⟩
    have hQ3 : WrR (fun k => w2.heap.size ≤ k) v3.heap w2.heap.size s3.1 s3.2 := by rw [hs3]; exact hQ
    have hl3 : s3.2.length ≤ s2.2.length + 4 := by rw [hs3]; exact numX_le _ _ _ _
    have hV3 : Foot nob w2 v3 := (hV2.any.trans hv3).fresh (fun k hk => hk)
    have hp3 := hV3.obj hpw2 id
    refine Sl.nil ?_
    refine At.weak [(0, _), (1, _), (2, _), (3, _), (4, _), (5, _), (9, _)] ⟨rfl, rfl, rfl, rfl, rfl, rfl, rfl, trivial⟩ ?_
    refine At.go ?_
    refine Sc.seq ?_
    refine Sc.region ?_
    refine Sl.calm (Cm.field fld33_3 rfl) rfl ?_
    refine Sl.calm (Cm.ld sca3 rfl (cellF hp3 rfl)) rfl ?_
    refine Sl.call fn46 rfl (rnum_ok _ w2.heap.size _ _ (F 3) 2 v3 hQ3 (hf_lt hV3 (fun k hk => hk)) (by omega)) rfl ?_
    rintro _ v4 ⟨hQ, hv4⟩
    obtain ⟨s4, hs4⟩ : ∃ s, s = putNum 2 s3 (F 3) := ⟨_, rfl⟩
    have hQ4 : WrR (fun k => w2.heap.size ≤ k) v4.heap w2.heap.size s4.1 s4.2 := by rw [hs4]; exact hQ
    have hl4 : s4.2.length ≤ s3.2.length + 4 := by rw [hs4]; exact numX_le _ _ _ _
    have hV4 : Foot nob w2 v4 := (hV3.any.trans hv4).fresh (fun k hk => hk)
    have hp4 := hV4.obj hpw2 id
    refine Sl.nil ?_
    refine At.weak [(0, _), (1, _), (2, _), (3, _), (4, _), (5, _), (9, _)] ⟨rfl, rfl, rfl, rfl, rfl, rfl, rfl, trivial⟩ ?_
    refine At.go ?_
    refine Sc.seq ?_
    refine Sc.region ?_
    refine Sl.calm (Cm.field fld33_4 rfl) rfl ?_
    refine Sl.calm (Cm.ld sca3 rfl (cellF hp4 rfl)) rfl ?_
    refine Sl.call fn46 rfl (rnum_ok _ w2.heap.size _ _ (F 4) 2 v4 hQ4 (hf_lt hV4 (fun k hk => hk)) (by omega)) rfl ?_
    rintro _ v5 ⟨hQ, hv5⟩
    obtain ⟨s5, hs5⟩ : ∃ s, s = putNum 2 s4 (F 4) := ⟨_, rfl⟩
    have hQ5 : WrR (fun k => w2.heap.size ≤ k) v5.heap w2.heap.size s5.1 s5.2 := by rw [hs5]; exact hQ
    have hl5 : s5.2.length ≤ s4.2.length + 4 := by rw [hs5]; exact numX_le _ _ _ _
    have hV5 : Foot nob w2 v5 := (hV4.any.trans hv5).fresh (fun k hk => hk)
    have hp5 := hV5.obj hpw2 id
    refine Sl.nil ?_
    refine At.weak [(0, _), (1, _), (2, _), (3, _), (4, _), (5, _), (9, _)] ⟨rfl, rfl, rfl, rfl, rfl, rfl, rfl, trivial⟩ ?_
    refine At.go ?_
    refine Sc.seq ?_
    refine Sc.region ?_
    refine Sl.calm (Cm.field fld33_5 rfl) rfl ?_
    refine Sl.calm (Cm.ld sca3 rfl (cellF hp5 rfl)) rfl ?_
    refine Sl.call fn46 rfl (rnum_ok _ w2.heap.size _ _ (F 5) 4 v5 hQ5 (hf_lt hV5 (fun k hk => hk)) (by omega)) rfl ?_
    rintro _ v6 ⟨hQ, hv6⟩
    obtain ⟨s6, hs6⟩ : ∃ s, s = putNum 4 s5 (F 5) := ⟨_, rfl⟩
    have hQ6 : WrR (fun k => w2.heap.size ≤ k) v6.heap w2.heap.size s6.1 s6.2 := by rw [hs6]; exact hQ
    have hl6 : s6.2.length ≤ s5.2.length + 4 := by rw [hs6]; exact numX_le _ _ _ _
    have hV6 : Foot nob w2 v6 := (hV5.any.trans hv6).fresh (fun k hk => hk)
    have hp6 := hV6.obj hpw2 id
    refine Sl.nil ?_
    refine At.weak [(0, _), (1, _), (2, _), (3, _), (4, _), (5, _), (9, _)] ⟨rfl, rfl, rfl, rfl, rfl, rfl, rfl, trivial⟩ ?_
    refine At.go ?_
    refine Sc.seq ?_
    refine Sc.seq ?_
    refine Sc.region ?_
    refine Sl.calm (Cm.field fld33_0 rfl) rfl ?_
    refine Sl.calm (Cm.ld sca3 rfl (cellF hp6 rfl)) rfl ?_
    refine Sl.nil ?_
    refine At.weak [(0, _), (1, _), (2, _), (3, _), (4, _), (5, _), (9, _), (30, _)] ⟨rfl, rfl, rfl, rfl, rfl, rfl, rfl, rfl, trivial⟩ ?_
    refine At.go ?_
    refine Sc.block ?_
    refine Sc.seq ?_
    refine Sc.region ?_
    refine Sl.fork (Cm.eql rfl rfl) rfl (fun h32 => ?_) (fun h32 => ?_)
    ·
      refine Sl.calm (Cm.assign rfl) rfl ?_
      refine Sl.nil ?_
      refine At.weak [(0, _), (1, _), (2, _), (3, _), (4, _), (5, _), (9, _), (30, _), (31, _)] ⟨rfl, rfl, rfl, rfl, rfl, rfl, rfl, rfl, rfl, trivial⟩ ?_
      refine At.go ?_
      refine Sc.cond_t rfl ?_
      refine Sc.seq ?_
      refine Sc.region ?_
      refine Sl.calm (Cm.field fld33_6 rfl) rfl ?_
      refine Sl.calm (Cm.ld sca3 rfl (cellF hp6 rfl)) rfl ?_
      refine Sl.call fn46 rfl (rnum_ok _ w2.heap.size _ _ (F 6) 4 v6 hQ6 (hf_lt hV6 (fun k hk => hk)) (by omega)) rfl ?_
      rintro _ v7 ⟨hQ, hv7⟩
      obtain ⟨s7, hs7⟩ : ∃ s, s = putNum 4 s6 (F 6) := ⟨_, rfl⟩
      have hQ7 : WrR (fun k => w2.heap.size ≤ k) v7.heap w2.heap.size s7.1 s7.2 := by rw [hs7]; exact hQ
      have hl7 : s7.2.length ≤ s6.2.length + 4 := by rw [hs7]; exact numX_le _ _ _ _
      have hV7 : Foot nob w2 v7 := (hV6.any.trans hv7).fresh (fun k hk => hk)
      have hp7 := hV7.obj hpw2 id
      refine Sl.nil ?_
      refine At.weak [(0, _), (1, _), (2, _), (3, _), (4, _), (5, _), (9, _), (30, _), (31, _)] ⟨rfl, rfl, rfl, rfl, rfl, rfl, rfl, rfl, rfl, trivial⟩ ?_
      refine At.go ?_
      refine Sc.seq ?_
      refine Sc.region ?_
      refine Sl.calm (Cm.field fld33_7 rfl) rfl ?_
      refine Sl.calm (Cm.ld sca3 rfl (cellF hp7 rfl)) rfl ?_
      refine Sl.call fn46 rfl (rnum_ok _ w2.heap.size _ _ (F 7) 2 v7 hQ7 (hf_lt hV7 (fun k hk => hk)) (by omega)) rfl ?_
      rintro _ v8 ⟨hQ, hv8⟩
      obtain ⟨s8, hs8⟩ : ∃ s, s = putNum 2 s7 (F 7) := ⟨_, rfl⟩
      have hQ8 : WrR (fun k => w2.heap.size ≤ k) v8.heap w2.heap.size s8.1 s8.2 := by rw [hs8]; exact hQ
      have hl8 : s8.2.length ≤ s7.2.length + 4 := by rw [hs8]; exact numX_le _ _ _ _
      have hV8 : Foot nob w2 v8 := (hV7.any.trans hv8).fresh (fun k hk => hk)
      have hp8 := hV8.obj hpw2 id
      refine Sl.nil ?_
      refine At.weak [(0, _), (1, _), (2, _), (3, _), (4, _), (5, _), (9, _), (30, _), (31, _)] ⟨rfl, rfl, rfl, rfl, rfl, rfl, rfl, rfl, rfl, trivial⟩ ?_
      refine At.go ?_
      refine Sc.seq ?_
      refine Sc.region ?_
      refine Sl.calm (Cm.field fld33_8 rfl) rfl ?_
      refine Sl.calm (Cm.ld sca3 rfl (cellF hp8 rfl)) rfl ?_
      refine Sl.call fn46 rfl (rnum_ok _ w2.heap.size _ _ (F 8) 2 v8 hQ8 (hf_lt hV8 (fun k hk => hk)) (by omega)) rfl ?_
      rintro _ v9 ⟨hQ, hv9⟩
      obtain ⟨s9, hs9⟩ : ∃ s, s = putNum 2 s8 (F 8) := ⟨_, rfl⟩
      have hQ9 : WrR (fun k => w2.heap.size ≤ k) v9.heap w2.heap.size s9.1 s9.2 := by rw [hs9]; exact hQ
      have hl9 : s9.2.length ≤ s8.2.length + 4 := by rw [hs9]; exact numX_le _ _ _ _
      have hV9 : Foot nob w2 v9 := (hV8.any.trans hv9).fresh (fun k hk => hk)
      have hp9 := hV9.obj hpw2 id
      refine Sl.nil ?_
      refine At.weak [(0, _), (1, _), (2, _), (3, _), (4, _), (5, _), (9, _), (30, _), (31, _)] ⟨rfl, rfl, rfl, rfl, rfl, rfl, rfl, rfl, rfl, trivial⟩ ?_
      refine At.go ?_
      refine Sc.region ?_
      refine Sl.calm (Cm.field fld33_9 rfl) rfl ?_
      refine Sl.calm (Cm.ld sca3 rfl (cellF hp9 rfl)) rfl ?_
      refine Sl.call fn46 rfl (rnum_ok _ w2.heap.size _ _ (F 9) 1 v9 hQ9 (hf_lt hV9 (fun k hk => hk)) (by omega)) rfl ?_
      rintro _ v10 ⟨hQ, hv10⟩
      obtain ⟨s10, hs10⟩ : ∃ s, s = putNum 1 s9 (F 9) := ⟨_, rfl⟩
      have hQ10 : WrR (fun k => w2.heap.size ≤ k) v10.heap w2.heap.size s10.1 s10.2 := by rw [hs10]; exact hQ
      have hl10 : s10.2.length ≤ s9.2.length + 4 := by rw [hs10]; exact numX_le _ _ _ _
      have hV10 : Foot nob w2 v10 := (hV9.any.trans hv10).fresh (fun k hk => hk)
      have hp10 := hV10.obj hpw2 id
      refine Sl.nil ?_
      refine At.block_normal ?_
      refine At.weak [(0, _), (1, _), (2, _), (3, _), (4, _), (5, _), (9, _), (30, _), (31, _)] ⟨rfl, rfl, rfl, rfl, rfl, rfl, rfl, rfl, rfl, trivial⟩ ?_
      refine At.go ?_
      refine Sc.seq ?_
      refine Sc.region ?_
      refine Sl.call fn47 rfl (rdone_ok _ w2.heap.size _ _ v10 hQ10 (by omega)) rfl ?_
      rintro _ w13 ⟨ao13, c13, rfl, ho13, hfr13, hf13⟩
      refine Sl.calm (Cm.assign rfl) rfl ?_
      refine Sl.calm (Cm.assign rfl) rfl ?_
      refine Sl.nil ?_
      refine At.weak [(0, _), (1, _), (2, _), (3, _), (4, _), (5, _), (9, _), (30, _), (31, _)] ⟨rfl, rfl, rfl, rfl, rfl, rfl, rfl, rfl, rfl, trivial⟩ ?_
      refine At.go ?_
      refine Sc.ret ?_
      refine At.ret2 rfl rfl rfl ?_
      have eE : rEnd F T = s10 := by
        unfold rEnd rSt recL fldL
        rw [if_neg (by omega), if_pos (by omega)]
        simp only [comL, filL, List.cons_append, List.nil_append, List.length_cons, List.length_nil, List.take, List.foldl, putF, hs10, hs9, hs8, hs7, hs6, hs5, hs4, hs3, hs2, hs1, hs0]
      have e : putI F T = (doneX (rEnd F T).1 (rEnd F T).2, 0) := by unfold putI doneX; rw [if_pos hm, hE, if_neg (by omega)]
      rw [e, eE]
      exact ⟨_, rfl, ao13, c13, rfl, ho13, hfr13.mono (hF2.trans hV10).size, (hF2.trans hV10).trans hf13⟩
    ·
      refine Sl.calm (Cm.assign rfl) rfl ?_
      refine Sl.nil ?_
      refine At.weak [(0, _), (1, _), (2, _), (3, _), (4, _), (5, _), (9, _), (30, _), (31, _)] ⟨rfl, rfl, rfl, rfl, rfl, rfl, rfl, rfl, rfl, trivial⟩ ?_
      refine At.go ?_
      refine Sc.cond_f rfl ?_
      refine Sc.seq ?_
      refine Sc.region ?_
      refine Sl.fork (Cm.eql rfl rfl) rfl (fun h46 => ?_) (fun h46 => ?_)
      ·
        refine Sl.calm (Cm.assign rfl) rfl ?_
        refine Sl.nil ?_
        refine At.weak [(0, _), (1, _), (2, _), (3, _), (4, _), (5, _), (9, _), (30, _), (31, _), (45, _)] ⟨rfl, rfl, rfl, rfl, rfl, rfl, rfl, rfl, rfl, rfl, trivial⟩ ?_
        refine At.go ?_
        refine Sc.cond_t rfl ?_
        refine Sc.seq ?_
        refine Sc.region ?_
        refine Sl.calm (Cm.field fld33_6 rfl) rfl ?_
        refine Sl.calm (Cm.ld sca3 rfl (cellF hp6 rfl)) rfl ?_
        refine Sl.call fn46 rfl (rnum_ok _ w2.heap.size _ _ (F 6) 4 v6 hQ6 (hf_lt hV6 (fun k hk => hk)) (by omega)) rfl ?_
        rintro _ v7 ⟨hQ, hv7⟩
        obtain ⟨s7, hs7⟩ : ∃ s, s = putNum 4 s6 (F 6) := ⟨_, rfl⟩
        have hQ7 : WrR (fun k => w2.heap.size ≤ k) v7.heap w2.heap.size s7.1 s7.2 := by rw [hs7]; exact hQ
        have hl7 : s7.2.length ≤ s6.2.length + 4 := by rw [hs7]; exact numX_le _ _ _ _
        have hV7 : Foot nob w2 v7 := (hV6.any.trans hv7).fresh (fun k hk => hk)
        have hp7 := hV7.obj hpw2 id
        refine Sl.nil ?_
        refine At.weak [(0, _), (1, _), (2, _), (3, _), (4, _), (5, _), (9, _), (30, _), (31, _), (45, _)] ⟨rfl, rfl, rfl, rfl, rfl, rfl, rfl, rfl, rfl, rfl, trivial⟩ ?_
        refine At.go ?_
        refine Sc.region ?_
        refine Sl.calm (Cm.field fld33_7 rfl) rfl ?_
        refine Sl.calm (Cm.ld sca3 rfl (cellF hp7 rfl)) rfl ?_
        refine Sl.call fn46 rfl (rnum_ok _ w2.heap.size _ _ (F 7) 4 v7 hQ7 (hf_lt hV7 (fun k hk => hk)) (by omega)) rfl ?_
        rintro _ v8 ⟨hQ, hv8⟩
        obtain ⟨s8, hs8⟩ : ∃ s, s = putNum 4 s7 (F 7) := ⟨_, rfl⟩
        have hQ8 : WrR (fun k => w2.heap.size ≤ k) v8.heap w2.heap.size s8.1 s8.2 := by rw [hs8]; exact hQ
        have hl8 : s8.2.length ≤ s7.2.length + 4 := by rw [hs8]; exact numX_le _ _ _ _
        have hV8 : Foot nob w2 v8 := (hV7.any.trans hv8).fresh (fun k hk => hk)
        have hp8 := hV8.obj hpw2 id
        refine Sl.nil ?_
        refine At.block_normal ?_
        refine At.weak [(0, _), (1, _), (2, _), (3, _), (4, _), (5, _), (9, _), (30, _), (31, _), (45, _)] ⟨rfl, rfl, rfl, rfl, rfl, rfl, rfl, rfl, rfl, rfl, trivial⟩ ?_
        refine At.go ?_
        refine Sc.seq ?_
        refine Sc.region ?_
        refine Sl.call fn47 rfl (rdone_ok _ w2.heap.size _ _ v8 hQ8 (by omega)) rfl ?_
        rintro _ w13 ⟨ao13, c13, rfl, ho13, hfr13, hf13⟩
        refine Sl.calm (Cm.assign rfl) rfl ?_
        refine Sl.calm (Cm.assign rfl) rfl ?_
        refine Sl.nil ?_
        refine At.weak [(0, _), (1, _), (2, _), (3, _), (4, _), (5, _), (9, _), (30, _), (31, _), (45, _)] ⟨rfl, rfl, rfl, rfl, rfl, rfl, rfl, rfl, rfl, rfl, trivial⟩ ?_
        refine At.go ?_
        refine Sc.ret ?_
        refine At.ret2 rfl rfl rfl ?_
        have eE : rEnd F T = s8 := by
          unfold rEnd rSt recL fldL
          rw [if_neg (by omega), if_neg (by omega), if_pos (by omega)]
          simp only [comL, dirL, List.cons_append, List.nil_append, List.length_cons, List.length_nil, List.take, List.foldl, putF, hs8, hs7, hs6, hs5, hs4, hs3, hs2, hs1, hs0]
        have e : putI F T = (doneX (rEnd F T).1 (rEnd F T).2, 0) := by unfold putI doneX; rw [if_pos hm, hE, if_neg (by omega)]
        rw [e, eE]
        exact ⟨_, rfl, ao13, c13, rfl, ho13, hfr13.mono (hF2.trans hV8).size, (hF2.trans hV8).trans hf13⟩
      ·
        refine Sl.calm (Cm.assign rfl) rfl ?_
        refine Sl.nil ?_
        refine At.weak [(0, _), (1, _), (2, _), (3, _), (4, _), (5, _), (9, _), (30, _), (31, _), (45, _)] ⟨rfl, rfl, rfl, rfl, rfl, rfl, rfl, rfl, rfl, rfl, trivial⟩ ?_
        refine At.go ?_
        refine Sc.cond_f rfl ?_
        refine Sc.seq ?_
        refine Sc.region ?_
        refine Sl.fork (Cm.eql rfl rfl) rfl (fun h54 => ?_) (fun h54 => ?_)
        ·
          refine Sl.calm (Cm.assign rfl) rfl ?_
          refine Sl.nil ?_
          refine At.weak [(0, _), (1, _), (2, _), (3, _), (4, _), (5, _), (9, _), (30, _), (31, _), (45, _), (53, _)] ⟨rfl, rfl, rfl, rfl, rfl, rfl, rfl, rfl, rfl, rfl, rfl, trivial⟩ ?_
          refine At.go ?_
          refine Sc.cond_t rfl ?_
          refine Sc.region ?_
          refine Sl.calm (Cm.field fld33_10 rfl) rfl ?_
          refine Sl.calm (Cm.ld sca9 rfl (cellF hp6 rfl)) rfl ?_
          refine Sl.call fn50 rfl (rtext_ok _ w2.heap.size _ _ T v6 hQ6 (hf_lt hV6 (fun k hk => hk)) (by omega) (by have h9 := hm.1; unfold mayA at h9; omega)) rfl ?_
          rintro _ v7 ⟨hQ7, hv7⟩
          have hV7 : Foot nob w2 v7 := (hV6.any.trans hv7).fresh (fun k hk => hk)
          have hl7 : (txtX s6.1 s6.2 T).length ≤ s6.2.length + 1 + T.length := by
            unfold txtX; split
            · omega
            · simp only [List.length_append, List.length_cons]; omega
          have hTl : T.length ≤ 200 := by have h9 := hm.1; unfold mayA at h9; omega
          refine Sl.nil ?_
          refine At.block_normal ?_
          refine At.weak [(0, _), (1, _), (2, _), (3, _), (4, _), (5, _), (9, _), (30, _), (31, _), (45, _), (53, _)] ⟨rfl, rfl, rfl, rfl, rfl, rfl, rfl, rfl, rfl, rfl, rfl, trivial⟩ ?_
          refine At.go ?_
          refine Sc.seq ?_
          refine Sc.region ?_
          refine Sl.call fn47 rfl (rdone_ok _ w2.heap.size _ _ v7 hQ7 (by omega)) rfl ?_
          rintro _ w13 ⟨ao13, c13, rfl, ho13, hfr13, hf13⟩
          refine Sl.calm (Cm.assign rfl) rfl ?_
          refine Sl.calm (Cm.assign rfl) rfl ?_
          refine Sl.nil ?_
          refine At.weak [(0, _), (1, _), (2, _), (3, _), (4, _), (5, _), (9, _), (30, _), (31, _), (45, _), (53, _)] ⟨rfl, rfl, rfl, rfl, rfl, rfl, rfl, rfl, rfl, rfl, rfl, trivial⟩ ?_
          refine At.go ?_
          refine Sc.ret ?_
          refine At.ret2 rfl rfl rfl ?_
          have eE : rEnd F T = (txtE s6.1 T, txtX s6.1 s6.2 T) := by
            unfold rEnd rSt recL fldL
            rw [if_pos (by omega), if_neg (by omega), if_neg (by omega)]
            simp only [comL, List.append_nil, List.length_cons, List.length_nil, List.take, List.foldl, putF, txtS, hs6, hs5, hs4, hs3, hs2, hs1, hs0]
          have e : putI F T = (doneX (rEnd F T).1 (rEnd F T).2, 0) := by unfold putI doneX; rw [if_pos hm, hE, if_neg (by omega)]
          rw [e, eE]
          exact ⟨_, rfl, ao13, c13, rfl, ho13, hfr13.mono (hF2.trans hV7).size, (hF2.trans hV7).trans hf13⟩
        ·
          exact absurd h54 (by omega)
end Go.Proofs.Ytoaplldahbbaiaa
/- inode: the laws on what is written. No condition. -/
namespace Go.Proofs.Ytoaplldahbbaiaa
open Go Go.RowKit
set_option linter.unusedVariables false

def linkF : Nat → Int := fun o => if o = 0 then 3 else if o = 4 then 1 else 0
theorem shown09_ok (W : World) : Calls Try.prog 20 [].toArray W (Ret fun v w' => v = .bool true ∧ Foot nob W w') := by
  have e1 : putI linkF [97, 98] = ([3, 0, 0, 0, 0, 0, 0, 1, 0, 0, 0, 0, 0, 2, 97, 98], 0) := by decide +kernel
  refine calls_of_sc 15 [] Try.func20 rfl rfl rfl (enter_slots trivial) ?_
  refine Sc.seq ?_
  refine Sc.region ?_
  refine Sl.calm (Cm.assign rfl) rfl ?_
  refine Sl.nil ?_
  refine At.go ?_
  refine Sc.seq ?_
  refine Sc.region ?_
  refine Sl.calm (Cm.build (cs := (inoC linkF [97, 98]).toArray) plc33 zc33 rfl (by kernel_rfl)) rfl ?_
  refine Sl.call fn21 rfl (put_ok linkF [97, 98] W (by simp [maxLen])) rfl ?_
  rw [e1]
  rintro _ w2 ⟨ao2, c2, rfl, ho2, hfr2, hf2⟩
  refine Sl.calm (Cm.move rfl) rfl ?_
  refine Sl.calm (Cm.extract rfl rfl) rfl ?_
  refine Sl.calm (Cm.extract rfl rfl) rfl ?_
  refine Sl.calm (Cm.assign rfl) rfl ?_
  refine Sl.calm (Cm.assign rfl) rfl ?_
  refine Sl.nil ?_
  refine At.weak [(0, _), (1, _), (2, _)] ⟨rfl, rfl, rfl, trivial⟩ ?_
  refine At.go ?_
  refine Sc.seq ?_
  refine Sc.region ?_
  refine Sl.calm (Cm.move rfl) rfl ?_
  refine Sl.calm (Cm.strIn sl25 ty5 ty9 rfl ho2.vw) rfl ?_
  refine Sl.calm (Cm.yes (Cm.eqlBs rfl rfl) rfl) rfl ?_
  refine Sl.calm (Cm.move rfl) rfl ?_
  refine Sl.want rfl rfl (Cm.move rfl) rfl ?_
  refine Sl.want rfl rfl (Cm.yes (Cm.eql rfl rfl) rfl) rfl ?_
  refine Sl.calm (Cm.pick_t rfl rfl) rfl ?_
  refine Sl.calm (Cm.assign rfl) rfl ?_
  refine Sl.nil ?_
  refine At.weak [(0, _), (1, _), (2, _)] ⟨rfl, rfl, rfl, trivial⟩ ?_
  refine At.go ?_
  refine Sc.ret ?_
  refine At.ret1 rfl rfl ?_
  exact ⟨_, rfl, rfl, hf2⟩

set_option maxHeartbeats 1000000 in
theorem inodePuts_ok (F : Nat → Int) (T : List UInt8) (W : World) (hT : T.length ≤ maxLen) :
    Calls Try.prog 4 [.agg (inoC F T).toArray].toArray W (Ret fun v w' => v = .bool true ∧ Foot nob W w') := by
  refine calls_of_sc 39 [(0, _)] Try.func4 rfl rfl rfl (enter_slots ⟨rfl, trivial⟩) ?_
  refine Sc.seq ?_
  refine Sc.region ?_
  refine Sl.box rfl rfl ?_
  intro w1 hg1 hs1 hf1
  have hg1 : w1.heap[W.heap.size]? = some (.cells (inoC F T).toArray 33 (0, 0)) := hg1
  refine Sl.calm (Cm.assign rfl) rfl ?_
  refine Sl.nil ?_
  refine At.go ?_
  refine Sc.seq ?_
  refine Sc.region ?_
  refine Sl.call fn20 rfl (shown09_ok w1) rfl ?_
  rintro _ w2 ⟨rfl, hf2⟩
  have hp2 := hf2.obj hg1 id
  refine Sl.calm (Cm.assign rfl) rfl ?_
  refine Sl.nil ?_
  refine At.weak [(0, _), (1, _), (2, _), (3, _)] ⟨rfl, rfl, rfl, rfl, trivial⟩ ?_
  refine At.go ?_
  refine Sc.seq ?_
  refine Sc.region ?_
  refine Sl.calm (Cm.ldM (cs := inoC F T) agg33 rfl (fun j v hj => cellF hp2 hj)) rfl ?_
  refine Sl.call fn21 rfl (put_ok F T w2 hT) rfl ?_
  rintro _ w3 ⟨a3, c3, rfl, ho3, hfr3, hf3⟩
  have hp3 := hf3.obj hp2 id
  refine Sl.calm (Cm.move rfl) rfl ?_
  refine Sl.calm (Cm.extract rfl rfl) rfl ?_
  refine Sl.calm (Cm.extract rfl rfl) rfl ?_
  refine Sl.calm (Cm.assign rfl) rfl ?_
  refine Sl.calm (Cm.assign rfl) rfl ?_
  refine Sl.nil ?_
  refine At.weak [(0, _), (1, _), (2, _), (3, _), (4, _), (5, _)] ⟨rfl, rfl, rfl, rfl, rfl, rfl, trivial⟩ ?_
  refine At.go ?_
  refine Sc.seq ?_
  refine Sc.region ?_
  refine Sl.calm (Cm.ldM (cs := inoC F T) agg33 rfl (fun j v hj => cellF hp3 hj)) rfl ?_
  refine Sl.call fn22 rfl (rput_ok F T w3 hT) rfl ?_
  rintro _ w4 ⟨a4, c4, rfl, ho4, hfr4, hf4⟩
  have hp4 := hf4.obj hp3 id
  refine Sl.calm (Cm.move rfl) rfl ?_
  refine Sl.calm (Cm.extract rfl rfl) rfl ?_
  refine Sl.calm (Cm.extract rfl rfl) rfl ?_
  refine Sl.calm (Cm.assign rfl) rfl ?_
  refine Sl.calm (Cm.assign rfl) rfl ?_
  refine Sl.nil ?_
  refine At.weak [(0, _), (1, _), (2, _), (3, _), (4, _), (5, _), (6, _), (7, _)] ⟨rfl, rfl, rfl, rfl, rfl, rfl, rfl, rfl, trivial⟩ ?_
  refine At.go ?_
  refine Sc.seq ?_
  refine Sc.draw 21 (fun H => H[W.heap.size]? = some (.cells (inoC F T).toArray 33 (0, 0)) ∧ Own b8 5 H a3 c3 (putI F T).1 ∧ Own b8 5 H a4 c4 (putI F T).1) [3, 5] [0, 1, 2, 4, 3, 5, 6, 7, 8, 9, 10, 11, 12, 13, 14, 15, 16, 17, 18, 19, 20] mixed (by kernel_rfl) (⟨hp4, ho3.grow hf4, ho4⟩) ?_
  refine Sx.calm rfl rfl (Cm.move rfl) rfl ?_
  refine Sx.calm rfl rfl (Cm.move rfl) rfl ?_
  refine Sx.want rfl rfl rfl rfl (Cm.loadM (cs := inoC F T) agg33 rfl (fun H hH j v hj => cellF hH.1 hj)) rfl ?_
  refine Sx.want rfl rfl rfl rfl (Cm.loadM (cs := inoC F T) agg33 rfl (fun H hH j v hj => cellF hH.1 hj)) rfl ?_
  refine Sx.eff rfl rfl (Sl.callWant rfl rfl fn23 rfl (may_ok F T _ hT) rfl ?_)
  rintro _ w5 ⟨rfl, hf5⟩
  refine Sx.on (by exact ⟨hf5.obj hp4 id, (ho3.grow hf4).grow hf5.undraw, ho4.grow hf5.undraw⟩) ?_
  refine Sx.eff rfl rfl (Sl.callWant rfl rfl fn24 rfl (rmay_ok F T _ hT) rfl ?_)
  rintro _ w6 ⟨rfl, hf6⟩
  refine Sx.on (by exact ⟨hf6.obj (hf5.obj hp4 id) id, ((ho3.grow hf4).grow hf5.undraw).grow hf6, (ho4.grow hf5.undraw).grow hf6⟩) ?_
  refine Sx.want rfl rfl rfl rfl (Cm.yes (Cm.ofBool (Cm.eqlBool ty4 rfl rfl)) (by simp)) rfl ?_
  refine Sx.calm rfl rfl (Cm.pick_t rfl rfl) rfl ?_
  refine Sx.calm rfl rfl (Cm.move rfl) rfl ?_
  refine Sx.want rfl rfl rfl rfl (Cm.move rfl) rfl ?_
  refine Sx.want rfl rfl rfl rfl (Cm.str sl25 ty5 ty9 rfl (fun H hH => hH.2.1.vw)) rfl ?_
  refine Sx.want rfl rfl rfl rfl (Cm.move rfl) rfl ?_
  refine Sx.want rfl rfl rfl rfl (Cm.str sl25 ty5 ty9 rfl (fun H hH => hH.2.2.vw)) rfl ?_
  refine Sx.want rfl rfl rfl rfl (Cm.yes (Cm.eqlBs rfl rfl) rfl) rfl ?_
  refine Sx.calm rfl rfl (Cm.pick_t rfl rfl) rfl ?_
  refine Sx.calm rfl rfl (Cm.move rfl) rfl ?_
  refine Sx.want rfl rfl rfl rfl (Cm.move rfl) rfl ?_
  refine Sx.want rfl rfl rfl rfl (Cm.move rfl) rfl ?_
  refine Sx.want rfl rfl rfl rfl (Cm.yes (Cm.eql rfl rfl) rfl) rfl ?_
  refine Sx.calm rfl rfl (Cm.pick_t rfl rfl) rfl ?_
  refine Sx.calm rfl rfl (Cm.assign rfl) rfl ?_
  refine Sx.nil ?_
  refine At.weak [(0, _), (1, _), (2, _), (3, _), (4, _), (5, _), (6, _), (7, _)] ⟨rfl, rfl, rfl, rfl, rfl, rfl, rfl, rfl, trivial⟩ ?_
  refine At.go ?_
  refine Sc.ret ?_
  refine At.ret1 rfl rfl ?_
  exact ⟨_, rfl, rfl, ((((hf1.trans hf2).trans hf3).trans hf4).trans hf5.undraw).trans hf6⟩

theorem rSt_len {F : Nat → Int} {T : List UInt8} (h : mayI F T) : (rEnd F T).2.length = (if F 0 = 2 then 22 else if F 0 = 1 then 21 else 14 + T.length) := by
  obtain ⟨h1, h2⟩ := rSt_good h _ (Nat.le_refl _)
  rw [List.take_length] at h2
  have hk := may_kind h
  have h9 := h.1
  unfold mayA at h9
  unfold rEnd
  by_cases h3 : F 0 = 3
  · rw [if_pos h3, if_neg (by omega), if_neg (by omega)]
    have h4 := (txtS_good (s := rSt F (recL (F 0)).length) (t := T) h1 (by omega)).2
    rw [h4, h2]
    unfold recL fldL
    rw [if_neg (by omega), if_neg (by omega)]
    simp [comL] <;> omega
  · rw [if_neg h3, h2]
    by_cases h4 : F 0 = 2
    · rw [if_pos h4]
      unfold recL fldL
      rw [if_pos h4]
      simp [comL, filL]
    · rw [if_neg h4, if_pos (by omega)]
      unfold recL fldL
      rw [if_neg h4, if_pos (by omega)]
      simp [comL, dirL]

set_option maxHeartbeats 1000000 in
theorem inodeLong_ok (F : Nat → Int) (T : List UInt8) (W : World) (hT : T.length ≤ maxLen) :
    Calls Try.prog 5 [.agg (inoC F T).toArray].toArray W (Ret fun v w' => v = .bool true ∧ Foot nob W w') := by
  have hgood : (putI F T).2 ≠ 0 → (putI F T).1.length = 0 := by unfold putI; split <;> simp
  have hmay : (putI F T).2 = 0 → mayI F T := by unfold putI; split <;> simp_all
  refine calls_of_sc 53 [(0, _)] Try.func5 rfl rfl rfl (enter_slots ⟨rfl, trivial⟩) ?_
  refine Sc.seq ?_
  refine Sc.region ?_
  refine Sl.box rfl rfl ?_
  intro w1 hg1 hs1 hf1
  have hg1 : w1.heap[W.heap.size]? = some (.cells (inoC F T).toArray 33 (0, 0)) := hg1
  refine Sl.calm (Cm.assign rfl) rfl ?_
  refine Sl.nil ?_
  refine At.go ?_
  refine Sc.seq ?_
  refine Sc.region ?_
  refine Sl.call fn20 rfl (shown09_ok w1) rfl ?_
  rintro _ w2 ⟨rfl, hf2⟩
  have hp2 := hf2.obj hg1 id
  refine Sl.calm (Cm.assign rfl) rfl ?_
  refine Sl.nil ?_
  refine At.weak [(0, _), (1, _), (2, _), (3, _)] ⟨rfl, rfl, rfl, rfl, trivial⟩ ?_
  refine At.go ?_
  refine Sc.seq ?_
  refine Sc.region ?_
  refine Sl.calm (Cm.ldM (cs := inoC F T) agg33 rfl (fun j v hj => cellF hp2 hj)) rfl ?_
  refine Sl.call fn21 rfl (put_ok F T w2 hT) rfl ?_
  rintro _ w3 ⟨a3, c3, rfl, ho3, hfr3, hf3⟩
  have hp3 := hf3.obj hp2 id
  refine Sl.calm (Cm.move rfl) rfl ?_
  refine Sl.calm (Cm.extract rfl rfl) rfl ?_
  refine Sl.calm (Cm.extract rfl rfl) rfl ?_
  refine Sl.calm (Cm.assign rfl) rfl ?_
  refine Sl.calm (Cm.assign rfl) rfl ?_
  refine Sl.nil ?_
  refine At.weak [(0, _), (1, _), (2, _), (3, _), (4, _), (5, _)] ⟨rfl, rfl, rfl, rfl, rfl, rfl, trivial⟩ ?_
  refine At.go ?_
  refine Sc.seq ?_
  refine Sc.seq ?_
  refine Sc.region ?_
  refine Sl.calm (Cm.move rfl) rfl ?_
  refine Sl.fork (Cm.neq rfl rfl) rfl (fun h13 => ?_) (fun h13 => ?_)
  ·
    refine Sl.nil ?_
    refine At.weak [(0, _), (1, _), (2, _), (3, _), (4, _), (5, _), (13, _)] ⟨rfl, rfl, rfl, rfl, rfl, rfl, rfl, trivial⟩ ?_
    refine At.go ?_
    refine Sc.cond_t rfl ?_
    refine Sc.seq ?_
    refine Sc.region ?_
    refine Sl.calm (Cm.move rfl) rfl ?_
    refine Sl.calm (Cm.move rfl) rfl ?_
    refine Sl.want rfl rfl (Cm.move rfl) rfl ?_
    refine Sl.want rfl rfl (Cm.len sl25 rfl) rfl ?_
    refine Sl.want rfl rfl (Cm.yes (Cm.eql rfl rfl) (by have := hgood h13; omega)) rfl ?_
    refine Sl.calm (Cm.pick_t rfl rfl) rfl ?_
    refine Sl.calm (Cm.assign rfl) rfl ?_
    refine Sl.nil ?_
    refine At.weak [(0, _), (1, _), (2, _), (3, _), (4, _), (5, _), (13, _)] ⟨rfl, rfl, rfl, rfl, rfl, rfl, rfl, trivial⟩ ?_
    refine At.go ?_
    refine Sc.ret ?_
    refine At.then_ret ?_
    refine At.ret1 rfl rfl ?_
    exact ⟨_, rfl, rfl, (hf1.trans hf2).trans hf3⟩
  ·
    have hm := hmay (by omega)
    have hlen := rSt_len hm
    have e : (putI F T).1 = (rEnd F T).2 := by unfold putI; rw [if_pos hm]
    rw [← e] at hlen
    have hkind := may_kind hm
    have h9 := hm.1
    unfold mayA at h9
    refine Sl.nil ?_
    refine At.weak [(0, _), (1, _), (2, _), (3, _), (4, _), (5, _), (13, _)] ⟨rfl, rfl, rfl, rfl, rfl, rfl, rfl, trivial⟩ ?_
    refine At.go ?_
    refine Sc.cond_f rfl ?_
    refine Sc.skip ?_
    refine At.go ?_
    refine Sc.seq ?_
    refine Sc.seq ?_
    refine Sc.region ?_
    refine Sl.calm (Cm.field fld33_0 rfl) rfl ?_
    refine Sl.calm (Cm.ld sca3 rfl (cellF hp3 rfl)) rfl ?_
    refine Sl.nil ?_
    refine At.weak [(0, _), (1, _), (2, _), (3, _), (4, _), (5, _), (13, _), (21, _)] ⟨rfl, rfl, rfl, rfl, rfl, rfl, rfl, rfl, trivial⟩ ?_
    refine At.go ?_
    refine Sc.block ?_
    refine Sc.seq ?_
    refine Sc.region ?_
    refine Sl.fork (Cm.eql rfl rfl) rfl (fun h23 => ?_) (fun h23 => ?_)
    ·
      refine Sl.calm (Cm.assign rfl) rfl ?_
      refine Sl.nil ?_
      refine At.weak [(0, _), (1, _), (2, _), (3, _), (4, _), (5, _), (13, _), (21, _), (22, _)] ⟨rfl, rfl, rfl, rfl, rfl, rfl, rfl, rfl, rfl, trivial⟩ ?_
      refine At.go ?_
      refine Sc.cond_t rfl ?_
      refine Sc.seq ?_
      refine Sc.region ?_
      refine Sl.calm (Cm.move rfl) rfl ?_
      refine Sl.calm (Cm.move rfl) rfl ?_
      refine Sl.want rfl rfl (Cm.move rfl) rfl ?_
      refine Sl.want rfl rfl (Cm.len sl25 rfl) rfl ?_
      refine Sl.want rfl rfl (Cm.yes (Cm.eql rfl rfl) (by rw [hlen, if_pos h23]; rfl)) rfl ?_
      refine Sl.calm (Cm.pick_t rfl rfl) rfl ?_
      refine Sl.calm (Cm.assign rfl) rfl ?_
      refine Sl.nil ?_
      refine At.weak [(0, _), (1, _), (2, _), (3, _), (4, _), (5, _), (13, _), (21, _), (22, _)] ⟨rfl, rfl, rfl, rfl, rfl, rfl, rfl, rfl, rfl, trivial⟩ ?_
      refine At.go ?_
      refine Sc.ret ?_
      refine At.block_ret ?_
      refine At.then_ret ?_
      refine At.ret1 rfl rfl ?_
      exact ⟨_, rfl, rfl, (hf1.trans hf2).trans hf3⟩
    ·
      refine Sl.calm (Cm.assign rfl) rfl ?_
      refine Sl.nil ?_
      refine At.weak [(0, _), (1, _), (2, _), (3, _), (4, _), (5, _), (13, _), (21, _), (22, _)] ⟨rfl, rfl, rfl, rfl, rfl, rfl, rfl, rfl, rfl, trivial⟩ ?_
      refine At.go ?_
      refine Sc.cond_f rfl ?_
      refine Sc.seq ?_
      refine Sc.region ?_
      refine Sl.fork (Cm.eql rfl rfl) rfl (fun h31 => ?_) (fun h31 => ?_)
      ·
        refine Sl.calm (Cm.assign rfl) rfl ?_
        refine Sl.nil ?_
        refine At.weak [(0, _), (1, _), (2, _), (3, _), (4, _), (5, _), (13, _), (21, _), (22, _), (30, _)] ⟨rfl, rfl, rfl, rfl, rfl, rfl, rfl, rfl, rfl, rfl, trivial⟩ ?_
        refine At.go ?_
        refine Sc.cond_t rfl ?_
        refine Sc.seq ?_
        refine Sc.region ?_
        refine Sl.calm (Cm.move rfl) rfl ?_
        refine Sl.calm (Cm.move rfl) rfl ?_
        refine Sl.want rfl rfl (Cm.move rfl) rfl ?_
        refine Sl.want rfl rfl (Cm.len sl25 rfl) rfl ?_
        refine Sl.want rfl rfl (Cm.yes (Cm.eql rfl rfl) (by rw [hlen, if_neg h23, if_pos h31]; rfl)) rfl ?_
        refine Sl.calm (Cm.pick_t rfl rfl) rfl ?_
        refine Sl.calm (Cm.assign rfl) rfl ?_
        refine Sl.nil ?_
        refine At.weak [(0, _), (1, _), (2, _), (3, _), (4, _), (5, _), (13, _), (21, _), (22, _), (30, _)] ⟨rfl, rfl, rfl, rfl, rfl, rfl, rfl, rfl, rfl, rfl, trivial⟩ ?_
        refine At.go ?_
        refine Sc.ret ?_
        refine At.block_ret ?_
        refine At.then_ret ?_
        refine At.ret1 rfl rfl ?_
        exact ⟨_, rfl, rfl, (hf1.trans hf2).trans hf3⟩
      ·
        refine Sl.calm (Cm.assign rfl) rfl ?_
        refine Sl.nil ?_
        refine At.weak [(0, _), (1, _), (2, _), (3, _), (4, _), (5, _), (13, _), (21, _), (22, _), (30, _)] ⟨rfl, rfl, rfl, rfl, rfl, rfl, rfl, rfl, rfl, rfl, trivial⟩ ?_
        refine At.go ?_
        refine Sc.cond_f rfl ?_
        refine Sc.skip ?_
        refine At.block_normal ?_
        refine At.go ?_
        refine Sc.seq ?_
        refine Sc.region ?_
        refine Sl.calm (Cm.move rfl) rfl ?_
        refine Sl.calm (Cm.move rfl) rfl ?_
        refine Sl.want rfl rfl (Cm.field fld33_0 rfl) rfl ?_
        refine Sl.want rfl rfl (Cm.ld sca3 rfl (cellF hp3 rfl)) rfl ?_
        refine Sl.want rfl rfl (Cm.yes (Cm.eql rfl rfl) (by omega)) rfl ?_
        refine Sl.calm (Cm.pick_t rfl rfl) rfl ?_
        refine Sl.calm (Cm.move rfl) rfl ?_
        refine Sl.want rfl rfl (Cm.move rfl) rfl ?_
        refine Sl.want rfl rfl (Cm.len sl25 rfl) rfl ?_
        refine Sl.want rfl rfl (Cm.field fld33_10 rfl) rfl ?_
        refine Sl.want rfl rfl (Cm.ld sca9 rfl (cellF hp3 rfl)) rfl ?_
        refine Sl.want rfl rfl (Cm.lenBs ty9 rfl) rfl ?_
        refine Sl.want rfl rfl (Cm.add64 rfl rfl (by omega)) rfl ?_
        refine Sl.want rfl rfl (Cm.yes (Cm.eql rfl rfl) (by rw [hlen, if_neg h23, if_neg h31]; omega)) rfl ?_
        refine Sl.calm (Cm.pick_t rfl rfl) rfl ?_
        refine Sl.calm (Cm.assign rfl) rfl ?_
        refine Sl.nil ?_
        refine At.weak [(0, _), (1, _), (2, _), (3, _), (4, _), (5, _), (13, _), (21, _), (22, _), (30, _)] ⟨rfl, rfl, rfl, rfl, rfl, rfl, rfl, rfl, rfl, rfl, trivial⟩ ?_
        refine At.go ?_
        refine Sc.ret ?_
        refine At.ret1 rfl rfl ?_
        exact ⟨_, rfl, rfl, (hf1.trans hf2).trans hf3⟩
end Go.Proofs.Ytoaplldahbbaiaa
