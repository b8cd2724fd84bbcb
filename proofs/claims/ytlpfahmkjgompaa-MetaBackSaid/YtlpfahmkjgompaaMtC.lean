/- meta: the program's reader. No condition beyond the bounds that each states. -/
import Derived.Test.YtlpfahmkjgompaaMtB
import Derived.Test.YtlpfahmkjgompaaMp
namespace Go.Proofs.Ytlpfahmkjgompaa
open Go Go.RowKit
set_option linter.unusedVariables false

/-- the numbers of an int -/
abbrev I6 := { z : Int // -9223372036854775808 ≤ z ∧ z ≤ 9223372036854775807 }
def enI (z : I6) : Value := .int .i64 z.1
theorem keyI : KeyEnc Try.prog 3 enI := by
  refine ⟨Go.Maps.int_keyed ty3, fun a => ⟨.int .i64 a.1, ?_⟩, fun a b h => by unfold enI at h; exact Subtype.ext (by simpa using h)⟩
  have h1 : IntKind.i64.min = -9223372036854775808 := rfl
  have h2 : IntKind.i64.max = 9223372036854775807 := rfl
  have := a.2
  simp [keyOf, mapKey, enI, Lit.wf, h1, h2, this]
def held0 : Value := .agg #[.slice none 0 0, .int .i64 0]
theorem mpH : MapT Try.prog 95 3 99 held0 := ⟨by kernel_rfl, by kernel_rfl⟩
theorem setM_mem {α : Type} [DecidableEq α] {a x : α} {v y : Value} : ∀ {m : List (α × Value)}, (x, y) ∈ setM m a v → (x = a ∧ y = v) ∨ (x, y) ∈ m
  | [], h => by
    simp only [setM, List.mem_singleton, Prod.mk.injEq] at h; exact .inl h
  | p :: r, h => by
    unfold setM at h
    split at h
    · rcases List.mem_cons.1 h with h | h
      · cases h; exact .inl ⟨rfl, rfl⟩
      · exact .inr (List.mem_cons_of_mem _ h)
    · rcases List.mem_cons.1 h with h | h
      · rw [h]; exact .inr (by simp)
      · rcases setM_mem h with h | h
        · exact .inl h
        · exact .inr (List.mem_cons_of_mem _ h)
theorem cell_neMap {α : Type} {enc : α → Value} {H : Array Obj} {gm : Nat} {m : List (α × Value)} (hm : MapL enc H gm m) {a : Addr} {v : Value} (h : cellH H a = some v) : a.block ≠ gm := by
  intro e
  unfold cellH at h
  rw [e, hm.1] at h
  cases h
theorem obj_neMap {α : Type} {enc : α → Value} {H : Array Obj} {gm g : Nat} {m : List (α × Value)} (hm : MapL enc H gm m) {cs : Array Value} {T : TypeId} {z : Nat × Nat} (h : H[g]? = some (.cells cs T z)) : g ≠ gm := by
  intro e
  rw [e, hm.1] at h
  cases h
theorem Vw.neMap {α β : Type} {enc : α → Value} {en : β → Value} {H : Array Obj} {gm : Nat} {m : List (β × Value)} {ao : Option Addr} {c : Nat} {xs : List α} (h : Vw enc H ao c xs) (hm : MapL en H gm m) (hne : xs ≠ []) : ∀ a, ao = some a → a.block ≠ gm := by
  intro a ha
  have := h.at (i := 0) (List.length_pos_iff.2 hne)
  have := cell_neMap hm this
  rw [ha, adr_block] at this; exact this
theorem Own.neMap {α β : Type} {enc : α → Value} {en : β → Value} {e : TypeId} {H : Array Obj} {gm : Nat} {m : List (β × Value)} {ao : Option Addr} {c : Nat} {xs : List α} (h : Own enc e H ao c xs) (hm : MapL en H gm m) : ∀ a, ao = some a → a.block ≠ gm := by
  intro a ha
  rcases h with ⟨h, _⟩ | ⟨g, cur, rfl, hg, _⟩
  · rw [h] at ha; cases ha
  · cases ha; exact obj_neMap hm hg

def mrC (p : Nat) (io : Option Addr) (il ic : Nat) (fr to : Int) (gm : Nat) : List Value := [.pointer (some ⟨p, 0, none⟩), .slice io il ic, .int .i64 fr, .int .i64 to, .map (some gm)]
def hvC (bo : Option Addr) (bl bc : Nat) (nx : Int) : List Value := [.slice bo bl bc, .int .i64 nx]
theorem hvC_one (bo : Option Addr) (bl bc : Nat) (nx : Int) : ∀ v ∈ hvC bo bl bc nx, v.oneCell' = true := by
  intro v hv
  simp only [hvC, List.mem_cons, List.not_mem_nil, or_false] at hv
  rcases hv with rfl | rfl <;> rfl
/-- what is known of frames -/
def HmV (D : Nat → Prop) (H : Array Obj) (im : List UInt8) (fr to : Int) (m : List (I6 × Value)) : Prop :=
  ∀ a v, (a, v) ∈ m → ∃ bo bc b nx, v = .agg (hvC bo b.length bc nx).toArray ∧ holdsS im fr to a.1 = some (b, nx) ∧ Vw b8 H bo bc b ∧ ∀ k, blk bo k → D k
/-- a reader in memory; its blocks are of D -/
def MrO (D : Nat → Prop) (H : Array Obj) (g p : Nat) (im : List UInt8) (fr to : Int) : Prop :=
  ∃ io ic gm m, H[g]? = some (.cells (mrC p io im.length ic fr to gm).toArray 97 (0, 0)) ∧ Own b8 5 H io ic im ∧ MapL enI H gm m ∧ HmV D H im fr to m ∧ D g ∧ D gm ∧ (∀ k, blk io k → D k) ∧ TbV H p ∧ ¬ D p
section
variable {D : Nat → Prop} {g p : Nat} {im : List UInt8} {fr to : Int}
theorem MrO.lt {H : Array Obj} (h : MrO D H g p im fr to) : g < H.size := by obtain ⟨io, ic, gm, m, hg, _⟩ := h; exact (Array.getElem?_eq_some_iff.1 hg).1
theorem HmV.keep {S : Nat → Prop} {w w' : World} {m : List (I6 × Value)} (h : HmV D w.heap im fr to m) (hf : Foot S w w') (hs : ∀ k, D k → ¬ S k) : HmV D w'.heap im fr to m := fun a v hv => by
  obtain ⟨bo, bc, b, nx, e, h1, h2, h3⟩ := h a v hv
  exact ⟨bo, bc, b, nx, e, h1, h2.keep hf (fun x hx => hs _ (h3 _ ⟨x, hx, rfl⟩)), h3⟩
theorem MrO.keep {S : Nat → Prop} {w w' : World} (h : MrO D w.heap g p im fr to) (hf : Foot S w w') (hs : ∀ k, D k → ¬ S k) (hp : ¬ S p) : MrO D w'.heap g p im fr to := by
  obtain ⟨io, ic, gm, m, hg, h1, h2, h3, h4, h5, h6, h7, h8⟩ := h
  exact ⟨io, ic, gm, m, hf.obj hg (hs g h4), h1.keep hf (fun a ha => hs _ (h6 _ ⟨a, ha, rfl⟩)), h2.keep hf (hs _ h5), h3.keep hf hs, h4, h5, h6, hf.obj h7 hp, h8⟩
theorem MrO.grow {w w' : World} (h : MrO D w.heap g p im fr to) (hf : Foot nob w w') : MrO D w'.heap g p im fr to := h.keep hf (fun _ _ => id) id
theorem MrO.shrink {S : Nat → Prop} {w w' : World} (h : MrO D w.heap g p im fr to) (hf : Foot S w w') (hs : ∀ k, D k → ¬ S k) (hp : ¬ S p) : MrO (fun k => D k ∧ (k < w.heap.size ∨ w'.heap.size ≤ k)) w'.heap g p im fr to := by
  have hl := h.lt
  obtain ⟨io, ic, gm, m, hg, h1, h2, h3, h4, h5, h6, h7, h8⟩ := h
  refine ⟨io, ic, gm, m, hf.obj hg (hs g h4), h1.keep hf (fun a ha => hs _ (h6 _ ⟨a, ha, rfl⟩)), h2.keep hf (hs _ h5), fun a v hv => ?_, ⟨h4, .inl hl⟩, ⟨h5, .inl h2.obj⟩, fun k ⟨a, ha, hb⟩ => ⟨h6 k ⟨a, ha, hb⟩, .inl (by have := h1.lt a ha; omega)⟩, hf.obj h7 hp, fun h => h8 h.1⟩
  obtain ⟨bo, bc, b, nx, e, k1, k2, k3⟩ := h3 a v hv
  have hb := (holdsS_some k1).2.2.2.2.2.2.1
  exact ⟨bo, bc, b, nx, e, k1, k2.keep hf (fun x hx => hs _ (k3 _ ⟨x, hx, rfl⟩)), fun k ⟨x, hx, hk⟩ => ⟨k3 k ⟨x, hx, hk⟩, .inl (by have := k2.lt (fun e => by rw [e] at hb; cases hb) x hx; omega)⟩⟩
end
theorem mopen_ok (p : Nat) (ao : Option Addr) (c : Nat) (im : List UInt8) (fr to : Int) (W : World) (ht : TbV W.heap p) (hv : Vw b8 W.heap ao c im) (hb : im.length ≤ 140737488355328) :
    Calls Try.prog 30 [.pointer (some ⟨p, 0, none⟩), .slice ao im.length c, .int .i64 fr, .int .i64 to].toArray W (Ret fun v w' => ∃ g, v = .pointer (some ⟨g, 0, none⟩) ∧ W.heap.size ≤ g ∧ MrO (fun k => W.heap.size ≤ k) w'.heap g p im fr to ∧ Foot nob W w') := by
  refine calls_of_sc 17 [(0, _), (1, _), (2, _), (3, _)] Try.func30 rfl rfl rfl (enter_slots ⟨rfl, rfl, rfl, rfl, trivial⟩) ?_
  refine Sc.seq ?_
  refine Sc.region ?_
  refine Sl.calm (Cm.assign rfl) rfl ?_
  refine Sl.nil ?_
  refine At.go ?_
  refine Sc.seq ?_
  refine Sc.region ?_
  refine Sl.calm (Cm.move rfl) rfl ?_
  refine Sl.calm (Cm.move rfl) rfl ?_
  refine Sl.call fn53 rfl (sclone_ok ao c im W hv hb) rfl ?_
  rintro _ w1 ⟨o1, c1, rfl, ho1, hfr1, hf1⟩
  have hz1 := hf1.size
  refine Sl.calm (Cm.move rfl) rfl ?_
  refine Sl.calm (Cm.move rfl) rfl ?_
  refine Sl.makeMap (enc := enI) rfl ?_
  intro w2 hm2 hs2 hf2
  refine Sl.calm (Cm.build (cs := #[.pointer (some ⟨p, 0, none⟩), .slice o1 im.length c1, .int .i64 fr, .int .i64 to, .map (some w1.heap.size)]) plc97 zc97 rfl (by kernel_rfl)) rfl ?_
  refine Sl.box rfl rfl ?_
  intro w3 hg3 hs3 hf3
  refine Sl.calm (Cm.assign rfl) rfl ?_
  refine Sl.nil ?_
  refine At.weak [(0, _), (1, _), (2, _), (3, _), (8, _)] ⟨rfl, rfl, rfl, rfl, rfl, trivial⟩ ?_
  refine At.go ?_
  refine Sc.ret ?_
  refine At.ret1 rfl rfl ?_
  have hpl := (Array.getElem?_eq_some_iff.1 ht).1
  have hF := (hf1.trans hf2).trans hf3
  exact ⟨_, rfl, _, rfl, by omega, ⟨o1, c1, w1.heap.size, [], hg3, (ho1.grow hf2).grow hf3, hm2.keep hf3 id, (fun a v h => by cases h), (by show W.heap.size ≤ _; omega), hz1, (fun k ⟨a, ha, hk⟩ => by have := hfr1 a ha; show W.heap.size ≤ k; omega), hF.obj ht id, (by show ¬ W.heap.size ≤ p; omega)⟩, hF⟩
theorem mmay_ok (D : Nat → Prop) (g p : Nat) (im : List UInt8) (fr to : Int) (W : World) (hM : MrO D W.heap g p im fr to) :
    Calls Try.prog 55 [.pointer (some ⟨g, 0, none⟩)].toArray W (Ret fun v w' => v = .bool (mayS im fr to) ∧ Foot nob W w') := by
  obtain ⟨io, ic, gm, m, hg, h1, h2, h3, h4, h5, h6, h7, h8⟩ := hM
  refine calls_of_sc 31 [(0, _)] Try.func55 rfl rfl rfl (enter_slots ⟨rfl, trivial⟩) ?_
  refine Sc.seq ?_
  refine Sc.region ?_
  refine Sl.calm (Cm.assign rfl) rfl ?_
  refine Sl.nil ?_
  refine At.go ?_
  refine Sc.seq ?_
  refine Sc.quiet 29 [0, 1, 2, 3, 4, 5, 6, 7, 8, 9, 10, 11, 12, 13, 14, 15, 16, 17, 18, 19, 20, 21, 22, 23, 24, 25, 26, 27, 28] mixed (by kernel_rfl) ?_
  refine Sx.calm rfl rfl (Cm.move rfl) rfl ?_
  refine Sx.calm rfl rfl (Cm.nilCheck rfl) rfl ?_
  refine Sx.calm rfl rfl (Cm.field fld97_2 rfl) rfl ?_
  refine Sx.calm rfl rfl (Cm.ld sca3 rfl (cellF hg rfl)) rfl ?_
  refine Sx.fork rfl rfl (Cm.geq rfl rfl) rfl (fun h7 => ?_) (fun h7 => ?_)
  ·
    refine Sx.calm rfl rfl (Cm.move rfl) rfl ?_
    refine Sx.want rfl rfl rfl rfl (Cm.move rfl) rfl ?_
    refine Sx.want rfl rfl rfl rfl (Cm.nilCheck rfl) rfl ?_
    refine Sx.want rfl rfl rfl rfl (Cm.field fld97_2 rfl) rfl ?_
    refine Sx.want rfl rfl rfl rfl (Cm.ld sca3 rfl (cellF hg rfl)) rfl ?_
    refine Sx.want rfl rfl rfl rfl (Cm.move rfl) rfl ?_
    refine Sx.want rfl rfl rfl rfl (Cm.nilCheck rfl) rfl ?_
    refine Sx.want rfl rfl rfl rfl (Cm.field fld97_3 rfl) rfl ?_
    refine Sx.want rfl rfl rfl rfl (Cm.ld sca3 rfl (cellF hg rfl)) rfl ?_
    refine Sx.forkWant rfl rfl rfl rfl (Cm.leq rfl rfl) rfl (fun h17 => ?_) (fun h17 => ?_)
    ·
      refine Sx.calm rfl rfl (Cm.pick_t rfl rfl) rfl ?_
      refine Sx.calm rfl rfl (Cm.move rfl) rfl ?_
      refine Sx.want rfl rfl rfl rfl (Cm.move rfl) rfl ?_
      refine Sx.want rfl rfl rfl rfl (Cm.nilCheck rfl) rfl ?_
      refine Sx.want rfl rfl rfl rfl (Cm.field fld97_3 rfl) rfl ?_
      refine Sx.want rfl rfl rfl rfl (Cm.ld sca3 rfl (cellF hg rfl)) rfl ?_
      refine Sx.want rfl rfl rfl rfl (Cm.move rfl) rfl ?_
      refine Sx.want rfl rfl rfl rfl (Cm.nilCheck rfl) rfl ?_
      refine Sx.want rfl rfl rfl rfl (Cm.field fld97_1 rfl) rfl ?_
      refine Sx.want rfl rfl rfl rfl (Cm.ld sca22 rfl (cellF hg rfl)) rfl ?_
      refine Sx.want rfl rfl rfl rfl (Cm.len sl22 rfl) rfl ?_
      refine Sx.forkWant rfl rfl rfl rfl (Cm.leq rfl rfl) rfl (fun h29 => ?_) (fun h29 => ?_)
      ·
        refine Sx.calm rfl rfl (Cm.pick_t rfl rfl) rfl ?_
        refine Sx.calm rfl rfl (Cm.assign rfl) rfl ?_
        refine Sx.nil ?_
        refine At.weak [(0, _), (2, _)] ⟨rfl, rfl, trivial⟩ ?_
        refine At.go ?_
        refine Sc.ret ?_
        refine At.ret1 rfl rfl ?_
        refine ⟨_, rfl, congrArg Value.bool (mayS_eq ⟨fun h => ?_, fun h => ?_⟩), (Foot.refl _ _).draws 1⟩
        · first
          | omega
          | exact absurd h (by decide)
        · first
          | rfl
          | exact absurd h (by omega)
      ·
        refine Sx.calm rfl rfl (Cm.pick_t rfl rfl) rfl ?_
        refine Sx.calm rfl rfl (Cm.assign rfl) rfl ?_
        refine Sx.nil ?_
        refine At.weak [(0, _), (2, _)] ⟨rfl, rfl, trivial⟩ ?_
        refine At.go ?_
        refine Sc.ret ?_
        refine At.ret1 rfl rfl ?_
        refine ⟨_, rfl, congrArg Value.bool (mayS_eq ⟨fun h => ?_, fun h => ?_⟩), (Foot.refl _ _).draws 1⟩
        · first
          | omega
          | exact absurd h (by decide)
        · first
          | rfl
          | exact absurd h (by omega)
    ·
      refine Sx.calm rfl rfl (Cm.pick_t rfl rfl) rfl ?_
      refine Sx.calm rfl rfl (Cm.move rfl) rfl ?_
      refine Sx.skip rfl rfl rfl rfl rfl rfl ?_
      refine Sx.skip rfl rfl rfl rfl rfl rfl ?_
      refine Sx.skip rfl rfl rfl rfl rfl rfl ?_
      refine Sx.skip rfl rfl rfl rfl rfl rfl ?_
      refine Sx.skip rfl rfl rfl rfl rfl rfl ?_
      refine Sx.skip rfl rfl rfl rfl rfl rfl ?_
      refine Sx.skip rfl rfl rfl rfl rfl rfl ?_
      refine Sx.skip rfl rfl rfl rfl rfl rfl ?_
      refine Sx.skip rfl rfl rfl rfl rfl rfl ?_
      refine Sx.skip rfl rfl rfl rfl rfl rfl ?_
      refine Sx.calm rfl rfl (Cm.pick_f rfl rfl) rfl ?_
      refine Sx.calm rfl rfl (Cm.assign rfl) rfl ?_
      refine Sx.nil ?_
      refine At.weak [(0, _), (2, _)] ⟨rfl, rfl, trivial⟩ ?_
      refine At.go ?_
      refine Sc.ret ?_
      refine At.ret1 rfl rfl ?_
      refine ⟨_, rfl, congrArg Value.bool (mayS_eq ⟨fun h => ?_, fun h => ?_⟩), (Foot.refl _ _).draws 1⟩
      · first
        | omega
        | exact absurd h (by decide)
      · first
        | rfl
        | exact absurd h (by omega)
  ·
    refine Sx.calm rfl rfl (Cm.move rfl) rfl ?_
    refine Sx.skip rfl rfl rfl rfl rfl rfl ?_
    refine Sx.skip rfl rfl rfl rfl rfl rfl ?_
    refine Sx.skip rfl rfl rfl rfl rfl rfl ?_
    refine Sx.skip rfl rfl rfl rfl rfl rfl ?_
    refine Sx.skip rfl rfl rfl rfl rfl rfl ?_
    refine Sx.skip rfl rfl rfl rfl rfl rfl ?_
    refine Sx.skip rfl rfl rfl rfl rfl rfl ?_
    refine Sx.skip rfl rfl rfl rfl rfl rfl ?_
    refine Sx.skip rfl rfl rfl rfl rfl rfl ?_
    refine Sx.calm rfl rfl (Cm.pick_f rfl rfl) rfl ?_
    refine Sx.calm rfl rfl (Cm.move rfl) rfl ?_
    refine Sx.skip rfl rfl rfl rfl rfl rfl ?_
    refine Sx.skip rfl rfl rfl rfl rfl rfl ?_
    refine Sx.skip rfl rfl rfl rfl rfl rfl ?_
    refine Sx.skip rfl rfl rfl rfl rfl rfl ?_
    refine Sx.skip rfl rfl rfl rfl rfl rfl ?_
    refine Sx.skip rfl rfl rfl rfl rfl rfl ?_
    refine Sx.skip rfl rfl rfl rfl rfl rfl ?_
    refine Sx.skip rfl rfl rfl rfl rfl rfl ?_
    refine Sx.skip rfl rfl rfl rfl rfl rfl ?_
    refine Sx.skip rfl rfl rfl rfl rfl rfl ?_
    refine Sx.calm rfl rfl (Cm.pick_f rfl rfl) rfl ?_
    refine Sx.calm rfl rfl (Cm.assign rfl) rfl ?_
    refine Sx.nil ?_
    refine At.weak [(0, _), (2, _)] ⟨rfl, rfl, trivial⟩ ?_
    refine At.go ?_
    refine Sc.ret ?_
    refine At.ret1 rfl rfl ?_
    refine ⟨_, rfl, congrArg Value.bool (mayS_eq ⟨fun h => ?_, fun h => ?_⟩), (Foot.refl _ _).draws 1⟩
    · first
      | omega
      | exact absurd h (by decide)
    · first
      | rfl
      | exact absurd h (by omega)
def HoP (D : Nat → Prop) (r : Option (List UInt8 × Int)) (v : Value) (H : Array Obj) : Prop := match r with
  | none => v = .tuple #[held0, .bool false]
  | some (b, nx) => ∃ bo bc, v = .tuple #[.agg (hvC bo b.length bc nx).toArray, .bool true] ∧ Vw b8 H bo bc b ∧ ∀ k, blk bo k → D k
theorem HmV.snoc {D : Nat → Prop} {H : Array Obj} {im : List UInt8} {fr to nx : Int} {a : I6} {m : List (I6 × Value)} {bo : Option Addr} {bc : Nat} {b : List UInt8} (h : HmV D H im fr to m) (hh : holdsS im fr to a.1 = some (b, nx)) (hv : Vw b8 H bo bc b) (hD : ∀ k, blk bo k → D k) :
    HmV D H im fr to (setM m a (.agg (hvC bo b.length bc nx).toArray)) := fun x y hxy => by
  rcases setM_mem hxy with ⟨rfl, rfl⟩ | hm
  · exact ⟨bo, bc, b, nx, rfl, hh, hv, hD⟩
  · exact h x y hm

/-- .. a frame more is known -/
theorem mr_more {D : Nat → Prop} {W w' : World} {g p gm r : Nat} {im : List UInt8} {fr to nx : Int} {io bo : Option Addr} {ic bc : Nat} {b : List UInt8} {m : List (I6 × Value)} {a : I6}
    (hD : ∀ k, W.heap.size ≤ k → D k) (hg : W.heap[g]? = some (.cells (mrC p io im.length ic fr to gm).toArray 97 (0, 0))) (h1 : Own b8 5 W.heap io ic im) (h2 : MapL enI W.heap gm m) (h3 : HmV D W.heap im fr to m) (h4 : D g) (h5 : D gm) (h6 : ∀ k, blk io k → D k) (h7 : TbV W.heap p) (h8 : ¬ D p)
    (hF : Foot (fun k => k = gm ∨ k = r) W w') (hr : W.heap.size ≤ r) (hm : MapL enI w'.heap gm (setM m a (.agg (hvC bo b.length bc nx).toArray))) (hh : holdsS im fr to a.1 = some (b, nx)) (hb : Vw b8 w'.heap bo bc b) (hfr : Fr W.heap.size bo) :
    MrO D w'.heap g p im fr to ∧ Foot D W w' := by
  have hgl := (Array.getElem?_eq_some_iff.1 hg).1
  have hpl := (Array.getElem?_eq_some_iff.1 h7).1
  have hn : ∀ k, k < W.heap.size → k ≠ gm → ¬ (k = gm ∨ k = r) := fun k hk hk2 h => by rcases h with h | h; exact hk2 h; omega
  refine ⟨⟨io, ic, gm, _, hF.obj hg (hn g hgl (obj_neMap h2 hg)), h1.keep hF (fun x hx => hn _ (h1.lt x hx) (h1.neMap h2 x hx)), hm, HmV.snoc (fun x v hx => ?_) hh hb (fun k ⟨x, hx, hk⟩ => hD k (by have := hfr x hx; omega)), h4, h5, h6, hF.obj h7 (hn p hpl (fun e => h8 (e ▸ h5))), h8⟩, hF.mono (fun k hk => by rcases hk with rfl | rfl; exact h5; exact hD _ hr)⟩
  obtain ⟨bo', bc', b', nx', e, k1, k2, k3⟩ := h3 x v hx
  have hb' : b' ≠ [] := fun e => by have := (holdsS_some k1).2.2.2.2.2.2.1; rw [e] at this; cases this
  exact ⟨bo', bc', b', nx', e, k1, k2.keep hF (fun y hy => hn _ (k2.lt hb' y hy) (k2.neMap h2 hb' y hy)), k3⟩

set_option maxHeartbeats 4000000 in
theorem mholds_ok (D : Nat → Prop) (g p : Nat) (im : List UInt8) (fr to a : Int) (W : World) (hM : MrO D W.heap g p im fr to) (hD : ∀ k, W.heap.size ≤ k → D k) (hmay : mayS im fr to = true) (him : im.length ≤ 1099511627776) (ha : 0 ≤ a ∧ a ≤ 9223372036854775807) :
    Calls Try.prog 56 [.pointer (some ⟨g, 0, none⟩), .int .i64 a].toArray W (Ret fun v w' => HoP D (holdsS im fr to a) v w'.heap ∧ MrO D w'.heap g p im fr to ∧ Foot D W w') := by
  have hM0 := hM
  have hgl := hM.lt
  obtain ⟨io, ic, gm, m, hg, h1, h2, h3, h4, h5, h6, h7, h8⟩ := hM
  obtain ⟨hm1, hm2, hm3⟩ : 0 ≤ fr ∧ fr ≤ to ∧ to ≤ im.length := by
    unfold mayS at hmay
    simp only [Bool.and_eq_true, decide_eq_true_eq] at hmay; omega
  have hgml := h2.obj
  refine calls_of_sc 85 [(0, _), (1, _)] Try.func56 rfl rfl rfl (enter_slots ⟨rfl, rfl, trivial⟩) ?_
  refine Sc.seq ?_
  refine Sc.region ?_
  refine Sl.allocC zc99 rfl ?_
  intro w1 hg1 hs1 hf1
  refine Sl.calm (Cm.assign rfl) rfl ?_
  refine Sl.nil ?_
  refine At.go ?_
  refine Sc.seq ?_
  refine Sc.seq ?_
  refine Sc.region ?_
  refine Sl.calm (Cm.move rfl) rfl ?_
  refine Sl.calm (Cm.nilCheck rfl) rfl ?_
  refine Sl.calm (Cm.field fld97_4 rfl) rfl ?_
  refine Sl.calm (Cm.ld sca95 rfl (cellF (hf1.obj hg id) rfl)) rfl ?_
  refine Sl.calm (Cm.move rfl) rfl ?_
  refine Sl.calm (Cm.lookupOk mpH (a := (⟨a, by omega⟩ : I6)) keyI rfl rfl (fun _ e => by rw [e]; exact (h2.keep hf1 id))) rfl ?_
  refine Sl.calm (Cm.move rfl) rfl ?_
  refine Sl.calm (Cm.extract rfl rfl) rfl ?_
  refine Sl.fork (Cm.ofBool (Cm.extract rfl rfl)) rfl (fun h20 => ?_) (fun h20 => ?_)
  ·
    obtain ⟨v, hv⟩ := Option.isSome_iff_exists.1 (of_decide_eq_true h20)
    rw [hv]
    obtain ⟨bo, bc, b, nx, rfl, k1, k2, k3⟩ := h3 _ v (getM_mem hv)
    refine Sl.allocC zc99 rfl ?_
    intro w2 hg2 hs2 hf2
    refine Sl.storeAll (vs := (hvC bo b.length bc nx)) agg99 rfl rfl (hvC_one _ _ _ _) hg2 rfl ?_
    intro w3 hg3 hs3 hf3
    have hF13 : Foot nob w1 w3 := hf2.trans_to hf3 (fun k hk => .inr (by have h : k = w1.heap.size := hk; omega))
    have hF3 := hf1.trans hF13
    have hgr := hF13.obj hg1 id
    have hgg := hF3.obj hg id
    refine Sl.calm (Cm.assign rfl) rfl ?_
    refine Sl.nil ?_
    refine At.weak [(0, _), (1, _), (4, _), (5, _), (6, _), (7, _)] ⟨rfl, rfl, rfl, rfl, rfl, rfl, trivial⟩ ?_
    refine At.go ?_
    refine Sc.seq ?_
    refine Sc.region ?_
    refine Sl.calm (Cm.move rfl) rfl ?_
    refine Sl.nil ?_
    refine At.go ?_
    refine Sc.cond_t rfl ?_
    refine Sc.seq ?_
    refine Sc.region ?_
    refine Sl.calm (Cm.ldM (cs := hvC bo b.length bc nx) agg99 rfl (fun j v hj => cellF hg3 hj)) rfl ?_
    refine Sl.storeAll (vs := (hvC bo b.length bc nx)) agg99 rfl rfl (hvC_one _ _ _ _) hgr rfl ?_
    intro w4 hg4 hs4 hf4
    have hF4 : Foot nob W w4 := hF3.trans_to hf4 (fun k hk => .inr (by have h : k = W.heap.size := hk; omega))
    refine Sl.calm (Cm.assign rfl) rfl ?_
    refine Sl.nil ?_
    refine At.weak [(0, _), (1, _), (4, _), (5, _), (6, _), (7, _), (21, _)] ⟨rfl, rfl, rfl, rfl, rfl, rfl, rfl, trivial⟩ ?_
    refine At.go ?_
    refine Sc.ret ?_
    refine At.then_ret ?_
    refine At.retC (cs := hvC bo b.length bc nx) rfl agg99 rfl rfl (fun j v hj => cellF hg4 hj) ?_
    first
      | exact ⟨_, rfl, by rw [k1]; exact ⟨bo, bc, rfl, k2.grow hF4, k3⟩, hM0.grow hF4, hF4.any⟩
      | exact ⟨_, rfl, by rw [hn]; exact rfl, hM0.grow hF4, hF4.any⟩
      | exact ⟨_, rfl, by rw [hho]; exact rfl, hM0.grow hF4, hF4.any⟩
      | (have hz8 := hf8.size
         have hF79 : Foot (fun k => k = gm ∨ k = W.heap.size) w7 w9 := (hf8.mono (fun k h => .inl h)).trans (hf9.mono (fun k h => .inr h))
         have ho9 := (ho7.keep hf8 (ho7.neMap hm7)).keep hf9 (fun x hx h => by have := hfr5 x hx; have h : x.block = W.heap.size := h; omega)
         obtain ⟨hM9, hF9⟩ := mr_more (a := ⟨a, by omega⟩) (r := W.heap.size) hD hg h1 h2 h3 h4 h5 h6 h7 h8 (hF7.any.trans hF79) (Nat.le_refl _) (hm8.keep hf9 (by omega)) hho ho9.vw (hfr5.mono hz3)
         exact ⟨_, rfl, by rw [hho]; exact ⟨o5, c5, rfl, ho9.vw, fun k ⟨x, hx, hk⟩ => hD k (by have := hfr5 x hx; omega)⟩, hM9, hF9⟩)
  ·
    have hv : getM m (⟨a, by omega⟩ : I6) = none := by simpa using h20
    rw [hv]
    refine Sl.allocC zc99 rfl ?_
    intro w2 hg2 hs2 hf2
    refine Sl.storeAll (vs := (hvC none 0 0 0)) agg99 rfl rfl (hvC_one _ _ _ _) hg2 rfl ?_
    intro w3 hg3 hs3 hf3
    have hF13 : Foot nob w1 w3 := hf2.trans_to hf3 (fun k hk => .inr (by have h : k = w1.heap.size := hk; omega))
    have hF3 := hf1.trans hF13
    have hgr := hF13.obj hg1 id
    have hgg := hF3.obj hg id
    refine Sl.calm (Cm.assign rfl) rfl ?_
    refine Sl.nil ?_
    refine At.weak [(0, _), (1, _), (4, _), (5, _), (6, _), (7, _)] ⟨rfl, rfl, rfl, rfl, rfl, rfl, trivial⟩ ?_
    refine At.go ?_
    refine Sc.seq ?_
    refine Sc.region ?_
    refine Sl.calm (Cm.move rfl) rfl ?_
    refine Sl.nil ?_
    refine At.go ?_
    refine Sc.cond_f rfl ?_
    refine Sc.skip ?_
    refine At.go ?_
    refine Sc.seq ?_
    refine Sc.seq ?_
    refine Sc.quiet 11 [0, 1, 2, 3, 4, 5, 6, 7, 8, 9, 10] mixed (by kernel_rfl) ?_
    refine Sx.calm rfl rfl (Cm.move rfl) rfl ?_
    refine Sx.calm rfl rfl (Cm.move rfl) rfl ?_
    refine Sx.calm rfl rfl (Cm.nilCheck rfl) rfl ?_
    refine Sx.calm rfl rfl (Cm.field fld97_3 rfl) rfl ?_
    refine Sx.calm rfl rfl (Cm.ld sca3 rfl (cellF hgg rfl)) rfl ?_
    refine Sx.calm rfl rfl (Cm.move rfl) rfl ?_
    refine Sx.calm rfl rfl (Cm.nilCheck rfl) rfl ?_
    refine Sx.calm rfl rfl (Cm.field fld97_2 rfl) rfl ?_
    refine Sx.calm rfl rfl (Cm.ld sca3 rfl (cellF hgg rfl)) rfl ?_
    refine Sx.calm rfl rfl (Cm.sub64 rfl rfl (by omega)) rfl ?_
    refine Sx.fork rfl rfl (Cm.gtr rfl rfl) rfl (fun h33 => ?_) (fun h33 => ?_)
    ·
      have hn : holdsS im fr to a = none := by unfold holdsS; rw [if_pos (by omega)]
      refine Sx.nil ?_
      refine At.weak [(0, _), (1, _), (4, _), (5, _), (6, _), (7, _), (21, _), (33, _)] ⟨rfl, rfl, rfl, rfl, rfl, rfl, rfl, rfl, trivial⟩ ?_
      refine At.go ?_
      refine Sc.cond_t rfl ?_
      refine Sc.seq ?_
      refine Sc.region ?_
      refine Sl.calm (Cm.build (cs := #[.slice none 0 0, .int .i64 0]) plc99 zc99 rfl (by kernel_rfl)) rfl ?_
      refine Sl.storeAll (vs := (hvC none 0 0 0)) agg99 rfl rfl (hvC_one _ _ _ _) hgr rfl ?_
      intro w4 hg4 hs4 hf4
      have hf4 := hf4.undraw
      have hF4 : Foot nob W w4 := hF3.trans_to hf4 (fun k hk => .inr (by have h : k = W.heap.size := hk; omega))
      refine Sl.calm (Cm.assign rfl) rfl ?_
      refine Sl.nil ?_
      refine At.weak [(0, _), (1, _), (4, _), (5, _), (6, _), (7, _), (21, _), (33, _)] ⟨rfl, rfl, rfl, rfl, rfl, rfl, rfl, rfl, trivial⟩ ?_
      refine At.go ?_
      refine Sc.ret ?_
      refine At.then_ret ?_
      refine At.retC (cs := hvC none 0 0 0) rfl agg99 rfl rfl (fun j v hj => cellF hg4 hj) ?_
      first
        | exact ⟨_, rfl, by rw [k1]; exact ⟨bo, bc, rfl, k2.grow hF4, k3⟩, hM0.grow hF4, hF4.any⟩
        | exact ⟨_, rfl, by rw [hn]; exact rfl, hM0.grow hF4, hF4.any⟩
        | exact ⟨_, rfl, by rw [hho]; exact rfl, hM0.grow hF4, hF4.any⟩
        | (have hz8 := hf8.size
           have hF79 : Foot (fun k => k = gm ∨ k = W.heap.size) w7 w9 := (hf8.mono (fun k h => .inl h)).trans (hf9.mono (fun k h => .inr h))
           have ho9 := (ho7.keep hf8 (ho7.neMap hm7)).keep hf9 (fun x hx h => by have := hfr5 x hx; have h : x.block = W.heap.size := h; omega)
           obtain ⟨hM9, hF9⟩ := mr_more (a := ⟨a, by omega⟩) (r := W.heap.size) hD hg h1 h2 h3 h4 h5 h6 h7 h8 (hF7.any.trans hF79) (Nat.le_refl _) (hm8.keep hf9 (by omega)) hho ho9.vw (hfr5.mono hz3)
           exact ⟨_, rfl, by rw [hho]; exact ⟨o5, c5, rfl, ho9.vw, fun k ⟨x, hx, hk⟩ => hD k (by have := hfr5 x hx; omega)⟩, hM9, hF9⟩)
    ·
      refine Sx.nil ?_
      refine At.weak [(0, _), (1, _), (4, _), (5, _), (6, _), (7, _), (21, _), (33, _)] ⟨rfl, rfl, rfl, rfl, rfl, rfl, rfl, rfl, trivial⟩ ?_
      refine At.go ?_
      refine Sc.cond_f rfl ?_
      refine Sc.skip ?_
      refine At.go ?_
      refine Sc.seq ?_
      refine Sc.draw 22 (fun H => H[g]? = some (.cells (mrC p io im.length ic fr to gm).toArray 97 (0, 0))) [14] [0, 1, 2, 3, 4, 5, 6, 7, 8, 9, 10, 11, 12, 13, 14, 15, 16, 17, 18, 19, 20, 21] mixed (by kernel_rfl) (hgg) ?_
      refine Sx.calm rfl rfl (Cm.move rfl) rfl ?_
      refine Sx.calm rfl rfl (Cm.nilCheck rfl) rfl ?_
      refine Sx.calm rfl rfl (Cm.field fld97_0 rfl) rfl ?_
      refine Sx.calm rfl rfl (Cm.load sca32 rfl (fun H hH => cellF hH rfl)) rfl ?_
      refine Sx.calm rfl rfl (Cm.move rfl) rfl ?_
      refine Sx.calm rfl rfl (Cm.nilCheck rfl) rfl ?_
      refine Sx.calm rfl rfl (Cm.field fld97_1 rfl) rfl ?_
      refine Sx.calm rfl rfl (Cm.load sca22 rfl (fun H hH => cellF hH rfl)) rfl ?_
      refine Sx.calm rfl rfl (Cm.move rfl) rfl ?_
      refine Sx.calm rfl rfl (Cm.nilCheck rfl) rfl ?_
      refine Sx.calm rfl rfl (Cm.field fld97_2 rfl) rfl ?_
      refine Sx.calm rfl rfl (Cm.load sca3 rfl (fun H hH => cellF hH rfl)) rfl ?_
      refine Sx.calm rfl rfl (Cm.move rfl) rfl ?_
      refine Sx.calm rfl rfl (Cm.add64 rfl rfl (by omega)) rfl ?_
      refine Sx.eff rfl rfl (Sl.call fn19 rfl (ftake_ok p io ic im (fr + a) _ (hF3.obj h7 id) ((h1.grow hF3).vw) him (by omega)) rfl ?_)
      rintro _ w5 ⟨o5, c5, rfl, ho5, hfr5, hf5⟩
      refine Sx.on (by exact hf5.undraw.undraw.obj hgg id) ?_
      have hfr5 : Fr w3.heap.size o5 := hfr5
      have hf5 := hf5.undraw.undraw
      have hF5 := hF3.trans hf5
      have hz5 := hF5.size
      have hz3 := hF3.size
      have hg5 := hf5.obj hgg id
      have hgr5 := hf5.obj hgr id
      obtain ⟨t, hT⟩ : ∃ t, t = takeS im (fr + a) := ⟨_, rfl⟩
      rw [← hT]
      rw [← hT] at ho5
      have hho : holdsS im fr to a = if t.2.2 ≠ 0 ∨ to < t.2.1 ∨ t.1.length = 0 then none else some (t.1, t.2.1 - fr) := by unfold holdsS; rw [if_neg (by omega), ← hT]
      have htk := takeS_ok (im := im) (a := fr + a)
      rw [← hT] at htk
      refine Sx.calm rfl rfl (Cm.move rfl) rfl ?_
      refine Sx.calm rfl rfl (Cm.extract rfl rfl) rfl ?_
      refine Sx.calm rfl rfl (Cm.extract rfl rfl) rfl ?_
      refine Sx.calm rfl rfl (Cm.extract rfl rfl) rfl ?_
      refine Sx.calm rfl rfl (Cm.assign rfl) rfl ?_
      refine Sx.calm rfl rfl (Cm.assign rfl) rfl ?_
      refine Sx.calm rfl rfl (Cm.assign rfl) rfl ?_
      refine Sx.nil ?_
      refine At.weak [(0, _), (1, _), (4, _), (5, _), (6, _), (7, _), (8, _), (9, _), (10, _), (21, _), (33, _)] ⟨rfl, rfl, rfl, rfl, rfl, rfl, rfl, rfl, rfl, rfl, rfl, trivial⟩ ?_
      refine At.go ?_
      refine Sc.seq ?_
      refine Sc.seq ?_
      refine Sc.region ?_
      refine Sl.calm (Cm.move rfl) rfl ?_
      refine Sl.fork (Cm.neq rfl rfl) rfl (fun h55 => ?_) (fun h55 => ?_)
      ·
        rw [if_pos (.inl h55)] at hho
        refine Sl.calm (Cm.move rfl) rfl ?_
        refine Sl.skip rfl rfl rfl rfl ?_
        refine Sl.skip rfl rfl rfl rfl ?_
        refine Sl.skip rfl rfl rfl rfl ?_
        refine Sl.skip rfl rfl rfl rfl ?_
        refine Sl.skip rfl rfl rfl rfl ?_
        refine Sl.skip rfl rfl rfl rfl ?_
        refine Sl.calm (Cm.pick_t rfl rfl) rfl ?_
        refine Sl.calm (Cm.move rfl) rfl ?_
        refine Sl.skip rfl rfl rfl rfl ?_
        refine Sl.skip rfl rfl rfl rfl ?_
        refine Sl.skip rfl rfl rfl rfl ?_
        refine Sl.calm (Cm.pick_t rfl rfl) rfl ?_
        refine Sl.nil ?_
        refine At.weak [(0, _), (1, _), (4, _), (5, _), (6, _), (7, _), (8, _), (9, _), (10, _), (21, _), (33, _), (68, _)] ⟨rfl, rfl, rfl, rfl, rfl, rfl, rfl, rfl, rfl, rfl, rfl, rfl, trivial⟩ ?_
        refine At.go ?_
        refine Sc.cond_t rfl ?_
        refine Sc.seq ?_
        refine Sc.region ?_
        refine Sl.calm (Cm.build (cs := #[.slice none 0 0, .int .i64 0]) plc99 zc99 rfl (by kernel_rfl)) rfl ?_
        refine Sl.storeAll (vs := (hvC none 0 0 0)) agg99 rfl rfl (hvC_one _ _ _ _) hgr5 rfl ?_
        intro w4 hg4 hs4 hf4
        have hF4 : Foot nob W w4 := hF5.trans_to hf4 (fun k hk => .inr (by have h : k = W.heap.size := hk; omega))
        refine Sl.calm (Cm.assign rfl) rfl ?_
        refine Sl.nil ?_
        refine At.weak [(0, _), (1, _), (4, _), (5, _), (6, _), (7, _), (8, _), (9, _), (10, _), (21, _), (33, _), (68, _)] ⟨rfl, rfl, rfl, rfl, rfl, rfl, rfl, rfl, rfl, rfl, rfl, rfl, trivial⟩ ?_
        refine At.go ?_
        refine Sc.ret ?_
        refine At.then_ret ?_
        refine At.retC (cs := hvC none 0 0 0) rfl agg99 rfl rfl (fun j v hj => cellF hg4 hj) ?_
        first
          | exact ⟨_, rfl, by rw [k1]; exact ⟨bo, bc, rfl, k2.grow hF4, k3⟩, hM0.grow hF4, hF4.any⟩
          | exact ⟨_, rfl, by rw [hn]; exact rfl, hM0.grow hF4, hF4.any⟩
          | exact ⟨_, rfl, by rw [hho]; exact rfl, hM0.grow hF4, hF4.any⟩
          | (have hz8 := hf8.size
             have hF79 : Foot (fun k => k = gm ∨ k = W.heap.size) w7 w9 := (hf8.mono (fun k h => .inl h)).trans (hf9.mono (fun k h => .inr h))
             have ho9 := (ho7.keep hf8 (ho7.neMap hm7)).keep hf9 (fun x hx h => by have := hfr5 x hx; have h : x.block = W.heap.size := h; omega)
             obtain ⟨hM9, hF9⟩ := mr_more (a := ⟨a, by omega⟩) (r := W.heap.size) hD hg h1 h2 h3 h4 h5 h6 h7 h8 (hF7.any.trans hF79) (Nat.le_refl _) (hm8.keep hf9 (by omega)) hho ho9.vw (hfr5.mono hz3)
             exact ⟨_, rfl, by rw [hho]; exact ⟨o5, c5, rfl, ho9.vw, fun k ⟨x, hx, hk⟩ => hD k (by have := hfr5 x hx; omega)⟩, hM9, hF9⟩)
      ·
        have he : t.2.2 = 0 := Decidable.not_not.1 h55
        have htk := htk he
        refine Sl.calm (Cm.move rfl) rfl ?_
        refine Sl.want rfl rfl (Cm.move rfl) rfl ?_
        refine Sl.want rfl rfl (Cm.move rfl) rfl ?_
        refine Sl.want rfl rfl (Cm.nilCheck rfl) rfl ?_
        refine Sl.want rfl rfl (Cm.field fld97_3 rfl) rfl ?_
        refine Sl.want rfl rfl (Cm.ld sca3 rfl (cellF hg5 rfl)) rfl ?_
        refine Sl.forkWant rfl rfl (Cm.gtr rfl rfl) rfl (fun h62 => ?_) (fun h62 => ?_)
        ·
          rw [if_pos (.inr (.inl h62))] at hho
          refine Sl.calm (Cm.pick_f rfl rfl) rfl ?_
          refine Sl.calm (Cm.move rfl) rfl ?_
          refine Sl.skip rfl rfl rfl rfl ?_
          refine Sl.skip rfl rfl rfl rfl ?_
          refine Sl.skip rfl rfl rfl rfl ?_
          refine Sl.calm (Cm.pick_t rfl rfl) rfl ?_
          refine Sl.nil ?_
          refine At.weak [(0, _), (1, _), (4, _), (5, _), (6, _), (7, _), (8, _), (9, _), (10, _), (21, _), (33, _), (68, _)] ⟨rfl, rfl, rfl, rfl, rfl, rfl, rfl, rfl, rfl, rfl, rfl, rfl, trivial⟩ ?_
          refine At.go ?_
          refine Sc.cond_t rfl ?_
          refine Sc.seq ?_
          refine Sc.region ?_
          refine Sl.calm (Cm.build (cs := #[.slice none 0 0, .int .i64 0]) plc99 zc99 rfl (by kernel_rfl)) rfl ?_
          refine Sl.storeAll (vs := (hvC none 0 0 0)) agg99 rfl rfl (hvC_one _ _ _ _) hgr5 rfl ?_
          intro w4 hg4 hs4 hf4
          have hF4 : Foot nob W w4 := hF5.trans_to hf4 (fun k hk => .inr (by have h : k = W.heap.size := hk; omega))
          refine Sl.calm (Cm.assign rfl) rfl ?_
          refine Sl.nil ?_
          refine At.weak [(0, _), (1, _), (4, _), (5, _), (6, _), (7, _), (8, _), (9, _), (10, _), (21, _), (33, _), (68, _)] ⟨rfl, rfl, rfl, rfl, rfl, rfl, rfl, rfl, rfl, rfl, rfl, rfl, trivial⟩ ?_
          refine At.go ?_
          refine Sc.ret ?_
          refine At.then_ret ?_
          refine At.retC (cs := hvC none 0 0 0) rfl agg99 rfl rfl (fun j v hj => cellF hg4 hj) ?_
          first
            | exact ⟨_, rfl, by rw [k1]; exact ⟨bo, bc, rfl, k2.grow hF4, k3⟩, hM0.grow hF4, hF4.any⟩
            | exact ⟨_, rfl, by rw [hn]; exact rfl, hM0.grow hF4, hF4.any⟩
            | exact ⟨_, rfl, by rw [hho]; exact rfl, hM0.grow hF4, hF4.any⟩
            | (have hz8 := hf8.size
               have hF79 : Foot (fun k => k = gm ∨ k = W.heap.size) w7 w9 := (hf8.mono (fun k h => .inl h)).trans (hf9.mono (fun k h => .inr h))
               have ho9 := (ho7.keep hf8 (ho7.neMap hm7)).keep hf9 (fun x hx h => by have := hfr5 x hx; have h : x.block = W.heap.size := h; omega)
               obtain ⟨hM9, hF9⟩ := mr_more (a := ⟨a, by omega⟩) (r := W.heap.size) hD hg h1 h2 h3 h4 h5 h6 h7 h8 (hF7.any.trans hF79) (Nat.le_refl _) (hm8.keep hf9 (by omega)) hho ho9.vw (hfr5.mono hz3)
               exact ⟨_, rfl, by rw [hho]; exact ⟨o5, c5, rfl, ho9.vw, fun k ⟨x, hx, hk⟩ => hD k (by have := hfr5 x hx; omega)⟩, hM9, hF9⟩)
        ·
          refine Sl.calm (Cm.pick_f rfl rfl) rfl ?_
          refine Sl.calm (Cm.move rfl) rfl ?_
          refine Sl.want rfl rfl (Cm.move rfl) rfl ?_
          refine Sl.want rfl rfl (Cm.len sl22 rfl) rfl ?_
          refine Sl.forkWant rfl rfl (Cm.eql rfl rfl) rfl (fun h67 => ?_) (fun h67 => ?_)
          ·
            rw [if_pos (.inr (.inr (by omega)))] at hho
            refine Sl.calm (Cm.pick_f rfl rfl) rfl ?_
            refine Sl.nil ?_
            refine At.weak [(0, _), (1, _), (4, _), (5, _), (6, _), (7, _), (8, _), (9, _), (10, _), (21, _), (33, _), (68, _)] ⟨rfl, rfl, rfl, rfl, rfl, rfl, rfl, rfl, rfl, rfl, rfl, rfl, trivial⟩ ?_
            refine At.go ?_
            refine Sc.cond_t rfl ?_
            refine Sc.seq ?_
            refine Sc.region ?_
            refine Sl.calm (Cm.build (cs := #[.slice none 0 0, .int .i64 0]) plc99 zc99 rfl (by kernel_rfl)) rfl ?_
            refine Sl.storeAll (vs := (hvC none 0 0 0)) agg99 rfl rfl (hvC_one _ _ _ _) hgr5 rfl ?_
            intro w4 hg4 hs4 hf4
            have hF4 : Foot nob W w4 := hF5.trans_to hf4 (fun k hk => .inr (by have h : k = W.heap.size := hk; omega))
            refine Sl.calm (Cm.assign rfl) rfl ?_
            refine Sl.nil ?_
            refine At.weak [(0, _), (1, _), (4, _), (5, _), (6, _), (7, _), (8, _), (9, _), (10, _), (21, _), (33, _), (68, _)] ⟨rfl, rfl, rfl, rfl, rfl, rfl, rfl, rfl, rfl, rfl, rfl, rfl, trivial⟩ ?_
            refine At.go ?_
            refine Sc.ret ?_
            refine At.then_ret ?_
            refine At.retC (cs := hvC none 0 0 0) rfl agg99 rfl rfl (fun j v hj => cellF hg4 hj) ?_
            first
              | exact ⟨_, rfl, by rw [k1]; exact ⟨bo, bc, rfl, k2.grow hF4, k3⟩, hM0.grow hF4, hF4.any⟩
              | exact ⟨_, rfl, by rw [hn]; exact rfl, hM0.grow hF4, hF4.any⟩
              | exact ⟨_, rfl, by rw [hho]; exact rfl, hM0.grow hF4, hF4.any⟩
              | (have hz8 := hf8.size
                 have hF79 : Foot (fun k => k = gm ∨ k = W.heap.size) w7 w9 := (hf8.mono (fun k h => .inl h)).trans (hf9.mono (fun k h => .inr h))
                 have ho9 := (ho7.keep hf8 (ho7.neMap hm7)).keep hf9 (fun x hx h => by have := hfr5 x hx; have h : x.block = W.heap.size := h; omega)
                 obtain ⟨hM9, hF9⟩ := mr_more (a := ⟨a, by omega⟩) (r := W.heap.size) hD hg h1 h2 h3 h4 h5 h6 h7 h8 (hF7.any.trans hF79) (Nat.le_refl _) (hm8.keep hf9 (by omega)) hho ho9.vw (hfr5.mono hz3)
                 exact ⟨_, rfl, by rw [hho]; exact ⟨o5, c5, rfl, ho9.vw, fun k ⟨x, hx, hk⟩ => hD k (by have := hfr5 x hx; omega)⟩, hM9, hF9⟩)
          ·
            rw [if_neg (by rintro (h | h | h); exact h55 h; omega; omega)] at hho
            refine Sl.calm (Cm.pick_f rfl rfl) rfl ?_
            refine Sl.nil ?_
            refine At.weak [(0, _), (1, _), (4, _), (5, _), (6, _), (7, _), (8, _), (9, _), (10, _), (21, _), (33, _), (68, _)] ⟨rfl, rfl, rfl, rfl, rfl, rfl, rfl, rfl, rfl, rfl, rfl, rfl, trivial⟩ ?_
            refine At.go ?_
            refine Sc.cond_f rfl ?_
            refine Sc.skip ?_
            refine At.go ?_
            refine Sc.seq ?_
            refine Sc.region ?_
            refine Sl.calm (Cm.move rfl) rfl ?_
            refine Sl.calm (Cm.move rfl) rfl ?_
            refine Sl.calm (Cm.move rfl) rfl ?_
            refine Sl.calm (Cm.nilCheck rfl) rfl ?_
            refine Sl.calm (Cm.field fld97_2 rfl) rfl ?_
            refine Sl.calm (Cm.ld sca3 rfl (cellF hg5 rfl)) rfl ?_
            refine Sl.calm (Cm.sub64 rfl rfl (by omega)) rfl ?_
            refine Sl.calm (Cm.build (cs := #[.slice o5 t.1.length c5, .int .i64 (t.2.1 - fr)]) plc99 zc99 rfl (by kernel_rfl)) rfl ?_
            refine Sl.allocC zc99 rfl ?_
            intro w6 hg6 hs6 hf6
            refine Sl.storeAll (vs := (hvC o5 t.1.length c5 (t.2.1 - fr))) agg99 rfl rfl (hvC_one _ _ _ _) hg6 rfl ?_
            intro w7 hg7 hs7 hf7
            have hF57 : Foot nob w5 w7 := hf6.trans_to hf7 (fun k hk => .inr (by have h : k = w5.heap.size := hk; omega))
            have hF7 := hF5.trans hF57
            have hg7g := hF57.obj hg5 id
            have hm7 := h2.keep hF7 id
            have ho7 := ho5.grow hF57
            refine Sl.nil ?_
            refine At.weak [(0, _), (1, _), (4, _), (5, _), (6, _), (7, _), (8, _), (9, _), (10, _), (11, _), (21, _), (33, _), (68, _)] ⟨rfl, rfl, rfl, rfl, rfl, rfl, rfl, rfl, rfl, rfl, rfl, rfl, rfl, trivial⟩ ?_
            refine At.go ?_
            refine Sc.seq ?_
            refine Sc.draw 7 (fun H => H[g]? = some (.cells (mrC p io im.length ic fr to gm).toArray 97 (0, 0)) ∧ H[w5.heap.size]? = some (.cells (hvC o5 t.1.length c5 (t.2.1 - fr)).toArray 99 (0, 0))) [6] [0, 1, 2, 3, 4, 5, 6] mixed (by kernel_rfl) (⟨hg7g, hg7⟩) ?_
            refine Sx.calm rfl rfl (Cm.move rfl) rfl ?_
            refine Sx.calm rfl rfl (Cm.nilCheck rfl) rfl ?_
            refine Sx.calm rfl rfl (Cm.field fld97_4 rfl) rfl ?_
            refine Sx.calm rfl rfl (Cm.load sca95 rfl (fun H hH => cellF hH.1 rfl)) rfl ?_
            refine Sx.calm rfl rfl (Cm.move rfl) rfl ?_
            refine Sx.calm rfl rfl (Cm.loadM (cs := hvC o5 t.1.length c5 (t.2.1 - fr)) agg99 rfl (fun H hH j v hj => cellF hH.2 hj)) rfl ?_
            refine Sx.eff rfl rfl (Sl.mapUpdate mpH (a := (⟨a, by omega⟩ : I6)) keyI rfl rfl rfl hm7 ?_)
            intro w8 hm8 hs8 hf8
            refine Sx.on (by exact ⟨hf8.obj hg7g (obj_neMap hm7 hg7g), hf8.obj hg7 (obj_neMap hm7 hg7)⟩) ?_
            have hf8 := hf8.undraw
            have hgr8 := hf8.obj (hF57.obj hgr5 id) (obj_neMap hm7 (hF57.obj hgr5 id))
            have hg8 := hf8.obj hg7 (obj_neMap hm7 hg7)
            have hz7 := hF57.size
            refine Sx.nil ?_
            refine At.weak [(0, _), (1, _), (4, _), (5, _), (6, _), (7, _), (8, _), (9, _), (10, _), (11, _), (21, _), (33, _), (68, _)] ⟨rfl, rfl, rfl, rfl, rfl, rfl, rfl, rfl, rfl, rfl, rfl, rfl, rfl, trivial⟩ ?_
            refine At.go ?_
            refine Sc.seq ?_
            refine Sc.region ?_
            refine Sl.calm (Cm.ldM (cs := hvC o5 t.1.length c5 (t.2.1 - fr)) agg99 rfl (fun j v hj => cellF hg8 hj)) rfl ?_
            refine Sl.storeAll (vs := (hvC o5 t.1.length c5 (t.2.1 - fr))) agg99 rfl rfl (hvC_one _ _ _ _) hgr8 rfl ?_
            intro w9 hg9 hs9 hf9
            refine Sl.calm (Cm.assign rfl) rfl ?_
            refine Sl.nil ?_
            refine At.weak [(0, _), (1, _), (4, _), (5, _), (6, _), (7, _), (8, _), (9, _), (10, _), (11, _), (21, _), (33, _), (68, _)] ⟨rfl, rfl, rfl, rfl, rfl, rfl, rfl, rfl, rfl, rfl, rfl, rfl, rfl, trivial⟩ ?_
            refine At.go ?_
            refine Sc.ret ?_
            refine At.retC (cs := hvC o5 t.1.length c5 (t.2.1 - fr)) rfl agg99 rfl rfl (fun j v hj => cellF hg9 hj) ?_
            first
              | exact ⟨_, rfl, by rw [k1]; exact ⟨bo, bc, rfl, k2.grow hF4, k3⟩, hM0.grow hF4, hF4.any⟩
              | exact ⟨_, rfl, by rw [hn]; exact rfl, hM0.grow hF4, hF4.any⟩
              | exact ⟨_, rfl, by rw [hho]; exact rfl, hM0.grow hF4, hF4.any⟩
              | (have hz8 := hf8.size
                 have hF79 : Foot (fun k => k = gm ∨ k = W.heap.size) w7 w9 := (hf8.mono (fun k h => .inl h)).trans (hf9.mono (fun k h => .inr h))
                 have ho9 := (ho7.keep hf8 (ho7.neMap hm7)).keep hf9 (fun x hx h => by have := hfr5 x hx; have h : x.block = W.heap.size := h; omega)
                 obtain ⟨hM9, hF9⟩ := mr_more (a := ⟨a, by omega⟩) (r := W.heap.size) hD hg h1 h2 h3 h4 h5 h6 h7 h8 (hF7.any.trans hF79) (Nat.le_refl _) (hm8.keep hf9 (by omega)) hho ho9.vw (hfr5.mono hz3)
                 exact ⟨_, rfl, by rw [hho]; exact ⟨o5, c5, rfl, ho9.vw, fun k ⟨x, hx, hk⟩ => hD k (by have := hfr5 x hx; omega)⟩, hM9, hF9⟩)
end Go.Proofs.Ytlpfahmkjgompaa
