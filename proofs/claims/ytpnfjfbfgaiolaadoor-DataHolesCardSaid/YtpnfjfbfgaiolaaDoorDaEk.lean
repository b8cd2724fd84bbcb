/- data: the reference's writer: Frame, Add. No condition beyond the bounds that each states. -/
import Derived.Test.YtpnfjfbfgaiolaaDoorDaDk
import Derived.Test.YtpnfjfbfgaiolaaDoorGdk
namespace Go.Proofs.YtpnfjfbfgaiolaaDoor
open Go Go.RowKit
set_option linter.unusedVariables false

def encR (x : Hd × Nat) : List Value := [hd x.1, .int .i64 x.2]
theorem encR_cells : CellsM 2 encR := fun x => ⟨rfl, by simp [encR, Value.oneCell', hd]⟩
def RunV (D : Nat → Prop) (H : Array Obj) (ys : List (Hd × Nat)) (m : List (SK × Nat)) : Prop :=
  ys.length = m.length ∧ ∀ (i : Nat) (x : Hd × Nat) (y : SK × Nat), ys[i]? = some x → m[i]? = some y → x.2 = y.2 ∧ x.1.n = y.1.1.length ∧ Vw b8 H x.1.a x.1.c y.1.1 ∧ ∀ k, blk x.1.a k → D k
section
variable {D D' : Nat → Prop} {H : Array Obj} {ys : List (Hd × Nat)} {m : List (SK × Nat)}
theorem RunV.nil : RunV D H [] [] := ⟨rfl, by simp⟩
theorem RunV.keep {S : Nat → Prop} {w w' : World} (h : RunV D w.heap ys m) (f : Foot S w w') (hS : ∀ k, D k → ¬ S k) : RunV D w'.heap ys m :=
  ⟨h.1, fun i x y hx hy => by
    obtain ⟨h1, h2, h3, h4⟩ := h.2 i x y hx hy
    exact ⟨h1, h2, h3.keep f (fun a ha => hS _ (h4 _ ⟨a, ha, rfl⟩)), h4⟩⟩
theorem RunV.mono (h : RunV D H ys m) (hd : ∀ k, D k → D' k) : RunV D' H ys m :=
  ⟨h.1, fun i x y hx hy => by obtain ⟨h1, h2, h3, h4⟩ := h.2 i x y hx hy; exact ⟨h1, h2, h3, fun k hk => hd k (h4 k hk)⟩⟩
theorem RunV.snoc (h : RunV D H ys m) {s : SK} {v : Nat} {z : Hd} (h1 : z.n = s.1.length) (h2 : Vw b8 H z.a z.c s.1) (h4 : ∀ k, blk z.a k → D k) : RunV D H (ys ++ [(z, v)]) (m ++ [(s, v)]) := by
  refine ⟨by simp [h.1], fun i x y hx hy => ?_⟩
  by_cases hi : i < ys.length
  · rw [List.getElem?_append_left hi] at hx
    rw [List.getElem?_append_left (by rw [← h.1]; exact hi)] at hy
    exact h.2 i x y hx hy
  · have hi' : i = ys.length := by
      have := (List.getElem?_eq_some_iff.1 hx).1; simp at this; omega
    subst hi'
    simp at hx
    rw [h.1] at hy; simp at hy
    subst hx; subst hy
    exact ⟨rfl, h1, h2, h4⟩
end
def rdC (first : Nat) (bo : Option Addr) (bn bc : Nat) (ro : Option Addr) (rn rc : Nat) : List Value := [.int .i64 first, .slice bo bn bc, .slice ro rn rc]
/-- the reference's writer in memory -/
def RyO (D : Nat → Prop) (H : Array Obj) (g first : Nat) (s : DS) : Prop :=
  ∃ bo bc ro rc ys, H[g]? = some (.cells (rdC first bo s.B.length bc ro (List.length (α := Hd × Nat) ys) rc).toArray 42 (0, 0)) ∧ Own b8 5 H bo bc s.B ∧ OwnM 2 encR 71 H ro rc ys ∧
    RunV (fun k => D k ∧ k ≠ g ∧ ¬ blk bo k ∧ ¬ blk ro k ∧ k < H.size) H ys s.m ∧ ¬ blk bo g ∧ ¬ blk ro g ∧ Ap bo ro ∧ D g ∧ (∀ k, blk bo k → D k) ∧ (∀ k, blk ro k → D k)
section
variable {D : Nat → Prop} {g first : Nat} {s : DS}
theorem RyO.lt {H : Array Obj} (h : RyO D H g first s) : g < H.size := by obtain ⟨bo, bc, ro, rc, ys, hg, _⟩ := h; exact (Array.getElem?_eq_some_iff.1 hg).1
theorem RyO.keepTo {S E : Nat → Prop} {w w' : World} (h : RyO D w.heap g first s) (hf : Foot S w w') (hs : ∀ k, k < w.heap.size → D k → ¬ S k) (hE : ∀ k, k < w.heap.size → D k → E k) : RyO E w'.heap g first s := by
  have hl := h.lt
  obtain ⟨bo, bc, ro, rc, ys, hg, h1, h2, h3, h4, h5, h6, h7, h8, h9⟩ := h
  have hb : ∀ k, blk bo k → k < w.heap.size := fun k ⟨a, ha, e⟩ => by have := h1.lt a ha; omega
  have hr : ∀ k, blk ro k → k < w.heap.size := fun k ⟨a, ha, e⟩ => by have := h2.lt a ha; omega
  exact ⟨bo, bc, ro, rc, ys, hf.obj hg (hs g hl h7), h1.keep hf (fun a ha => hs _ (h1.lt a ha) (h8 _ ⟨a, ha, rfl⟩)), h2.keep hf (fun a ha => hs _ (h2.lt a ha) (h9 _ ⟨a, ha, rfl⟩)),
    (h3.keep hf (fun k hk => hs k hk.2.2.2.2 hk.1)).mono (fun k hk => ⟨hE k hk.2.2.2.2 hk.1, hk.2.1, hk.2.2.1, hk.2.2.2.1, by have := hk.2.2.2.2; have := hf.size; omega⟩), h4, h5, h6, hE g hl h7, fun k hk => hE k (hb k hk) (h8 k hk), fun k hk => hE k (hr k hk) (h9 k hk)⟩
theorem RyO.keep {S : Nat → Prop} {w w' : World} (h : RyO D w.heap g first s) (hf : Foot S w w') (hs : ∀ k, k < w.heap.size → D k → ¬ S k) : RyO D w'.heap g first s := h.keepTo hf hs (fun _ _ h => h)
/-- w.B = append(w.B, x..) -/
theorem rd_b {W w1 w2 : World} {bo bo' ro : Option Addr} {bc' rc : Nat} {ys : List (Hd × Nat)} {mq : List (SK × Nat)} {Bq : List UInt8} (hD : ∀ k, W.heap.size ≤ k → D k) (hgl : g < W.heap.size)
    (hbl : ∀ k, blk bo k → k < W.heap.size) (h2 : OwnM 2 encR 71 W.heap ro rc ys) (h3 : RunV (fun k => D k ∧ k ≠ g ∧ ¬ blk bo k ∧ ¬ blk ro k ∧ k < W.heap.size) W.heap ys mq) (h4 : ¬ blk bo g) (h5 : ¬ blk ro g) (h6 : Ap bo ro) (h7 : D g) (h8 : ∀ k, blk bo k → D k) (h9 : ∀ k, blk ro k → D k)
    (ho : Own b8 5 w1.heap bo' bc' Bq) (hf1 : Foot (blk bo) W w1) (hr : ∀ a, bo' = some a → bo = some a ∨ W.heap.size ≤ a.block)
    (hg2 : w2.heap[g]? = some (.cells (rdC first bo' Bq.length bc' ro ys.length rc).toArray 42 (0, 0))) (hf2 : Foot (· = g) w1 w2) :
    RyO D w2.heap g first ⟨Bq, mq⟩ ∧ Foot D W w2 := by
  have hz := hf1.size
  have hz2 := hf2.size
  have hD2 : Foot D W w2 := (hf1.mono h8).trans (hf2.mono (fun k h => by have h : k = g := h; subst h; exact h7))
  have hn : ∀ k, k < W.heap.size → ¬ blk bo k → ¬ blk bo' k := fun k hk hb ⟨a, ha, e⟩ => by
    rcases hr a ha with h | h
    · exact hb ⟨a, h, e⟩
    · omega
  have hrl : ∀ k, blk ro k → k < W.heap.size := fun k ⟨a, ha, e⟩ => by have := h2.lt a ha; omega
  refine ⟨⟨bo', bc', ro, rc, ys, hg2, ho.keep hf2 (fun a ha h => hn g hgl h4 ⟨a, ha, h⟩), (h2.keep hf1 (fun a ha ⟨b, hb, h⟩ => h6 b a hb ha h)).keep hf2 (fun a ha h => h5 ⟨a, ha, h⟩),
    ((h3.keep hf1 (fun k hk => hk.2.2.1)).keep hf2 (fun k hk => hk.2.1)).mono (fun k hk => ⟨hk.1, hk.2.1, hn k hk.2.2.2.2 hk.2.2.1, hk.2.2.2.1, by have := hk.2.2.2.2; omega⟩), hn g hgl h4, h5, fun a b ha hb e => ?_, h7, fun k ⟨a, ha, hb⟩ => ?_, h9⟩, hD2⟩
  · exact hn a.block (by have := hrl b.block ⟨b, hb, rfl⟩; omega) (fun ⟨c, hc, e2⟩ => h6 c b hc hb (e2.trans e)) ⟨a, ha, rfl⟩
  · rcases hr a ha with h | h
    · exact h8 k ⟨a, h, hb⟩
    · exact hD k (by omega)
end
set_option maxHeartbeats 2000000 in
theorem rdframe_ok (D : Nat → Prop) (g first : Nat) (s : DS) (bo0 : Option Addr) (bc0 : Nat) (b : List UInt8) (W : World) (hM : RyO D W.heap g first s) (hD : ∀ k, W.heap.size ≤ k → D k) (hv : Vw b8 W.heap bo0 bc0 b) (hfi : first ≤ 1000) (hb : s.B.length ≤ 1099511627776) (hbl : b.length ≤ 128) :
    Calls Tryd.prog 15 [.pointer (some ⟨g, 0, none⟩), .slice bo0 b.length bc0].toArray W
      (Ret fun v w' => v = .int .i64 ((frmD first s b).2 : Nat) ∧ RyO D w'.heap g first (frmD first s b).1 ∧ Foot D W w') := by
  obtain ⟨bo, bc, ro, rc, ys, hg, h1, h2, h3, h4, h5, h6, h7, h8, h9⟩ := hM
  have hgl := (Array.getElem?_eq_some_iff.1 hg).1
  have hps := putS_len hbl
  refine calls_of_sc 33 [(0, _), (1, _)] Tryd.func15 rfl rfl rfl (enter_slots ⟨rfl, rfl, trivial⟩) ?_
  refine Sc.seq ?_
  refine Sc.region ?_
  refine Sl.calm (Cm.assign rfl) rfl ?_
  refine Sl.nil ?_
  refine At.go ?_
  refine Sc.seq ?_
  refine Sc.region ?_
  refine Sl.calm (Cm.move rfl) rfl ?_
  refine Sl.call fn26 rfl (rfput_ok bo0 bc0 b W hv) rfl ?_
  rintro _ w1 ⟨o1, c1, rfl, ho1, hfr1, hf1⟩
  have hg1 := hf1.obj hg id
  have hz1 := hf1.size
  refine Sl.calm (Cm.move rfl) rfl ?_
  refine Sl.calm (Cm.extract rfl rfl) rfl ?_
  refine Sl.calm (Cm.extract rfl rfl) rfl ?_
  refine Sl.calm (Cm.assign rfl) rfl ?_
  refine Sl.calm (Cm.assign rfl) rfl ?_
  refine Sl.nil ?_
  refine At.weak [(0, _), (1, _), (4, _), (5, _)] ⟨rfl, rfl, rfl, rfl, trivial⟩ ?_
  refine At.go ?_
  refine Sc.seq ?_
  refine Sc.draw 11 (fun H => H[g]? = some (.cells (rdC first bo s.B.length bc ro ys.length rc).toArray 42 (0, 0))) [] [0, 1, 2, 3, 4, 5, 6, 7, 8, 9, 10] mixed (by kernel_rfl) (hg1) ?_
  refine Sx.calm rfl rfl (Cm.move rfl) rfl ?_
  refine Sx.calm rfl rfl (Cm.nilCheck rfl) rfl ?_
  refine Sx.calm rfl rfl (Cm.field fld42_0 rfl) rfl ?_
  refine Sx.calm rfl rfl (Cm.load sca3 rfl (fun H hH => cellF hH rfl)) rfl ?_
  refine Sx.calm rfl rfl (Cm.move rfl) rfl ?_
  refine Sx.calm rfl rfl (Cm.nilCheck rfl) rfl ?_
  refine Sx.calm rfl rfl (Cm.field fld42_1 rfl) rfl ?_
  refine Sx.calm rfl rfl (Cm.load sca23 rfl (fun H hH => cellF hH rfl)) rfl ?_
  refine Sx.calm rfl rfl (Cm.len sl23 rfl) rfl ?_
  refine Sx.calm rfl rfl (Cm.add64 rfl rfl (by omega)) rfl ?_
  refine Sx.calm rfl rfl (Cm.assign rfl) rfl ?_
  refine Sx.nil ?_
  refine At.weak [(0, _), (1, _), (4, _), (5, _), (7, _)] ⟨rfl, rfl, rfl, rfl, rfl, trivial⟩ ?_
  refine At.go ?_
  refine Sc.seq ?_
  refine Sc.region ?_
  refine Sl.calm (Cm.move rfl) rfl ?_
  refine Sl.calm (Cm.move rfl) rfl ?_
  refine Sl.calm (Cm.nilCheck rfl) rfl ?_
  refine Sl.calm (Cm.field fld42_1 rfl) rfl ?_
  refine Sl.calm (Cm.ld sca23 rfl (cellF hg1 rfl)) rfl ?_
  refine Sl.calm (Cm.move rfl) rfl ?_
  refine Sl.append b8_one sl23 rfl rfl (h1.grow (hf1.draws 1)) ho1.vw (by omega) (by unfold maxLen; omega) rfl ?_
  intro o2 c2 w2 ho2 hf2 hr2 hn2
  have hf2 := hf2.undraw
  have hg2 := hf2.obj hg1 h4
  refine Sl.calm (Cm.nilCheck rfl) rfl ?_
  refine Sl.calm (Cm.field fld42_1 rfl) rfl ?_
  refine Sl.store sca23 rfl rfl rfl hg2 rfl ?_
  intro w3 hg3 hs3 hf3
  obtain ⟨hM3, hF3⟩ := rd_b (W := w1) (mq := s.m) (first := first) (Bq := s.B ++ (putS b).1) (hf_lt hf1 hD) (by omega) (fun k ⟨a, ha, e⟩ => by have := h1.lt a ha; omega) (h2.grow hf1) ((h3.keep hf1 (fun _ _ => id)).mono (fun k hk => ⟨hk.1, hk.2.1, hk.2.2.1, hk.2.2.2.1, by have := hk.2.2.2.2; omega⟩)) h4 h5 h6 h7 h8 h9 ho2 hf2 hr2 hg3 hf3
  refine Sl.nil ?_
  refine At.weak [(0, _), (1, _), (4, _), (5, _), (7, _)] ⟨rfl, rfl, rfl, rfl, rfl, trivial⟩ ?_
  refine At.go ?_
  refine Sc.seq ?_
  refine Sc.region ?_
  refine Sl.calm (Cm.move rfl) rfl ?_
  refine Sl.calm (Cm.assign rfl) rfl ?_
  refine Sl.nil ?_
  refine At.weak [(0, _), (1, _), (4, _), (5, _), (7, _)] ⟨rfl, rfl, rfl, rfl, rfl, trivial⟩ ?_
  refine At.go ?_
  refine Sc.ret ?_
  refine At.ret1 rfl rfl ?_
  exact ⟨_, rfl, rfl, hM3, hf1.any.trans hF3⟩
end Go.Proofs.YtpnfjfbfgaiolaaDoor
