/- table: TakeXattrs, the reference's. No condition beyond the bounds that each states. -/
import Derived.Test.YtoaplldahbbaiaaTxBk
import Derived.Test.YtoaplldahbbaiaaGdk
namespace Go.Proofs.Ytoaplldahbbaiaa
open Go Go.RowKit
set_option linter.unusedVariables false

def XdV (D : Nat → Prop) (H : Array Obj) (ys : List (List UInt8 × Hd)) (X : List Xa) : Prop :=
  ys.length = X.length ∧ ∀ (i : Nat) (x : List UInt8 × Hd) (y : Xa), ys[i]? = some x → X[i]? = some y → x.1 = y.1 ∧ x.2.n = y.2.length ∧ Vw b8 H x.2.a x.2.c y.2 ∧ y.1.length ≤ maxLen ∧ ∀ k, blk x.2.a k → D k
section
variable {D D' : Nat → Prop} {H : Array Obj} {ys : List (List UInt8 × Hd)} {X : List Xa}
theorem XdV.nil : XdV D H [] [] := ⟨rfl, by simp⟩
theorem XdV.keep {S : Nat → Prop} {w w' : World} (h : XdV D w.heap ys X) (f : Foot S w w') (hS : ∀ k, D k → ¬ S k) : XdV D w'.heap ys X :=
  ⟨h.1, fun i x y hx hy => by
    obtain ⟨h1, h2, h3, h4, h5⟩ := h.2 i x y hx hy
    exact ⟨h1, h2, h3.keep f (fun a ha => hS _ (h5 _ ⟨a, ha, rfl⟩)), h4, h5⟩⟩
theorem XdV.mono (h : XdV D H ys X) (hd : ∀ k, D k → D' k) : XdV D' H ys X :=
  ⟨h.1, fun i x y hx hy => by obtain ⟨h1, h2, h3, h4, h5⟩ := h.2 i x y hx hy; exact ⟨h1, h2, h3, h4, fun k hk => hd k (h5 k hk)⟩⟩
theorem XdV.snoc (h : XdV D H ys X) {s v : List UInt8} {z : Hd} (h1 : z.n = v.length) (h2 : Vw b8 H z.a z.c v) (h3 : s.length ≤ maxLen) (h4 : ∀ k, blk z.a k → D k) : XdV D H (ys ++ [(s, z)]) (X ++ [(s, v)]) := by
  refine ⟨by simp [h.1], fun i x y hx hy => ?_⟩
  by_cases hi : i < ys.length
  · rw [List.getElem?_append_left hi] at hx
    rw [List.getElem?_append_left (by rw [← h.1]; exact hi)] at hy
    exact h.2 i x y hx hy
  · have hi' : i = ys.length := by
      have := (List.getElem?_eq_some_iff.1 hx).1; simp at this; omega
    subst hi'
    simp at hx
    rw [h.1] at hy; simp at hy
    subst hx; subst hy
    exact ⟨rfl, h1, h2, h3, h4⟩
theorem XdV.xav {e : TypeId} {ao : Option Addr} {cap : Nat} (h : XdV D H ys X) (ho : OwnM 2 encX e H ao cap ys) : XaV H ao cap X :=
  ⟨ys, ho.vw encX_cells, h.1, fun i x y hx hy => by obtain ⟨h1, h2, h3, h4, _⟩ := h.2 i x y hx hy; exact ⟨h1, h2, h3, h4⟩⟩
end
set_option maxHeartbeats 1000000 in
theorem rtxt_ok (g : Nat) (io : Option Addr) (ic : Nat) (im : List UInt8) (fr to ref : Int) (W : World) (hM : RrV W.heap g io ic im fr to) (him : im.length ≤ 1073741824) (href : bdT ref) :
    Calls Try.prog 65 [.pointer (some ⟨g, 0, none⟩), .int .i64 ref].toArray W (Ret fun v w' => v = .tuple #[.string (bs (rtS1 im fr to ref).1), .int .i64 (rtS1 im fr to ref).2.1, .int .i64 (rtS1 im fr to ref).2.2] ∧ Foot nob W w') := by
  obtain ⟨R, hR⟩ : ∃ R, R = readS im fr to ref 1 := ⟨_, rfl⟩
  refine calls_of_sc 36 [(0, _), (1, _)] Try.func65 rfl rfl rfl (enter_slots ⟨rfl, rfl, trivial⟩) ?_
  refine Sc.seq ?_
  refine Sc.region ?_
  refine Sl.calm (Cm.assign rfl) rfl ?_
  refine Sl.calm (Cm.assign rfl) rfl ?_
  refine Sl.calm (Cm.assign rfl) rfl ?_
  refine Sl.nil ?_
  refine At.go ?_
  refine Sc.seq ?_
  refine Sc.region ?_
  refine Sl.calm (Cm.move rfl) rfl ?_
  refine Sl.calm (Cm.move rfl) rfl ?_
  refine Sl.call fn62 rfl (rmread_ok g io ic im fr to ref 1 W hM (by omega) href (by decide)) rfl ?_
  rw [← hR]
  rintro _ w1 ⟨o1, c1, rfl, ho1, hfr1, hf1⟩
  refine Sl.calm (Cm.move rfl) rfl ?_
  refine Sl.calm (Cm.extract rfl rfl) rfl ?_
  refine Sl.calm (Cm.extract rfl rfl) rfl ?_
  refine Sl.calm (Cm.extract rfl rfl) rfl ?_
  refine Sl.calm (Cm.assign rfl) rfl ?_
  refine Sl.calm (Cm.assign rfl) rfl ?_
  refine Sl.calm (Cm.assign rfl) rfl ?_
  refine Sl.nil ?_
  refine At.weak [(0, _), (1, _), (4, _), (5, _), (6, _), (7, _), (8, _), (9, _)] ⟨rfl, rfl, rfl, rfl, rfl, rfl, rfl, rfl, trivial⟩ ?_
  refine At.go ?_
  refine Sc.seq ?_
  refine Sc.seq ?_
  refine Sc.region ?_
  refine Sl.calm (Cm.move rfl) rfl ?_
  refine Sl.fork (Cm.neq rfl rfl) rfl (fun h19 => ?_) (fun h19 => ?_)
  ·
    have e := rtS1_1 (im := im) (fr := fr) (to := to) (ref := ref) (by rw [← hR]; exact h19)
    refine Sl.nil ?_
    refine At.weak [(0, _), (1, _), (4, _), (5, _), (6, _), (7, _), (8, _), (9, _), (19, _)] ⟨rfl, rfl, rfl, rfl, rfl, rfl, rfl, rfl, rfl, trivial⟩ ?_
    refine At.go ?_
    refine Sc.cond_t rfl ?_
    refine Sc.seq ?_
    refine Sc.region ?_
    refine Sl.calm (Cm.move rfl) rfl ?_
    refine Sl.calm (Cm.assign rfl) rfl ?_
    refine Sl.calm (Cm.assign rfl) rfl ?_
    refine Sl.calm (Cm.assign rfl) rfl ?_
    refine Sl.nil ?_
    refine At.weak [(0, _), (1, _), (4, _), (5, _), (6, _), (7, _), (8, _), (9, _), (19, _)] ⟨rfl, rfl, rfl, rfl, rfl, rfl, rfl, rfl, rfl, trivial⟩ ?_
    refine At.go ?_
    refine Sc.ret ?_
    refine At.then_ret ?_
    refine At.ret3 rfl rfl rfl rfl ?_
    exact ⟨_, rfl, by rw [e, hR]; rfl, hf1⟩
  ·
    have e19 : R.2.2 = 0 := Decidable.not_not.1 h19
    have hl1 : (R.1.length : Int) = 1 := by have := e19; rw [hR] at this ⊢; exact (readS_ok this).2.2.2.1
    have e := rtS1_2 (im := im) (fr := fr) (to := to) (ref := ref) (by rw [← hR]; exact e19)
    rw [← hR] at e
    have hu := UInt8.toNat_lt (R.1.getD 0 0)
    have hRb : bdT R.2.1 := by rw [hR]; exact readS_bd href him
    refine Sl.nil ?_
    refine At.weak [(0, _), (1, _), (4, _), (5, _), (6, _), (7, _), (8, _), (9, _), (19, _)] ⟨rfl, rfl, rfl, rfl, rfl, rfl, rfl, rfl, rfl, trivial⟩ ?_
    refine At.go ?_
    refine Sc.cond_f rfl ?_
    refine Sc.skip ?_
    refine At.go ?_
    refine Sc.seq ?_
    refine Sc.region ?_
    refine Sl.calm (Cm.move rfl) rfl ?_
    refine Sl.calm (Cm.move rfl) rfl ?_
    refine Sl.calm (Cm.move rfl) rfl ?_
    refine Sl.calm (Cm.indexAddr1 sl25 rfl rfl ho1.vw.non (by omega)) rfl ?_
    refine Sl.calm (Cm.ld sca5 rfl (ho1.vw.gz 0 0 rfl (by omega))) rfl ?_
    refine Sl.calm (Cm.convI_in (n := ((R.1.getD 0 0).toNat : Int)) is5 ty3 rfl (u8_i64T _)) rfl ?_
    refine Sl.call fn62 rfl (rmread_ok g io ic im fr to R.2.1 (R.1.getD 0 0).toNat w1 (hM.grow hf1) (by omega) hRb (by omega)) rfl ?_
    rw [← e]
    rintro _ w2 ⟨o2, c2, rfl, ho2, hfr2, hf2⟩
    refine Sl.calm (Cm.move rfl) rfl ?_
    refine Sl.calm (Cm.extract rfl rfl) rfl ?_
    refine Sl.calm (Cm.extract rfl rfl) rfl ?_
    refine Sl.calm (Cm.extract rfl rfl) rfl ?_
    refine Sl.calm (Cm.assign rfl) rfl ?_
    refine Sl.calm (Cm.assign rfl) rfl ?_
    refine Sl.calm (Cm.assign rfl) rfl ?_
    refine Sl.nil ?_
    refine At.weak [(0, _), (1, _), (4, _), (5, _), (6, _), (7, _), (8, _), (9, _), (10, _), (19, _)] ⟨rfl, rfl, rfl, rfl, rfl, rfl, rfl, rfl, rfl, rfl, trivial⟩ ?_
    refine At.go ?_
    refine Sc.seq ?_
    refine Sc.region ?_
    refine Sl.calm (Cm.move rfl) rfl ?_
    refine Sl.calm (Cm.strIn sl25 ty5 ty9 rfl ho2.vw) rfl ?_
    refine Sl.calm (Cm.move rfl) rfl ?_
    refine Sl.calm (Cm.move rfl) rfl ?_
    refine Sl.calm (Cm.assign rfl) rfl ?_
    refine Sl.calm (Cm.assign rfl) rfl ?_
    refine Sl.calm (Cm.assign rfl) rfl ?_
    refine Sl.nil ?_
    refine At.weak [(0, _), (1, _), (4, _), (5, _), (6, _), (7, _), (8, _), (9, _), (10, _), (19, _)] ⟨rfl, rfl, rfl, rfl, rfl, rfl, rfl, rfl, rfl, rfl, trivial⟩ ?_
    refine At.go ?_
    refine Sc.ret ?_
    refine At.ret3 rfl rfl rfl rfl ?_
    exact ⟨_, rfl, rfl, hf1.trans hf2⟩
set_option maxHeartbeats 4000000 in
theorem rtxattrs_ok (g : Nat) (io : Option Addr) (ic : Nat) (im : List UInt8) (fr to ref : Int) (W : World) (hM : RrV W.heap g io ic im fr to) (him : im.length ≤ 1073741824) (href : bdT ref) :
    Calls Try.prog 32 [.pointer (some ⟨g, 0, none⟩), .int .i64 ref].toArray W (Ret fun v w' => ∃ o c,
      v = .tuple #[.slice o (rtXs im fr to ref).1.length c, .int .i64 (rtXs im fr to ref).2] ∧ XaV w'.heap o c (rtXs im fr to ref).1 ∧ Foot nob W w') := by
  obtain ⟨R, hR⟩ : ∃ R, R = readS im fr to ref 1 := ⟨_, rfl⟩
  refine calls_of_sc 80 [(0, _), (1, _)] Try.func32 rfl rfl rfl (enter_slots ⟨rfl, rfl, trivial⟩) ?_
  refine Sc.seq ?_
  refine Sc.region ?_
  refine Sl.calm (Cm.assign rfl) rfl ?_
  refine Sl.calm (Cm.assign rfl) rfl ?_
  refine Sl.nil ?_
  refine At.go ?_
  refine Sc.seq ?_
  refine Sc.region ?_
  refine Sl.calm (Cm.move rfl) rfl ?_
  refine Sl.calm (Cm.move rfl) rfl ?_
  refine Sl.call fn62 rfl (rmread_ok g io ic im fr to ref 1 W hM (by omega) href (by decide)) rfl ?_
  rw [← hR]
  rintro _ w1 ⟨o1, c1, rfl, ho1, hfr1, hf1⟩
  refine Sl.calm (Cm.move rfl) rfl ?_
  refine Sl.calm (Cm.extract rfl rfl) rfl ?_
  refine Sl.calm (Cm.extract rfl rfl) rfl ?_
  refine Sl.calm (Cm.extract rfl rfl) rfl ?_
  refine Sl.calm (Cm.assign rfl) rfl ?_
  refine Sl.calm (Cm.assign rfl) rfl ?_
  refine Sl.calm (Cm.assign rfl) rfl ?_
  refine Sl.nil ?_
  refine At.weak [(0, _), (1, _), (4, _), (5, _), (6, _), (7, _), (8, _)] ⟨rfl, rfl, rfl, rfl, rfl, rfl, rfl, trivial⟩ ?_
  refine At.go ?_
  refine Sc.seq ?_
  refine Sc.seq ?_
  refine Sc.region ?_
  refine Sl.calm (Cm.move rfl) rfl ?_
  refine Sl.fork (Cm.neq rfl rfl) rfl (fun h26 => ?_) (fun h26 => ?_)
  ·
    have e : rtXs im fr to ref = ([], 2) := rtXs_bad (.inl (by rw [← hR]; exact h26))
    refine Sl.calm (Cm.move rfl) rfl ?_
    refine Sl.skip rfl rfl rfl rfl ?_
    refine Sl.skip rfl rfl rfl rfl ?_
    refine Sl.skip rfl rfl rfl rfl ?_
    refine Sl.skip rfl rfl rfl rfl ?_
    refine Sl.calm (Cm.pick_t rfl rfl) rfl ?_
    refine Sl.calm (Cm.move rfl) rfl ?_
    refine Sl.skip rfl rfl rfl rfl ?_
    refine Sl.skip rfl rfl rfl rfl ?_
    refine Sl.skip rfl rfl rfl rfl ?_
    refine Sl.skip rfl rfl rfl rfl ?_
    refine Sl.skip rfl rfl rfl rfl ?_
    refine Sl.calm (Cm.pick_t rfl rfl) rfl ?_
    refine Sl.nil ?_
    refine At.weak [(0, _), (1, _), (4, _), (5, _), (6, _), (7, _), (8, _), (39, _)] ⟨rfl, rfl, rfl, rfl, rfl, rfl, rfl, rfl, trivial⟩ ?_
    refine At.go ?_
    refine Sc.cond_t rfl ?_
    refine Sc.seq ?_
    refine Sc.region ?_
    refine Sl.calm (Cm.assign rfl) rfl ?_
    refine Sl.calm (Cm.assign rfl) rfl ?_
    refine Sl.nil ?_
    refine At.go ?_
    refine Sc.ret ?_
    refine At.then_ret ?_
    refine At.ret2 rfl rfl rfl ?_
    exact ⟨_, rfl, none, 0, by rw [e]; rfl, by rw [e]; exact XaV.nil, hf1⟩
  ·
    have e26 : R.2.2 = 0 := Decidable.not_not.1 h26
    have hl1 : (R.1.length : Int) = 1 := by have := e26; rw [hR] at this ⊢; exact (readS_ok this).2.2.2.1
    have hu := UInt8.toNat_lt (R.1.getD 0 0)
    obtain ⟨n, hn⟩ : ∃ n, n = (R.1.getD 0 0).toNat := ⟨_, rfl⟩
    have hRb : bdT R.2.1 := by rw [hR]; exact readS_bd href him
    refine Sl.calm (Cm.move rfl) rfl ?_
    refine Sl.want rfl rfl (Cm.move rfl) rfl ?_
    refine Sl.want rfl rfl (Cm.indexAddr1 sl25 rfl rfl ho1.vw.non (by omega)) rfl ?_
    refine Sl.want rfl rfl (Cm.ld sca5 rfl (ho1.vw.gz 0 0 rfl (by omega))) rfl ?_
    refine Sl.forkWant rfl rfl (Cm.eql rfl rfl) rfl (fun h31 => ?_) (fun h31 => ?_)
    ·
      have h31 : ((R.1.getD 0 0).toNat : Int) = 0 := h31
      have e : rtXs im fr to ref = ([], 2) := rtXs_bad (.inr (.inl (by rw [← hR]; omega)))
      refine Sl.calm (Cm.pick_f rfl rfl) rfl ?_
      refine Sl.calm (Cm.move rfl) rfl ?_
      refine Sl.skip rfl rfl rfl rfl ?_
      refine Sl.skip rfl rfl rfl rfl ?_
      refine Sl.skip rfl rfl rfl rfl ?_
      refine Sl.skip rfl rfl rfl rfl ?_
      refine Sl.skip rfl rfl rfl rfl ?_
      refine Sl.calm (Cm.pick_t rfl rfl) rfl ?_
      refine Sl.nil ?_
      refine At.weak [(0, _), (1, _), (4, _), (5, _), (6, _), (7, _), (8, _), (39, _)] ⟨rfl, rfl, rfl, rfl, rfl, rfl, rfl, rfl, trivial⟩ ?_
      refine At.go ?_
      refine Sc.cond_t rfl ?_
      refine Sc.seq ?_
      refine Sc.region ?_
      refine Sl.calm (Cm.assign rfl) rfl ?_
      refine Sl.calm (Cm.assign rfl) rfl ?_
      refine Sl.nil ?_
      refine At.go ?_
      refine Sc.ret ?_
      refine At.then_ret ?_
      refine At.ret2 rfl rfl rfl ?_
      exact ⟨_, rfl, none, 0, by rw [e]; rfl, by rw [e]; exact XaV.nil, hf1⟩
    ·
      have h31 : ¬ ((R.1.getD 0 0).toNat : Int) = 0 := h31
      refine Sl.calm (Cm.pick_f rfl rfl) rfl ?_
      refine Sl.calm (Cm.move rfl) rfl ?_
      refine Sl.want rfl rfl (Cm.move rfl) rfl ?_
      refine Sl.want rfl rfl (Cm.indexAddr1 sl25 rfl rfl ho1.vw.non (by omega)) rfl ?_
      refine Sl.want rfl rfl (Cm.ld sca5 rfl (ho1.vw.gz 0 0 rfl (by omega))) rfl ?_
      refine Sl.want rfl rfl (Cm.convI_in (n := (n : Int)) is5 ty3 rfl (by rw [hn]; exact u8_i64T _)) rfl ?_
      refine Sl.forkWant rfl rfl (Cm.gtr rfl rfl) rfl (fun h38 => ?_) (fun h38 => ?_)
      ·
        have e : rtXs im fr to ref = ([], 2) := rtXs_bad (.inr (.inr (by rw [← hR]; omega)))
        refine Sl.calm (Cm.pick_f rfl rfl) rfl ?_
        refine Sl.nil ?_
        refine At.weak [(0, _), (1, _), (4, _), (5, _), (6, _), (7, _), (8, _), (39, _)] ⟨rfl, rfl, rfl, rfl, rfl, rfl, rfl, rfl, trivial⟩ ?_
        refine At.go ?_
        refine Sc.cond_t rfl ?_
        refine Sc.seq ?_
        refine Sc.region ?_
        refine Sl.calm (Cm.assign rfl) rfl ?_
        refine Sl.calm (Cm.assign rfl) rfl ?_
        refine Sl.nil ?_
        refine At.go ?_
        refine Sc.ret ?_
        refine At.then_ret ?_
        refine At.ret2 rfl rfl rfl ?_
        exact ⟨_, rfl, none, 0, by rw [e]; rfl, by rw [e]; exact XaV.nil, hf1⟩
      ·
        have hgood : ¬ ((readS im fr to ref 1).2.2 ≠ 0 ∨ ((readS im fr to ref 1).1.getD 0 0).toNat = 0 ∨ 8 < ((readS im fr to ref 1).1.getD 0 0).toNat) := by rw [← hR]; rintro (h | h | h); exact h e26; omega; omega
        refine Sl.calm (Cm.pick_f rfl rfl) rfl ?_
        refine Sl.nil ?_
        refine At.weak [(0, _), (1, _), (4, _), (5, _), (6, _), (7, _), (8, _), (39, _)] ⟨rfl, rfl, rfl, rfl, rfl, rfl, rfl, rfl, trivial⟩ ?_
        refine At.go ?_
        refine Sc.cond_f rfl ?_
        refine Sc.skip ?_
        refine At.go ?_
        refine Sc.seq ?_
        refine Sc.region ?_
        refine Sl.lit0M encX_cells sl23 rfl ?_
        intro w2 ho2 hs2 hf2
        refine Sl.calm (Cm.assign rfl) rfl ?_
        refine Sl.nil ?_
        refine At.weak [(0, _), (1, _), (4, _), (5, _), (6, _), (7, _), (8, _), (9, _), (39, _)] ⟨rfl, rfl, rfl, rfl, rfl, rfl, rfl, rfl, rfl, trivial⟩ ?_
        refine At.go ?_
        refine Sc.seq ?_
        refine Sc.seq ?_
        refine Sc.region ?_
        refine Sl.calm (Cm.assign rfl) rfl ?_
        refine Sl.nil ?_
        refine At.go ?_
        refine Sc.block ?_
        refine Sc.loop (β := ((List (List UInt8) × List (List UInt8 × Hd)) × Int × Nat) × (Option Addr × Nat)) (fun ⟨⟨⟨ls, ys⟩, q, i⟩, ⟨oo, oc⟩⟩ => [(0, .pointer (some ⟨g, 0, none⟩)), (6, .slice o1 R.1.length c1), (7, .int .i64 q), (9, .slice oo ys.length oc), (10, .int .i64 i)]) (fun ⟨⟨⟨ls, ys⟩, q, i⟩, ⟨oo, oc⟩⟩ w => TxI im fr to R.2.1 (2 * n) ls q ∧ ls.length = 2 * i ∧ OwnM 2 encX 82 w.heap oo oc ys ∧ XdV (fun k => k < w.heap.size ∧ ¬ blk oo k) w.heap ys (pairsL ls) ∧ Fr w1.heap.size oo ∧ Foot nob w1 w) (fun ⟨⟨⟨ls, ys⟩, q, i⟩, ⟨oo, oc⟩⟩ => n - i) ⟨⟨⟨[], []⟩, R.2.1, 0⟩, ⟨some ⟨w1.heap.size, 0, none⟩, 0⟩⟩ ⟨rfl, rfl, rfl, rfl, rfl, trivial⟩ ⟨TxI.zero hRb, rfl, ho2, XdV.nil, fr_at _, hf2⟩ ?_
        rintro ⟨⟨⟨ls, ys⟩, q, i⟩, ⟨oo, oc⟩⟩ w3 ⟨hI, hli, hoo, hX, hfro, hF3⟩
        refine Sc.seq ?_
        refine Sc.seq ?_
        refine Sc.region ?_
        refine Sl.calm (Cm.move rfl) rfl ?_
        refine Sl.calm (Cm.move rfl) rfl ?_
        refine Sl.calm (Cm.indexAddr1 sl25 rfl rfl (ho1.grow hF3).vw.non (by omega)) rfl ?_
        refine Sl.calm (Cm.ld sca5 rfl ((ho1.grow hF3).vw.gz 0 0 rfl (by omega))) rfl ?_
        refine Sl.calm (Cm.convI_in (n := (n : Int)) is5 ty3 rfl (by rw [hn]; exact u8_i64T _)) rfl ?_
        refine Sl.fork (Cm.lss rfl rfl) rfl (fun h46 => ?_) (fun h46 => ?_)
        ·
          obtain ⟨i1, i2, i3, i4⟩ := hI
          have hI : TxI im fr to R.2.1 (2 * n) ls q := ⟨i1, i2, i3, i4⟩
          have hFW3 := hf1.trans hF3
          obtain ⟨S, hS⟩ : ∃ S, S = rtS1 im fr to q := ⟨_, rfl⟩
          have hSl := rtS1_len (im := im) (fr := fr) (to := to) q
          rw [← hS] at hSl
          have hSb := rtS1_bd (im := im) (fr := fr) (to := to) i3 him
          rw [← hS] at hSb
          obtain ⟨Z, hZ⟩ : ∃ Z, Z = rtS1 im fr to S.2.1 := ⟨_, rfl⟩
          have hZl := rtS1_len (im := im) (fr := fr) (to := to) S.2.1
          rw [← hZ] at hZl
          refine Sl.nil ?_
          refine At.weak [(0, _), (6, _), (7, _), (9, _), (10, _), (46, _)] ⟨rfl, rfl, rfl, rfl, rfl, rfl, trivial⟩ ?_
          refine At.go ?_
          refine Sc.cond_t rfl ?_
          refine Sc.skip ?_
          refine At.go ?_
          refine Sc.seq ?_
          refine Sc.block ?_
          refine Sc.seq ?_
          refine Sc.region ?_
          refine Sl.calm (Cm.move rfl) rfl ?_
          refine Sl.calm (Cm.move rfl) rfl ?_
          refine Sl.call fn65 rfl (rtxt_ok g io ic im fr to q w3 (hM.grow hFW3) him i3) rfl ?_
          rw [← hS]
          rintro _ w4 ⟨rfl, hf4⟩
          refine Sl.calm (Cm.move rfl) rfl ?_
          refine Sl.calm (Cm.extract rfl rfl) rfl ?_
          refine Sl.calm (Cm.extract rfl rfl) rfl ?_
          refine Sl.calm (Cm.extract rfl rfl) rfl ?_
          refine Sl.calm (Cm.assign rfl) rfl ?_
          refine Sl.calm (Cm.assign rfl) rfl ?_
          refine Sl.calm (Cm.assign rfl) rfl ?_
          refine Sl.nil ?_
          refine At.weak [(0, _), (6, _), (7, _), (9, _), (10, _), (11, _), (12, _), (13, _), (46, _)] ⟨rfl, rfl, rfl, rfl, rfl, rfl, rfl, rfl, rfl, trivial⟩ ?_
          refine At.go ?_
          refine Sc.seq ?_
          refine Sc.seq ?_
          refine Sc.region ?_
          refine Sl.calm (Cm.move rfl) rfl ?_
          refine Sl.fork (Cm.neq rfl rfl) rfl (fun h57 => ?_) (fun h57 => ?_)
          ·
            have e : rtXs im fr to ref = ([], 2) := rtXs_none hgood (by rw [← hR, ← hn]; exact hI.bad (by omega) (by rw [← hS]; exact h57))
            refine Sl.nil ?_
            refine At.weak [(0, _), (6, _), (7, _), (9, _), (10, _), (11, _), (12, _), (13, _), (46, _), (57, _)] ⟨rfl, rfl, rfl, rfl, rfl, rfl, rfl, rfl, rfl, rfl, trivial⟩ ?_
            refine At.go ?_
            refine Sc.cond_t rfl ?_
            refine Sc.seq ?_
            refine Sc.region ?_
            refine Sl.calm (Cm.assign rfl) rfl ?_
            refine Sl.calm (Cm.assign rfl) rfl ?_
            refine Sl.nil ?_
            refine At.go ?_
            refine Sc.ret ?_
            refine At.then_ret ?_
            refine At.block_ret ?_
            refine At.then_ret ?_
            refine At.then_ret ?_
            refine At.block_ret ?_
            refine At.then_ret ?_
            refine At.ret2 rfl rfl rfl ?_
            exact ⟨_, rfl, none, 0, by rw [e]; rfl, by rw [e]; exact XaV.nil, (hFW3.trans hf4)⟩
          ·
            have e57 : S.2.2 = 0 := Decidable.not_not.1 h57
            have hI2 := hI.next (by omega) him (by rw [← hS]; exact e57)
            rw [← hS] at hI2
            refine Sl.nil ?_
            refine At.weak [(0, _), (6, _), (7, _), (9, _), (10, _), (11, _), (12, _), (13, _), (46, _), (57, _)] ⟨rfl, rfl, rfl, rfl, rfl, rfl, rfl, rfl, rfl, rfl, trivial⟩ ?_
            refine At.go ?_
            refine Sc.cond_f rfl ?_
            refine Sc.skip ?_
            refine At.go ?_
            refine Sc.seq ?_
            refine Sc.region ?_
            refine Sl.calm (Cm.move rfl) rfl ?_
            refine Sl.calm (Cm.move rfl) rfl ?_
            refine Sl.call fn65 rfl (rtxt_ok g io ic im fr to S.2.1 w4 (hM.grow (hFW3.trans hf4)) him hSb) rfl ?_
            rw [← hZ]
            rintro _ w5 ⟨rfl, hf5⟩
            have hf35 := hf4.trans hf5
            have hz5 := hf35.size
            refine Sl.calm (Cm.move rfl) rfl ?_
            refine Sl.calm (Cm.extract rfl rfl) rfl ?_
            refine Sl.calm (Cm.extract rfl rfl) rfl ?_
            refine Sl.calm (Cm.extract rfl rfl) rfl ?_
            refine Sl.calm (Cm.assign rfl) rfl ?_
            refine Sl.calm (Cm.assign rfl) rfl ?_
            refine Sl.calm (Cm.assign rfl) rfl ?_
            refine Sl.nil ?_
            refine At.weak [(0, _), (6, _), (7, _), (9, _), (10, _), (11, _), (12, _), (13, _), (14, _), (15, _), (16, _), (46, _), (57, _)] ⟨rfl, rfl, rfl, rfl, rfl, rfl, rfl, rfl, rfl, rfl, rfl, rfl, rfl, trivial⟩ ?_
            refine At.go ?_
            refine Sc.seq ?_
            refine Sc.seq ?_
            refine Sc.region ?_
            refine Sl.calm (Cm.move rfl) rfl ?_
            refine Sl.fork (Cm.neq rfl rfl) rfl (fun h66 => ?_) (fun h66 => ?_)
            ·
              have e : rtXs im fr to ref = ([], 2) := rtXs_none hgood (by rw [← hR, ← hn]; exact hI2.bad (by rw [List.length_append, List.length_singleton]; omega) (by rw [← hZ]; exact h66))
              refine Sl.nil ?_
              refine At.weak [(0, _), (6, _), (7, _), (9, _), (10, _), (11, _), (12, _), (13, _), (14, _), (15, _), (16, _), (46, _), (57, _), (66, _)] ⟨rfl, rfl, rfl, rfl, rfl, rfl, rfl, rfl, rfl, rfl, rfl, rfl, rfl, rfl, trivial⟩ ?_
              refine At.go ?_
              refine Sc.cond_t rfl ?_
              refine Sc.seq ?_
              refine Sc.region ?_
              refine Sl.calm (Cm.assign rfl) rfl ?_
              refine Sl.calm (Cm.assign rfl) rfl ?_
              refine Sl.nil ?_
              refine At.go ?_
              refine Sc.ret ?_
              refine At.then_ret ?_
              refine At.block_ret ?_
              refine At.then_ret ?_
              refine At.then_ret ?_
              refine At.block_ret ?_
              refine At.then_ret ?_
              refine At.ret2 rfl rfl rfl ?_
              exact ⟨_, rfl, none, 0, by rw [e]; rfl, by rw [e]; exact XaV.nil, hFW3.trans hf35⟩
            ·
              have e66 : Z.2.2 = 0 := Decidable.not_not.1 h66
              have hI3 := hI2.next (by rw [List.length_append, List.length_singleton]; omega) him (by rw [← hZ]; exact e66)
              rw [← hZ] at hI3
              refine Sl.nil ?_
              refine At.weak [(0, _), (6, _), (7, _), (9, _), (10, _), (11, _), (12, _), (13, _), (14, _), (15, _), (16, _), (46, _), (57, _), (66, _)] ⟨rfl, rfl, rfl, rfl, rfl, rfl, rfl, rfl, rfl, rfl, rfl, rfl, rfl, rfl, trivial⟩ ?_
              refine At.go ?_
              refine Sc.cond_f rfl ?_
              refine Sc.skip ?_
              refine At.go ?_
              refine Sc.seq ?_
              refine Sc.region ?_
              refine Sl.calm (Cm.move rfl) rfl ?_
              refine Sl.calm (Cm.move rfl) rfl ?_
              refine Sl.calm (Cm.move rfl) rfl ?_
              refine Sl.bytesOf ty9 sl25 ty5 rfl (by unfold maxLen; omega) rfl ?_
              intro w6 c6 hv6 hs6 hf6
              obtain ⟨z6, hz6⟩ : ∃ z6 : Hd, z6 = ⟨some ⟨w5.heap.size, 0, none⟩, Z.1.length, c6⟩ := ⟨_, rfl⟩
              rw [show Value.slice (some ⟨w5.heap.size, 0, none⟩) Z.1.length c6 = hd z6 by rw [hz6]; rfl]
              refine Sl.calm (Cm.build (cs := #[.string (bs S.1), hd z6]) plc82 zc82 rfl (by kernel_rfl)) rfl ?_
              refine Sl.litG sl23 (cs := [.string (bs S.1), hd z6].toArray) zc82 rfl rfl rfl (by kernel_rfl) rfl ?_
              intro w7 hg7 hs7 hf7
              have ho7 : OwnM 2 encX 82 w7.heap (some ⟨w6.heap.size, 0, none⟩) 1 [(S.1, z6)] := ownM_new (xs := [(S.1, z6)]) encX_cells hg7 (by show 1 ≤ maxLen; decide)
              have hf37 := (hf35.trans hf6).trans hf7
              have hz67 := hf6.size
              have hz7 := hf7.size
              have hyl := hX.1
              rw [pairsL_len] at hyl
              refine Sl.appendM encX_cells rfl sl23 rfl rfl (hoo.grow hf37) (ho7.vw encX_cells) (by simp only [List.length_singleton]; omega) (by simp only [List.length_singleton]; unfold maxLen; omega) rfl ?_
              intro o8 c8 w8 ho8 hf8 hr8 hn8
              have hz8 := hf8.size
              have hlo := hoo.lt
              have hX8 := ((hX.keep hf37 (fun _ _ => id)).keep hf8 (fun k hk => hk.2))
              have hv8 := (hv6.grow hf7).keep hf8 (fun a ha ⟨b, hb, e⟩ => by cases ha; have := hlo b hb; have e : b.block = w5.heap.size := e; omega)
              have hF8 : Foot nob w1 w8 := (hF3.trans hf37).trans_to hf8 hfro.step
              refine Sl.calm (Cm.assign rfl) rfl ?_
              refine Sl.nil ?_
              refine At.weak [(0, _), (6, _), (7, _), (9, _), (10, _), (11, _), (12, _), (13, _), (14, _), (15, _), (16, _), (46, _), (57, _), (66, _)] ⟨rfl, rfl, rfl, rfl, rfl, rfl, rfl, rfl, rfl, rfl, rfl, rfl, rfl, rfl, trivial⟩ ?_
              refine At.go ?_
              refine Sc.region ?_
              refine Sl.calm (Cm.move rfl) rfl ?_
              refine Sl.calm (Cm.assign rfl) rfl ?_
              refine Sl.nil ?_
              refine At.block_normal ?_
              refine At.weak [(0, _), (6, _), (7, _), (9, _), (10, _), (11, _), (12, _), (13, _), (14, _), (15, _), (16, _), (46, _), (57, _), (66, _)] ⟨rfl, rfl, rfl, rfl, rfl, rfl, rfl, rfl, rfl, rfl, rfl, rfl, rfl, rfl, trivial⟩ ?_
              refine At.go ?_
              refine Sc.region ?_
              refine Sl.calm (Cm.move rfl) rfl ?_
              refine Sl.calm (Cm.add64 rfl rfl (by omega)) rfl ?_
              refine Sl.calm (Cm.assign rfl) rfl ?_
              refine Sl.nil ?_
              refine At.again ⟨⟨⟨ls ++ [S.1] ++ [Z.1], ys ++ [(S.1, z6)]⟩, Z.2.1, i + 1⟩, ⟨o8, c8⟩⟩ ⟨rfl, rfl, rfl, rfl, rfl, trivial⟩ ⟨hI3, by simp only [List.length_append, List.length_singleton]; omega, ho8, ?_, fr_next hfro hr8 (by have := hF3.size; omega), hF8⟩ (by show n - (i + 1) < n - i; omega)
              rw [pairsL_snoc hli]
              refine (hX8.mono ?_).snoc (by rw [hz6]) (by rw [hz6]; exact hv8) (by unfold maxLen; omega) ?_
              · rintro k ⟨h1, h2⟩
                refine ⟨by omega, fun ⟨a, ha, e⟩ => ?_⟩
                rcases hr8 a ha with h | h
                · exact h2 ⟨a, h, e⟩
                · omega
              · rintro k ⟨a, ha, e⟩
                rw [hz6] at ha
                cases ha
                have e : w5.heap.size = k := e
                refine ⟨by omega, fun ⟨b, hb, e2⟩ => ?_⟩
                rcases hr8 b hb with h | h
                · have := hlo b h; omega
                · omega
        ·
          refine Sl.nil ?_
          refine At.weak [(0, _), (6, _), (7, _), (9, _), (10, _), (46, _)] ⟨rfl, rfl, rfl, rfl, rfl, rfl, trivial⟩ ?_
          refine At.go ?_
          refine Sc.cond_f rfl ?_
          refine Sc.exit ?_
          refine At.then_exit ?_
          refine At.then_exit ?_
          refine At.block_hit ?_
          refine At.go ?_
          refine Sc.seq ?_
          refine Sc.region ?_
          refine Sl.calm (Cm.move rfl) rfl ?_
          have hdn := hI.done (by omega)
          rw [show ys.length = (pairsL ls).length from hX.1]
          refine Sl.call fn49 rfl (rmayX_ok oo oc (pairsL ls) w3 (hX.xav hoo)) rfl ?_
          rintro _ w4 ⟨rfl, hf4⟩
          refine Sl.calm (Cm.assign rfl) rfl ?_
          refine Sl.nil ?_
          refine At.weak [(0, _), (6, _), (7, _), (9, _), (10, _), (17, _), (46, _)] ⟨rfl, rfl, rfl, rfl, rfl, rfl, rfl, trivial⟩ ?_
          refine At.go ?_
          refine Sc.seq ?_
          refine Sc.seq ?_
          refine Sc.region ?_
          refine Sl.calm (Cm.move rfl) rfl ?_
          refine Sl.fork (Cm.notB rfl) rfl (fun h78 => ?_) (fun h78 => ?_)
          ·
            have hno : ¬ mayX (pairsL ls) := of_decide_eq_false h78
            have e : rtXs im fr to ref = ([], 2) := rtXs_not hgood (by rw [← hR, ← hn]; exact hdn) hno
            refine Sl.nil ?_
            refine At.weak [(0, _), (6, _), (7, _), (9, _), (10, _), (17, _), (46, _), (78, _)] ⟨rfl, rfl, rfl, rfl, rfl, rfl, rfl, rfl, trivial⟩ ?_
            refine At.go ?_
            refine Sc.cond_t rfl ?_
            refine Sc.seq ?_
            refine Sc.region ?_
            refine Sl.calm (Cm.assign rfl) rfl ?_
            refine Sl.calm (Cm.assign rfl) rfl ?_
            refine Sl.nil ?_
            refine At.go ?_
            refine Sc.ret ?_
            refine At.then_ret ?_
            refine At.ret2 rfl rfl rfl ?_
            exact ⟨_, rfl, none, 0, by rw [e]; rfl, by rw [e]; exact XaV.nil, (hf1.trans hF3).trans hf4⟩
          ·
            have hyes : mayX (pairsL ls) := Classical.byContradiction fun h => h78 (decide_eq_false h)
            have e : rtXs im fr to ref = (pairsL ls, 0) := rtXs_may hgood (by rw [← hR, ← hn]; exact hdn) hyes
            refine Sl.nil ?_
            refine At.weak [(0, _), (6, _), (7, _), (9, _), (10, _), (17, _), (46, _), (78, _)] ⟨rfl, rfl, rfl, rfl, rfl, rfl, rfl, rfl, trivial⟩ ?_
            refine At.go ?_
            refine Sc.cond_f rfl ?_
            refine Sc.skip ?_
            refine At.go ?_
            refine Sc.seq ?_
            refine Sc.region ?_
            refine Sl.calm (Cm.move rfl) rfl ?_
            refine Sl.calm (Cm.assign rfl) rfl ?_
            refine Sl.calm (Cm.assign rfl) rfl ?_
            refine Sl.nil ?_
            refine At.weak [(0, _), (4, _), (5, _), (6, _), (7, _), (9, _), (10, _), (17, _), (46, _), (78, _)] ⟨rfl, rfl, rfl, rfl, rfl, rfl, rfl, rfl, rfl, rfl, trivial⟩ ?_
            refine At.go ?_
            refine Sc.ret ?_
            refine At.ret2 rfl rfl rfl ?_
            exact ⟨_, rfl, oo, oc, by rw [e], by rw [e]; exact (hX.xav hoo).grow hf4, (hf1.trans hF3).trans hf4⟩
end Go.Proofs.Ytoaplldahbbaiaa
