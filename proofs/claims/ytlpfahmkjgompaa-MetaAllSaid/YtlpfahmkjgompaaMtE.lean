/- meta: the reference's reader. No condition beyond the bounds that each states. -/
import Derived.Test.YtlpfahmkjgompaaMtD
namespace Go.Proofs.Ytlpfahmkjgompaa
open Go Go.RowKit
set_option linter.unusedVariables false

def rrC (io : Option Addr) (il ic : Nat) (fr to : Int) : List Value := [.slice io il ic, .int .i64 fr, .int .i64 to]
def RrV (H : Array Obj) (g : Nat) (io : Option Addr) (ic : Nat) (im : List UInt8) (fr to : Int) : Prop :=
  H[g]? = some (.cells (rrC io im.length ic fr to).toArray 64 (0, 0)) ∧ Vw b8 H io ic im
section
variable {g : Nat} {io : Option Addr} {ic : Nat} {im : List UInt8} {fr to : Int}
theorem RrV.keep {S : Nat → Prop} {w w' : World} (h : RrV w.heap g io ic im fr to) (hf : Foot S w w') (hg : ¬ S g) (hi : ∀ a, io = some a → ¬ S a.block) : RrV w'.heap g io ic im fr to := ⟨hf.obj h.1 hg, h.2.keep hf hi⟩
theorem RrV.grow {w w' : World} (h : RrV w.heap g io ic im fr to) (hf : Foot nob w w') : RrV w'.heap g io ic im fr to := ⟨hf.obj h.1 id, h.2.grow hf⟩
theorem may_true (h : mayS im fr to = true) : 0 ≤ fr ∧ fr ≤ to ∧ to ≤ im.length := by
  unfold mayS at h
  simp only [Bool.and_eq_true, decide_eq_true_eq] at h; omega
end
theorem rmmay_ok (g : Nat) (io : Option Addr) (ic : Nat) (im : List UInt8) (fr to : Int) (W : World) (hM : RrV W.heap g io ic im fr to) :
    Calls Try.prog 57 [.pointer (some ⟨g, 0, none⟩)].toArray W (Ret fun v w' => v = .bool (mayS im fr to) ∧ Foot nob W w') := by
  obtain ⟨hg, hv⟩ := hM
  refine calls_of_sc 31 [(0, _)] Try.func57 rfl rfl rfl (enter_slots ⟨rfl, trivial⟩) ?_
  refine Sc.seq ?_
  refine Sc.region ?_
  refine Sl.calm (Cm.assign rfl) rfl ?_
  refine Sl.nil ?_
  refine At.go ?_
  refine Sc.seq ?_
  refine Sc.quiet 29 [0, 1, 2, 3, 4, 5, 6, 7, 8, 9, 10, 11, 12, 13, 14, 15, 16, 17, 18, 19, 20, 21, 22, 23, 24, 25, 26, 27, 28] mixed (by kernel_rfl) ?_
  refine Sx.calm rfl rfl (Cm.move rfl) rfl ?_
  refine Sx.calm rfl rfl (Cm.nilCheck rfl) rfl ?_
  refine Sx.calm rfl rfl (Cm.field fld64_1 rfl) rfl ?_
  refine Sx.calm rfl rfl (Cm.ld sca3 rfl (cellF hg rfl)) rfl ?_
  refine Sx.fork rfl rfl (Cm.geq rfl rfl) rfl (fun h7 => ?_) (fun h7 => ?_)
  ·
    refine Sx.calm rfl rfl (Cm.move rfl) rfl ?_
    refine Sx.want rfl rfl rfl rfl (Cm.move rfl) rfl ?_
    refine Sx.want rfl rfl rfl rfl (Cm.nilCheck rfl) rfl ?_
    refine Sx.want rfl rfl rfl rfl (Cm.field fld64_2 rfl) rfl ?_
    refine Sx.want rfl rfl rfl rfl (Cm.ld sca3 rfl (cellF hg rfl)) rfl ?_
    refine Sx.want rfl rfl rfl rfl (Cm.move rfl) rfl ?_
    refine Sx.want rfl rfl rfl rfl (Cm.nilCheck rfl) rfl ?_
    refine Sx.want rfl rfl rfl rfl (Cm.field fld64_0 rfl) rfl ?_
    refine Sx.want rfl rfl rfl rfl (Cm.ld sca22 rfl (cellF hg rfl)) rfl ?_
    refine Sx.want rfl rfl rfl rfl (Cm.len sl22 rfl) rfl ?_
    refine Sx.forkWant rfl rfl rfl rfl (Cm.leq rfl rfl) rfl (fun h18 => ?_) (fun h18 => ?_)
    ·
      refine Sx.calm rfl rfl (Cm.pick_t rfl rfl) rfl ?_
      refine Sx.calm rfl rfl (Cm.move rfl) rfl ?_
      refine Sx.want rfl rfl rfl rfl (Cm.move rfl) rfl ?_
      refine Sx.want rfl rfl rfl rfl (Cm.nilCheck rfl) rfl ?_
      refine Sx.want rfl rfl rfl rfl (Cm.field fld64_1 rfl) rfl ?_
      refine Sx.want rfl rfl rfl rfl (Cm.ld sca3 rfl (cellF hg rfl)) rfl ?_
      refine Sx.want rfl rfl rfl rfl (Cm.move rfl) rfl ?_
      refine Sx.want rfl rfl rfl rfl (Cm.nilCheck rfl) rfl ?_
      refine Sx.want rfl rfl rfl rfl (Cm.field fld64_2 rfl) rfl ?_
      refine Sx.want rfl rfl rfl rfl (Cm.ld sca3 rfl (cellF hg rfl)) rfl ?_
      refine Sx.forkWant rfl rfl rfl rfl (Cm.leq rfl rfl) rfl (fun h29 => ?_) (fun h29 => ?_)
      ·
        refine Sx.calm rfl rfl (Cm.pick_t rfl rfl) rfl ?_
        refine Sx.calm rfl rfl (Cm.assign rfl) rfl ?_
        refine Sx.nil ?_
        refine At.weak [(0, _), (2, _)] ⟨rfl, rfl, trivial⟩ ?_
        refine At.go ?_
        refine Sc.ret ?_
        refine At.ret1 rfl rfl ?_
        refine ⟨_, rfl, congrArg Value.bool (mayS_eq ⟨fun h => ?_, fun h => ?_⟩), (Foot.refl _ _).draws 1⟩
        · first
          | omega
          | exact absurd h (by decide)
        · first
          | rfl
          | exact absurd h (by omega)
      ·
        refine Sx.calm rfl rfl (Cm.pick_t rfl rfl) rfl ?_
        refine Sx.calm rfl rfl (Cm.assign rfl) rfl ?_
        refine Sx.nil ?_
        refine At.weak [(0, _), (2, _)] ⟨rfl, rfl, trivial⟩ ?_
        refine At.go ?_
        refine Sc.ret ?_
        refine At.ret1 rfl rfl ?_
        refine ⟨_, rfl, congrArg Value.bool (mayS_eq ⟨fun h => ?_, fun h => ?_⟩), (Foot.refl _ _).draws 1⟩
        · first
          | omega
          | exact absurd h (by decide)
        · first
          | rfl
          | exact absurd h (by omega)
    ·
      refine Sx.calm rfl rfl (Cm.pick_t rfl rfl) rfl ?_
      refine Sx.calm rfl rfl (Cm.move rfl) rfl ?_
      refine Sx.skip rfl rfl rfl rfl rfl rfl ?_
      refine Sx.skip rfl rfl rfl rfl rfl rfl ?_
      refine Sx.skip rfl rfl rfl rfl rfl rfl ?_
      refine Sx.skip rfl rfl rfl rfl rfl rfl ?_
      refine Sx.skip rfl rfl rfl rfl rfl rfl ?_
      refine Sx.skip rfl rfl rfl rfl rfl rfl ?_
      refine Sx.skip rfl rfl rfl rfl rfl rfl ?_
      refine Sx.skip rfl rfl rfl rfl rfl rfl ?_
      refine Sx.skip rfl rfl rfl rfl rfl rfl ?_
      refine Sx.calm rfl rfl (Cm.pick_f rfl rfl) rfl ?_
      refine Sx.calm rfl rfl (Cm.assign rfl) rfl ?_
      refine Sx.nil ?_
      refine At.weak [(0, _), (2, _)] ⟨rfl, rfl, trivial⟩ ?_
      refine At.go ?_
      refine Sc.ret ?_
      refine At.ret1 rfl rfl ?_
      refine ⟨_, rfl, congrArg Value.bool (mayS_eq ⟨fun h => ?_, fun h => ?_⟩), (Foot.refl _ _).draws 1⟩
      · first
        | omega
        | exact absurd h (by decide)
      · first
        | rfl
        | exact absurd h (by omega)
  ·
    refine Sx.calm rfl rfl (Cm.move rfl) rfl ?_
    refine Sx.skip rfl rfl rfl rfl rfl rfl ?_
    refine Sx.skip rfl rfl rfl rfl rfl rfl ?_
    refine Sx.skip rfl rfl rfl rfl rfl rfl ?_
    refine Sx.skip rfl rfl rfl rfl rfl rfl ?_
    refine Sx.skip rfl rfl rfl rfl rfl rfl ?_
    refine Sx.skip rfl rfl rfl rfl rfl rfl ?_
    refine Sx.skip rfl rfl rfl rfl rfl rfl ?_
    refine Sx.skip rfl rfl rfl rfl rfl rfl ?_
    refine Sx.skip rfl rfl rfl rfl rfl rfl ?_
    refine Sx.skip rfl rfl rfl rfl rfl rfl ?_
    refine Sx.calm rfl rfl (Cm.pick_f rfl rfl) rfl ?_
    refine Sx.calm rfl rfl (Cm.move rfl) rfl ?_
    refine Sx.skip rfl rfl rfl rfl rfl rfl ?_
    refine Sx.skip rfl rfl rfl rfl rfl rfl ?_
    refine Sx.skip rfl rfl rfl rfl rfl rfl ?_
    refine Sx.skip rfl rfl rfl rfl rfl rfl ?_
    refine Sx.skip rfl rfl rfl rfl rfl rfl ?_
    refine Sx.skip rfl rfl rfl rfl rfl rfl ?_
    refine Sx.skip rfl rfl rfl rfl rfl rfl ?_
    refine Sx.skip rfl rfl rfl rfl rfl rfl ?_
    refine Sx.skip rfl rfl rfl rfl rfl rfl ?_
    refine Sx.calm rfl rfl (Cm.pick_f rfl rfl) rfl ?_
    refine Sx.calm rfl rfl (Cm.assign rfl) rfl ?_
    refine Sx.nil ?_
    refine At.weak [(0, _), (2, _)] ⟨rfl, rfl, trivial⟩ ?_
    refine At.go ?_
    refine Sc.ret ?_
    refine At.ret1 rfl rfl ?_
    refine ⟨_, rfl, congrArg Value.bool (mayS_eq ⟨fun h => ?_, fun h => ?_⟩), (Foot.refl _ _).draws 1⟩
    · first
      | omega
      | exact absurd h (by decide)
    · first
      | rfl
      | exact absurd h (by omega)
def holdsR (im : List UInt8) (fr to a : Int) : List UInt8 × Int × Int := match holdsS im fr to a with
  | none => ([], 0, 2)
  | some (b, nx) => (b, nx, 0)
set_option maxHeartbeats 2000000 in
theorem rmholds_ok (g : Nat) (io : Option Addr) (ic : Nat) (im : List UInt8) (fr to a : Int) (W : World) (hM : RrV W.heap g io ic im fr to) (hmay : mayS im fr to = true) (him : im.length ≤ 1099511627776) (ha : 0 ≤ a ∧ a ≤ 9223372036854775807) :
    Calls Try.prog 58 [.pointer (some ⟨g, 0, none⟩), .int .i64 a].toArray W (Ret (TkFP W (holdsR im fr to a))) := by
  obtain ⟨hg, hv⟩ := hM
  obtain ⟨hm1, hm2, hm3⟩ := may_true hmay
  refine calls_of_sc 58 [(0, _), (1, _)] Try.func58 rfl rfl rfl (enter_slots ⟨rfl, rfl, trivial⟩) ?_
  refine Sc.seq ?_
  refine Sc.region ?_
  refine Sl.calm (Cm.assign rfl) rfl ?_
  refine Sl.calm (Cm.assign rfl) rfl ?_
  refine Sl.calm (Cm.assign rfl) rfl ?_
  refine Sl.nil ?_
  refine At.go ?_
  refine Sc.seq ?_
  refine Sc.seq ?_
  refine Sc.quiet 11 [0, 1, 2, 3, 4, 5, 6, 7, 8, 9, 10] mixed (by kernel_rfl) ?_
  refine Sx.calm rfl rfl (Cm.move rfl) rfl ?_
  refine Sx.calm rfl rfl (Cm.move rfl) rfl ?_
  refine Sx.calm rfl rfl (Cm.nilCheck rfl) rfl ?_
  refine Sx.calm rfl rfl (Cm.field fld64_2 rfl) rfl ?_
  refine Sx.calm rfl rfl (Cm.ld sca3 rfl (cellF hg rfl)) rfl ?_
  refine Sx.calm rfl rfl (Cm.move rfl) rfl ?_
  refine Sx.calm rfl rfl (Cm.nilCheck rfl) rfl ?_
  refine Sx.calm rfl rfl (Cm.field fld64_1 rfl) rfl ?_
  refine Sx.calm rfl rfl (Cm.ld sca3 rfl (cellF hg rfl)) rfl ?_
  refine Sx.calm rfl rfl (Cm.sub64 rfl rfl (by omega)) rfl ?_
  refine Sx.fork rfl rfl (Cm.gtr rfl rfl) rfl (fun h20 => ?_) (fun h20 => ?_)
  ·
    have hn : holdsR im fr to a = ([], 0, 2) := by unfold holdsR holdsS; rw [if_pos (by omega)]
    refine Sx.nil ?_
    refine At.weak [(0, _), (1, _), (4, _), (5, _), (6, _), (20, _)] ⟨rfl, rfl, rfl, rfl, rfl, rfl, trivial⟩ ?_
    refine At.go ?_
    refine Sc.cond_t rfl ?_
    refine Sc.seq ?_
    refine Sc.region ?_
    refine Sl.calm (Cm.assign rfl) rfl ?_
    refine Sl.calm (Cm.assign rfl) rfl ?_
    refine Sl.calm (Cm.assign rfl) rfl ?_
    refine Sl.nil ?_
    refine At.go ?_
    refine Sc.ret ?_
    refine At.then_ret ?_
    refine At.ret3 rfl rfl rfl rfl ?_
    rw [hn]
    first
      | exact ⟨_, rfl, none, 0, rfl, Own.nil, Fr.none, Foot.ofDraws 1⟩
      | exact ⟨_, rfl, none, 0, rfl, Own.nil, Fr.none, hf1⟩
      | exact ⟨_, rfl, o1, c1, rfl, ho1, hfr1, hf1.draws 1⟩
  ·
    refine Sx.nil ?_
    refine At.weak [(0, _), (1, _), (4, _), (5, _), (6, _), (20, _)] ⟨rfl, rfl, rfl, rfl, rfl, rfl, trivial⟩ ?_
    refine At.go ?_
    refine Sc.cond_f rfl ?_
    refine Sc.skip ?_
    refine At.go ?_
    refine Sc.seq ?_
    refine Sc.draw 18 (fun H => H[g]? = some (.cells (rrC io im.length ic fr to).toArray 64 (0, 0))) [10] [0, 1, 2, 3, 4, 5, 6, 7, 8, 9, 10, 11, 12, 13, 14, 15, 16, 17] mixed (by kernel_rfl) (hg) ?_
    refine Sx.calm rfl rfl (Cm.move rfl) rfl ?_
    refine Sx.calm rfl rfl (Cm.nilCheck rfl) rfl ?_
    refine Sx.calm rfl rfl (Cm.field fld64_0 rfl) rfl ?_
    refine Sx.calm rfl rfl (Cm.load sca22 rfl (fun H hH => cellF hH rfl)) rfl ?_
    refine Sx.calm rfl rfl (Cm.move rfl) rfl ?_
    refine Sx.calm rfl rfl (Cm.nilCheck rfl) rfl ?_
    refine Sx.calm rfl rfl (Cm.field fld64_1 rfl) rfl ?_
    refine Sx.calm rfl rfl (Cm.load sca3 rfl (fun H hH => cellF hH rfl)) rfl ?_
    refine Sx.calm rfl rfl (Cm.move rfl) rfl ?_
    refine Sx.calm rfl rfl (Cm.add64 rfl rfl (by omega)) rfl ?_
    refine Sx.eff rfl rfl (Sl.call fn20 rfl (rftake_ok io ic im (fr + a) _ (hv.grow ((Foot.ofDraws 1).draws 1)) him (by omega)) rfl ?_)
    rintro _ w1 ⟨o1, c1, rfl, ho1, hfr1, hf1⟩
    refine Sx.on (by exact hf1.undraw.undraw.obj hg id) ?_
    have hf1 := hf1.undraw.undraw
    have hg1 := hf1.obj hg id
    obtain ⟨t, hT⟩ : ∃ t, t = takeS im (fr + a) := ⟨_, rfl⟩
    rw [← hT]
    rw [← hT] at ho1
    have hho : holdsS im fr to a = if t.2.2 ≠ 0 ∨ to < t.2.1 ∨ t.1.length = 0 then none else some (t.1, t.2.1 - fr) := by unfold holdsS; rw [if_neg (by omega), ← hT]
    have htk := takeS_ok (im := im) (a := fr + a)
    rw [← hT] at htk
    refine Sx.calm rfl rfl (Cm.move rfl) rfl ?_
    refine Sx.calm rfl rfl (Cm.extract rfl rfl) rfl ?_
    refine Sx.calm rfl rfl (Cm.extract rfl rfl) rfl ?_
    refine Sx.calm rfl rfl (Cm.extract rfl rfl) rfl ?_
    refine Sx.calm rfl rfl (Cm.assign rfl) rfl ?_
    refine Sx.calm rfl rfl (Cm.assign rfl) rfl ?_
    refine Sx.calm rfl rfl (Cm.assign rfl) rfl ?_
    refine Sx.nil ?_
    refine At.weak [(0, _), (1, _), (4, _), (5, _), (6, _), (7, _), (8, _), (9, _), (20, _)] ⟨rfl, rfl, rfl, rfl, rfl, rfl, rfl, rfl, rfl, trivial⟩ ?_
    refine At.go ?_
    refine Sc.seq ?_
    refine Sc.seq ?_
    refine Sc.region ?_
    refine Sl.calm (Cm.move rfl) rfl ?_
    refine Sl.fork (Cm.neq rfl rfl) rfl (fun h37 => ?_) (fun h37 => ?_)
    ·
      rw [if_pos (.inl h37)] at hho
      have hn : holdsR im fr to a = ([], 0, 2) := by unfold holdsR; rw [hho]
      refine Sl.calm (Cm.move rfl) rfl ?_
      refine Sl.skip rfl rfl rfl rfl ?_
      refine Sl.skip rfl rfl rfl rfl ?_
      refine Sl.skip rfl rfl rfl rfl ?_
      refine Sl.skip rfl rfl rfl rfl ?_
      refine Sl.skip rfl rfl rfl rfl ?_
      refine Sl.skip rfl rfl rfl rfl ?_
      refine Sl.calm (Cm.pick_t rfl rfl) rfl ?_
      refine Sl.calm (Cm.move rfl) rfl ?_
      refine Sl.skip rfl rfl rfl rfl ?_
      refine Sl.skip rfl rfl rfl rfl ?_
      refine Sl.skip rfl rfl rfl rfl ?_
      refine Sl.calm (Cm.pick_t rfl rfl) rfl ?_
      refine Sl.nil ?_
      refine At.weak [(0, _), (1, _), (4, _), (5, _), (6, _), (7, _), (8, _), (9, _), (20, _), (50, _)] ⟨rfl, rfl, rfl, rfl, rfl, rfl, rfl, rfl, rfl, rfl, trivial⟩ ?_
      refine At.go ?_
      refine Sc.cond_t rfl ?_
      refine Sc.seq ?_
      refine Sc.region ?_
      refine Sl.calm (Cm.assign rfl) rfl ?_
      refine Sl.calm (Cm.assign rfl) rfl ?_
      refine Sl.calm (Cm.assign rfl) rfl ?_
      refine Sl.nil ?_
      refine At.go ?_
      refine Sc.ret ?_
      refine At.then_ret ?_
      refine At.ret3 rfl rfl rfl rfl ?_
      rw [hn]
      first
        | exact ⟨_, rfl, none, 0, rfl, Own.nil, Fr.none, Foot.ofDraws 1⟩
        | exact ⟨_, rfl, none, 0, rfl, Own.nil, Fr.none, hf1⟩
        | exact ⟨_, rfl, o1, c1, rfl, ho1, hfr1, hf1.draws 1⟩
    ·
      have he : t.2.2 = 0 := Decidable.not_not.1 h37
      have htk := htk he
      refine Sl.calm (Cm.move rfl) rfl ?_
      refine Sl.want rfl rfl (Cm.move rfl) rfl ?_
      refine Sl.want rfl rfl (Cm.move rfl) rfl ?_
      refine Sl.want rfl rfl (Cm.nilCheck rfl) rfl ?_
      refine Sl.want rfl rfl (Cm.field fld64_2 rfl) rfl ?_
      refine Sl.want rfl rfl (Cm.ld sca3 rfl (cellF hg1 rfl)) rfl ?_
      refine Sl.forkWant rfl rfl (Cm.gtr rfl rfl) rfl (fun h44 => ?_) (fun h44 => ?_)
      ·
        rw [if_pos (.inr (.inl h44))] at hho
        have hn : holdsR im fr to a = ([], 0, 2) := by unfold holdsR; rw [hho]
        refine Sl.calm (Cm.pick_f rfl rfl) rfl ?_
        refine Sl.calm (Cm.move rfl) rfl ?_
        refine Sl.skip rfl rfl rfl rfl ?_
        refine Sl.skip rfl rfl rfl rfl ?_
        refine Sl.skip rfl rfl rfl rfl ?_
        refine Sl.calm (Cm.pick_t rfl rfl) rfl ?_
        refine Sl.nil ?_
        refine At.weak [(0, _), (1, _), (4, _), (5, _), (6, _), (7, _), (8, _), (9, _), (20, _), (50, _)] ⟨rfl, rfl, rfl, rfl, rfl, rfl, rfl, rfl, rfl, rfl, trivial⟩ ?_
        refine At.go ?_
        refine Sc.cond_t rfl ?_
        refine Sc.seq ?_
        refine Sc.region ?_
        refine Sl.calm (Cm.assign rfl) rfl ?_
        refine Sl.calm (Cm.assign rfl) rfl ?_
        refine Sl.calm (Cm.assign rfl) rfl ?_
        refine Sl.nil ?_
        refine At.go ?_
        refine Sc.ret ?_
        refine At.then_ret ?_
        refine At.ret3 rfl rfl rfl rfl ?_
        rw [hn]
        first
          | exact ⟨_, rfl, none, 0, rfl, Own.nil, Fr.none, Foot.ofDraws 1⟩
          | exact ⟨_, rfl, none, 0, rfl, Own.nil, Fr.none, hf1⟩
          | exact ⟨_, rfl, o1, c1, rfl, ho1, hfr1, hf1.draws 1⟩
      ·
        refine Sl.calm (Cm.pick_f rfl rfl) rfl ?_
        refine Sl.calm (Cm.move rfl) rfl ?_
        refine Sl.want rfl rfl (Cm.move rfl) rfl ?_
        refine Sl.want rfl rfl (Cm.len sl22 rfl) rfl ?_
        refine Sl.forkWant rfl rfl (Cm.eql rfl rfl) rfl (fun h49 => ?_) (fun h49 => ?_)
        ·
          rw [if_pos (.inr (.inr (by omega)))] at hho
          have hn : holdsR im fr to a = ([], 0, 2) := by unfold holdsR; rw [hho]
          refine Sl.calm (Cm.pick_f rfl rfl) rfl ?_
          refine Sl.nil ?_
          refine At.weak [(0, _), (1, _), (4, _), (5, _), (6, _), (7, _), (8, _), (9, _), (20, _), (50, _)] ⟨rfl, rfl, rfl, rfl, rfl, rfl, rfl, rfl, rfl, rfl, trivial⟩ ?_
          refine At.go ?_
          refine Sc.cond_t rfl ?_
          refine Sc.seq ?_
          refine Sc.region ?_
          refine Sl.calm (Cm.assign rfl) rfl ?_
          refine Sl.calm (Cm.assign rfl) rfl ?_
          refine Sl.calm (Cm.assign rfl) rfl ?_
          refine Sl.nil ?_
          refine At.go ?_
          refine Sc.ret ?_
          refine At.then_ret ?_
          refine At.ret3 rfl rfl rfl rfl ?_
          rw [hn]
          first
            | exact ⟨_, rfl, none, 0, rfl, Own.nil, Fr.none, Foot.ofDraws 1⟩
            | exact ⟨_, rfl, none, 0, rfl, Own.nil, Fr.none, hf1⟩
            | exact ⟨_, rfl, o1, c1, rfl, ho1, hfr1, hf1.draws 1⟩
        ·
          rw [if_neg (by rintro (h | h | h); exact h37 h; omega; omega)] at hho
          have hn : holdsR im fr to a = (t.1, t.2.1 - fr, 0) := by unfold holdsR; rw [hho]
          refine Sl.calm (Cm.pick_f rfl rfl) rfl ?_
          refine Sl.nil ?_
          refine At.weak [(0, _), (1, _), (4, _), (5, _), (6, _), (7, _), (8, _), (9, _), (20, _), (50, _)] ⟨rfl, rfl, rfl, rfl, rfl, rfl, rfl, rfl, rfl, rfl, trivial⟩ ?_
          refine At.go ?_
          refine Sc.cond_f rfl ?_
          refine Sc.skip ?_
          refine At.go ?_
          refine Sc.seq ?_
          refine Sc.quiet 10 [0, 1, 2, 3, 4, 5, 6, 7, 8, 9] mixed (by kernel_rfl) ?_
          refine Sx.calm rfl rfl (Cm.move rfl) rfl ?_
          refine Sx.calm rfl rfl (Cm.move rfl) rfl ?_
          refine Sx.calm rfl rfl (Cm.move rfl) rfl ?_
          refine Sx.calm rfl rfl (Cm.nilCheck rfl) rfl ?_
          refine Sx.calm rfl rfl (Cm.field fld64_1 rfl) rfl ?_
          refine Sx.calm rfl rfl (Cm.ld sca3 rfl (cellF hg1 rfl)) rfl ?_
          refine Sx.calm rfl rfl (Cm.sub64 rfl rfl (by omega)) rfl ?_
          refine Sx.calm rfl rfl (Cm.assign rfl) rfl ?_
          refine Sx.calm rfl rfl (Cm.assign rfl) rfl ?_
          refine Sx.calm rfl rfl (Cm.assign rfl) rfl ?_
          refine Sx.nil ?_
          refine At.weak [(0, _), (1, _), (4, _), (5, _), (6, _), (7, _), (8, _), (9, _), (20, _), (50, _)] ⟨rfl, rfl, rfl, rfl, rfl, rfl, rfl, rfl, rfl, rfl, trivial⟩ ?_
          refine At.go ?_
          refine Sc.ret ?_
          refine At.ret3 rfl rfl rfl rfl ?_
          rw [hn]
          first
            | exact ⟨_, rfl, none, 0, rfl, Own.nil, Fr.none, Foot.ofDraws 1⟩
            | exact ⟨_, rfl, none, 0, rfl, Own.nil, Fr.none, hf1⟩
            | exact ⟨_, rfl, o1, c1, rfl, ho1, hfr1, hf1.draws 1⟩
theorem holdsR_none {im : List UInt8} {fr to a : Int} (h : (holdsR im fr to a).2.2 ≠ 0) : holdsS im fr to a = none := by
  unfold holdsR at h
  split at h
  · assumption
  · exact absurd rfl h
theorem holdsR_some {im : List UInt8} {fr to a : Int} (h : (holdsR im fr to a).2.2 = 0) : holdsS im fr to a = some ((holdsR im fr to a).1, (holdsR im fr to a).2.1) := by
  unfold holdsR at h ⊢
  split at h
  · cases h
  · rename_i hh; rw [hh]
theorem cut_take {α : Type} {ao : Option Addr} {c : Nat} {en : α → Value} {H : Array Obj} {b x : List α} (h : Vw en H ao c b) {i m : Nat} (hx : x = (b.drop i).take m) (hib : i ≤ b.length) : Vw en H (cutAo ao c i 1) (c - i) x := by
  have hxl : x.length = min (b.length - i) m := by rw [hx, List.length_take, List.length_drop]; omega
  have hl := h.le
  have := h.cut (l := i) (h := i + x.length) (m := c) (by omega) (by omega) (by omega) (Nat.le_refl _)
  rw [show i + x.length - i = x.length by omega] at this
  rwa [show (b.drop i).take x.length = x by rw [hxl, hx]; apply List.ext_getElem?; intro j; rw [List.getElem?_take, List.getElem?_take]; by_cases hj1 : j < m <;> by_cases hj2 : j < b.length - i <;> simp [hj1, hj2] <;> omega] at this
set_option maxHeartbeats 4000000 in
theorem rmread_ok (g : Nat) (io : Option Addr) (ic : Nat) (im : List UInt8) (fr to ref n : Int) (W : World) (hM : RrV W.heap g io ic im fr to) (him : im.length ≤ 1099511627776) (href : -9223372036854775808 ≤ ref ∧ ref ≤ 9223372036854775807) (hn : n ≤ 1099511627776) :
    Calls Try.prog 32 [.pointer (some ⟨g, 0, none⟩), .int .i64 ref, .int .i64 n].toArray W (Ret (TkFP W (readS im fr to ref n))) := by
  refine calls_of_sc 88 [(0, _), (1, _), (2, _)] Try.func32 rfl rfl rfl (enter_slots ⟨rfl, rfl, rfl, trivial⟩) ?_
  refine Sc.seq ?_
  refine Sc.region ?_
  refine Sl.calm (Cm.assign rfl) rfl ?_
  refine Sl.calm (Cm.assign rfl) rfl ?_
  refine Sl.calm (Cm.assign rfl) rfl ?_
  refine Sl.nil ?_
  refine At.go ?_
  refine Sc.seq ?_
  refine Sc.seq ?_
  refine Sc.region ?_
  refine Sl.calm (Cm.move rfl) rfl ?_
  refine Sl.fork (Cm.lss rfl rfl) rfl (fun h18 => ?_) (fun h18 => ?_)
  ·
    have e : readS im fr to ref n = ([], 0, 1) := by unfold readS; rw [if_pos (by omega)]
    refine Sl.calm (Cm.move rfl) rfl ?_
    refine Sl.skip rfl rfl rfl rfl ?_
    refine Sl.skip rfl rfl rfl rfl ?_
    refine Sl.calm (Cm.pick_t rfl rfl) rfl ?_
    refine Sl.nil ?_
    refine At.weak [(0, _), (1, _), (2, _), (6, _), (7, _), (8, _), (22, _)] ⟨rfl, rfl, rfl, rfl, rfl, rfl, rfl, trivial⟩ ?_
    refine At.go ?_
    refine Sc.cond_t rfl ?_
    refine Sc.seq ?_
    refine Sc.region ?_
    refine Sl.calm (Cm.assign rfl) rfl ?_
    refine Sl.calm (Cm.assign rfl) rfl ?_
    refine Sl.calm (Cm.assign rfl) rfl ?_
    refine Sl.nil ?_
    refine At.go ?_
    refine Sc.ret ?_
    refine At.then_ret ?_
    refine At.ret3 rfl rfl rfl rfl ?_
    first
      | exact ⟨_, rfl, none, 0, by rw [e]; rfl, by rw [e]; exact Own.nil, Fr.none, Foot.refl _ _⟩
      | exact ⟨_, rfl, none, 0, by rw [e]; rfl, by rw [e]; exact Own.nil, Fr.none, hf1⟩
      | (rw [hbad] at hj; exact ⟨_, rfl, none, 0, by rw [← hj]; rfl, by rw [← hj]; exact Own.nil, Fr.none, hF3⟩)
      | (rw [hbad] at hj; exact ⟨_, rfl, none, 0, by rw [← hj]; rfl, by rw [← hj]; exact Own.nil, Fr.none, hF6⟩)
      | exact ⟨_, rfl, o, c, by rw [← hj], by rw [← hj]; exact ho2, hfr2, hF2⟩
  ·
    refine Sl.calm (Cm.move rfl) rfl ?_
    refine Sl.want rfl rfl (Cm.move rfl) rfl ?_
    refine Sl.forkWant rfl rfl (Cm.lss rfl rfl) rfl (fun h21 => ?_) (fun h21 => ?_)
    ·
      have e : readS im fr to ref n = ([], 0, 1) := by unfold readS; rw [if_pos (by omega)]
      refine Sl.calm (Cm.pick_f rfl rfl) rfl ?_
      refine Sl.nil ?_
      refine At.weak [(0, _), (1, _), (2, _), (6, _), (7, _), (8, _), (22, _)] ⟨rfl, rfl, rfl, rfl, rfl, rfl, rfl, trivial⟩ ?_
      refine At.go ?_
      refine Sc.cond_t rfl ?_
      refine Sc.seq ?_
      refine Sc.region ?_
      refine Sl.calm (Cm.assign rfl) rfl ?_
      refine Sl.calm (Cm.assign rfl) rfl ?_
      refine Sl.calm (Cm.assign rfl) rfl ?_
      refine Sl.nil ?_
      refine At.go ?_
      refine Sc.ret ?_
      refine At.then_ret ?_
      refine At.ret3 rfl rfl rfl rfl ?_
      first
        | exact ⟨_, rfl, none, 0, by rw [e]; rfl, by rw [e]; exact Own.nil, Fr.none, Foot.refl _ _⟩
        | exact ⟨_, rfl, none, 0, by rw [e]; rfl, by rw [e]; exact Own.nil, Fr.none, hf1⟩
        | (rw [hbad] at hj; exact ⟨_, rfl, none, 0, by rw [← hj]; rfl, by rw [← hj]; exact Own.nil, Fr.none, hF3⟩)
        | (rw [hbad] at hj; exact ⟨_, rfl, none, 0, by rw [← hj]; rfl, by rw [← hj]; exact Own.nil, Fr.none, hF6⟩)
        | exact ⟨_, rfl, o, c, by rw [← hj], by rw [← hj]; exact ho2, hfr2, hF2⟩
    ·
      obtain ⟨m, rfl⟩ : ∃ m : Nat, n = m := ⟨n.toNat, by omega⟩
      refine Sl.calm (Cm.pick_f rfl rfl) rfl ?_
      refine Sl.nil ?_
      refine At.weak [(0, _), (1, _), (2, _), (6, _), (7, _), (8, _), (22, _)] ⟨rfl, rfl, rfl, rfl, rfl, rfl, rfl, trivial⟩ ?_
      refine At.go ?_
      refine Sc.cond_f rfl ?_
      refine Sc.skip ?_
      refine At.go ?_
      refine Sc.seq ?_
      refine Sc.region ?_
      refine Sl.calm (Cm.move rfl) rfl ?_
      refine Sl.call fn57 rfl (rmmay_ok g io ic im fr to W hM) rfl ?_
      rintro _ w1 ⟨rfl, hf1⟩
      refine Sl.calm (Cm.assign rfl) rfl ?_
      refine Sl.nil ?_
      refine At.weak [(0, _), (1, _), (2, _), (6, _), (7, _), (8, _), (9, _), (22, _)] ⟨rfl, rfl, rfl, rfl, rfl, rfl, rfl, rfl, trivial⟩ ?_
      refine At.go ?_
      refine Sc.seq ?_
      refine Sc.seq ?_
      refine Sc.region ?_
      refine Sl.calm (Cm.move rfl) rfl ?_
      refine Sl.fork (Cm.notB rfl) rfl (fun h26 => ?_) (fun h26 => ?_)
      ·
        have e : readS im fr to ref m = ([], 0, 2) := by unfold readS; rw [if_neg (by omega), if_pos h26]
        refine Sl.nil ?_
        refine At.weak [(0, _), (1, _), (2, _), (6, _), (7, _), (8, _), (9, _), (22, _), (26, _)] ⟨rfl, rfl, rfl, rfl, rfl, rfl, rfl, rfl, rfl, trivial⟩ ?_
        refine At.go ?_
        refine Sc.cond_t rfl ?_
        refine Sc.seq ?_
        refine Sc.region ?_
        refine Sl.calm (Cm.assign rfl) rfl ?_
        refine Sl.calm (Cm.assign rfl) rfl ?_
        refine Sl.calm (Cm.assign rfl) rfl ?_
        refine Sl.nil ?_
        refine At.go ?_
        refine Sc.ret ?_
        refine At.then_ret ?_
        refine At.ret3 rfl rfl rfl rfl ?_
        first
          | exact ⟨_, rfl, none, 0, by rw [e]; rfl, by rw [e]; exact Own.nil, Fr.none, Foot.refl _ _⟩
          | exact ⟨_, rfl, none, 0, by rw [e]; rfl, by rw [e]; exact Own.nil, Fr.none, hf1⟩
          | (rw [hbad] at hj; exact ⟨_, rfl, none, 0, by rw [← hj]; rfl, by rw [← hj]; exact Own.nil, Fr.none, hF3⟩)
          | (rw [hbad] at hj; exact ⟨_, rfl, none, 0, by rw [← hj]; rfl, by rw [← hj]; exact Own.nil, Fr.none, hF6⟩)
          | exact ⟨_, rfl, o, c, by rw [← hj], by rw [← hj]; exact ho2, hfr2, hF2⟩
      ·
        have hmay : mayS im fr to = true := by simpa using h26
        obtain ⟨hm1, hm2, hm3⟩ := may_true hmay
        have e : readS im fr to ref m = rdL im fr to m (ref / 256) (ref % 256).toNat [] := by unfold readS; rw [if_neg (by omega), if_neg h26, Int.toNat_natCast]
        refine Sl.nil ?_
        refine At.weak [(0, _), (1, _), (2, _), (6, _), (7, _), (8, _), (9, _), (22, _), (26, _)] ⟨rfl, rfl, rfl, rfl, rfl, rfl, rfl, rfl, rfl, trivial⟩ ?_
        refine At.go ?_
        refine Sc.cond_f rfl ?_
        refine Sc.skip ?_
        refine At.go ?_
        refine Sc.seq ?_
        refine Sc.region ?_
        refine Sl.lit0 b8 sl22 rfl ?_
        intro wl hol0 hsl hfl
        have hF1 := hf1.trans hfl
        refine Sl.calm (Cm.assign rfl) rfl ?_
        refine Sl.nil ?_
        refine At.weak [(0, _), (1, _), (2, _), (6, _), (7, _), (8, _), (9, _), (10, _), (22, _), (26, _)] ⟨rfl, rfl, rfl, rfl, rfl, rfl, rfl, rfl, rfl, rfl, trivial⟩ ?_
        refine At.go ?_
        refine Sc.seq ?_
        refine Sc.region ?_
        refine Sl.calm (Cm.move rfl) rfl ?_
        refine Sl.calm (Cm.quo64 rfl rfl (by omega) (by decide)) rfl ?_
        refine Sl.calm (Cm.assign rfl) rfl ?_
        refine Sl.nil ?_
        refine At.weak [(0, _), (1, _), (2, _), (6, _), (7, _), (8, _), (9, _), (10, _), (11, _), (22, _), (26, _)] ⟨rfl, rfl, rfl, rfl, rfl, rfl, rfl, rfl, rfl, rfl, rfl, trivial⟩ ?_
        refine At.go ?_
        refine Sc.seq ?_
        refine Sc.region ?_
        refine Sl.calm (Cm.move rfl) rfl ?_
        refine Sl.calm (Cm.rem64 rfl rfl (by omega) (by decide)) rfl ?_
        refine Sl.calm (Cm.assign rfl) rfl ?_
        refine Sl.nil ?_
        refine At.weak [(0, _), (1, _), (2, _), (6, _), (7, _), (8, _), (9, _), (10, _), (11, _), (12, _), (22, _), (26, _)] ⟨rfl, rfl, rfl, rfl, rfl, rfl, rfl, rfl, rfl, rfl, rfl, rfl, trivial⟩ ?_
        refine At.go ?_
        refine Sc.seq ?_
        refine Sc.block ?_
        refine Sc.loop (β := (Int × Nat) × (List UInt8 × (Option Addr × Nat))) (fun ⟨⟨at_, i⟩, ⟨out, ⟨o, c⟩⟩⟩ => [(0, .pointer (some ⟨g, 0, none⟩)), (2, .int .i64 m), (10, .slice o out.length c), (11, .int .i64 at_), (12, .int .i64 i)]) (fun ⟨⟨at_, i⟩, ⟨out, ⟨o, c⟩⟩⟩ w => rdL im fr to m at_ i out = readS im fr to ref m ∧ out.length ≤ m ∧ 0 ≤ at_ ∧ 256 * at_ + i ≤ 9223372036854775807 ∧ i ≤ 255 ∧ Own b8 5 w.heap o c out ∧ Fr W.heap.size o ∧ Foot nob W w) (fun ⟨⟨at_, i⟩, ⟨out, ⟨o, c⟩⟩⟩ => m - out.length) ⟨⟨ref / 256, (ref % 256).toNat⟩, ⟨[], ⟨some ⟨w1.heap.size, 0, none⟩, 0⟩⟩⟩ ⟨rfl, rfl, rfl, rfl, (by show some (Value.int .i64 _) = some (Value.int .i64 _); congr 2; omega), trivial⟩ ⟨e.symm, Nat.zero_le _, by omega, by omega, by omega, hol0, (fr_at _).mono hf1.size, hF1⟩ ?_
        rintro ⟨⟨at_, i⟩, ⟨out, ⟨o, c⟩⟩⟩ w2 ⟨hj, hol, hat, hai, hi8, ho2, hfr2, hF2⟩
        refine Sc.seq ?_
        refine Sc.seq ?_
        refine Sc.region ?_
        refine Sl.calm (Cm.move rfl) rfl ?_
        refine Sl.calm (Cm.len sl22 rfl) rfl ?_
        refine Sl.calm (Cm.move rfl) rfl ?_
        refine Sl.fork (Cm.lss rfl rfl) rfl (fun h35 => ?_) (fun h35 => ?_)
        ·
          have hon : out.length < m := by omega
          refine Sl.nil ?_
          refine At.weak [(0, _), (2, _), (10, _), (11, _), (12, _), (35, _)] ⟨rfl, rfl, rfl, rfl, rfl, rfl, trivial⟩ ?_
          refine At.go ?_
          refine Sc.cond_t rfl ?_
          refine Sc.skip ?_
          refine At.go ?_
          refine Sc.block ?_
          refine Sc.seq ?_
          refine Sc.region ?_
          refine Sl.calm (Cm.move rfl) rfl ?_
          refine Sl.calm (Cm.move rfl) rfl ?_
          refine Sl.call fn58 rfl (rmholds_ok g io ic im fr to at_ w2 (hM.grow hF2) hmay him ⟨hat, by omega⟩) rfl ?_
          rintro _ w3 ⟨bo, bc, rfl, hob, hfrb, hf3⟩
          obtain ⟨t, hT⟩ : ∃ t, t = holdsR im fr to at_ := ⟨_, rfl⟩
          rw [← hT]
          rw [← hT] at hob
          have hF3 := hF2.trans hf3
          have ho3 := ho2.grow hf3
          refine Sl.calm (Cm.move rfl) rfl ?_
          refine Sl.calm (Cm.extract rfl rfl) rfl ?_
          refine Sl.calm (Cm.extract rfl rfl) rfl ?_
          refine Sl.calm (Cm.extract rfl rfl) rfl ?_
          refine Sl.calm (Cm.assign rfl) rfl ?_
          refine Sl.calm (Cm.assign rfl) rfl ?_
          refine Sl.calm (Cm.assign rfl) rfl ?_
          refine Sl.nil ?_
          refine At.weak [(0, _), (2, _), (10, _), (11, _), (12, _), (13, _), (14, _), (15, _), (35, _)] ⟨rfl, rfl, rfl, rfl, rfl, rfl, rfl, rfl, rfl, trivial⟩ ?_
          refine At.go ?_
          refine Sc.seq ?_
          refine Sc.seq ?_
          refine Sc.region ?_
          refine Sl.calm (Cm.move rfl) rfl ?_
          refine Sl.fork (Cm.neq rfl rfl) rfl (fun h44 => ?_) (fun h44 => ?_)
          ·
            have hbad : rdL im fr to m at_ i out = ([], 0, 2) := rdL_none hon (holdsR_none (by rw [← hT]; exact h44))
            refine Sl.calm (Cm.move rfl) rfl ?_
            refine Sl.skip rfl rfl rfl rfl ?_
            refine Sl.skip rfl rfl rfl rfl ?_
            refine Sl.skip rfl rfl rfl rfl ?_
            refine Sl.skip rfl rfl rfl rfl ?_
            refine Sl.calm (Cm.pick_t rfl rfl) rfl ?_
            refine Sl.nil ?_
            refine At.weak [(0, _), (2, _), (10, _), (11, _), (12, _), (13, _), (14, _), (15, _), (35, _), (50, _)] ⟨rfl, rfl, rfl, rfl, rfl, rfl, rfl, rfl, rfl, rfl, trivial⟩ ?_
            refine At.go ?_
            refine Sc.cond_t rfl ?_
            refine Sc.seq ?_
            refine Sc.region ?_
            refine Sl.calm (Cm.assign rfl) rfl ?_
            refine Sl.calm (Cm.assign rfl) rfl ?_
            refine Sl.calm (Cm.assign rfl) rfl ?_
            refine Sl.nil ?_
            refine At.go ?_
            refine Sc.ret ?_
            refine At.then_ret ?_
            refine At.block_ret ?_
            refine At.then_ret ?_
            refine At.block_ret ?_
            refine At.then_ret ?_
            refine At.ret3 rfl rfl rfl rfl ?_
            first
              | exact ⟨_, rfl, none, 0, by rw [e]; rfl, by rw [e]; exact Own.nil, Fr.none, Foot.refl _ _⟩
              | exact ⟨_, rfl, none, 0, by rw [e]; rfl, by rw [e]; exact Own.nil, Fr.none, hf1⟩
              | (rw [hbad] at hj; exact ⟨_, rfl, none, 0, by rw [← hj]; rfl, by rw [← hj]; exact Own.nil, Fr.none, hF3⟩)
              | (rw [hbad] at hj; exact ⟨_, rfl, none, 0, by rw [← hj]; rfl, by rw [← hj]; exact Own.nil, Fr.none, hF6⟩)
              | exact ⟨_, rfl, o, c, by rw [← hj], by rw [← hj]; exact ho2, hfr2, hF2⟩
          ·
            have he : t.2.2 = 0 := Decidable.not_not.1 h44
            have hh := holdsR_some (im := im) (fr := fr) (to := to) (a := at_) (by rw [← hT]; exact he)
            rw [← hT] at hh
            have hs := holdsS_some hh
            refine Sl.calm (Cm.move rfl) rfl ?_
            refine Sl.want rfl rfl (Cm.move rfl) rfl ?_
            refine Sl.want rfl rfl (Cm.move rfl) rfl ?_
            refine Sl.want rfl rfl (Cm.len sl22 rfl) rfl ?_
            refine Sl.forkWant rfl rfl (Cm.geq rfl rfl) rfl (fun h49 => ?_) (fun h49 => ?_)
            ·
              have hbad : rdL im fr to m at_ i out = ([], 0, 2) := rdL_out hon hh (by omega)
              refine Sl.calm (Cm.pick_f rfl rfl) rfl ?_
              refine Sl.nil ?_
              refine At.weak [(0, _), (2, _), (10, _), (11, _), (12, _), (13, _), (14, _), (15, _), (35, _), (50, _)] ⟨rfl, rfl, rfl, rfl, rfl, rfl, rfl, rfl, rfl, rfl, trivial⟩ ?_
              refine At.go ?_
              refine Sc.cond_t rfl ?_
              refine Sc.seq ?_
              refine Sc.region ?_
              refine Sl.calm (Cm.assign rfl) rfl ?_
              refine Sl.calm (Cm.assign rfl) rfl ?_
              refine Sl.calm (Cm.assign rfl) rfl ?_
              refine Sl.nil ?_
              refine At.go ?_
              refine Sc.ret ?_
              refine At.then_ret ?_
              refine At.block_ret ?_
              refine At.then_ret ?_
              refine At.block_ret ?_
              refine At.then_ret ?_
              refine At.ret3 rfl rfl rfl rfl ?_
              first
                | exact ⟨_, rfl, none, 0, by rw [e]; rfl, by rw [e]; exact Own.nil, Fr.none, Foot.refl _ _⟩
                | exact ⟨_, rfl, none, 0, by rw [e]; rfl, by rw [e]; exact Own.nil, Fr.none, hf1⟩
                | (rw [hbad] at hj; exact ⟨_, rfl, none, 0, by rw [← hj]; rfl, by rw [← hj]; exact Own.nil, Fr.none, hF3⟩)
                | (rw [hbad] at hj; exact ⟨_, rfl, none, 0, by rw [← hj]; rfl, by rw [← hj]; exact Own.nil, Fr.none, hF6⟩)
                | exact ⟨_, rfl, o, c, by rw [← hj], by rw [← hj]; exact ho2, hfr2, hF2⟩
            ·
              have hib : ¬ t.1.length ≤ i := by omega
              have hlb := hob.vw.le
              obtain ⟨x, hx⟩ : ∃ x, x = (t.1.drop i).take (m - out.length) := ⟨_, rfl⟩
              have hxl : x.length = min (t.1.length - i) (m - out.length) := by rw [hx, List.length_take, List.length_drop]; omega
              refine Sl.calm (Cm.pick_f rfl rfl) rfl ?_
              refine Sl.nil ?_
              refine At.weak [(0, _), (2, _), (10, _), (11, _), (12, _), (13, _), (14, _), (15, _), (35, _), (50, _)] ⟨rfl, rfl, rfl, rfl, rfl, rfl, rfl, rfl, rfl, rfl, trivial⟩ ?_
              refine At.go ?_
              refine Sc.cond_f rfl ?_
              refine Sc.skip ?_
              refine At.go ?_
              refine Sc.seq ?_
              refine Sc.region ?_
              refine Sl.calm (Cm.move rfl) rfl ?_
              refine Sl.calm (Cm.move rfl) rfl ?_
              refine Sl.calm (Cm.len sl22 rfl) rfl ?_
              refine Sl.calm (Cm.sub64 rfl rfl (by omega)) rfl ?_
              refine Sl.calm (Cm.move rfl) rfl ?_
              refine Sl.calm (Cm.len sl22 rfl) rfl ?_
              refine Sl.calm (Cm.move rfl) rfl ?_
              refine Sl.calm (Cm.sub64 rfl rfl (by omega)) rfl ?_
              refine Sl.calm (Cm.ofEq (u := .int .i64 (x.length : Nat)) (Cm.min2 rfl rfl) (by congr 1; omega)) rfl ?_
              refine Sl.calm (Cm.assign rfl) rfl ?_
              refine Sl.nil ?_
              refine At.weak [(0, _), (2, _), (10, _), (11, _), (12, _), (13, _), (14, _), (15, _), (16, _), (35, _), (50, _)] ⟨rfl, rfl, rfl, rfl, rfl, rfl, rfl, rfl, rfl, rfl, rfl, trivial⟩ ?_
              refine At.go ?_
              refine Sc.seq ?_
              refine Sc.region ?_
              refine Sl.calm (Cm.move rfl) rfl ?_
              refine Sl.calm (Cm.move rfl) rfl ?_
              refine Sl.calm (Cm.move rfl) rfl ?_
              refine Sl.calm (Cm.move rfl) rfl ?_
              refine Sl.calm (Cm.move rfl) rfl ?_
              refine Sl.calm (Cm.add64 rfl rfl (by omega)) rfl ?_
              refine Sl.calm (Cm.ofEq (u := .slice (cutAo bo bc i 1) x.length (bc - i)) (Cm.sliceLH sl22 rfl rfl rfl (by omega) (by omega)) (by rw [hxl]; congr 1; omega)) rfl ?_
              have hvx := cut_take hob.vw hx (by omega)
              refine Sl.append b8_one sl22 rfl rfl ho3 hvx (by omega) (by unfold maxLen; omega) rfl ?_
              intro o6 c6 w6 ho6 hf6 hr6 hn6
              have hF6 : Foot nob W w6 := hF3.trans_to hf6 hfr2.step
              have hfr6 := fr_next hfr2 hr6 hF3.size
              have hal : (out ++ x).length = out.length + x.length := List.length_append
              have hxb : x.length = ((t.1.drop i).take (m - out.length)).length := by rw [hx]
              refine Sl.calm (Cm.assign rfl) rfl ?_
              refine Sl.nil ?_
              refine At.weak [(0, _), (2, _), (10, _), (11, _), (12, _), (13, _), (14, _), (15, _), (16, _), (35, _), (50, _)] ⟨rfl, rfl, rfl, rfl, rfl, rfl, rfl, rfl, rfl, rfl, rfl, trivial⟩ ?_
              refine At.go ?_
              refine Sc.seq ?_
              refine Sc.region ?_
              refine Sl.calm (Cm.move rfl) rfl ?_
              refine Sl.calm (Cm.move rfl) rfl ?_
              refine Sl.calm (Cm.add64 rfl rfl (by omega)) rfl ?_
              refine Sl.calm (Cm.assign rfl) rfl ?_
              refine Sl.nil ?_
              refine At.weak [(0, _), (2, _), (10, _), (11, _), (12, _), (13, _), (14, _), (15, _), (16, _), (35, _), (50, _)] ⟨rfl, rfl, rfl, rfl, rfl, rfl, rfl, rfl, rfl, rfl, rfl, trivial⟩ ?_
              refine At.go ?_
              refine Sc.seq ?_
              refine Sc.seq ?_
              refine Sc.region ?_
              refine Sl.calm (Cm.move rfl) rfl ?_
              refine Sl.calm (Cm.len sl22 rfl) rfl ?_
              refine Sl.calm (Cm.move rfl) rfl ?_
              refine Sl.fork (Cm.lss rfl rfl) rfl (fun h74 => ?_) (fun h74 => ?_)
              ·
                refine Sl.calm (Cm.move rfl) rfl ?_
                refine Sl.want rfl rfl (Cm.move rfl) rfl ?_
                refine Sl.want rfl rfl (Cm.len sl22 rfl) rfl ?_
                refine Sl.forkWant rfl rfl (Cm.lss rfl rfl) rfl (fun h78 => ?_) (fun h78 => ?_)
                ·
                  have hbad : rdL im fr to m at_ i out = ([], 0, 2) := rdL_bad hon hh hib (by rw [← hxb]; omega) (by rw [← hx]; omega)
                  refine Sl.calm (Cm.pick_t rfl rfl) rfl ?_
                  refine Sl.nil ?_
                  refine At.weak [(0, _), (2, _), (10, _), (11, _), (12, _), (13, _), (14, _), (15, _), (16, _), (35, _), (50, _), (79, _)] ⟨rfl, rfl, rfl, rfl, rfl, rfl, rfl, rfl, rfl, rfl, rfl, rfl, trivial⟩ ?_
                  refine At.go ?_
                  refine Sc.cond_t rfl ?_
                  refine Sc.seq ?_
                  refine Sc.region ?_
                  refine Sl.calm (Cm.assign rfl) rfl ?_
                  refine Sl.calm (Cm.assign rfl) rfl ?_
                  refine Sl.calm (Cm.assign rfl) rfl ?_
                  refine Sl.nil ?_
                  refine At.go ?_
                  refine Sc.ret ?_
                  refine At.then_ret ?_
                  refine At.block_ret ?_
                  refine At.then_ret ?_
                  refine At.block_ret ?_
                  refine At.then_ret ?_
                  refine At.ret3 rfl rfl rfl rfl ?_
                  first
                    | exact ⟨_, rfl, none, 0, by rw [e]; rfl, by rw [e]; exact Own.nil, Fr.none, Foot.refl _ _⟩
                    | exact ⟨_, rfl, none, 0, by rw [e]; rfl, by rw [e]; exact Own.nil, Fr.none, hf1⟩
                    | (rw [hbad] at hj; exact ⟨_, rfl, none, 0, by rw [← hj]; rfl, by rw [← hj]; exact Own.nil, Fr.none, hF3⟩)
                    | (rw [hbad] at hj; exact ⟨_, rfl, none, 0, by rw [← hj]; rfl, by rw [← hj]; exact Own.nil, Fr.none, hF6⟩)
                    | exact ⟨_, rfl, o, c, by rw [← hj], by rw [← hj]; exact ho2, hfr2, hF2⟩
                ·
                  refine Sl.calm (Cm.pick_t rfl rfl) rfl ?_
                  refine Sl.nil ?_
                  refine At.weak [(0, _), (2, _), (10, _), (11, _), (12, _), (13, _), (14, _), (15, _), (16, _), (35, _), (50, _), (79, _)] ⟨rfl, rfl, rfl, rfl, rfl, rfl, rfl, rfl, rfl, rfl, rfl, rfl, trivial⟩ ?_
                  refine At.go ?_
                  refine Sc.cond_f rfl ?_
                  refine Sc.skip ?_
                  refine At.go ?_
                  refine Sc.seq ?_
                  refine Sc.region ?_
                  refine Sl.calm (Cm.move rfl) rfl ?_
                  refine Sl.fork (Cm.eql rfl rfl) rfl (fun h81 => ?_) (fun h81 => ?_)
                  ·
                    have hgo := rdL_next (i := i) (n := m) hon hh hib (by rw [← hxb]; omega)
                    rw [← hx, hj] at hgo
                    refine Sl.nil ?_
                    refine At.weak [(0, _), (2, _), (10, _), (11, _), (12, _), (13, _), (14, _), (15, _), (16, _), (35, _), (50, _), (79, _), (81, _)] ⟨rfl, rfl, rfl, rfl, rfl, rfl, rfl, rfl, rfl, rfl, rfl, rfl, rfl, trivial⟩ ?_
                    refine At.go ?_
                    refine Sc.cond_t rfl ?_
                    refine Sc.seq ?_
                    refine Sc.region ?_
                    refine Sl.calm (Cm.move rfl) rfl ?_
                    refine Sl.calm (Cm.assign rfl) rfl ?_
                    refine Sl.nil ?_
                    refine At.weak [(0, _), (2, _), (10, _), (11, _), (12, _), (13, _), (14, _), (15, _), (16, _), (35, _), (50, _), (79, _), (81, _)] ⟨rfl, rfl, rfl, rfl, rfl, rfl, rfl, rfl, rfl, rfl, rfl, rfl, rfl, trivial⟩ ?_
                    refine At.go ?_
                    refine Sc.region ?_
                    refine Sl.calm (Cm.assign rfl) rfl ?_
                    refine Sl.nil ?_
                    refine At.block_normal ?_
                    exact At.again ⟨⟨t.2.1, 0⟩, ⟨out ++ x, ⟨o6, c6⟩⟩⟩ ⟨rfl, rfl, rfl, rfl, rfl, trivial⟩ ⟨hgo.symm, by omega, by omega, by omega, by omega, ho6, hfr6, hF6⟩ (by show m - (out ++ x).length < m - out.length; omega)
                  ·
                    have h128 : ¬ i + ((t.1.drop i).take (m - out.length)).length = 128 := by rw [← hxb]; omega
                    have hgo := rdL_on (i := i) (n := m) hon hh hib h128 (by rw [← hx]; omega)
                    rw [← hx, hj] at hgo
                    refine Sl.nil ?_
                    refine At.weak [(0, _), (2, _), (10, _), (11, _), (12, _), (13, _), (14, _), (15, _), (16, _), (35, _), (50, _), (79, _), (81, _)] ⟨rfl, rfl, rfl, rfl, rfl, rfl, rfl, rfl, rfl, rfl, rfl, rfl, rfl, trivial⟩ ?_
                    refine At.go ?_
                    refine Sc.cond_f rfl ?_
                    refine Sc.skip ?_
                    refine At.block_normal ?_
                    exact At.again ⟨⟨at_, i + x.length⟩, ⟨out ++ x, ⟨o6, c6⟩⟩⟩ ⟨rfl, rfl, rfl, rfl, rfl, trivial⟩ ⟨hgo.symm, by omega, hat, by omega, by omega, ho6, hfr6, hF6⟩ (by show m - (out ++ x).length < m - out.length; omega)
              ·
                refine Sl.calm (Cm.move rfl) rfl ?_
                refine Sl.skip rfl rfl rfl rfl ?_
                refine Sl.skip rfl rfl rfl rfl ?_
                refine Sl.skip rfl rfl rfl rfl ?_
                refine Sl.calm (Cm.pick_f rfl rfl) rfl ?_
                refine Sl.nil ?_
                refine At.weak [(0, _), (2, _), (10, _), (11, _), (12, _), (13, _), (14, _), (15, _), (16, _), (35, _), (50, _), (79, _)] ⟨rfl, rfl, rfl, rfl, rfl, rfl, rfl, rfl, rfl, rfl, rfl, rfl, trivial⟩ ?_
                refine At.go ?_
                refine Sc.cond_f rfl ?_
                refine Sc.skip ?_
                refine At.go ?_
                refine Sc.seq ?_
                refine Sc.region ?_
                refine Sl.calm (Cm.move rfl) rfl ?_
                refine Sl.fork (Cm.eql rfl rfl) rfl (fun h81 => ?_) (fun h81 => ?_)
                ·
                  have hgo := rdL_next (i := i) (n := m) hon hh hib (by rw [← hxb]; omega)
                  rw [← hx, hj] at hgo
                  refine Sl.nil ?_
                  refine At.weak [(0, _), (2, _), (10, _), (11, _), (12, _), (13, _), (14, _), (15, _), (16, _), (35, _), (50, _), (79, _), (81, _)] ⟨rfl, rfl, rfl, rfl, rfl, rfl, rfl, rfl, rfl, rfl, rfl, rfl, rfl, trivial⟩ ?_
                  refine At.go ?_
                  refine Sc.cond_t rfl ?_
                  refine Sc.seq ?_
                  refine Sc.region ?_
                  refine Sl.calm (Cm.move rfl) rfl ?_
                  refine Sl.calm (Cm.assign rfl) rfl ?_
                  refine Sl.nil ?_
                  refine At.weak [(0, _), (2, _), (10, _), (11, _), (12, _), (13, _), (14, _), (15, _), (16, _), (35, _), (50, _), (79, _), (81, _)] ⟨rfl, rfl, rfl, rfl, rfl, rfl, rfl, rfl, rfl, rfl, rfl, rfl, rfl, trivial⟩ ?_
                  refine At.go ?_
                  refine Sc.region ?_
                  refine Sl.calm (Cm.assign rfl) rfl ?_
                  refine Sl.nil ?_
                  refine At.block_normal ?_
                  exact At.again ⟨⟨t.2.1, 0⟩, ⟨out ++ x, ⟨o6, c6⟩⟩⟩ ⟨rfl, rfl, rfl, rfl, rfl, trivial⟩ ⟨hgo.symm, by omega, by omega, by omega, by omega, ho6, hfr6, hF6⟩ (by show m - (out ++ x).length < m - out.length; omega)
                ·
                  have h128 : ¬ i + ((t.1.drop i).take (m - out.length)).length = 128 := by rw [← hxb]; omega
                  have hgo := rdL_on (i := i) (n := m) hon hh hib h128 (by rw [← hx]; omega)
                  rw [← hx, hj] at hgo
                  refine Sl.nil ?_
                  refine At.weak [(0, _), (2, _), (10, _), (11, _), (12, _), (13, _), (14, _), (15, _), (16, _), (35, _), (50, _), (79, _), (81, _)] ⟨rfl, rfl, rfl, rfl, rfl, rfl, rfl, rfl, rfl, rfl, rfl, rfl, rfl, trivial⟩ ?_
                  refine At.go ?_
                  refine Sc.cond_f rfl ?_
                  refine Sc.skip ?_
                  refine At.block_normal ?_
                  exact At.again ⟨⟨at_, i + x.length⟩, ⟨out ++ x, ⟨o6, c6⟩⟩⟩ ⟨rfl, rfl, rfl, rfl, rfl, trivial⟩ ⟨hgo.symm, by omega, hat, by omega, by omega, ho6, hfr6, hF6⟩ (by show m - (out ++ x).length < m - out.length; omega)
        ·
          have hon : ¬ out.length < m := by omega
          rw [rdL_end hon] at hj
          refine Sl.nil ?_
          refine At.weak [(0, _), (2, _), (10, _), (11, _), (12, _), (35, _)] ⟨rfl, rfl, rfl, rfl, rfl, rfl, trivial⟩ ?_
          refine At.go ?_
          refine Sc.cond_f rfl ?_
          refine Sc.exit ?_
          refine At.then_exit ?_
          refine At.then_exit ?_
          refine At.block_hit ?_
          refine At.go ?_
          refine Sc.seq ?_
          refine Sc.region ?_
          refine Sl.calm (Cm.move rfl) rfl ?_
          refine Sl.calm (Cm.move rfl) rfl ?_
          refine Sl.calm (Cm.mul64 rfl rfl (by omega)) rfl ?_
          refine Sl.calm (Cm.move rfl) rfl ?_
          refine Sl.calm (Cm.add64 rfl rfl (by omega)) rfl ?_
          refine Sl.calm (Cm.assign rfl) rfl ?_
          refine Sl.calm (Cm.assign rfl) rfl ?_
          refine Sl.calm (Cm.assign rfl) rfl ?_
          refine Sl.nil ?_
          refine At.weak [(0, _), (2, _), (6, _), (7, _), (8, _), (10, _), (11, _), (12, _), (35, _)] ⟨rfl, rfl, rfl, rfl, rfl, rfl, rfl, rfl, rfl, trivial⟩ ?_
          refine At.go ?_
          refine Sc.ret ?_
          refine At.ret3 rfl rfl rfl rfl ?_
          first
            | exact ⟨_, rfl, none, 0, by rw [e]; rfl, by rw [e]; exact Own.nil, Fr.none, Foot.refl _ _⟩
            | exact ⟨_, rfl, none, 0, by rw [e]; rfl, by rw [e]; exact Own.nil, Fr.none, hf1⟩
            | (rw [hbad] at hj; exact ⟨_, rfl, none, 0, by rw [← hj]; rfl, by rw [← hj]; exact Own.nil, Fr.none, hF3⟩)
            | (rw [hbad] at hj; exact ⟨_, rfl, none, 0, by rw [← hj]; rfl, by rw [← hj]; exact Own.nil, Fr.none, hF6⟩)
            | exact ⟨_, rfl, o, c, by rw [← hj], by rw [← hj]; exact ho2, hfr2, hF2⟩
set_option maxHeartbeats 2000000 in
theorem rmnext_ok (g : Nat) (io : Option Addr) (ic : Nat) (im : List UInt8) (fr to ref : Int) (W : World) (hM : RrV W.heap g io ic im fr to) (him : im.length ≤ 1099511627776) (href : -9223372036854775808 ≤ ref ∧ ref ≤ 9223372036854775807) :
    Calls Try.prog 34 [.pointer (some ⟨g, 0, none⟩), .int .i64 ref].toArray W (Ret fun v w' => v = .tuple #[.int .i64 (nextS im fr to ref).1, .int .i64 (nextS im fr to ref).2] ∧ Foot nob W w') := by
  have hM0 := hM
  obtain ⟨hg, hv⟩ := hM
  refine calls_of_sc 61 [(0, _), (1, _)] Try.func34 rfl rfl rfl (enter_slots ⟨rfl, rfl, trivial⟩) ?_
  refine Sc.seq ?_
  refine Sc.region ?_
  refine Sl.calm (Cm.assign rfl) rfl ?_
  refine Sl.calm (Cm.assign rfl) rfl ?_
  refine Sl.nil ?_
  refine At.go ?_
  refine Sc.seq ?_
  refine Sc.seq ?_
  refine Sc.region ?_
  refine Sl.calm (Cm.move rfl) rfl ?_
  refine Sl.fork (Cm.lss rfl rfl) rfl (fun h10 => ?_) (fun h10 => ?_)
  ·
    have e : nextS im fr to ref = (0, 1) := by unfold nextS; rw [if_pos (by omega)]
    refine Sl.nil ?_
    refine At.weak [(0, _), (1, _), (4, _), (5, _), (10, _)] ⟨rfl, rfl, rfl, rfl, rfl, trivial⟩ ?_
    refine At.go ?_
    refine Sc.cond_t rfl ?_
    refine Sc.seq ?_
    refine Sc.region ?_
    refine Sl.calm (Cm.assign rfl) rfl ?_
    refine Sl.calm (Cm.assign rfl) rfl ?_
    refine Sl.nil ?_
    refine At.go ?_
    refine Sc.ret ?_
    refine At.then_ret ?_
    refine At.ret2 rfl rfl rfl ?_
    rw [e]
    first
      | exact ⟨_, rfl, rfl, Foot.refl _ _⟩
      | exact ⟨_, rfl, rfl, hf1.draws 1⟩
      | exact ⟨_, rfl, rfl, hf1.trans hf2⟩
  ·
    refine Sl.nil ?_
    refine At.weak [(0, _), (1, _), (4, _), (5, _), (10, _)] ⟨rfl, rfl, rfl, rfl, rfl, trivial⟩ ?_
    refine At.go ?_
    refine Sc.cond_f rfl ?_
    refine Sc.skip ?_
    refine At.go ?_
    refine Sc.seq ?_
    refine Sc.region ?_
    refine Sl.calm (Cm.move rfl) rfl ?_
    refine Sl.call fn57 rfl (rmmay_ok g io ic im fr to W hM0) rfl ?_
    rintro _ w1 ⟨rfl, hf1⟩
    have hg1 := hf1.obj hg id
    refine Sl.calm (Cm.assign rfl) rfl ?_
    refine Sl.nil ?_
    refine At.weak [(0, _), (1, _), (4, _), (5, _), (6, _), (10, _)] ⟨rfl, rfl, rfl, rfl, rfl, rfl, trivial⟩ ?_
    refine At.go ?_
    refine Sc.seq ?_
    refine Sc.seq ?_
    refine Sc.quiet 16 [0, 1, 2, 3, 4, 5, 6, 7, 8, 9, 10, 11, 12, 13, 14, 15] mixed (by kernel_rfl) ?_
    refine Sx.calm rfl rfl (Cm.move rfl) rfl ?_
    refine Sx.fork rfl rfl (Cm.notB rfl) rfl (fun h14 => ?_) (fun h14 => ?_)
    ·
      have e : nextS im fr to ref = (0, 2) := by unfold nextS; rw [if_neg (by omega), if_pos (.inl h14)]
      refine Sx.calm rfl rfl (Cm.move rfl) rfl ?_
      refine Sx.skip rfl rfl rfl rfl rfl rfl ?_
      refine Sx.skip rfl rfl rfl rfl rfl rfl ?_
      refine Sx.skip rfl rfl rfl rfl rfl rfl ?_
      refine Sx.skip rfl rfl rfl rfl rfl rfl ?_
      refine Sx.skip rfl rfl rfl rfl rfl rfl ?_
      refine Sx.skip rfl rfl rfl rfl rfl rfl ?_
      refine Sx.skip rfl rfl rfl rfl rfl rfl ?_
      refine Sx.skip rfl rfl rfl rfl rfl rfl ?_
      refine Sx.skip rfl rfl rfl rfl rfl rfl ?_
      refine Sx.skip rfl rfl rfl rfl rfl rfl ?_
      refine Sx.skip rfl rfl rfl rfl rfl rfl ?_
      refine Sx.skip rfl rfl rfl rfl rfl rfl ?_
      refine Sx.calm rfl rfl (Cm.pick_t rfl rfl) rfl ?_
      refine Sx.nil ?_
      refine At.weak [(0, _), (1, _), (4, _), (5, _), (6, _), (10, _), (28, _)] ⟨rfl, rfl, rfl, rfl, rfl, rfl, rfl, trivial⟩ ?_
      refine At.go ?_
      refine Sc.cond_t rfl ?_
      refine Sc.seq ?_
      refine Sc.region ?_
      refine Sl.calm (Cm.assign rfl) rfl ?_
      refine Sl.calm (Cm.assign rfl) rfl ?_
      refine Sl.nil ?_
      refine At.go ?_
      refine Sc.ret ?_
      refine At.then_ret ?_
      refine At.ret2 rfl rfl rfl ?_
      rw [e]
      first
        | exact ⟨_, rfl, rfl, Foot.refl _ _⟩
        | exact ⟨_, rfl, rfl, hf1.draws 1⟩
        | exact ⟨_, rfl, rfl, hf1.trans hf2⟩
    ·
      have hmay : mayS im fr to = true := by simpa using h14
      obtain ⟨hm1, hm2, hm3⟩ := may_true hmay
      refine Sx.calm rfl rfl (Cm.move rfl) rfl ?_
      refine Sx.want rfl rfl rfl rfl (Cm.move rfl) rfl ?_
      refine Sx.want rfl rfl rfl rfl (Cm.quo64 rfl rfl (by omega) (by decide)) rfl ?_
      refine Sx.want rfl rfl rfl rfl (Cm.move rfl) rfl ?_
      refine Sx.want rfl rfl rfl rfl (Cm.nilCheck rfl) rfl ?_
      refine Sx.want rfl rfl rfl rfl (Cm.field fld64_2 rfl) rfl ?_
      refine Sx.want rfl rfl rfl rfl (Cm.ld sca3 rfl (cellF hg1 rfl)) rfl ?_
      refine Sx.want rfl rfl rfl rfl (Cm.move rfl) rfl ?_
      refine Sx.want rfl rfl rfl rfl (Cm.nilCheck rfl) rfl ?_
      refine Sx.want rfl rfl rfl rfl (Cm.field fld64_1 rfl) rfl ?_
      refine Sx.want rfl rfl rfl rfl (Cm.ld sca3 rfl (cellF hg1 rfl)) rfl ?_
      refine Sx.want rfl rfl rfl rfl (Cm.sub64 rfl rfl (by omega)) rfl ?_
      refine Sx.forkWant rfl rfl rfl rfl (Cm.gtr rfl rfl) rfl (fun h27 => ?_) (fun h27 => ?_)
      ·
        have e : nextS im fr to ref = (0, 2) := by unfold nextS; rw [if_neg (by omega), if_pos (.inr (by omega))]
        refine Sx.calm rfl rfl (Cm.pick_f rfl rfl) rfl ?_
        refine Sx.nil ?_
        refine At.weak [(0, _), (1, _), (4, _), (5, _), (6, _), (10, _), (28, _)] ⟨rfl, rfl, rfl, rfl, rfl, rfl, rfl, trivial⟩ ?_
        refine At.go ?_
        refine Sc.cond_t rfl ?_
        refine Sc.seq ?_
        refine Sc.region ?_
        refine Sl.calm (Cm.assign rfl) rfl ?_
        refine Sl.calm (Cm.assign rfl) rfl ?_
        refine Sl.nil ?_
        refine At.go ?_
        refine Sc.ret ?_
        refine At.then_ret ?_
        refine At.ret2 rfl rfl rfl ?_
        rw [e]
        first
          | exact ⟨_, rfl, rfl, Foot.refl _ _⟩
          | exact ⟨_, rfl, rfl, hf1.draws 1⟩
          | exact ⟨_, rfl, rfl, hf1.trans hf2⟩
      ·
        have e : nextS im fr to ref = if (skipS im (fr + ref / 256)).2 ≠ 0 ∨ to < (skipS im (fr + ref / 256)).1 then (0, 2) else (256 * ((skipS im (fr + ref / 256)).1 - fr), 0) := by
          unfold nextS
          rw [if_neg (by omega), if_neg (by rintro (h | h); exact h14 h; omega)]
        refine Sx.calm rfl rfl (Cm.pick_f rfl rfl) rfl ?_
        refine Sx.nil ?_
        refine At.weak [(0, _), (1, _), (4, _), (5, _), (6, _), (10, _), (28, _)] ⟨rfl, rfl, rfl, rfl, rfl, rfl, rfl, trivial⟩ ?_
        refine At.go ?_
        refine Sc.cond_f rfl ?_
        refine Sc.skip ?_
        refine At.go ?_
        refine Sc.seq ?_
        refine Sc.draw 17 (fun H => H[g]? = some (.cells (rrC io im.length ic fr to).toArray 64 (0, 0))) [11] [0, 1, 2, 3, 4, 5, 6, 7, 8, 9, 10, 11, 12, 13, 14, 15, 16] mixed (by kernel_rfl) (hg1) ?_
        refine Sx.calm rfl rfl (Cm.move rfl) rfl ?_
        refine Sx.calm rfl rfl (Cm.nilCheck rfl) rfl ?_
        refine Sx.calm rfl rfl (Cm.field fld64_0 rfl) rfl ?_
        refine Sx.calm rfl rfl (Cm.load sca22 rfl (fun H hH => cellF hH rfl)) rfl ?_
        refine Sx.calm rfl rfl (Cm.move rfl) rfl ?_
        refine Sx.calm rfl rfl (Cm.nilCheck rfl) rfl ?_
        refine Sx.calm rfl rfl (Cm.field fld64_1 rfl) rfl ?_
        refine Sx.calm rfl rfl (Cm.load sca3 rfl (fun H hH => cellF hH rfl)) rfl ?_
        refine Sx.calm rfl rfl (Cm.move rfl) rfl ?_
        refine Sx.calm rfl rfl (Cm.quo64 rfl rfl (by omega) (by decide)) rfl ?_
        refine Sx.calm rfl rfl (Cm.add64 rfl rfl (by omega)) rfl ?_
        refine Sx.eff rfl rfl (Sl.call fn22 rfl (rfskip_ok io ic im (fr + ref / 256) _ (hv.grow ((hf1.draws 1).draws 1)) him (by omega)) rfl ?_)
        rintro _ w2 ⟨rfl, hf2⟩
        refine Sx.on (by exact hf2.undraw.undraw.obj hg1 id) ?_
        have hf2 := hf2.undraw.undraw
        have hg2 := hf2.obj hg1 id
        obtain ⟨t, hT⟩ : ∃ t, t = skipS im (fr + ref / 256) := ⟨_, rfl⟩
        rw [← hT]
        rw [← hT] at e
        have htk : t.2 = 0 → fr + ref / 256 ≤ t.1 := by
          intro h0
          rw [hT] at h0 ⊢
          unfold skipS at h0 ⊢
          split
          · rename_i hc; rw [hc] at h0; cases h0
          · simp only; omega
        refine Sx.calm rfl rfl (Cm.move rfl) rfl ?_
        refine Sx.calm rfl rfl (Cm.extract rfl rfl) rfl ?_
        refine Sx.calm rfl rfl (Cm.extract rfl rfl) rfl ?_
        refine Sx.calm rfl rfl (Cm.assign rfl) rfl ?_
        refine Sx.calm rfl rfl (Cm.assign rfl) rfl ?_
        refine Sx.nil ?_
        refine At.weak [(0, _), (1, _), (4, _), (5, _), (6, _), (7, _), (8, _), (10, _), (28, _)] ⟨rfl, rfl, rfl, rfl, rfl, rfl, rfl, rfl, rfl, trivial⟩ ?_
        refine At.go ?_
        refine Sc.seq ?_
        refine Sc.seq ?_
        refine Sc.region ?_
        refine Sl.calm (Cm.move rfl) rfl ?_
        refine Sl.fork (Cm.neq rfl rfl) rfl (fun h45 => ?_) (fun h45 => ?_)
        ·
          rw [if_pos (.inl h45)] at e
          refine Sl.calm (Cm.move rfl) rfl ?_
          refine Sl.skip rfl rfl rfl rfl ?_
          refine Sl.skip rfl rfl rfl rfl ?_
          refine Sl.skip rfl rfl rfl rfl ?_
          refine Sl.skip rfl rfl rfl rfl ?_
          refine Sl.skip rfl rfl rfl rfl ?_
          refine Sl.skip rfl rfl rfl rfl ?_
          refine Sl.calm (Cm.pick_t rfl rfl) rfl ?_
          refine Sl.nil ?_
          refine At.weak [(0, _), (1, _), (4, _), (5, _), (6, _), (7, _), (8, _), (10, _), (28, _), (53, _)] ⟨rfl, rfl, rfl, rfl, rfl, rfl, rfl, rfl, rfl, rfl, trivial⟩ ?_
          refine At.go ?_
          refine Sc.cond_t rfl ?_
          refine Sc.seq ?_
          refine Sc.region ?_
          refine Sl.calm (Cm.assign rfl) rfl ?_
          refine Sl.calm (Cm.assign rfl) rfl ?_
          refine Sl.nil ?_
          refine At.go ?_
          refine Sc.ret ?_
          refine At.then_ret ?_
          refine At.ret2 rfl rfl rfl ?_
          rw [e]
          first
            | exact ⟨_, rfl, rfl, Foot.refl _ _⟩
            | exact ⟨_, rfl, rfl, hf1.draws 1⟩
            | exact ⟨_, rfl, rfl, hf1.trans hf2⟩
        ·
          have htk := htk (Decidable.not_not.1 h45)
          refine Sl.calm (Cm.move rfl) rfl ?_
          refine Sl.want rfl rfl (Cm.move rfl) rfl ?_
          refine Sl.want rfl rfl (Cm.move rfl) rfl ?_
          refine Sl.want rfl rfl (Cm.nilCheck rfl) rfl ?_
          refine Sl.want rfl rfl (Cm.field fld64_2 rfl) rfl ?_
          refine Sl.want rfl rfl (Cm.ld sca3 rfl (cellF hg2 rfl)) rfl ?_
          refine Sl.forkWant rfl rfl (Cm.gtr rfl rfl) rfl (fun h52 => ?_) (fun h52 => ?_)
          ·
            rw [if_pos (.inr h52)] at e
            refine Sl.calm (Cm.pick_f rfl rfl) rfl ?_
            refine Sl.nil ?_
            refine At.weak [(0, _), (1, _), (4, _), (5, _), (6, _), (7, _), (8, _), (10, _), (28, _), (53, _)] ⟨rfl, rfl, rfl, rfl, rfl, rfl, rfl, rfl, rfl, rfl, trivial⟩ ?_
            refine At.go ?_
            refine Sc.cond_t rfl ?_
            refine Sc.seq ?_
            refine Sc.region ?_
            refine Sl.calm (Cm.assign rfl) rfl ?_
            refine Sl.calm (Cm.assign rfl) rfl ?_
            refine Sl.nil ?_
            refine At.go ?_
            refine Sc.ret ?_
            refine At.then_ret ?_
            refine At.ret2 rfl rfl rfl ?_
            rw [e]
            first
              | exact ⟨_, rfl, rfl, Foot.refl _ _⟩
              | exact ⟨_, rfl, rfl, hf1.draws 1⟩
              | exact ⟨_, rfl, rfl, hf1.trans hf2⟩
          ·
            rw [if_neg (by rintro (h | h); exact h45 h; omega)] at e
            refine Sl.calm (Cm.pick_f rfl rfl) rfl ?_
            refine Sl.nil ?_
            refine At.weak [(0, _), (1, _), (4, _), (5, _), (6, _), (7, _), (8, _), (10, _), (28, _), (53, _)] ⟨rfl, rfl, rfl, rfl, rfl, rfl, rfl, rfl, rfl, rfl, trivial⟩ ?_
            refine At.go ?_
            refine Sc.cond_f rfl ?_
            refine Sc.skip ?_
            refine At.go ?_
            refine Sc.seq ?_
            refine Sc.region ?_
            refine Sl.calm (Cm.move rfl) rfl ?_
            refine Sl.calm (Cm.move rfl) rfl ?_
            refine Sl.calm (Cm.nilCheck rfl) rfl ?_
            refine Sl.calm (Cm.field fld64_1 rfl) rfl ?_
            refine Sl.calm (Cm.ld sca3 rfl (cellF hg2 rfl)) rfl ?_
            refine Sl.calm (Cm.sub64 rfl rfl (by omega)) rfl ?_
            refine Sl.calm (Cm.mul64 rfl rfl (by omega)) rfl ?_
            refine Sl.calm (Cm.assign rfl) rfl ?_
            refine Sl.calm (Cm.assign rfl) rfl ?_
            refine Sl.nil ?_
            refine At.weak [(0, _), (1, _), (4, _), (5, _), (6, _), (7, _), (8, _), (10, _), (28, _), (53, _)] ⟨rfl, rfl, rfl, rfl, rfl, rfl, rfl, rfl, rfl, rfl, trivial⟩ ?_
            refine At.go ?_
            refine Sc.ret ?_
            refine At.ret2 rfl rfl rfl ?_
            rw [e]
            first
              | exact ⟨_, rfl, rfl, Foot.refl _ _⟩
              | exact ⟨_, rfl, rfl, hf1.draws 1⟩
              | exact ⟨_, rfl, rfl, hf1.trans hf2⟩
end Go.Proofs.Ytlpfahmkjgompaa
