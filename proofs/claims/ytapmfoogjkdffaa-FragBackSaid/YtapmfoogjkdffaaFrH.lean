/- frag: tails that are read: the program's, the reference's, the law. No condition beyond the bounds that each states. -/
import Derived.Test.YtapmfoogjkdffaaFmL
import Derived.Test.YtapmfoogjkdffaaFrE
import Derived.Test.YtapmfoogjkdffaaLiftA
namespace Go.Proofs.Ytapmfoogjkdffaa
open Go Go.RowKit
set_option linter.unusedVariables false

def fragT (t : List UInt8 × Int × Int) (off n : Int) : List UInt8 × Int :=
  if t.2.2 ≠ 0 ∨ t.1.length = 0 ∨ (t.1.length : Int) < off ∨ (t.1.length : Int) - off < n then ([], 35) else ((t.1.drop off.toNat).take n.toNat, 0)
def fragR (im : List UInt8) (pl : List Int) (num off n : Int) : List UInt8 × Int :=
  if num < 1 ∨ (pl.length : Int) < num ∨ off < 0 ∨ n < 0 then ([], 1) else fragT (takeS im (pl.getD (num - 1).toNat 0)) off n

set_option maxHeartbeats 2000000 in
theorem fread_ok (p : Nat) (io : Option Addr) (ic : Nat) (im : List UInt8) (po : Option Addr) (pc : Nat) (pl : List Int) (num off n : Int) (W : World) (ht : TbV W.heap p) (hv : Vw b8 W.heap io ic im) (hb : im.length ≤ 1099511627776) (hp : Vw i64 W.heap po pc pl) (hpb : ∀ x ∈ pl, bd x) (hnb : bd num) (hob : bd off) (hnn : bd n) :
    Calls Try.prog 29 [.pointer (some ⟨p, 0, none⟩), .slice io im.length ic, .slice po pl.length pc, .int .i64 num, .int .i64 off, .int .i64 n].toArray W (Ret (PutP W (fragR im pl num off n))) := by
  unfold bd at hnb hob hnn
  refine calls_of_sc 73 [(0, _), (1, _), (2, _), (3, _), (4, _), (5, _)] Try.func29 rfl rfl rfl (enter_slots ⟨rfl, rfl, rfl, rfl, rfl, rfl, trivial⟩) ?_
  refine Sc.seq ?_
  refine Sc.region ?_
  refine Sl.calm (Cm.assign rfl) rfl ?_
  refine Sl.calm (Cm.assign rfl) rfl ?_
  refine Sl.nil ?_
  refine At.go ?_
  refine Sc.seq ?_
  refine Sc.seq ?_
  refine Sc.region ?_
  refine Sl.calm (Cm.move rfl) rfl ?_
  refine Sl.fork (Cm.lss rfl rfl) rfl (fun h18 => ?_) (fun h18 => ?_)
  ·
    have e : fragR im pl num off n = ([], 1) := by unfold fragR; rw [if_pos (by omega)]
    refine Sl.calm (Cm.move rfl) rfl ?_
    refine Sl.skip rfl rfl rfl rfl ?_
    refine Sl.skip rfl rfl rfl rfl ?_
    refine Sl.skip rfl rfl rfl rfl ?_
    refine Sl.skip rfl rfl rfl rfl ?_
    refine Sl.calm (Cm.pick_t rfl rfl) rfl ?_
    refine Sl.calm (Cm.move rfl) rfl ?_
    refine Sl.skip rfl rfl rfl rfl ?_
    refine Sl.skip rfl rfl rfl rfl ?_
    refine Sl.calm (Cm.pick_t rfl rfl) rfl ?_
    refine Sl.calm (Cm.move rfl) rfl ?_
    refine Sl.skip rfl rfl rfl rfl ?_
    refine Sl.skip rfl rfl rfl rfl ?_
    refine Sl.calm (Cm.pick_t rfl rfl) rfl ?_
    refine Sl.nil ?_
    refine At.weak [(0, _), (1, _), (2, _), (3, _), (4, _), (5, _), (12, _), (13, _), (32, _)] ⟨rfl, rfl, rfl, rfl, rfl, rfl, rfl, rfl, rfl, trivial⟩ ?_
    refine At.go ?_
    refine Sc.cond_t rfl ?_
    refine Sc.seq ?_
    refine Sc.region ?_
    refine Sl.calm (Cm.assign rfl) rfl ?_
    refine Sl.calm (Cm.assign rfl) rfl ?_
    refine Sl.nil ?_
    refine At.go ?_
    refine Sc.ret ?_
    refine At.then_ret ?_
    refine At.ret2 rfl rfl rfl ?_
    first
      | (rw [e]; exact ⟨_, rfl, none, 0, rfl, Own.nil, Fr.none, Foot.refl _ _⟩)
      | (rw [e, e2]; exact ⟨_, rfl, none, 0, rfl, Own.nil, Fr.none, hf1⟩)
      | (rw [e, e2]; exact ⟨_, rfl, o2, c2, rfl, ho2, hfr2.mono hf1.size, hf1.trans hf2⟩)
  ·
    refine Sl.calm (Cm.move rfl) rfl ?_
    refine Sl.want rfl rfl (Cm.move rfl) rfl ?_
    refine Sl.want rfl rfl (Cm.move rfl) rfl ?_
    refine Sl.want rfl rfl (Cm.len sl35 rfl) rfl ?_
    refine Sl.forkWant rfl rfl (Cm.gtr rfl rfl) rfl (fun h23 => ?_) (fun h23 => ?_)
    ·
      have e : fragR im pl num off n = ([], 1) := by unfold fragR; rw [if_pos (by omega)]
      refine Sl.calm (Cm.pick_f rfl rfl) rfl ?_
      refine Sl.calm (Cm.move rfl) rfl ?_
      refine Sl.skip rfl rfl rfl rfl ?_
      refine Sl.skip rfl rfl rfl rfl ?_
      refine Sl.calm (Cm.pick_t rfl rfl) rfl ?_
      refine Sl.calm (Cm.move rfl) rfl ?_
      refine Sl.skip rfl rfl rfl rfl ?_
      refine Sl.skip rfl rfl rfl rfl ?_
      refine Sl.calm (Cm.pick_t rfl rfl) rfl ?_
      refine Sl.nil ?_
      refine At.weak [(0, _), (1, _), (2, _), (3, _), (4, _), (5, _), (12, _), (13, _), (32, _)] ⟨rfl, rfl, rfl, rfl, rfl, rfl, rfl, rfl, rfl, trivial⟩ ?_
      refine At.go ?_
      refine Sc.cond_t rfl ?_
      refine Sc.seq ?_
      refine Sc.region ?_
      refine Sl.calm (Cm.assign rfl) rfl ?_
      refine Sl.calm (Cm.assign rfl) rfl ?_
      refine Sl.nil ?_
      refine At.go ?_
      refine Sc.ret ?_
      refine At.then_ret ?_
      refine At.ret2 rfl rfl rfl ?_
      first
        | (rw [e]; exact ⟨_, rfl, none, 0, rfl, Own.nil, Fr.none, Foot.refl _ _⟩)
        | (rw [e, e2]; exact ⟨_, rfl, none, 0, rfl, Own.nil, Fr.none, hf1⟩)
        | (rw [e, e2]; exact ⟨_, rfl, o2, c2, rfl, ho2, hfr2.mono hf1.size, hf1.trans hf2⟩)
    ·
      refine Sl.calm (Cm.pick_f rfl rfl) rfl ?_
      refine Sl.calm (Cm.move rfl) rfl ?_
      refine Sl.want rfl rfl (Cm.move rfl) rfl ?_
      refine Sl.forkWant rfl rfl (Cm.lss rfl rfl) rfl (fun h27 => ?_) (fun h27 => ?_)
      ·
        have e : fragR im pl num off n = ([], 1) := by unfold fragR; rw [if_pos (by omega)]
        refine Sl.calm (Cm.pick_f rfl rfl) rfl ?_
        refine Sl.calm (Cm.move rfl) rfl ?_
        refine Sl.skip rfl rfl rfl rfl ?_
        refine Sl.skip rfl rfl rfl rfl ?_
        refine Sl.calm (Cm.pick_t rfl rfl) rfl ?_
        refine Sl.nil ?_
        refine At.weak [(0, _), (1, _), (2, _), (3, _), (4, _), (5, _), (12, _), (13, _), (32, _)] ⟨rfl, rfl, rfl, rfl, rfl, rfl, rfl, rfl, rfl, trivial⟩ ?_
        refine At.go ?_
        refine Sc.cond_t rfl ?_
        refine Sc.seq ?_
        refine Sc.region ?_
        refine Sl.calm (Cm.assign rfl) rfl ?_
        refine Sl.calm (Cm.assign rfl) rfl ?_
        refine Sl.nil ?_
        refine At.go ?_
        refine Sc.ret ?_
        refine At.then_ret ?_
        refine At.ret2 rfl rfl rfl ?_
        first
          | (rw [e]; exact ⟨_, rfl, none, 0, rfl, Own.nil, Fr.none, Foot.refl _ _⟩)
          | (rw [e, e2]; exact ⟨_, rfl, none, 0, rfl, Own.nil, Fr.none, hf1⟩)
          | (rw [e, e2]; exact ⟨_, rfl, o2, c2, rfl, ho2, hfr2.mono hf1.size, hf1.trans hf2⟩)
      ·
        refine Sl.calm (Cm.pick_f rfl rfl) rfl ?_
        refine Sl.calm (Cm.move rfl) rfl ?_
        refine Sl.want rfl rfl (Cm.move rfl) rfl ?_
        refine Sl.forkWant rfl rfl (Cm.lss rfl rfl) rfl (fun h31 => ?_) (fun h31 => ?_)
        ·
          have e : fragR im pl num off n = ([], 1) := by unfold fragR; rw [if_pos (by omega)]
          refine Sl.calm (Cm.pick_f rfl rfl) rfl ?_
          refine Sl.nil ?_
          refine At.weak [(0, _), (1, _), (2, _), (3, _), (4, _), (5, _), (12, _), (13, _), (32, _)] ⟨rfl, rfl, rfl, rfl, rfl, rfl, rfl, rfl, rfl, trivial⟩ ?_
          refine At.go ?_
          refine Sc.cond_t rfl ?_
          refine Sc.seq ?_
          refine Sc.region ?_
          refine Sl.calm (Cm.assign rfl) rfl ?_
          refine Sl.calm (Cm.assign rfl) rfl ?_
          refine Sl.nil ?_
          refine At.go ?_
          refine Sc.ret ?_
          refine At.then_ret ?_
          refine At.ret2 rfl rfl rfl ?_
          first
            | (rw [e]; exact ⟨_, rfl, none, 0, rfl, Own.nil, Fr.none, Foot.refl _ _⟩)
            | (rw [e, e2]; exact ⟨_, rfl, none, 0, rfl, Own.nil, Fr.none, hf1⟩)
            | (rw [e, e2]; exact ⟨_, rfl, o2, c2, rfl, ho2, hfr2.mono hf1.size, hf1.trans hf2⟩)
        ·
          have e : fragR im pl num off n = fragT (takeS im (pl.getD (num - 1).toNat 0)) off n := by unfold fragR; rw [if_neg (by omega)]
          have hi : (num - 1).toNat < pl.length := by omega
          refine Sl.calm (Cm.pick_f rfl rfl) rfl ?_
          refine Sl.nil ?_
          refine At.weak [(0, _), (1, _), (2, _), (3, _), (4, _), (5, _), (12, _), (13, _), (32, _)] ⟨rfl, rfl, rfl, rfl, rfl, rfl, rfl, rfl, rfl, trivial⟩ ?_
          refine At.go ?_
          refine Sc.cond_f rfl ?_
          refine Sc.skip ?_
          refine At.go ?_
          refine Sc.seq ?_
          refine Sc.region ?_
          refine Sl.calm (Cm.move rfl) rfl ?_
          refine Sl.calm (Cm.move rfl) rfl ?_
          refine Sl.calm (Cm.move rfl) rfl ?_
          refine Sl.calm (Cm.move rfl) rfl ?_
          refine Sl.calm (Cm.sub64 rfl rfl (by omega)) rfl ?_
          refine Sl.calm (Cm.indexAddr1 sl35 rfl rfl hp.non (by omega)) rfl ?_
          refine Sl.calm (Cm.ld sca3 rfl (hp.gz 0 (num - 1).toNat (by omega) hi)) rfl ?_
          have hpa : bd (pl.getD (num - 1).toNat 0) := hpb _ (by rw [List.getD, List.getElem?_eq_getElem hi]; exact List.getElem_mem _)
          obtain ⟨t, hT⟩ : ∃ t, t = takeS im (pl.getD (num - 1).toNat 0) := ⟨_, rfl⟩
          refine Sl.call fn38 rfl (ftake_ok p io ic im _ W ht hv hb hpa.2) rfl ?_
          rw [← hT]
          rintro _ w1 ⟨o1, c1, rfl, ho1, hfr1, hf1⟩
          rw [← hT] at e
          have hl := ho1.vw.len63
          have hle := ho1.vw.le
          refine Sl.calm (Cm.move rfl) rfl ?_
          refine Sl.calm (Cm.extract rfl rfl) rfl ?_
          refine Sl.calm (Cm.extract rfl rfl) rfl ?_
          refine Sl.calm (Cm.extract rfl rfl) rfl ?_
          refine Sl.calm (Cm.assign rfl) rfl ?_
          refine Sl.calm (Cm.assign rfl) rfl ?_
          refine Sl.calm (Cm.assign rfl) rfl ?_
          refine Sl.nil ?_
          refine At.weak [(0, _), (1, _), (2, _), (3, _), (4, _), (5, _), (12, _), (13, _), (14, _), (16, _), (32, _)] ⟨rfl, rfl, rfl, rfl, rfl, rfl, rfl, rfl, rfl, rfl, rfl, trivial⟩ ?_
          refine At.go ?_
          refine Sc.seq ?_
          refine Sc.seq ?_
          refine Sc.region ?_
          refine Sl.calm (Cm.move rfl) rfl ?_
          refine Sl.fork (Cm.neq rfl rfl) rfl (fun h46 => ?_) (fun h46 => ?_)
          ·
            have e2 : fragT t off n = ([], 35) := by unfold fragT; rw [if_pos (.inl h46)]
            refine Sl.calm (Cm.move rfl) rfl ?_
            refine Sl.skip rfl rfl rfl rfl ?_
            refine Sl.skip rfl rfl rfl rfl ?_
            refine Sl.skip rfl rfl rfl rfl ?_
            refine Sl.calm (Cm.pick_t rfl rfl) rfl ?_
            refine Sl.calm (Cm.move rfl) rfl ?_
            refine Sl.skip rfl rfl rfl rfl ?_
            refine Sl.skip rfl rfl rfl rfl ?_
            refine Sl.skip rfl rfl rfl rfl ?_
            refine Sl.skip rfl rfl rfl rfl ?_
            refine Sl.calm (Cm.pick_t rfl rfl) rfl ?_
            refine Sl.calm (Cm.move rfl) rfl ?_
            refine Sl.skip rfl rfl rfl rfl ?_
            refine Sl.skip rfl rfl rfl rfl ?_
            refine Sl.skip rfl rfl rfl rfl ?_
            refine Sl.skip rfl rfl rfl rfl ?_
            refine Sl.skip rfl rfl rfl rfl ?_
            refine Sl.skip rfl rfl rfl rfl ?_
            refine Sl.calm (Cm.pick_t rfl rfl) rfl ?_
            refine Sl.nil ?_
            refine At.weak [(0, _), (1, _), (2, _), (3, _), (4, _), (5, _), (12, _), (13, _), (14, _), (16, _), (32, _), (65, _)] ⟨rfl, rfl, rfl, rfl, rfl, rfl, rfl, rfl, rfl, rfl, rfl, rfl, trivial⟩ ?_
            refine At.go ?_
            refine Sc.cond_t rfl ?_
            refine Sc.seq ?_
            refine Sc.region ?_
            refine Sl.calm (Cm.assign rfl) rfl ?_
            refine Sl.calm (Cm.assign rfl) rfl ?_
            refine Sl.nil ?_
            refine At.go ?_
            refine Sc.ret ?_
            refine At.then_ret ?_
            refine At.ret2 rfl rfl rfl ?_
            first
              | (rw [e]; exact ⟨_, rfl, none, 0, rfl, Own.nil, Fr.none, Foot.refl _ _⟩)
              | (rw [e, e2]; exact ⟨_, rfl, none, 0, rfl, Own.nil, Fr.none, hf1⟩)
              | (rw [e, e2]; exact ⟨_, rfl, o2, c2, rfl, ho2, hfr2.mono hf1.size, hf1.trans hf2⟩)
          ·
            refine Sl.calm (Cm.move rfl) rfl ?_
            refine Sl.want rfl rfl (Cm.move rfl) rfl ?_
            refine Sl.want rfl rfl (Cm.len sl30 rfl) rfl ?_
            refine Sl.forkWant rfl rfl (Cm.eql rfl rfl) rfl (fun h50 => ?_) (fun h50 => ?_)
            ·
              have e2 : fragT t off n = ([], 35) := by unfold fragT; rw [if_pos (.inr (.inl (by omega)))]
              refine Sl.calm (Cm.pick_f rfl rfl) rfl ?_
              refine Sl.calm (Cm.move rfl) rfl ?_
              refine Sl.skip rfl rfl rfl rfl ?_
              refine Sl.skip rfl rfl rfl rfl ?_
              refine Sl.skip rfl rfl rfl rfl ?_
              refine Sl.skip rfl rfl rfl rfl ?_
              refine Sl.calm (Cm.pick_t rfl rfl) rfl ?_
              refine Sl.calm (Cm.move rfl) rfl ?_
              refine Sl.skip rfl rfl rfl rfl ?_
              refine Sl.skip rfl rfl rfl rfl ?_
              refine Sl.skip rfl rfl rfl rfl ?_
              refine Sl.skip rfl rfl rfl rfl ?_
              refine Sl.skip rfl rfl rfl rfl ?_
              refine Sl.skip rfl rfl rfl rfl ?_
              refine Sl.calm (Cm.pick_t rfl rfl) rfl ?_
              refine Sl.nil ?_
              refine At.weak [(0, _), (1, _), (2, _), (3, _), (4, _), (5, _), (12, _), (13, _), (14, _), (16, _), (32, _), (65, _)] ⟨rfl, rfl, rfl, rfl, rfl, rfl, rfl, rfl, rfl, rfl, rfl, rfl, trivial⟩ ?_
              refine At.go ?_
              refine Sc.cond_t rfl ?_
              refine Sc.seq ?_
              refine Sc.region ?_
              refine Sl.calm (Cm.assign rfl) rfl ?_
              refine Sl.calm (Cm.assign rfl) rfl ?_
              refine Sl.nil ?_
              refine At.go ?_
              refine Sc.ret ?_
              refine At.then_ret ?_
              refine At.ret2 rfl rfl rfl ?_
              first
                | (rw [e]; exact ⟨_, rfl, none, 0, rfl, Own.nil, Fr.none, Foot.refl _ _⟩)
                | (rw [e, e2]; exact ⟨_, rfl, none, 0, rfl, Own.nil, Fr.none, hf1⟩)
                | (rw [e, e2]; exact ⟨_, rfl, o2, c2, rfl, ho2, hfr2.mono hf1.size, hf1.trans hf2⟩)
            ·
              refine Sl.calm (Cm.pick_f rfl rfl) rfl ?_
              refine Sl.calm (Cm.move rfl) rfl ?_
              refine Sl.want rfl rfl (Cm.move rfl) rfl ?_
              refine Sl.want rfl rfl (Cm.move rfl) rfl ?_
              refine Sl.want rfl rfl (Cm.len sl30 rfl) rfl ?_
              refine Sl.forkWant rfl rfl (Cm.gtr rfl rfl) rfl (fun h56 => ?_) (fun h56 => ?_)
              ·
                have e2 : fragT t off n = ([], 35) := by unfold fragT; rw [if_pos (.inr (.inr (.inl (by omega))))]
                refine Sl.calm (Cm.pick_f rfl rfl) rfl ?_
                refine Sl.calm (Cm.move rfl) rfl ?_
                refine Sl.skip rfl rfl rfl rfl ?_
                refine Sl.skip rfl rfl rfl rfl ?_
                refine Sl.skip rfl rfl rfl rfl ?_
                refine Sl.skip rfl rfl rfl rfl ?_
                refine Sl.skip rfl rfl rfl rfl ?_
                refine Sl.skip rfl rfl rfl rfl ?_
                refine Sl.calm (Cm.pick_t rfl rfl) rfl ?_
                refine Sl.nil ?_
                refine At.weak [(0, _), (1, _), (2, _), (3, _), (4, _), (5, _), (12, _), (13, _), (14, _), (16, _), (32, _), (65, _)] ⟨rfl, rfl, rfl, rfl, rfl, rfl, rfl, rfl, rfl, rfl, rfl, rfl, trivial⟩ ?_
                refine At.go ?_
                refine Sc.cond_t rfl ?_
                refine Sc.seq ?_
                refine Sc.region ?_
                refine Sl.calm (Cm.assign rfl) rfl ?_
                refine Sl.calm (Cm.assign rfl) rfl ?_
                refine Sl.nil ?_
                refine At.go ?_
                refine Sc.ret ?_
                refine At.then_ret ?_
                refine At.ret2 rfl rfl rfl ?_
                first
                  | (rw [e]; exact ⟨_, rfl, none, 0, rfl, Own.nil, Fr.none, Foot.refl _ _⟩)
                  | (rw [e, e2]; exact ⟨_, rfl, none, 0, rfl, Own.nil, Fr.none, hf1⟩)
                  | (rw [e, e2]; exact ⟨_, rfl, o2, c2, rfl, ho2, hfr2.mono hf1.size, hf1.trans hf2⟩)
              ·
                refine Sl.calm (Cm.pick_f rfl rfl) rfl ?_
                refine Sl.calm (Cm.move rfl) rfl ?_
                refine Sl.want rfl rfl (Cm.move rfl) rfl ?_
                refine Sl.want rfl rfl (Cm.move rfl) rfl ?_
                refine Sl.want rfl rfl (Cm.len sl30 rfl) rfl ?_
                refine Sl.want rfl rfl (Cm.move rfl) rfl ?_
                refine Sl.want rfl rfl (Cm.sub64 rfl rfl (by omega)) rfl ?_
                refine Sl.forkWant rfl rfl (Cm.gtr rfl rfl) rfl (fun h64 => ?_) (fun h64 => ?_)
                ·
                  have e2 : fragT t off n = ([], 35) := by unfold fragT; rw [if_pos (.inr (.inr (.inr (by omega))))]
                  refine Sl.calm (Cm.pick_f rfl rfl) rfl ?_
                  refine Sl.nil ?_
                  refine At.weak [(0, _), (1, _), (2, _), (3, _), (4, _), (5, _), (12, _), (13, _), (14, _), (16, _), (32, _), (65, _)] ⟨rfl, rfl, rfl, rfl, rfl, rfl, rfl, rfl, rfl, rfl, rfl, rfl, trivial⟩ ?_
                  refine At.go ?_
                  refine Sc.cond_t rfl ?_
                  refine Sc.seq ?_
                  refine Sc.region ?_
                  refine Sl.calm (Cm.assign rfl) rfl ?_
                  refine Sl.calm (Cm.assign rfl) rfl ?_
                  refine Sl.nil ?_
                  refine At.go ?_
                  refine Sc.ret ?_
                  refine At.then_ret ?_
                  refine At.ret2 rfl rfl rfl ?_
                  first
                    | (rw [e]; exact ⟨_, rfl, none, 0, rfl, Own.nil, Fr.none, Foot.refl _ _⟩)
                    | (rw [e, e2]; exact ⟨_, rfl, none, 0, rfl, Own.nil, Fr.none, hf1⟩)
                    | (rw [e, e2]; exact ⟨_, rfl, o2, c2, rfl, ho2, hfr2.mono hf1.size, hf1.trans hf2⟩)
                ·
                  have e2 : fragT t off n = ((t.1.drop off.toNat).take n.toNat, 0) := by unfold fragT; rw [if_neg (by rintro (h | h | h | h); exact h46 h; omega; omega; omega)]
                  have htl : t.1.length ≤ 128 := by rw [hT]; exact takeS_len _ _
                  have hcl : ((t.1.drop off.toNat).take n.toNat).length = n.toNat := by rw [List.length_take, List.length_drop]; omega
                  refine Sl.calm (Cm.pick_f rfl rfl) rfl ?_
                  refine Sl.nil ?_
                  refine At.weak [(0, _), (1, _), (2, _), (3, _), (4, _), (5, _), (12, _), (13, _), (14, _), (16, _), (32, _), (65, _)] ⟨rfl, rfl, rfl, rfl, rfl, rfl, rfl, rfl, rfl, rfl, rfl, rfl, trivial⟩ ?_
                  refine At.go ?_
                  refine Sc.cond_f rfl ?_
                  refine Sc.skip ?_
                  refine At.go ?_
                  refine Sc.seq ?_
                  refine Sc.region ?_
                  refine Sl.calm (Cm.move rfl) rfl ?_
                  refine Sl.calm (Cm.move rfl) rfl ?_
                  refine Sl.calm (Cm.move rfl) rfl ?_
                  refine Sl.calm (Cm.move rfl) rfl ?_
                  refine Sl.calm (Cm.add64 rfl rfl (by omega)) rfl ?_
                  refine Sl.calm (Cm.ofEq (u := .slice (cutAo o1 c1 off.toNat 1) ((t.1.drop off.toNat).take n.toNat).length (c1 - off.toNat)) (Cm.sliceLH sl30 rfl rfl rfl (by omega) (by omega)) (by rw [hcl, show (off + n).toNat - off.toNat = n.toNat by omega])) rfl ?_
                  refine Sl.call fn39 rfl (sclone_ok (cutAo o1 c1 off.toNat 1) (c1 - off.toNat) ((t.1.drop off.toNat).take n.toNat) w1 (by have := ho1.vw.cut (l := off.toNat) (h := off.toNat + n.toNat) (m := c1) (by omega) (by omega) (by omega) (Nat.le_refl _); rwa [show off.toNat + n.toNat - off.toNat = n.toNat by omega] at this) (by rw [hcl]; omega)) rfl ?_
                  rintro _ w2 ⟨o2, c2, rfl, ho2, hfr2, hf2⟩
                  refine Sl.calm (Cm.assign rfl) rfl ?_
                  refine Sl.calm (Cm.assign rfl) rfl ?_
                  refine Sl.nil ?_
                  refine At.weak [(0, _), (1, _), (2, _), (3, _), (4, _), (5, _), (12, _), (13, _), (14, _), (16, _), (32, _), (65, _)] ⟨rfl, rfl, rfl, rfl, rfl, rfl, rfl, rfl, rfl, rfl, rfl, rfl, trivial⟩ ?_
                  refine At.go ?_
                  refine Sc.ret ?_
                  refine At.ret2 rfl rfl rfl ?_
                  first
                    | (rw [e]; exact ⟨_, rfl, none, 0, rfl, Own.nil, Fr.none, Foot.refl _ _⟩)
                    | (rw [e, e2]; exact ⟨_, rfl, none, 0, rfl, Own.nil, Fr.none, hf1⟩)
                    | (rw [e, e2]; exact ⟨_, rfl, o2, c2, rfl, ho2, hfr2.mono hf1.size, hf1.trans hf2⟩)
set_option maxHeartbeats 2000000 in
theorem rfread_ok (io : Option Addr) (ic : Nat) (im : List UInt8) (po : Option Addr) (pc : Nat) (pl : List Int) (num off n : Int) (W : World) (hv : Vw b8 W.heap io ic im) (hb : im.length ≤ 1099511627776) (hp : Vw i64 W.heap po pc pl) (hpb : ∀ x ∈ pl, bd x) (hnb : bd num) (hob : bd off) (hnn : bd n) :
    Calls Try.prog 30 [.slice io im.length ic, .slice po pl.length pc, .int .i64 num, .int .i64 off, .int .i64 n].toArray W (Ret (PutP W (fragR im pl num off n))) := by
  unfold bd at hnb hob hnn
  refine calls_of_sc 71 [(0, _), (1, _), (2, _), (3, _), (4, _)] Try.func30 rfl rfl rfl (enter_slots ⟨rfl, rfl, rfl, rfl, rfl, trivial⟩) ?_
  refine Sc.seq ?_
  refine Sc.region ?_
  refine Sl.calm (Cm.assign rfl) rfl ?_
  refine Sl.calm (Cm.assign rfl) rfl ?_
  refine Sl.nil ?_
  refine At.go ?_
  refine Sc.seq ?_
  refine Sc.seq ?_
  refine Sc.region ?_
  refine Sl.calm (Cm.move rfl) rfl ?_
  refine Sl.fork (Cm.lss rfl rfl) rfl (fun h16 => ?_) (fun h16 => ?_)
  ·
    have e : fragR im pl num off n = ([], 1) := by unfold fragR; rw [if_pos (by omega)]
    refine Sl.calm (Cm.move rfl) rfl ?_
    refine Sl.skip rfl rfl rfl rfl ?_
    refine Sl.skip rfl rfl rfl rfl ?_
    refine Sl.skip rfl rfl rfl rfl ?_
    refine Sl.skip rfl rfl rfl rfl ?_
    refine Sl.calm (Cm.pick_t rfl rfl) rfl ?_
    refine Sl.calm (Cm.move rfl) rfl ?_
    refine Sl.skip rfl rfl rfl rfl ?_
    refine Sl.skip rfl rfl rfl rfl ?_
    refine Sl.calm (Cm.pick_t rfl rfl) rfl ?_
    refine Sl.calm (Cm.move rfl) rfl ?_
    refine Sl.skip rfl rfl rfl rfl ?_
    refine Sl.skip rfl rfl rfl rfl ?_
    refine Sl.calm (Cm.pick_t rfl rfl) rfl ?_
    refine Sl.nil ?_
    refine At.weak [(0, _), (1, _), (2, _), (3, _), (4, _), (10, _), (11, _), (30, _)] ⟨rfl, rfl, rfl, rfl, rfl, rfl, rfl, rfl, trivial⟩ ?_
    refine At.go ?_
    refine Sc.cond_t rfl ?_
    refine Sc.seq ?_
    refine Sc.region ?_
    refine Sl.calm (Cm.assign rfl) rfl ?_
    refine Sl.calm (Cm.assign rfl) rfl ?_
    refine Sl.nil ?_
    refine At.go ?_
    refine Sc.ret ?_
    refine At.then_ret ?_
    refine At.ret2 rfl rfl rfl ?_
    first
      | (rw [e]; exact ⟨_, rfl, none, 0, rfl, Own.nil, Fr.none, Foot.refl _ _⟩)
      | (rw [e, e2]; exact ⟨_, rfl, none, 0, rfl, Own.nil, Fr.none, hf1⟩)
      | (rw [e, e2]; exact ⟨_, rfl, o3, c3, rfl, ho3, (fr_next (fr_at _) hr3 hf2.size).mono hf1.size, hf1.trans (hf2.trans_to hf3 (fr_at _).step)⟩)
  ·
    refine Sl.calm (Cm.move rfl) rfl ?_
    refine Sl.want rfl rfl (Cm.move rfl) rfl ?_
    refine Sl.want rfl rfl (Cm.move rfl) rfl ?_
    refine Sl.want rfl rfl (Cm.len sl35 rfl) rfl ?_
    refine Sl.forkWant rfl rfl (Cm.gtr rfl rfl) rfl (fun h21 => ?_) (fun h21 => ?_)
    ·
      have e : fragR im pl num off n = ([], 1) := by unfold fragR; rw [if_pos (by omega)]
      refine Sl.calm (Cm.pick_f rfl rfl) rfl ?_
      refine Sl.calm (Cm.move rfl) rfl ?_
      refine Sl.skip rfl rfl rfl rfl ?_
      refine Sl.skip rfl rfl rfl rfl ?_
      refine Sl.calm (Cm.pick_t rfl rfl) rfl ?_
      refine Sl.calm (Cm.move rfl) rfl ?_
      refine Sl.skip rfl rfl rfl rfl ?_
      refine Sl.skip rfl rfl rfl rfl ?_
      refine Sl.calm (Cm.pick_t rfl rfl) rfl ?_
      refine Sl.nil ?_
      refine At.weak [(0, _), (1, _), (2, _), (3, _), (4, _), (10, _), (11, _), (30, _)] ⟨rfl, rfl, rfl, rfl, rfl, rfl, rfl, rfl, trivial⟩ ?_
      refine At.go ?_
      refine Sc.cond_t rfl ?_
      refine Sc.seq ?_
      refine Sc.region ?_
      refine Sl.calm (Cm.assign rfl) rfl ?_
      refine Sl.calm (Cm.assign rfl) rfl ?_
      refine Sl.nil ?_
      refine At.go ?_
      refine Sc.ret ?_
      refine At.then_ret ?_
      refine At.ret2 rfl rfl rfl ?_
      first
        | (rw [e]; exact ⟨_, rfl, none, 0, rfl, Own.nil, Fr.none, Foot.refl _ _⟩)
        | (rw [e, e2]; exact ⟨_, rfl, none, 0, rfl, Own.nil, Fr.none, hf1⟩)
        | (rw [e, e2]; exact ⟨_, rfl, o3, c3, rfl, ho3, (fr_next (fr_at _) hr3 hf2.size).mono hf1.size, hf1.trans (hf2.trans_to hf3 (fr_at _).step)⟩)
    ·
      refine Sl.calm (Cm.pick_f rfl rfl) rfl ?_
      refine Sl.calm (Cm.move rfl) rfl ?_
      refine Sl.want rfl rfl (Cm.move rfl) rfl ?_
      refine Sl.forkWant rfl rfl (Cm.lss rfl rfl) rfl (fun h25 => ?_) (fun h25 => ?_)
      ·
        have e : fragR im pl num off n = ([], 1) := by unfold fragR; rw [if_pos (by omega)]
        refine Sl.calm (Cm.pick_f rfl rfl) rfl ?_
        refine Sl.calm (Cm.move rfl) rfl ?_
        refine Sl.skip rfl rfl rfl rfl ?_
        refine Sl.skip rfl rfl rfl rfl ?_
        refine Sl.calm (Cm.pick_t rfl rfl) rfl ?_
        refine Sl.nil ?_
        refine At.weak [(0, _), (1, _), (2, _), (3, _), (4, _), (10, _), (11, _), (30, _)] ⟨rfl, rfl, rfl, rfl, rfl, rfl, rfl, rfl, trivial⟩ ?_
        refine At.go ?_
        refine Sc.cond_t rfl ?_
        refine Sc.seq ?_
        refine Sc.region ?_
        refine Sl.calm (Cm.assign rfl) rfl ?_
        refine Sl.calm (Cm.assign rfl) rfl ?_
        refine Sl.nil ?_
        refine At.go ?_
        refine Sc.ret ?_
        refine At.then_ret ?_
        refine At.ret2 rfl rfl rfl ?_
        first
          | (rw [e]; exact ⟨_, rfl, none, 0, rfl, Own.nil, Fr.none, Foot.refl _ _⟩)
          | (rw [e, e2]; exact ⟨_, rfl, none, 0, rfl, Own.nil, Fr.none, hf1⟩)
          | (rw [e, e2]; exact ⟨_, rfl, o3, c3, rfl, ho3, (fr_next (fr_at _) hr3 hf2.size).mono hf1.size, hf1.trans (hf2.trans_to hf3 (fr_at _).step)⟩)
      ·
        refine Sl.calm (Cm.pick_f rfl rfl) rfl ?_
        refine Sl.calm (Cm.move rfl) rfl ?_
        refine Sl.want rfl rfl (Cm.move rfl) rfl ?_
        refine Sl.forkWant rfl rfl (Cm.lss rfl rfl) rfl (fun h29 => ?_) (fun h29 => ?_)
        ·
          have e : fragR im pl num off n = ([], 1) := by unfold fragR; rw [if_pos (by omega)]
          refine Sl.calm (Cm.pick_f rfl rfl) rfl ?_
          refine Sl.nil ?_
          refine At.weak [(0, _), (1, _), (2, _), (3, _), (4, _), (10, _), (11, _), (30, _)] ⟨rfl, rfl, rfl, rfl, rfl, rfl, rfl, rfl, trivial⟩ ?_
          refine At.go ?_
          refine Sc.cond_t rfl ?_
          refine Sc.seq ?_
          refine Sc.region ?_
          refine Sl.calm (Cm.assign rfl) rfl ?_
          refine Sl.calm (Cm.assign rfl) rfl ?_
          refine Sl.nil ?_
          refine At.go ?_
          refine Sc.ret ?_
          refine At.then_ret ?_
          refine At.ret2 rfl rfl rfl ?_
          first
            | (rw [e]; exact ⟨_, rfl, none, 0, rfl, Own.nil, Fr.none, Foot.refl _ _⟩)
            | (rw [e, e2]; exact ⟨_, rfl, none, 0, rfl, Own.nil, Fr.none, hf1⟩)
            | (rw [e, e2]; exact ⟨_, rfl, o3, c3, rfl, ho3, (fr_next (fr_at _) hr3 hf2.size).mono hf1.size, hf1.trans (hf2.trans_to hf3 (fr_at _).step)⟩)
        ·
          have e : fragR im pl num off n = fragT (takeS im (pl.getD (num - 1).toNat 0)) off n := by unfold fragR; rw [if_neg (by omega)]
          have hi : (num - 1).toNat < pl.length := by omega
          refine Sl.calm (Cm.pick_f rfl rfl) rfl ?_
          refine Sl.nil ?_
          refine At.weak [(0, _), (1, _), (2, _), (3, _), (4, _), (10, _), (11, _), (30, _)] ⟨rfl, rfl, rfl, rfl, rfl, rfl, rfl, rfl, trivial⟩ ?_
          refine At.go ?_
          refine Sc.cond_f rfl ?_
          refine Sc.skip ?_
          refine At.go ?_
          refine Sc.seq ?_
          refine Sc.region ?_
          refine Sl.calm (Cm.move rfl) rfl ?_
          refine Sl.calm (Cm.move rfl) rfl ?_
          refine Sl.calm (Cm.move rfl) rfl ?_
          refine Sl.calm (Cm.sub64 rfl rfl (by omega)) rfl ?_
          refine Sl.calm (Cm.indexAddr1 sl35 rfl rfl hp.non (by omega)) rfl ?_
          refine Sl.calm (Cm.ld sca3 rfl (hp.gz 0 (num - 1).toNat (by omega) hi)) rfl ?_
          have hpa : bd (pl.getD (num - 1).toNat 0) := hpb _ (by rw [List.getD, List.getElem?_eq_getElem hi]; exact List.getElem_mem _)
          obtain ⟨t, hT⟩ : ∃ t, t = takeS im (pl.getD (num - 1).toNat 0) := ⟨_, rfl⟩
          refine Sl.call fn40 rfl (rftake_ok io ic im _ W hv hb hpa.2) rfl ?_
          rw [← hT]
          rintro _ w1 ⟨o1, c1, rfl, ho1, hfr1, hf1⟩
          rw [← hT] at e
          have hl := ho1.vw.len63
          have hle := ho1.vw.le
          refine Sl.calm (Cm.move rfl) rfl ?_
          refine Sl.calm (Cm.extract rfl rfl) rfl ?_
          refine Sl.calm (Cm.extract rfl rfl) rfl ?_
          refine Sl.calm (Cm.extract rfl rfl) rfl ?_
          refine Sl.calm (Cm.assign rfl) rfl ?_
          refine Sl.calm (Cm.assign rfl) rfl ?_
          refine Sl.calm (Cm.assign rfl) rfl ?_
          refine Sl.nil ?_
          refine At.weak [(0, _), (1, _), (2, _), (3, _), (4, _), (10, _), (11, _), (12, _), (14, _), (30, _)] ⟨rfl, rfl, rfl, rfl, rfl, rfl, rfl, rfl, rfl, rfl, trivial⟩ ?_
          refine At.go ?_
          refine Sc.seq ?_
          refine Sc.seq ?_
          refine Sc.region ?_
          refine Sl.calm (Cm.move rfl) rfl ?_
          refine Sl.fork (Cm.neq rfl rfl) rfl (fun h43 => ?_) (fun h43 => ?_)
          ·
            have e2 : fragT t off n = ([], 35) := by unfold fragT; rw [if_pos (.inl h43)]
            refine Sl.calm (Cm.move rfl) rfl ?_
            refine Sl.skip rfl rfl rfl rfl ?_
            refine Sl.skip rfl rfl rfl rfl ?_
            refine Sl.skip rfl rfl rfl rfl ?_
            refine Sl.calm (Cm.pick_t rfl rfl) rfl ?_
            refine Sl.calm (Cm.move rfl) rfl ?_
            refine Sl.skip rfl rfl rfl rfl ?_
            refine Sl.skip rfl rfl rfl rfl ?_
            refine Sl.skip rfl rfl rfl rfl ?_
            refine Sl.skip rfl rfl rfl rfl ?_
            refine Sl.calm (Cm.pick_t rfl rfl) rfl ?_
            refine Sl.calm (Cm.move rfl) rfl ?_
            refine Sl.skip rfl rfl rfl rfl ?_
            refine Sl.skip rfl rfl rfl rfl ?_
            refine Sl.skip rfl rfl rfl rfl ?_
            refine Sl.skip rfl rfl rfl rfl ?_
            refine Sl.skip rfl rfl rfl rfl ?_
            refine Sl.skip rfl rfl rfl rfl ?_
            refine Sl.calm (Cm.pick_t rfl rfl) rfl ?_
            refine Sl.nil ?_
            refine At.weak [(0, _), (1, _), (2, _), (3, _), (4, _), (10, _), (11, _), (12, _), (14, _), (30, _), (62, _)] ⟨rfl, rfl, rfl, rfl, rfl, rfl, rfl, rfl, rfl, rfl, rfl, trivial⟩ ?_
            refine At.go ?_
            refine Sc.cond_t rfl ?_
            refine Sc.seq ?_
            refine Sc.region ?_
            refine Sl.calm (Cm.assign rfl) rfl ?_
            refine Sl.calm (Cm.assign rfl) rfl ?_
            refine Sl.nil ?_
            refine At.go ?_
            refine Sc.ret ?_
            refine At.then_ret ?_
            refine At.ret2 rfl rfl rfl ?_
            first
              | (rw [e]; exact ⟨_, rfl, none, 0, rfl, Own.nil, Fr.none, Foot.refl _ _⟩)
              | (rw [e, e2]; exact ⟨_, rfl, none, 0, rfl, Own.nil, Fr.none, hf1⟩)
              | (rw [e, e2]; exact ⟨_, rfl, o3, c3, rfl, ho3, (fr_next (fr_at _) hr3 hf2.size).mono hf1.size, hf1.trans (hf2.trans_to hf3 (fr_at _).step)⟩)
          ·
            refine Sl.calm (Cm.move rfl) rfl ?_
            refine Sl.want rfl rfl (Cm.move rfl) rfl ?_
            refine Sl.want rfl rfl (Cm.len sl30 rfl) rfl ?_
            refine Sl.forkWant rfl rfl (Cm.eql rfl rfl) rfl (fun h47 => ?_) (fun h47 => ?_)
            ·
              have e2 : fragT t off n = ([], 35) := by unfold fragT; rw [if_pos (.inr (.inl (by omega)))]
              refine Sl.calm (Cm.pick_f rfl rfl) rfl ?_
              refine Sl.calm (Cm.move rfl) rfl ?_
              refine Sl.skip rfl rfl rfl rfl ?_
              refine Sl.skip rfl rfl rfl rfl ?_
              refine Sl.skip rfl rfl rfl rfl ?_
              refine Sl.skip rfl rfl rfl rfl ?_
              refine Sl.calm (Cm.pick_t rfl rfl) rfl ?_
              refine Sl.calm (Cm.move rfl) rfl ?_
              refine Sl.skip rfl rfl rfl rfl ?_
              refine Sl.skip rfl rfl rfl rfl ?_
              refine Sl.skip rfl rfl rfl rfl ?_
              refine Sl.skip rfl rfl rfl rfl ?_
              refine Sl.skip rfl rfl rfl rfl ?_
              refine Sl.skip rfl rfl rfl rfl ?_
              refine Sl.calm (Cm.pick_t rfl rfl) rfl ?_
              refine Sl.nil ?_
              refine At.weak [(0, _), (1, _), (2, _), (3, _), (4, _), (10, _), (11, _), (12, _), (14, _), (30, _), (62, _)] ⟨rfl, rfl, rfl, rfl, rfl, rfl, rfl, rfl, rfl, rfl, rfl, trivial⟩ ?_
              refine At.go ?_
              refine Sc.cond_t rfl ?_
              refine Sc.seq ?_
              refine Sc.region ?_
              refine Sl.calm (Cm.assign rfl) rfl ?_
              refine Sl.calm (Cm.assign rfl) rfl ?_
              refine Sl.nil ?_
              refine At.go ?_
              refine Sc.ret ?_
              refine At.then_ret ?_
              refine At.ret2 rfl rfl rfl ?_
              first
                | (rw [e]; exact ⟨_, rfl, none, 0, rfl, Own.nil, Fr.none, Foot.refl _ _⟩)
                | (rw [e, e2]; exact ⟨_, rfl, none, 0, rfl, Own.nil, Fr.none, hf1⟩)
                | (rw [e, e2]; exact ⟨_, rfl, o3, c3, rfl, ho3, (fr_next (fr_at _) hr3 hf2.size).mono hf1.size, hf1.trans (hf2.trans_to hf3 (fr_at _).step)⟩)
            ·
              refine Sl.calm (Cm.pick_f rfl rfl) rfl ?_
              refine Sl.calm (Cm.move rfl) rfl ?_
              refine Sl.want rfl rfl (Cm.move rfl) rfl ?_
              refine Sl.want rfl rfl (Cm.move rfl) rfl ?_
              refine Sl.want rfl rfl (Cm.len sl30 rfl) rfl ?_
              refine Sl.forkWant rfl rfl (Cm.gtr rfl rfl) rfl (fun h53 => ?_) (fun h53 => ?_)
              ·
                have e2 : fragT t off n = ([], 35) := by unfold fragT; rw [if_pos (.inr (.inr (.inl (by omega))))]
                refine Sl.calm (Cm.pick_f rfl rfl) rfl ?_
                refine Sl.calm (Cm.move rfl) rfl ?_
                refine Sl.skip rfl rfl rfl rfl ?_
                refine Sl.skip rfl rfl rfl rfl ?_
                refine Sl.skip rfl rfl rfl rfl ?_
                refine Sl.skip rfl rfl rfl rfl ?_
                refine Sl.skip rfl rfl rfl rfl ?_
                refine Sl.skip rfl rfl rfl rfl ?_
                refine Sl.calm (Cm.pick_t rfl rfl) rfl ?_
                refine Sl.nil ?_
                refine At.weak [(0, _), (1, _), (2, _), (3, _), (4, _), (10, _), (11, _), (12, _), (14, _), (30, _), (62, _)] ⟨rfl, rfl, rfl, rfl, rfl, rfl, rfl, rfl, rfl, rfl, rfl, trivial⟩ ?_
                refine At.go ?_
                refine Sc.cond_t rfl ?_
                refine Sc.seq ?_
                refine Sc.region ?_
                refine Sl.calm (Cm.assign rfl) rfl ?_
                refine Sl.calm (Cm.assign rfl) rfl ?_
                refine Sl.nil ?_
                refine At.go ?_
                refine Sc.ret ?_
                refine At.then_ret ?_
                refine At.ret2 rfl rfl rfl ?_
                first
                  | (rw [e]; exact ⟨_, rfl, none, 0, rfl, Own.nil, Fr.none, Foot.refl _ _⟩)
                  | (rw [e, e2]; exact ⟨_, rfl, none, 0, rfl, Own.nil, Fr.none, hf1⟩)
                  | (rw [e, e2]; exact ⟨_, rfl, o3, c3, rfl, ho3, (fr_next (fr_at _) hr3 hf2.size).mono hf1.size, hf1.trans (hf2.trans_to hf3 (fr_at _).step)⟩)
              ·
                refine Sl.calm (Cm.pick_f rfl rfl) rfl ?_
                refine Sl.calm (Cm.move rfl) rfl ?_
                refine Sl.want rfl rfl (Cm.move rfl) rfl ?_
                refine Sl.want rfl rfl (Cm.move rfl) rfl ?_
                refine Sl.want rfl rfl (Cm.len sl30 rfl) rfl ?_
                refine Sl.want rfl rfl (Cm.move rfl) rfl ?_
                refine Sl.want rfl rfl (Cm.sub64 rfl rfl (by omega)) rfl ?_
                refine Sl.forkWant rfl rfl (Cm.gtr rfl rfl) rfl (fun h61 => ?_) (fun h61 => ?_)
                ·
                  have e2 : fragT t off n = ([], 35) := by unfold fragT; rw [if_pos (.inr (.inr (.inr (by omega))))]
                  refine Sl.calm (Cm.pick_f rfl rfl) rfl ?_
                  refine Sl.nil ?_
                  refine At.weak [(0, _), (1, _), (2, _), (3, _), (4, _), (10, _), (11, _), (12, _), (14, _), (30, _), (62, _)] ⟨rfl, rfl, rfl, rfl, rfl, rfl, rfl, rfl, rfl, rfl, rfl, trivial⟩ ?_
                  refine At.go ?_
                  refine Sc.cond_t rfl ?_
                  refine Sc.seq ?_
                  refine Sc.region ?_
                  refine Sl.calm (Cm.assign rfl) rfl ?_
                  refine Sl.calm (Cm.assign rfl) rfl ?_
                  refine Sl.nil ?_
                  refine At.go ?_
                  refine Sc.ret ?_
                  refine At.then_ret ?_
                  refine At.ret2 rfl rfl rfl ?_
                  first
                    | (rw [e]; exact ⟨_, rfl, none, 0, rfl, Own.nil, Fr.none, Foot.refl _ _⟩)
                    | (rw [e, e2]; exact ⟨_, rfl, none, 0, rfl, Own.nil, Fr.none, hf1⟩)
                    | (rw [e, e2]; exact ⟨_, rfl, o3, c3, rfl, ho3, (fr_next (fr_at _) hr3 hf2.size).mono hf1.size, hf1.trans (hf2.trans_to hf3 (fr_at _).step)⟩)
                ·
                  have e2 : fragT t off n = ((t.1.drop off.toNat).take n.toNat, 0) := by unfold fragT; rw [if_neg (by rintro (h | h | h | h); exact h43 h; omega; omega; omega)]
                  have hcl : ((t.1.drop off.toNat).take n.toNat).length = n.toNat := by rw [List.length_take, List.length_drop]; omega
                  have htl : t.1.length ≤ 128 := by rw [hT]; exact takeS_len _ _
                  refine Sl.calm (Cm.pick_f rfl rfl) rfl ?_
                  refine Sl.nil ?_
                  refine At.weak [(0, _), (1, _), (2, _), (3, _), (4, _), (10, _), (11, _), (12, _), (14, _), (30, _), (62, _)] ⟨rfl, rfl, rfl, rfl, rfl, rfl, rfl, rfl, rfl, rfl, rfl, trivial⟩ ?_
                  refine At.go ?_
                  refine Sc.cond_f rfl ?_
                  refine Sc.skip ?_
                  refine At.go ?_
                  refine Sc.seq ?_
                  refine Sc.region ?_
                  refine Sl.lit0 b8 sl30 rfl ?_
                  intro w2 ho2 hs2 hf2
                  refine Sl.calm (Cm.move rfl) rfl ?_
                  refine Sl.calm (Cm.move rfl) rfl ?_
                  refine Sl.calm (Cm.move rfl) rfl ?_
                  refine Sl.calm (Cm.move rfl) rfl ?_
                  refine Sl.calm (Cm.add64 rfl rfl (by omega)) rfl ?_
                  refine Sl.calm (Cm.ofEq (u := .slice (cutAo o1 c1 off.toNat 1) ((t.1.drop off.toNat).take n.toNat).length (c1 - off.toNat)) (Cm.sliceLH sl30 rfl rfl rfl (by omega) (by omega)) (by rw [hcl, show (off + n).toNat - off.toNat = n.toNat by omega])) rfl ?_
                  refine Sl.append b8_one sl30 rfl rfl ho2 (show Vw b8 w2.heap (cutAo o1 c1 off.toNat 1) (c1 - off.toNat) ((t.1.drop off.toNat).take n.toNat) from by have := (ho1.grow hf2).vw.cut (l := off.toNat) (h := off.toNat + n.toNat) (m := c1) (by omega) (by omega) (by omega) (Nat.le_refl _); rwa [show off.toNat + n.toNat - off.toNat = n.toNat by omega] at this) (by simp only [List.length_nil]; omega) (by simp only [List.length_nil]; unfold maxLen; omega) rfl ?_
                  intro o3 c3 w3 ho3 hf3 hr3 hn3
                  rw [List.nil_append] at ho3 ⊢
                  refine Sl.calm (Cm.assign rfl) rfl ?_
                  refine Sl.calm (Cm.assign rfl) rfl ?_
                  refine Sl.nil ?_
                  refine At.weak [(0, _), (1, _), (2, _), (3, _), (4, _), (10, _), (11, _), (12, _), (14, _), (30, _), (62, _)] ⟨rfl, rfl, rfl, rfl, rfl, rfl, rfl, rfl, rfl, rfl, rfl, trivial⟩ ?_
                  refine At.go ?_
                  refine Sc.ret ?_
                  refine At.ret2 rfl rfl rfl ?_
                  first
                    | (rw [e]; exact ⟨_, rfl, none, 0, rfl, Own.nil, Fr.none, Foot.refl _ _⟩)
                    | (rw [e, e2]; exact ⟨_, rfl, none, 0, rfl, Own.nil, Fr.none, hf1⟩)
                    | (rw [e, e2]; exact ⟨_, rfl, o3, c3, rfl, ho3, (fr_next (fr_at _) hr3 hf2.size).mono hf1.size, hf1.trans (hf2.trans_to hf3 (fr_at _).step)⟩)
theorem cutN {α : Type} {ao : Option Addr} {c n : Nat} {b : List α} (h : (n : Int) < (b.length : Int)) (s : Nat) : some (Value.slice (cutAo ao c 0 s) n c) = some (.slice ao (b.take n).length c) := by
  rw [cutAo_zero, List.length_take, Nat.min_eq_left (by omega)]
theorem nocutN {α : Type} {ao : Option Addr} {c n : Nat} {b : List α} (h : ¬ (n : Int) < (b.length : Int)) : some (Value.slice ao b.length c) = some (.slice ao (b.take n).length c) := by
  rw [List.take_of_length_le (by omega)]
def bdA (x : Int × Int × Int) : Prop := bd x.1 ∧ bd x.2.1 ∧ bd x.2.2
set_option maxHeartbeats 4000000 in
theorem fragReads_ok (io : Option Addr) (ic : Nat) (im0 : List UInt8) (po : Option Addr) (pc : Nat) (pl0 : List Int) (lo : Option Addr) (lc : Nat) (L : List (Int × Int × Int)) (W : World) (hv0 : Vw b8 W.heap io ic im0) (hp0 : Vw i64 W.heap po pc pl0) (hpb0 : ∀ x ∈ pl0, bd x) (hl0 : VwM 3 askV W.heap lo lc L) (hlb : ∀ x ∈ L, bdA x) :
    Calls Try.prog 12 [.slice io im0.length ic, .slice po pl0.length pc, .slice lo L.length lc].toArray W (Ret fun v w' => v = .bool true ∧ Foot nob W w') := by
  obtain ⟨im, him⟩ : ∃ b, b = im0.take 2000 := ⟨_, rfl⟩
  have himl : im.length ≤ 2000 := by rw [him, List.length_take]; omega
  have hv : Vw b8 W.heap io ic im := by rw [him]; exact hv0.take 2000
  obtain ⟨pl, hpl⟩ : ∃ b, b = pl0.take 20 := ⟨_, rfl⟩
  have hp : Vw i64 W.heap po pc pl := by rw [hpl]; exact hp0.take 20
  have hpb : ∀ x ∈ pl, bd x := fun x hx => hpb0 x (by rw [hpl] at hx; exact List.mem_of_mem_take hx)
  have hle := hv0.le
  have hlep := hp0.le
  have hll := hl0.len63
  refine calls_of_sc 91 [(0, _), (1, _), (2, _)] Try.func12 rfl rfl rfl (enter_slots ⟨rfl, rfl, rfl, trivial⟩) ?_
  refine Sc.seq ?_
  refine Sc.region ?_
  refine Sl.calm (Cm.assign rfl) rfl ?_
  refine Sl.nil ?_
  refine At.go ?_
  refine Sc.seq ?_
  refine Sc.region ?_
  refine Sl.call fn14 rfl (shown13_ok W) rfl ?_
  rintro _ w1 ⟨rfl, hf1⟩
  refine Sl.calm (Cm.assign rfl) rfl ?_
  refine Sl.nil ?_
  refine At.weak [(0, _), (1, _), (2, _), (6, _), (7, _)] ⟨rfl, rfl, rfl, rfl, rfl, trivial⟩ ?_
  refine At.go ?_
  refine Sc.cut (β := Unit) (fun _u => [(0, .slice io im.length ic), (1, .slice po pl0.length pc), (2, .slice lo L.length lc), (7, .bool true)]) (fun _u w => w = w1) ?_ ?_
  ·
    refine Sc.seq ?_
    refine Sc.region ?_
    refine Sl.calm (Cm.move rfl) rfl ?_
    refine Sl.calm (Cm.len sl30 rfl) rfl ?_
    refine Sl.fork (Cm.gtr rfl rfl) rfl (fun h17 => ?_) (fun h17 => ?_)
    ·
      refine Sl.nil ?_
      refine At.weak [(0, _), (1, _), (2, _), (6, _), (7, _), (17, _)] ⟨rfl, rfl, rfl, rfl, rfl, rfl, trivial⟩ ?_
      refine At.go ?_
      refine Sc.cond_t rfl ?_
      refine Sc.region ?_
      refine Sl.calm (Cm.move rfl) rfl ?_
      refine Sl.calm (Cm.sliceH sl30 rfl rfl (by omega)) rfl ?_
      refine Sl.calm (Cm.assign rfl) rfl ?_
      refine Sl.nil ?_
      refine At.cut () ⟨by rw [him]; exact cutN (n := 2000) (by omega) 1, rfl, rfl, rfl, trivial⟩ rfl
    ·
      refine Sl.nil ?_
      refine At.weak [(0, _), (1, _), (2, _), (6, _), (7, _), (17, _)] ⟨rfl, rfl, rfl, rfl, rfl, rfl, trivial⟩ ?_
      refine At.go ?_
      refine Sc.cond_f rfl ?_
      refine Sc.skip ?_
      refine At.cut () ⟨by rw [him]; exact nocutN (n := 2000) (by omega), rfl, rfl, rfl, trivial⟩ rfl
  ·
    rintro _ wq hwq
    subst wq
    refine Sc.cut (β := Unit) (fun _u => [(0, .slice io im.length ic), (1, .slice po pl.length pc), (2, .slice lo L.length lc), (7, .bool true)]) (fun _u w => w = w1) ?_ ?_
    ·
      refine Sc.seq ?_
      refine Sc.region ?_
      refine Sl.calm (Cm.move rfl) rfl ?_
      refine Sl.calm (Cm.len sl35 rfl) rfl ?_
      refine Sl.fork (Cm.gtr rfl rfl) rfl (fun h22 => ?_) (fun h22 => ?_)
      ·
        refine Sl.nil ?_
        refine At.weak [(0, _), (1, _), (2, _), (7, _), (22, _)] ⟨rfl, rfl, rfl, rfl, rfl, trivial⟩ ?_
        refine At.go ?_
        refine Sc.cond_t rfl ?_
        refine Sc.region ?_
        refine Sl.calm (Cm.move rfl) rfl ?_
        refine Sl.calm (Cm.sliceH sl35 rfl rfl (by omega)) rfl ?_
        refine Sl.calm (Cm.assign rfl) rfl ?_
        refine Sl.nil ?_
        refine At.cut () ⟨rfl, by rw [hpl]; exact cutN (n := 20) (by omega) 1, rfl, rfl, trivial⟩ rfl
      ·
        refine Sl.nil ?_
        refine At.weak [(0, _), (1, _), (2, _), (7, _), (22, _)] ⟨rfl, rfl, rfl, rfl, rfl, trivial⟩ ?_
        refine At.go ?_
        refine Sc.cond_f rfl ?_
        refine Sc.skip ?_
        refine At.cut () ⟨rfl, by rw [hpl]; exact nocutN (n := 20) (by omega), rfl, rfl, trivial⟩ rfl
    ·
      rintro _ wq hwq
      subst wq
      refine Sc.seq ?_
      refine Sc.region ?_
      refine Sl.call fn28 rfl (crcnew_ok w1) rfl ?_
      rintro _ w4 ⟨rfl, hf4⟩
      refine Sl.allocC zc50 rfl ?_
      intro w5 hg5 hs5 hf5
      refine Sl.storeAll (vs := tab) aggTab rfl rfl tab_one hg5 (by rw [tab_len, List.length_replicate]) ?_
      intro w6 hg6 hs6 hf6
      obtain ⟨p, hpp⟩ : ∃ p, p = w4.heap.size := ⟨_, rfl⟩
      have hF6 : Foot nob W w6 := (hf1.trans (hf4.trans hf5)).trans_to hf6 (fun k hk => .inr (by have h : k = w4.heap.size := hk; have := (hf1.trans hf4).size; omega))
      rw [← hpp] at hg6 ⊢
      have ht6 : TbV w6.heap p := hg6
      refine Sl.nil ?_
      refine At.weak [(0, _), (1, _), (2, _), (7, _), (8, _)] ⟨rfl, rfl, rfl, rfl, rfl, trivial⟩ ?_
      refine At.go ?_
      refine Sc.seq ?_
      refine Sc.seq ?_
      refine Sc.region ?_
      refine Sl.calm (Cm.assign rfl) rfl ?_
      refine Sl.nil ?_
      refine At.go ?_
      refine Sc.block ?_
      refine Sc.loop (β := Nat) (fun i => [(0, .slice io im.length ic), (1, .slice po pl.length pc), (2, .slice lo L.length lc), (7, .bool true), (8, .pointer (some ⟨p, 0, none⟩)), (9, .int .i64 i)]) (fun i w => i ≤ 20 ∧ TbV w.heap p ∧ Foot nob W w) (fun i => 20 - i) 0 ⟨rfl, rfl, rfl, rfl, rfl, rfl, trivial⟩ ⟨Nat.zero_le _, ht6, hF6⟩ ?_
      rintro i w7 ⟨hi, ht7, hF7⟩
      refine Sc.seq ?_
      refine Sc.seq ?_
      refine Sc.region ?_
      refine Sl.calm (Cm.move rfl) rfl ?_
      refine Sl.calm (Cm.move rfl) rfl ?_
      refine Sl.calm (Cm.len sl47 rfl) rfl ?_
      refine Sl.fork (Cm.lss rfl rfl) rfl (fun h29 => ?_) (fun h29 => ?_)
      ·
        have hiL : i < L.length := by omega
        obtain ⟨x, hx⟩ : ∃ x, L[i]? = some x := ⟨_, List.getElem?_eq_getElem hiL⟩
        obtain ⟨b1, b2, b3⟩ := hlb x (List.mem_of_getElem? hx)
        have hl7 := hl0.keep hF7 (fun _ _ => id)
        refine Sl.calm (Cm.move rfl) rfl ?_
        refine Sl.want rfl rfl (Cm.move rfl) rfl ?_
        refine Sl.forkWant rfl rfl (Cm.lss rfl rfl) rfl (fun h32 => ?_) (fun h32 => ?_)
        ·
          refine Sl.calm (Cm.pick_t rfl rfl) rfl ?_
          refine Sl.nil ?_
          refine At.weak [(0, _), (1, _), (2, _), (7, _), (8, _), (9, _), (33, _)] ⟨rfl, rfl, rfl, rfl, rfl, rfl, rfl, trivial⟩ ?_
          refine At.go ?_
          refine Sc.cond_t rfl ?_
          refine Sc.skip ?_
          refine At.go ?_
          refine Sc.seq ?_
          refine Sc.block ?_
          refine Sc.seq ?_
          refine Sc.draw 25 (fun H => VwM 3 askV H lo lc L) [0, 2, 19] [1, 3, 4, 5, 6, 7, 8, 9, 10, 11, 12, 13, 14, 15, 16, 17, 18, 0, 2, 19, 20, 21, 22, 23, 24] mixed (by kernel_rfl) (hl7) ?_
          refine Sx.calm rfl rfl (Cm.move rfl) rfl ?_
          refine Sx.calm rfl rfl (Cm.move rfl) rfl ?_
          refine Sx.calm rfl rfl (Cm.move rfl) rfl ?_
          refine Sx.calm rfl rfl (Cm.move rfl) rfl ?_
          refine Sx.calm rfl rfl (Cm.indexAddr sl47 rfl rfl hl7.non (by omega)) rfl ?_
          refine Sx.calm rfl rfl (Cm.field fld55_0 rfl) rfl ?_
          refine Sx.calm rfl rfl (Cm.load sca3 rfl (fun H hH => hH.rowZ i rfl hx 0 _ rfl)) rfl ?_
          refine Sx.calm rfl rfl (Cm.move rfl) rfl ?_
          refine Sx.calm rfl rfl (Cm.move rfl) rfl ?_
          refine Sx.calm rfl rfl (Cm.indexAddr sl47 rfl rfl hl7.non (by omega)) rfl ?_
          refine Sx.calm rfl rfl (Cm.field fld55_1 rfl) rfl ?_
          refine Sx.calm rfl rfl (Cm.load sca3 rfl (fun H hH => hH.rowZ i rfl hx 1 _ rfl)) rfl ?_
          refine Sx.calm rfl rfl (Cm.move rfl) rfl ?_
          refine Sx.calm rfl rfl (Cm.move rfl) rfl ?_
          refine Sx.calm rfl rfl (Cm.indexAddr sl47 rfl rfl hl7.non (by omega)) rfl ?_
          refine Sx.calm rfl rfl (Cm.field fld55_2 rfl) rfl ?_
          refine Sx.calm rfl rfl (Cm.load sca3 rfl (fun H hH => hH.rowZ i rfl hx 2 _ rfl)) rfl ?_
          refine Sx.eff rfl rfl (Sl.lit0 b8 sl30 rfl ?_)
          intro w8 ho8 hs8 hf8
          have hf8u := hf8.undraw
          have hv8 := (hv.grow hF7).grow hf8u
          refine Sx.on (by exact hl7.grow hf8.undraw) ?_
          refine Sx.eff rfl rfl (Sl.append b8_one sl30 rfl rfl ho8 hv8 (by simp; omega) (by simp; unfold maxLen; omega) rfl ?_)
          intro o9 c9 w9 ho9 hf9 hr9 hn9
          rw [List.nil_append] at ho9 ⊢
          have hF79 : Foot nob w7 w9 := hf8u.trans_to hf9 (fun k ⟨a, ha, hk⟩ => .inr (by cases ha; have h : w7.heap.size = k := hk; omega))
          have hF9 := hF7.trans hF79
          have ht9 : TbV w9.heap p := hF79.obj ht7 id
          refine Sx.on (by exact hl7.grow hF79) ?_
          refine Sx.eff rfl rfl (Sl.call fn29 rfl (fread_ok p o9 c9 im po pc pl x.1 x.2.1 x.2.2 w9 ht9 ho9.vw (by omega) (hp.grow hF9) hpb b1 b2 b3) rfl ?_)
          rintro _ w10 ⟨o10, c10, rfl, ho10, hfr10, hf10⟩
          have hF10 := hF9.trans hf10
          have hl10 := (hl7.grow hF79).grow hf10
          refine Sx.on (by exact (hl7.grow hF79).grow hf10) ?_
          refine Sx.calm rfl rfl (Cm.move rfl) rfl ?_
          refine Sx.calm rfl rfl (Cm.extract rfl rfl) rfl ?_
          refine Sx.calm rfl rfl (Cm.extract rfl rfl) rfl ?_
          refine Sx.calm rfl rfl (Cm.assign rfl) rfl ?_
          refine Sx.calm rfl rfl (Cm.assign rfl) rfl ?_
          refine Sx.nil ?_
          refine At.weak [(0, _), (1, _), (2, _), (7, _), (8, _), (9, _), (10, _), (11, _), (33, _)] ⟨rfl, rfl, rfl, rfl, rfl, rfl, rfl, rfl, rfl, trivial⟩ ?_
          refine At.go ?_
          refine Sc.seq ?_
          refine Sc.draw 23 (fun H => VwM 3 askV H lo lc L) [17] [0, 1, 2, 3, 4, 5, 6, 7, 8, 9, 10, 11, 12, 13, 14, 15, 16, 17, 18, 19, 20, 21, 22] mixed (by kernel_rfl) (hl10) ?_
          refine Sx.calm rfl rfl (Cm.move rfl) rfl ?_
          refine Sx.calm rfl rfl (Cm.move rfl) rfl ?_
          refine Sx.calm rfl rfl (Cm.move rfl) rfl ?_
          refine Sx.calm rfl rfl (Cm.move rfl) rfl ?_
          refine Sx.calm rfl rfl (Cm.indexAddr sl47 rfl rfl hl7.non (by omega)) rfl ?_
          refine Sx.calm rfl rfl (Cm.field fld55_0 rfl) rfl ?_
          refine Sx.calm rfl rfl (Cm.load sca3 rfl (fun H hH => hH.rowZ i rfl hx 0 _ rfl)) rfl ?_
          refine Sx.calm rfl rfl (Cm.move rfl) rfl ?_
          refine Sx.calm rfl rfl (Cm.move rfl) rfl ?_
          refine Sx.calm rfl rfl (Cm.indexAddr sl47 rfl rfl hl7.non (by omega)) rfl ?_
          refine Sx.calm rfl rfl (Cm.field fld55_1 rfl) rfl ?_
          refine Sx.calm rfl rfl (Cm.load sca3 rfl (fun H hH => hH.rowZ i rfl hx 1 _ rfl)) rfl ?_
          refine Sx.calm rfl rfl (Cm.move rfl) rfl ?_
          refine Sx.calm rfl rfl (Cm.move rfl) rfl ?_
          refine Sx.calm rfl rfl (Cm.indexAddr sl47 rfl rfl hl7.non (by omega)) rfl ?_
          refine Sx.calm rfl rfl (Cm.field fld55_2 rfl) rfl ?_
          refine Sx.calm rfl rfl (Cm.load sca3 rfl (fun H hH => hH.rowZ i rfl hx 2 _ rfl)) rfl ?_
          refine Sx.eff rfl rfl (Sl.call fn30 rfl (rfread_ok io ic im po pc pl x.1 x.2.1 x.2.2 _ (hv.grow (hF10.draws 1)) (by omega) (hp.grow (hF10.draws 1)) hpb b1 b2 b3) rfl ?_)
          rintro _ w11 ⟨o11, c11, rfl, ho11, hfr11, hf11⟩
          have hf11u := hf11.undraw
          refine Sx.on (by exact hl10.grow hf11.undraw) ?_
          refine Sx.calm rfl rfl (Cm.move rfl) rfl ?_
          refine Sx.calm rfl rfl (Cm.extract rfl rfl) rfl ?_
          refine Sx.calm rfl rfl (Cm.extract rfl rfl) rfl ?_
          refine Sx.calm rfl rfl (Cm.assign rfl) rfl ?_
          refine Sx.calm rfl rfl (Cm.assign rfl) rfl ?_
          refine Sx.nil ?_
          refine At.weak [(0, _), (1, _), (2, _), (7, _), (8, _), (9, _), (10, _), (11, _), (12, _), (13, _), (33, _)] ⟨rfl, rfl, rfl, rfl, rfl, rfl, rfl, rfl, rfl, rfl, rfl, trivial⟩ ?_
          refine At.go ?_
          refine Sc.seq ?_
          refine Sc.region ?_
          refine Sl.calm (Cm.move rfl) rfl ?_
          refine Sl.calm (Cm.strIn sl30 ty5 ty9 rfl (ho10.grow hf11u).vw) rfl ?_
          refine Sl.calm (Cm.move rfl) rfl ?_
          refine Sl.calm (Cm.strIn sl30 ty5 ty9 rfl ho11.vw) rfl ?_
          refine Sl.calm (Cm.no (Cm.neqBs rfl rfl) (fun h => h rfl)) rfl ?_
          refine Sl.calm (Cm.move rfl) rfl ?_
          refine Sl.want rfl rfl (Cm.move rfl) rfl ?_
          refine Sl.want rfl rfl (Cm.move rfl) rfl ?_
          refine Sl.want rfl rfl (Cm.no (Cm.neq rfl rfl) (fun h => h rfl)) rfl ?_
          refine Sl.calm (Cm.pick_f rfl rfl) rfl ?_
          refine Sl.nil ?_
          refine At.weak [(0, _), (1, _), (2, _), (7, _), (8, _), (9, _), (10, _), (11, _), (12, _), (13, _), (33, _), (89, _)] ⟨rfl, rfl, rfl, rfl, rfl, rfl, rfl, rfl, rfl, rfl, rfl, rfl, trivial⟩ ?_
          refine At.go ?_
          refine Sc.cond_f rfl ?_
          refine Sc.skip ?_
          refine At.block_normal ?_
          refine At.go ?_
          refine Sc.region ?_
          refine Sl.calm (Cm.move rfl) rfl ?_
          refine Sl.calm (Cm.add64 rfl rfl (by omega)) rfl ?_
          refine Sl.calm (Cm.assign rfl) rfl ?_
          refine Sl.nil ?_
          exact At.again (i + 1) ⟨rfl, rfl, rfl, rfl, rfl, rfl, trivial⟩ ⟨by omega, hf11u.obj (hf10.obj ht9 id) id, hF10.trans hf11u⟩ (by show 20 - (i + 1) < 20 - i; omega)
        ·
          refine Sl.calm (Cm.pick_t rfl rfl) rfl ?_
          refine Sl.nil ?_
          refine At.weak [(0, _), (1, _), (2, _), (7, _), (8, _), (9, _), (33, _)] ⟨rfl, rfl, rfl, rfl, rfl, rfl, rfl, trivial⟩ ?_
          refine At.go ?_
          refine Sc.cond_f rfl ?_
          refine Sc.exit ?_
          refine At.then_exit ?_
          refine At.then_exit ?_
          refine At.block_hit ?_
          refine At.go ?_
          refine Sc.seq ?_
          refine Sc.region ?_
          refine Sl.calm (Cm.move rfl) rfl ?_
          refine Sl.calm (Cm.assign rfl) rfl ?_
          refine Sl.nil ?_
          refine At.weak [(0, _), (1, _), (2, _), (6, _), (7, _), (8, _), (9, _), (33, _)] ⟨rfl, rfl, rfl, rfl, rfl, rfl, rfl, rfl, trivial⟩ ?_
          refine At.go ?_
          refine Sc.ret ?_
          refine At.ret1 rfl rfl ?_
          exact ⟨_, rfl, rfl, hF7⟩
      ·
        refine Sl.calm (Cm.move rfl) rfl ?_
        refine Sl.skip rfl rfl rfl rfl ?_
        refine Sl.skip rfl rfl rfl rfl ?_
        refine Sl.calm (Cm.pick_f rfl rfl) rfl ?_
        refine Sl.nil ?_
        refine At.weak [(0, _), (1, _), (2, _), (7, _), (8, _), (9, _), (33, _)] ⟨rfl, rfl, rfl, rfl, rfl, rfl, rfl, trivial⟩ ?_
        refine At.go ?_
        refine Sc.cond_f rfl ?_
        refine Sc.exit ?_
        refine At.then_exit ?_
        refine At.then_exit ?_
        refine At.block_hit ?_
        refine At.go ?_
        refine Sc.seq ?_
        refine Sc.region ?_
        refine Sl.calm (Cm.move rfl) rfl ?_
        refine Sl.calm (Cm.assign rfl) rfl ?_
        refine Sl.nil ?_
        refine At.weak [(0, _), (1, _), (2, _), (6, _), (7, _), (8, _), (9, _), (33, _)] ⟨rfl, rfl, rfl, rfl, rfl, rfl, rfl, rfl, trivial⟩ ?_
        refine At.go ?_
        refine Sc.ret ?_
        refine At.ret1 rfl rfl ?_
        exact ⟨_, rfl, rfl, hF7⟩
end Go.Proofs.Ytapmfoogjkdffaa
