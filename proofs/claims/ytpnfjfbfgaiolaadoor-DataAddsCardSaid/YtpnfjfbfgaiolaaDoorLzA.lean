/- lz: what is like, runs, what is unpacked: the program's and the reference's. No condition beyond the bounds that each states. -/
import Derived.Test.YtpnfjfbfgaiolaaDoorLzQ
import Derived.Test.YtpnfjfbfgaiolaaDoorGb
namespace Go.Proofs.YtpnfjfbfgaiolaaDoor
open Go Go.RowKit
set_option linter.unusedVariables false

theorem cl_byte {b : List UInt8} {a o k : Nat} (h : ((b.getD (a + k) 0).toNat : Int) = ((b.getD (o + k) 0).toNat : Int)) : b.getD (a + k) 0 = b.getD (o + k) 0 := UInt8.toNat_inj.1 (by omega)

set_option maxHeartbeats 400000 in
theorem like_ok (ao : Option Addr) (cap : Nat) (b : List UInt8) (a o : Nat) (W : World) (hv : Vw b8 W.heap ao cap b) (h1 : a ≤ b.length) (h2 : o < a) (hb : b.length ≤ 1073741824) :
    Calls Tryd.prog 73 [.slice ao b.length cap, .int .i64 a, .int .i64 o].toArray W (Ret fun v w' => v = .int .i64 (lik b a o) ∧ ∃ n, w' = W.drewN n) := by
  refine calls_of_sc 36 [(0, _), (1, _), (2, _)] Tryd.func73 rfl rfl rfl (enter_slots ⟨rfl, rfl, rfl, trivial⟩) ?_
  refine Sc.seq ?_
  refine Sc.region ?_
  refine Sl.calm (Cm.assign rfl) rfl ?_
  refine Sl.nil ?_
  refine At.go ?_
  refine Sc.seq ?_
  refine Sc.region ?_
  refine Sl.calm (Cm.assign rfl) rfl ?_
  refine Sl.nil ?_
  refine At.go ?_
  refine Sc.seq ?_
  refine Sc.block ?_
  refine Sc.loop (β := Nat) (fun k => [(0, .slice ao b.length cap), (1, .int .i64 a), (2, .int .i64 o), (7, .int .i64 k)]) (fun k w => k ≤ 130 ∧ a + k ≤ b.length ∧ (∀ i, i < k → CL b a o i) ∧ ∃ n, w = W.drewN n) (fun k => 131 - k) 0 ⟨rfl, rfl, rfl, rfl, trivial⟩ ⟨by omega, by omega, fun i hi => by omega, 0, rfl⟩ ?_
  rintro k _ ⟨hk, hk2, hk3, n, rfl⟩
  refine Sc.seq ?_
  refine Sc.seq ?_
  refine Sc.quiet 25 [0, 1, 2, 3, 4, 5, 6, 7, 8, 9, 10, 11, 12, 13, 14, 15, 16, 17, 18, 19, 20, 21, 22, 23, 24] mixed (by kernel_rfl) ?_
  refine Sx.calm rfl rfl (Cm.move rfl) rfl ?_
  refine Sx.fork rfl rfl (Cm.lss rfl rfl) rfl (fun h9 => ?_) (fun h9 => ?_)
  ·
    refine Sx.calm rfl rfl (Cm.move rfl) rfl ?_
    refine Sx.want rfl rfl rfl rfl (Cm.move rfl) rfl ?_
    refine Sx.want rfl rfl rfl rfl (Cm.move rfl) rfl ?_
    refine Sx.want rfl rfl rfl rfl (Cm.add64 rfl rfl (by omega)) rfl ?_
    refine Sx.want rfl rfl rfl rfl (Cm.move rfl) rfl ?_
    refine Sx.want rfl rfl rfl rfl (Cm.len sl23 rfl) rfl ?_
    refine Sx.forkWant rfl rfl rfl rfl (Cm.lss rfl rfl) rfl (fun h16 => ?_) (fun h16 => ?_)
    ·
      refine Sx.calm rfl rfl (Cm.pick_t rfl rfl) rfl ?_
      refine Sx.calm rfl rfl (Cm.move rfl) rfl ?_
      refine Sx.want rfl rfl rfl rfl (Cm.move rfl) rfl ?_
      refine Sx.want rfl rfl rfl rfl (Cm.move rfl) rfl ?_
      refine Sx.want rfl rfl rfl rfl (Cm.move rfl) rfl ?_
      refine Sx.want rfl rfl rfl rfl (Cm.add64 rfl rfl (by omega)) rfl ?_
      refine Sx.want rfl rfl rfl rfl (Cm.indexAddr1 sl23 rfl rfl hv.non (by omega)) rfl ?_
      refine Sx.want rfl rfl rfl rfl (Cm.ld sca5 rfl (hv.gz 0 (a + k) (by omega) (by omega))) rfl ?_
      refine Sx.want rfl rfl rfl rfl (Cm.move rfl) rfl ?_
      refine Sx.want rfl rfl rfl rfl (Cm.move rfl) rfl ?_
      refine Sx.want rfl rfl rfl rfl (Cm.move rfl) rfl ?_
      refine Sx.want rfl rfl rfl rfl (Cm.add64 rfl rfl (by omega)) rfl ?_
      refine Sx.want rfl rfl rfl rfl (Cm.indexAddr1 sl23 rfl rfl hv.non (by omega)) rfl ?_
      refine Sx.want rfl rfl rfl rfl (Cm.ld sca5 rfl (hv.gz 0 (o + k) (by omega) (by omega))) rfl ?_
      refine Sx.forkWant rfl rfl rfl rfl (Cm.eql rfl rfl) rfl (fun h31 => ?_) (fun h31 => ?_)
      ·
        refine Sx.calm rfl rfl (Cm.pick_t rfl rfl) rfl ?_
        refine Sx.nil ?_
        refine At.weak [(0, _), (1, _), (2, _), (7, _), (32, _)] ⟨rfl, rfl, rfl, rfl, rfl, trivial⟩ ?_
        refine At.go ?_
        refine Sc.cond_t rfl ?_
        refine Sc.skip ?_
        refine At.go ?_
        refine Sc.block ?_
        refine Sc.region ?_
        refine Sl.calm (Cm.move rfl) rfl ?_
        refine Sl.calm (Cm.add64 rfl rfl (by omega)) rfl ?_
        refine Sl.calm (Cm.assign rfl) rfl ?_
        refine Sl.nil ?_
        refine At.block_normal ?_
        refine At.again (k + 1) ⟨rfl, rfl, rfl, rfl, trivial⟩ ⟨by omega, by omega, fun i hi => ?_, n + 1, rfl⟩ (by show 131 - (k + 1) < 131 - k; omega)
        by_cases hik : i = k
        · subst hik; exact ⟨by omega, by omega, cl_byte h31⟩
        · exact hk3 i (by omega)
      ·
        refine Sx.calm rfl rfl (Cm.pick_t rfl rfl) rfl ?_
        refine Sx.nil ?_
        refine At.weak [(0, _), (1, _), (2, _), (7, _), (32, _)] ⟨rfl, rfl, rfl, rfl, rfl, trivial⟩ ?_
        refine At.go ?_
        refine Sc.cond_f rfl ?_
        refine Sc.exit ?_
        refine At.then_exit ?_
        refine At.then_exit ?_
        refine At.block_hit ?_
        refine At.go ?_
        refine Sc.seq ?_
        refine Sc.region ?_
        refine Sl.calm (Cm.move rfl) rfl ?_
        refine Sl.calm (Cm.assign rfl) rfl ?_
        refine Sl.nil ?_
        refine At.weak [(0, _), (1, _), (2, _), (6, _), (7, _), (32, _)] ⟨rfl, rfl, rfl, rfl, rfl, rfl, trivial⟩ ?_
        refine At.go ?_
        refine Sc.ret ?_
        refine At.ret1 rfl rfl ?_
        have e : k = lik b a o := lik_eq hk3 (fun hc => by
          obtain ⟨c1, c2, c3⟩ := hc
          first
            | omega
            | exact h31 (by rw [c3]))
        exact ⟨_, rfl, by rw [e], n + 1, rfl⟩
    ·
      refine Sx.calm rfl rfl (Cm.pick_t rfl rfl) rfl ?_
      refine Sx.calm rfl rfl (Cm.move rfl) rfl ?_
      refine Sx.skip rfl rfl rfl rfl rfl rfl ?_
      refine Sx.skip rfl rfl rfl rfl rfl rfl ?_
      refine Sx.skip rfl rfl rfl rfl rfl rfl ?_
      refine Sx.skip rfl rfl rfl rfl rfl rfl ?_
      refine Sx.skip rfl rfl rfl rfl rfl rfl ?_
      refine Sx.skip rfl rfl rfl rfl rfl rfl ?_
      refine Sx.skip rfl rfl rfl rfl rfl rfl ?_
      refine Sx.skip rfl rfl rfl rfl rfl rfl ?_
      refine Sx.skip rfl rfl rfl rfl rfl rfl ?_
      refine Sx.skip rfl rfl rfl rfl rfl rfl ?_
      refine Sx.skip rfl rfl rfl rfl rfl rfl ?_
      refine Sx.skip rfl rfl rfl rfl rfl rfl ?_
      refine Sx.skip rfl rfl rfl rfl rfl rfl ?_
      refine Sx.calm rfl rfl (Cm.pick_f rfl rfl) rfl ?_
      refine Sx.nil ?_
      refine At.weak [(0, _), (1, _), (2, _), (7, _), (32, _)] ⟨rfl, rfl, rfl, rfl, rfl, trivial⟩ ?_
      refine At.go ?_
      refine Sc.cond_f rfl ?_
      refine Sc.exit ?_
      refine At.then_exit ?_
      refine At.then_exit ?_
      refine At.block_hit ?_
      refine At.go ?_
      refine Sc.seq ?_
      refine Sc.region ?_
      refine Sl.calm (Cm.move rfl) rfl ?_
      refine Sl.calm (Cm.assign rfl) rfl ?_
      refine Sl.nil ?_
      refine At.weak [(0, _), (1, _), (2, _), (6, _), (7, _), (32, _)] ⟨rfl, rfl, rfl, rfl, rfl, rfl, trivial⟩ ?_
      refine At.go ?_
      refine Sc.ret ?_
      refine At.ret1 rfl rfl ?_
      have e : k = lik b a o := lik_eq hk3 (fun hc => by
        obtain ⟨c1, c2, c3⟩ := hc
        first
          | omega
          | exact h31 (by rw [c3]))
      exact ⟨_, rfl, by rw [e], n + 1, rfl⟩
  ·
    refine Sx.calm rfl rfl (Cm.move rfl) rfl ?_
    refine Sx.skip rfl rfl rfl rfl rfl rfl ?_
    refine Sx.skip rfl rfl rfl rfl rfl rfl ?_
    refine Sx.skip rfl rfl rfl rfl rfl rfl ?_
    refine Sx.skip rfl rfl rfl rfl rfl rfl ?_
    refine Sx.skip rfl rfl rfl rfl rfl rfl ?_
    refine Sx.skip rfl rfl rfl rfl rfl rfl ?_
    refine Sx.calm rfl rfl (Cm.pick_f rfl rfl) rfl ?_
    refine Sx.calm rfl rfl (Cm.move rfl) rfl ?_
    refine Sx.skip rfl rfl rfl rfl rfl rfl ?_
    refine Sx.skip rfl rfl rfl rfl rfl rfl ?_
    refine Sx.skip rfl rfl rfl rfl rfl rfl ?_
    refine Sx.skip rfl rfl rfl rfl rfl rfl ?_
    refine Sx.skip rfl rfl rfl rfl rfl rfl ?_
    refine Sx.skip rfl rfl rfl rfl rfl rfl ?_
    refine Sx.skip rfl rfl rfl rfl rfl rfl ?_
    refine Sx.skip rfl rfl rfl rfl rfl rfl ?_
    refine Sx.skip rfl rfl rfl rfl rfl rfl ?_
    refine Sx.skip rfl rfl rfl rfl rfl rfl ?_
    refine Sx.skip rfl rfl rfl rfl rfl rfl ?_
    refine Sx.skip rfl rfl rfl rfl rfl rfl ?_
    refine Sx.skip rfl rfl rfl rfl rfl rfl ?_
    refine Sx.calm rfl rfl (Cm.pick_f rfl rfl) rfl ?_
    refine Sx.nil ?_
    refine At.weak [(0, _), (1, _), (2, _), (7, _), (32, _)] ⟨rfl, rfl, rfl, rfl, rfl, trivial⟩ ?_
    refine At.go ?_
    refine Sc.cond_f rfl ?_
    refine Sc.exit ?_
    refine At.then_exit ?_
    refine At.then_exit ?_
    refine At.block_hit ?_
    refine At.go ?_
    refine Sc.seq ?_
    refine Sc.region ?_
    refine Sl.calm (Cm.move rfl) rfl ?_
    refine Sl.calm (Cm.assign rfl) rfl ?_
    refine Sl.nil ?_
    refine At.weak [(0, _), (1, _), (2, _), (6, _), (7, _), (32, _)] ⟨rfl, rfl, rfl, rfl, rfl, rfl, trivial⟩ ?_
    refine At.go ?_
    refine Sc.ret ?_
    refine At.ret1 rfl rfl ?_
    have e : k = lik b a o := lik_eq hk3 (fun hc => by
      obtain ⟨c1, c2, c3⟩ := hc
      first
        | omega
        | exact h31 (by rw [c3]))
    exact ⟨_, rfl, by rw [e], n + 1, rfl⟩
set_option maxHeartbeats 400000 in
theorem rlike_ok (ao : Option Addr) (cap : Nat) (b : List UInt8) (a bk : Nat) (W : World) (hv : Vw b8 W.heap ao cap b) (h1 : a ≤ b.length) (h2 : 1 ≤ bk) (h3 : bk ≤ a) (hb : b.length ≤ 1073741824) :
    Calls Tryd.prog 74 [.slice ao b.length cap, .int .i64 a, .int .i64 bk].toArray W (Ret fun v w' => v = .int .i64 (lik b a (a - bk)) ∧ ∃ n, w' = W.drewN n) := by
  refine calls_of_sc 38 [(0, _), (1, _), (2, _)] Tryd.func74 rfl rfl rfl (enter_slots ⟨rfl, rfl, rfl, trivial⟩) ?_
  refine Sc.seq ?_
  refine Sc.region ?_
  refine Sl.calm (Cm.assign rfl) rfl ?_
  refine Sl.nil ?_
  refine At.go ?_
  refine Sc.seq ?_
  refine Sc.region ?_
  refine Sl.calm (Cm.assign rfl) rfl ?_
  refine Sl.nil ?_
  refine At.go ?_
  refine Sc.seq ?_
  refine Sc.block ?_
  refine Sc.loop (β := Nat) (fun k => [(0, .slice ao b.length cap), (1, .int .i64 a), (2, .int .i64 bk), (7, .int .i64 k)]) (fun k w => k ≤ 130 ∧ a + k ≤ b.length ∧ (∀ i, i < k → CL b a (a - bk) i) ∧ ∃ n, w = W.drewN n) (fun k => 131 - k) 0 ⟨rfl, rfl, rfl, rfl, trivial⟩ ⟨by omega, by omega, fun i hi => by omega, 0, rfl⟩ ?_
  rintro k _ ⟨hk, hk2, hk3, n, rfl⟩
  refine Sc.seq ?_
  refine Sc.seq ?_
  refine Sc.quiet 27 [0, 1, 2, 3, 4, 5, 6, 7, 8, 9, 10, 11, 12, 13, 14, 15, 16, 17, 18, 19, 20, 21, 22, 23, 24, 25, 26] mixed (by kernel_rfl) ?_
  refine Sx.calm rfl rfl (Cm.move rfl) rfl ?_
  refine Sx.fork rfl rfl (Cm.lss rfl rfl) rfl (fun h9 => ?_) (fun h9 => ?_)
  ·
    refine Sx.calm rfl rfl (Cm.move rfl) rfl ?_
    refine Sx.want rfl rfl rfl rfl (Cm.move rfl) rfl ?_
    refine Sx.want rfl rfl rfl rfl (Cm.move rfl) rfl ?_
    refine Sx.want rfl rfl rfl rfl (Cm.add64 rfl rfl (by omega)) rfl ?_
    refine Sx.want rfl rfl rfl rfl (Cm.move rfl) rfl ?_
    refine Sx.want rfl rfl rfl rfl (Cm.len sl23 rfl) rfl ?_
    refine Sx.forkWant rfl rfl rfl rfl (Cm.lss rfl rfl) rfl (fun h16 => ?_) (fun h16 => ?_)
    ·
      refine Sx.calm rfl rfl (Cm.pick_t rfl rfl) rfl ?_
      refine Sx.calm rfl rfl (Cm.move rfl) rfl ?_
      refine Sx.want rfl rfl rfl rfl (Cm.move rfl) rfl ?_
      refine Sx.want rfl rfl rfl rfl (Cm.move rfl) rfl ?_
      refine Sx.want rfl rfl rfl rfl (Cm.move rfl) rfl ?_
      refine Sx.want rfl rfl rfl rfl (Cm.add64 rfl rfl (by omega)) rfl ?_
      refine Sx.want rfl rfl rfl rfl (Cm.indexAddr1 sl23 rfl rfl hv.non (by omega)) rfl ?_
      refine Sx.want rfl rfl rfl rfl (Cm.ld sca5 rfl (hv.gz 0 (a + k) (by omega) (by omega))) rfl ?_
      refine Sx.want rfl rfl rfl rfl (Cm.move rfl) rfl ?_
      refine Sx.want rfl rfl rfl rfl (Cm.move rfl) rfl ?_
      refine Sx.want rfl rfl rfl rfl (Cm.move rfl) rfl ?_
      refine Sx.want rfl rfl rfl rfl (Cm.add64 rfl rfl (by omega)) rfl ?_
      refine Sx.want rfl rfl rfl rfl (Cm.move rfl) rfl ?_
      refine Sx.want rfl rfl rfl rfl (Cm.sub64 rfl rfl (by omega)) rfl ?_
      refine Sx.want rfl rfl rfl rfl (Cm.indexAddr1 sl23 rfl rfl hv.non (by omega)) rfl ?_
      refine Sx.want rfl rfl rfl rfl (Cm.ld sca5 rfl (hv.gz 0 (a - bk + k) (by omega) (by omega))) rfl ?_
      refine Sx.forkWant rfl rfl rfl rfl (Cm.eql rfl rfl) rfl (fun h33 => ?_) (fun h33 => ?_)
      ·
        refine Sx.calm rfl rfl (Cm.pick_t rfl rfl) rfl ?_
        refine Sx.nil ?_
        refine At.weak [(0, _), (1, _), (2, _), (7, _), (34, _)] ⟨rfl, rfl, rfl, rfl, rfl, trivial⟩ ?_
        refine At.go ?_
        refine Sc.cond_t rfl ?_
        refine Sc.skip ?_
        refine At.go ?_
        refine Sc.block ?_
        refine Sc.region ?_
        refine Sl.calm (Cm.move rfl) rfl ?_
        refine Sl.calm (Cm.add64 rfl rfl (by omega)) rfl ?_
        refine Sl.calm (Cm.assign rfl) rfl ?_
        refine Sl.nil ?_
        refine At.block_normal ?_
        refine At.again (k + 1) ⟨rfl, rfl, rfl, rfl, trivial⟩ ⟨by omega, by omega, fun i hi => ?_, n + 1, rfl⟩ (by show 131 - (k + 1) < 131 - k; omega)
        by_cases hik : i = k
        · subst hik; exact ⟨by omega, by omega, cl_byte h33⟩
        · exact hk3 i (by omega)
      ·
        refine Sx.calm rfl rfl (Cm.pick_t rfl rfl) rfl ?_
        refine Sx.nil ?_
        refine At.weak [(0, _), (1, _), (2, _), (7, _), (34, _)] ⟨rfl, rfl, rfl, rfl, rfl, trivial⟩ ?_
        refine At.go ?_
        refine Sc.cond_f rfl ?_
        refine Sc.exit ?_
        refine At.then_exit ?_
        refine At.then_exit ?_
        refine At.block_hit ?_
        refine At.go ?_
        refine Sc.seq ?_
        refine Sc.region ?_
        refine Sl.calm (Cm.move rfl) rfl ?_
        refine Sl.calm (Cm.assign rfl) rfl ?_
        refine Sl.nil ?_
        refine At.weak [(0, _), (1, _), (2, _), (6, _), (7, _), (34, _)] ⟨rfl, rfl, rfl, rfl, rfl, rfl, trivial⟩ ?_
        refine At.go ?_
        refine Sc.ret ?_
        refine At.ret1 rfl rfl ?_
        have e : k = lik b a (a - bk) := lik_eq hk3 (fun hc => by
          obtain ⟨c1, c2, c3⟩ := hc
          first
            | omega
            | exact h33 (by rw [c3]))
        exact ⟨_, rfl, by rw [e], n + 1, rfl⟩
    ·
      refine Sx.calm rfl rfl (Cm.pick_t rfl rfl) rfl ?_
      refine Sx.calm rfl rfl (Cm.move rfl) rfl ?_
      refine Sx.skip rfl rfl rfl rfl rfl rfl ?_
      refine Sx.skip rfl rfl rfl rfl rfl rfl ?_
      refine Sx.skip rfl rfl rfl rfl rfl rfl ?_
      refine Sx.skip rfl rfl rfl rfl rfl rfl ?_
      refine Sx.skip rfl rfl rfl rfl rfl rfl ?_
      refine Sx.skip rfl rfl rfl rfl rfl rfl ?_
      refine Sx.skip rfl rfl rfl rfl rfl rfl ?_
      refine Sx.skip rfl rfl rfl rfl rfl rfl ?_
      refine Sx.skip rfl rfl rfl rfl rfl rfl ?_
      refine Sx.skip rfl rfl rfl rfl rfl rfl ?_
      refine Sx.skip rfl rfl rfl rfl rfl rfl ?_
      refine Sx.skip rfl rfl rfl rfl rfl rfl ?_
      refine Sx.skip rfl rfl rfl rfl rfl rfl ?_
      refine Sx.skip rfl rfl rfl rfl rfl rfl ?_
      refine Sx.skip rfl rfl rfl rfl rfl rfl ?_
      refine Sx.calm rfl rfl (Cm.pick_f rfl rfl) rfl ?_
      refine Sx.nil ?_
      refine At.weak [(0, _), (1, _), (2, _), (7, _), (34, _)] ⟨rfl, rfl, rfl, rfl, rfl, trivial⟩ ?_
      refine At.go ?_
      refine Sc.cond_f rfl ?_
      refine Sc.exit ?_
      refine At.then_exit ?_
      refine At.then_exit ?_
      refine At.block_hit ?_
      refine At.go ?_
      refine Sc.seq ?_
      refine Sc.region ?_
      refine Sl.calm (Cm.move rfl) rfl ?_
      refine Sl.calm (Cm.assign rfl) rfl ?_
      refine Sl.nil ?_
      refine At.weak [(0, _), (1, _), (2, _), (6, _), (7, _), (34, _)] ⟨rfl, rfl, rfl, rfl, rfl, rfl, trivial⟩ ?_
      refine At.go ?_
      refine Sc.ret ?_
      refine At.ret1 rfl rfl ?_
      have e : k = lik b a (a - bk) := lik_eq hk3 (fun hc => by
        obtain ⟨c1, c2, c3⟩ := hc
        first
          | omega
          | exact h33 (by rw [c3]))
      exact ⟨_, rfl, by rw [e], n + 1, rfl⟩
  ·
    refine Sx.calm rfl rfl (Cm.move rfl) rfl ?_
    refine Sx.skip rfl rfl rfl rfl rfl rfl ?_
    refine Sx.skip rfl rfl rfl rfl rfl rfl ?_
    refine Sx.skip rfl rfl rfl rfl rfl rfl ?_
    refine Sx.skip rfl rfl rfl rfl rfl rfl ?_
    refine Sx.skip rfl rfl rfl rfl rfl rfl ?_
    refine Sx.skip rfl rfl rfl rfl rfl rfl ?_
    refine Sx.calm rfl rfl (Cm.pick_f rfl rfl) rfl ?_
    refine Sx.calm rfl rfl (Cm.move rfl) rfl ?_
    refine Sx.skip rfl rfl rfl rfl rfl rfl ?_
    refine Sx.skip rfl rfl rfl rfl rfl rfl ?_
    refine Sx.skip rfl rfl rfl rfl rfl rfl ?_
    refine Sx.skip rfl rfl rfl rfl rfl rfl ?_
    refine Sx.skip rfl rfl rfl rfl rfl rfl ?_
    refine Sx.skip rfl rfl rfl rfl rfl rfl ?_
    refine Sx.skip rfl rfl rfl rfl rfl rfl ?_
    refine Sx.skip rfl rfl rfl rfl rfl rfl ?_
    refine Sx.skip rfl rfl rfl rfl rfl rfl ?_
    refine Sx.skip rfl rfl rfl rfl rfl rfl ?_
    refine Sx.skip rfl rfl rfl rfl rfl rfl ?_
    refine Sx.skip rfl rfl rfl rfl rfl rfl ?_
    refine Sx.skip rfl rfl rfl rfl rfl rfl ?_
    refine Sx.skip rfl rfl rfl rfl rfl rfl ?_
    refine Sx.skip rfl rfl rfl rfl rfl rfl ?_
    refine Sx.calm rfl rfl (Cm.pick_f rfl rfl) rfl ?_
    refine Sx.nil ?_
    refine At.weak [(0, _), (1, _), (2, _), (7, _), (34, _)] ⟨rfl, rfl, rfl, rfl, rfl, trivial⟩ ?_
    refine At.go ?_
    refine Sc.cond_f rfl ?_
    refine Sc.exit ?_
    refine At.then_exit ?_
    refine At.then_exit ?_
    refine At.block_hit ?_
    refine At.go ?_
    refine Sc.seq ?_
    refine Sc.region ?_
    refine Sl.calm (Cm.move rfl) rfl ?_
    refine Sl.calm (Cm.assign rfl) rfl ?_
    refine Sl.nil ?_
    refine At.weak [(0, _), (1, _), (2, _), (6, _), (7, _), (34, _)] ⟨rfl, rfl, rfl, rfl, rfl, rfl, trivial⟩ ?_
    refine At.go ?_
    refine Sc.ret ?_
    refine At.ret1 rfl rfl ?_
    have e : k = lik b a (a - bk) := lik_eq hk3 (fun hc => by
      obtain ⟨c1, c2, c3⟩ := hc
      first
        | omega
        | exact h33 (by rw [c3]))
    exact ⟨_, rfl, by rw [e], n + 1, rfl⟩

/-! runs -/
def RnP (W : World) (o : Option Addr) (xs : List UInt8) : Value → World → Prop := fun v w' => ∃ o' c', v = .slice o' xs.length c' ∧ Own b8 5 w'.heap o' c' xs ∧ Foot (blk o) W w' ∧ ∀ a, o' = some a → o = some a ∨ W.heap.size ≤ a.block
theorem keep_of {w w' : World} {o ao : Option Addr} {c : Nat} {l : List UInt8} (hv : Vw b8 w.heap ao c l) (f : Foot (blk o) w w') (h : ∀ k, blk o k → ¬ blk ao k) : Vw b8 w'.heap ao c l := hv.keep f (fun a ha hb => h _ hb ⟨a, ha, rfl⟩)
theorem vw_lt {H : Array Obj} {ao : Option Addr} {c : Nat} {l : List UInt8} (hv : Vw b8 H ao c l) (h : 0 < l.length) : ∀ k, blk ao k → k < H.size := fun k ⟨a, ha, hk⟩ => hk ▸ hv.lt (List.length_pos_iff.1 h) a ha
theorem min_one {n : Nat} (h : 0 < n) : IntKind.u8.wrap (((min n 128 : Nat) : Int) - 1) = ((UInt8.ofNat (min n 128 - 1)).toNat : Int) := by
  rw [wrap_byteN (by omega)]; congr 3; omega

set_option maxHeartbeats 1000000 in
theorem runs_ok (o : Option Addr) (co : Nat) (xs : List UInt8) (ao : Option Addr) (c : Nat) (l : List UInt8) (W : World) (ho : Own b8 5 W.heap o co xs) (hv : Vw b8 W.heap ao c l) (hap : 0 < l.length → ∀ k, blk o k → ¬ blk ao k) (hb : xs.length + 2 * l.length ≤ 1099511627776) :
    Calls Tryd.prog 61 [.slice o xs.length co, .slice ao l.length c].toArray W (Ret (RnP W o (rn xs l))) := by
  refine calls_of_sc 26 [(0, _), (1, _)] Tryd.func61 rfl rfl rfl (enter_slots ⟨rfl, rfl, trivial⟩) ?_
  refine Sc.seq ?_
  refine Sc.region ?_
  refine Sl.calm (Cm.assign rfl) rfl ?_
  refine Sl.nil ?_
  refine At.go ?_
  refine Sc.seq ?_
  refine Sc.block ?_
  refine Sc.loop (β := (List UInt8 × Option Addr × Nat) × (List UInt8 × Option Addr × Nat)) (fun ⟨⟨ys, o1, c1⟩, ⟨r, a1, c2⟩⟩ => [(0, .slice o1 ys.length c1), (1, .slice a1 r.length c2)]) (fun ⟨⟨ys, o1, c1⟩, ⟨r, a1, c2⟩⟩ w => rn ys r = rn xs l ∧ Own b8 5 w.heap o1 c1 ys ∧ Vw b8 w.heap a1 c2 r ∧ (0 < l.length → ∀ k, blk o1 k → ¬ blk ao k) ∧ r.length ≤ l.length ∧ (∀ k, blk a1 k → blk ao k) ∧ Foot (blk o) W w ∧ (∀ a, o1 = some a → o = some a ∨ W.heap.size ≤ a.block) ∧ ys.length + 2 * r.length ≤ 1099511627776) (fun ⟨⟨ys, o1, c1⟩, ⟨r, a1, c2⟩⟩ => r.length) ⟨⟨xs, o, co⟩, ⟨l, ao, c⟩⟩ ⟨rfl, rfl, trivial⟩ ⟨rfl, ho, hv, hap, Nat.le_refl _, fun _ h => h, Foot.refl _ _, fun a ha => .inl ha, hb⟩ ?_
  rintro ⟨⟨ys, o1, c1⟩, ⟨r, a1, c2⟩⟩ w1 ⟨hrn, ho1, hv1, hapc, hrl, hsub, hF1, hr1, hb1⟩
  have hle := hv1.le
  refine Sc.seq ?_
  refine Sc.seq ?_
  refine Sc.region ?_
  refine Sl.calm (Cm.move rfl) rfl ?_
  refine Sl.calm (Cm.len sl23 rfl) rfl ?_
  refine Sl.fork (Cm.gtr rfl rfl) rfl (fun h8 => ?_) (fun h8 => ?_)
  ·
    have hl0 : 0 < l.length := by omega
    have hap1 := hapc hl0
    have hlt := vw_lt hv hl0
    refine Sl.nil ?_
    refine At.weak [(0, _), (1, _), (8, _)] ⟨rfl, rfl, rfl, trivial⟩ ?_
    refine At.go ?_
    refine Sc.cond_t rfl ?_
    refine Sc.skip ?_
    refine At.go ?_
    refine Sc.block ?_
    refine Sc.seq ?_
    refine Sc.region ?_
    refine Sl.calm (Cm.move rfl) rfl ?_
    refine Sl.calm (Cm.len sl23 rfl) rfl ?_
    refine Sl.calm (Cm.ofEq (u := .int .i64 ((min r.length 128 : Nat) : Int)) (Cm.min2 rfl rfl) (by congr 1; split <;> omega)) rfl ?_
    refine Sl.calm (Cm.assign rfl) rfl ?_
    refine Sl.nil ?_
    refine At.weak [(0, _), (1, _), (5, _), (8, _)] ⟨rfl, rfl, rfl, rfl, trivial⟩ ?_
    refine At.go ?_
    refine Sc.seq ?_
    refine Sc.draw 11 (fun _ => True) [4, 5, 9] [0, 1, 2, 3, 6, 7, 8, 4, 5, 9, 10] mixed (by kernel_rfl) (trivial) ?_
    refine Sx.calm rfl rfl (Cm.move rfl) rfl ?_
    refine Sx.calm rfl rfl (Cm.move rfl) rfl ?_
    refine Sx.calm rfl rfl (Cm.sub64 rfl rfl (by omega)) rfl ?_
    refine Sx.calm rfl rfl (Cm.convI_in (n := ((UInt8.ofNat (min r.length 128 - 1)).toNat : Int)) is3 ty5 rfl (min_one (by omega))) rfl ?_
    refine Sx.calm rfl rfl (Cm.move rfl) rfl ?_
    refine Sx.calm rfl rfl (Cm.move rfl) rfl ?_
    refine Sx.calm rfl rfl (Cm.sliceH sl23 rfl rfl (by omega)) rfl ?_
    refine Sx.eff rfl rfl (Sl.lit1 (enc := b8) (u := UInt8.ofNat (min r.length 128 - 1)) sl23 rfl rfl rfl ?_)
    intro w2 ho2 hs2 hf2
    refine Sx.on (by exact trivial) ?_
    have hv2 := hv1.grow hf2.undraw
    have ho12 := ho1.grow hf2.undraw
    refine Sx.eff rfl rfl (Sl.append b8_one sl23 rfl rfl ho12 ho2.vw (by simp; omega) (by simp; unfold maxLen; omega) rfl ?_)
    intro a3 c3 w3 ho3 hf3 hr3 hn3
    refine Sx.on (by exact trivial) ?_
    have hf2 := hf2.undraw
    have hs2 := hf2.size
    have hz1 := hF1.size
    have hv3 := keep_of hv2 hf3 (fun k hk hk2 => hap1 k hk (hsub k hk2))
    refine Sx.eff rfl rfl (Sl.append b8_one sl23 (ys := r.take (min r.length 128)) rfl (by show some (Value.slice (cutAo a1 c2 0 1) (min r.length 128) c2) = _; rw [cutAo_zero, List.length_take, show min (min r.length 128) r.length = min r.length 128 by omega]) ho3 (hv3.take _) (by simp only [List.length_append, List.length_take, List.length_singleton]; omega) (by simp only [List.length_append, List.length_take, List.length_singleton]; unfold maxLen; omega) rfl ?_)
    intro a5 c5 w5 ho5 hf5 hr5a hn5
    refine Sx.on (by exact trivial) ?_
    have hz3 := hf3.size
    have hb3 : ∀ k, blk a3 k → ¬ blk ao k := fun k ⟨a, ha, hk⟩ hk2 => by rcases hr3 a ha with h | h; exact hap1 k ⟨a, h, hk⟩ hk2; have := hlt k hk2; omega
    have hv5 := keep_of hv3 hf5 (fun k hk hk2 => hb3 k hk (hsub k hk2))
    have hnew : ∀ k, blk a5 k → ¬ blk ao k := fun k ⟨a, ha, hk⟩ hk2 => by rcases hr5a a ha with h | h; exact hb3 k ⟨a, h, hk⟩ hk2; have := hlt k hk2; omega
    have hto3 : ∀ k, blk o1 k → blk o k ∨ W.heap.size ≤ k := fun k ⟨a, ha, hk⟩ => by rcases hr1 a ha with h | h; exact .inl ⟨a, h, hk⟩; exact .inr (by omega)
    have hF3 : Foot (blk o) W w3 := (hF1.trans hf2.any).trans_to hf3 hto3
    have hto5 : ∀ k, blk a3 k → blk o k ∨ W.heap.size ≤ k := fun k ⟨a, ha, hk⟩ => by rcases hr3 a ha with h | h; exact hto3 k ⟨a, h, hk⟩; exact .inr (by omega)
    have hF5 : Foot (blk o) W w5 := hF3.trans_to hf5 hto5
    have hr5 : ∀ a, a5 = some a → o = some a ∨ W.heap.size ≤ a.block := fun a ha => by rcases hr5a a ha with h | h; rcases hr3 a h with h2 | h2; exact hr1 a h2; exact .inr (by omega); exact .inr (by omega)
    refine Sx.calm rfl rfl (Cm.assign rfl) rfl ?_
    refine Sx.nil ?_
    refine At.weak [(0, _), (1, _), (5, _), (8, _)] ⟨rfl, rfl, rfl, rfl, trivial⟩ ?_
    refine At.go ?_
    refine Sc.region ?_
    refine Sl.calm (Cm.move rfl) rfl ?_
    refine Sl.calm (Cm.move rfl) rfl ?_
    refine Sl.calm (Cm.sliceL sl23 rfl rfl (by omega)) rfl ?_
    refine Sl.calm (Cm.assign rfl) rfl ?_
    refine Sl.nil ?_
    refine At.block_normal ?_
    have hm : (r.take (min r.length 128)).length = min r.length 128 := by rw [List.length_take]; omega
    have hrs := rn_step (out := ys) (l := r) (by omega)
    refine At.again ⟨⟨ys ++ [UInt8.ofNat (min r.length 128 - 1)] ++ r.take (min r.length 128), a5, c5⟩, ⟨r.drop (min r.length 128), cutAo a1 c2 (min r.length 128) 1, c2 - min r.length 128⟩⟩ ⟨rfl, ?_, trivial⟩ ?_ (by show (r.drop (min r.length 128)).length < r.length; rw [List.length_drop]; omega)
    · show some (Value.slice (cutAo a1 c2 (min r.length 128) 1) _ _) = some (Value.slice _ _ _)
      rw [List.length_drop]; rfl
    · refine ⟨?_, ho5, ?_, ?_, by rw [List.length_drop]; omega, fun k hk => hsub k (blk_cut hk), ?_, ?_, ?_⟩
      · rw [← hrn, hrs]; simp
      · have := hv5.cut (l := min r.length 128) (h := r.length) (m := c2) (by omega) (Nat.le_refl _) hle (Nat.le_refl _); rwa [List.take_of_length_le (by simp)] at this
      · intro _ k hk hk2; exact hnew k hk hk2
      · exact hF5
      · exact hr5
      · simp only [List.length_append, List.length_take, List.length_drop, List.length_singleton]; omega
  ·
    refine Sl.nil ?_
    refine At.weak [(0, _), (1, _), (8, _)] ⟨rfl, rfl, rfl, trivial⟩ ?_
    refine At.go ?_
    refine Sc.cond_f rfl ?_
    refine Sc.exit ?_
    refine At.then_exit ?_
    refine At.then_exit ?_
    refine At.block_hit ?_
    refine At.go ?_
    refine Sc.seq ?_
    refine Sc.region ?_
    refine Sl.calm (Cm.move rfl) rfl ?_
    refine Sl.calm (Cm.assign rfl) rfl ?_
    refine Sl.nil ?_
    refine At.weak [(0, _), (1, _), (4, _), (8, _)] ⟨rfl, rfl, rfl, rfl, trivial⟩ ?_
    refine At.go ?_
    refine Sc.ret ?_
    refine At.ret1 rfl rfl ?_
    have hr0 : r = [] := List.eq_nil_of_length_eq_zero (by omega)
    subst hr0
    rw [rn_nil] at hrn
    rw [← hrn]
    exact ⟨_, rfl, o1, c1, rfl, ho1, hF1, hr1⟩
set_option maxHeartbeats 1000000 in
theorem rruns_ok (o : Option Addr) (co : Nat) (xs : List UInt8) (ao : Option Addr) (c : Nat) (l : List UInt8) (W : World) (ho : Own b8 5 W.heap o co xs) (hv : Vw b8 W.heap ao c l) (hap : 0 < l.length → ∀ k, blk o k → ¬ blk ao k) (hb : xs.length + 2 * l.length ≤ 1099511627776) :
    Calls Tryd.prog 63 [.slice o xs.length co, .slice ao l.length c].toArray W (Ret (RnP W o (rn xs l))) := by
  refine calls_of_sc 26 [(0, _), (1, _)] Tryd.func63 rfl rfl rfl (enter_slots ⟨rfl, rfl, trivial⟩) ?_
  refine Sc.seq ?_
  refine Sc.region ?_
  refine Sl.calm (Cm.assign rfl) rfl ?_
  refine Sl.nil ?_
  refine At.go ?_
  refine Sc.seq ?_
  refine Sc.block ?_
  refine Sc.loop (β := (List UInt8 × Option Addr × Nat) × (List UInt8 × Option Addr × Nat)) (fun ⟨⟨ys, o1, c1⟩, ⟨r, a1, c2⟩⟩ => [(0, .slice o1 ys.length c1), (1, .slice a1 r.length c2)]) (fun ⟨⟨ys, o1, c1⟩, ⟨r, a1, c2⟩⟩ w => rn ys r = rn xs l ∧ Own b8 5 w.heap o1 c1 ys ∧ Vw b8 w.heap a1 c2 r ∧ (0 < l.length → ∀ k, blk o1 k → ¬ blk ao k) ∧ r.length ≤ l.length ∧ (∀ k, blk a1 k → blk ao k) ∧ Foot (blk o) W w ∧ (∀ a, o1 = some a → o = some a ∨ W.heap.size ≤ a.block) ∧ ys.length + 2 * r.length ≤ 1099511627776) (fun ⟨⟨ys, o1, c1⟩, ⟨r, a1, c2⟩⟩ => r.length) ⟨⟨xs, o, co⟩, ⟨l, ao, c⟩⟩ ⟨rfl, rfl, trivial⟩ ⟨rfl, ho, hv, hap, Nat.le_refl _, fun _ h => h, Foot.refl _ _, fun a ha => .inl ha, hb⟩ ?_
  rintro ⟨⟨ys, o1, c1⟩, ⟨r, a1, c2⟩⟩ w1 ⟨hrn, ho1, hv1, hapc, hrl, hsub, hF1, hr1, hb1⟩
  have hle := hv1.le
  refine Sc.seq ?_
  refine Sc.seq ?_
  refine Sc.region ?_
  refine Sl.calm (Cm.move rfl) rfl ?_
  refine Sl.calm (Cm.len sl23 rfl) rfl ?_
  refine Sl.fork (Cm.gtr rfl rfl) rfl (fun h8 => ?_) (fun h8 => ?_)
  ·
    have hl0 : 0 < l.length := by omega
    have hap1 := hapc hl0
    have hlt := vw_lt hv hl0
    refine Sl.nil ?_
    refine At.weak [(0, _), (1, _), (8, _)] ⟨rfl, rfl, rfl, trivial⟩ ?_
    refine At.go ?_
    refine Sc.cond_t rfl ?_
    refine Sc.skip ?_
    refine At.go ?_
    refine Sc.block ?_
    refine Sc.seq ?_
    refine Sc.region ?_
    refine Sl.calm (Cm.move rfl) rfl ?_
    refine Sl.calm (Cm.len sl23 rfl) rfl ?_
    refine Sl.calm (Cm.ofEq (u := .int .i64 ((min r.length 128 : Nat) : Int)) (Cm.min2 rfl rfl) (by congr 1; split <;> omega)) rfl ?_
    refine Sl.calm (Cm.assign rfl) rfl ?_
    refine Sl.nil ?_
    refine At.weak [(0, _), (1, _), (5, _), (8, _)] ⟨rfl, rfl, rfl, rfl, trivial⟩ ?_
    refine At.go ?_
    refine Sc.seq ?_
    refine Sc.draw 11 (fun _ => True) [4, 5, 9] [0, 1, 2, 3, 6, 7, 8, 4, 5, 9, 10] mixed (by kernel_rfl) (trivial) ?_
    refine Sx.calm rfl rfl (Cm.move rfl) rfl ?_
    refine Sx.calm rfl rfl (Cm.move rfl) rfl ?_
    refine Sx.calm rfl rfl (Cm.sub64 rfl rfl (by omega)) rfl ?_
    refine Sx.calm rfl rfl (Cm.convI_in (n := ((UInt8.ofNat (min r.length 128 - 1)).toNat : Int)) is3 ty5 rfl (min_one (by omega))) rfl ?_
    refine Sx.calm rfl rfl (Cm.move rfl) rfl ?_
    refine Sx.calm rfl rfl (Cm.move rfl) rfl ?_
    refine Sx.calm rfl rfl (Cm.sliceH sl23 rfl rfl (by omega)) rfl ?_
    refine Sx.eff rfl rfl (Sl.lit1 (enc := b8) (u := UInt8.ofNat (min r.length 128 - 1)) sl23 rfl rfl rfl ?_)
    intro w2 ho2 hs2 hf2
    refine Sx.on (by exact trivial) ?_
    have hv2 := hv1.grow hf2.undraw
    have ho12 := ho1.grow hf2.undraw
    refine Sx.eff rfl rfl (Sl.append b8_one sl23 rfl rfl ho12 ho2.vw (by simp; omega) (by simp; unfold maxLen; omega) rfl ?_)
    intro a3 c3 w3 ho3 hf3 hr3 hn3
    refine Sx.on (by exact trivial) ?_
    have hf2 := hf2.undraw
    have hs2 := hf2.size
    have hz1 := hF1.size
    have hv3 := keep_of hv2 hf3 (fun k hk hk2 => hap1 k hk (hsub k hk2))
    refine Sx.eff rfl rfl (Sl.append b8_one sl23 (ys := r.take (min r.length 128)) rfl (by show some (Value.slice (cutAo a1 c2 0 1) (min r.length 128) c2) = _; rw [cutAo_zero, List.length_take, show min (min r.length 128) r.length = min r.length 128 by omega]) ho3 (hv3.take _) (by simp only [List.length_append, List.length_take, List.length_singleton]; omega) (by simp only [List.length_append, List.length_take, List.length_singleton]; unfold maxLen; omega) rfl ?_)
    intro a5 c5 w5 ho5 hf5 hr5a hn5
    refine Sx.on (by exact trivial) ?_
    have hz3 := hf3.size
    have hb3 : ∀ k, blk a3 k → ¬ blk ao k := fun k ⟨a, ha, hk⟩ hk2 => by rcases hr3 a ha with h | h; exact hap1 k ⟨a, h, hk⟩ hk2; have := hlt k hk2; omega
    have hv5 := keep_of hv3 hf5 (fun k hk hk2 => hb3 k hk (hsub k hk2))
    have hnew : ∀ k, blk a5 k → ¬ blk ao k := fun k ⟨a, ha, hk⟩ hk2 => by rcases hr5a a ha with h | h; exact hb3 k ⟨a, h, hk⟩ hk2; have := hlt k hk2; omega
    have hto3 : ∀ k, blk o1 k → blk o k ∨ W.heap.size ≤ k := fun k ⟨a, ha, hk⟩ => by rcases hr1 a ha with h | h; exact .inl ⟨a, h, hk⟩; exact .inr (by omega)
    have hF3 : Foot (blk o) W w3 := (hF1.trans hf2.any).trans_to hf3 hto3
    have hto5 : ∀ k, blk a3 k → blk o k ∨ W.heap.size ≤ k := fun k ⟨a, ha, hk⟩ => by rcases hr3 a ha with h | h; exact hto3 k ⟨a, h, hk⟩; exact .inr (by omega)
    have hF5 : Foot (blk o) W w5 := hF3.trans_to hf5 hto5
    have hr5 : ∀ a, a5 = some a → o = some a ∨ W.heap.size ≤ a.block := fun a ha => by rcases hr5a a ha with h | h; rcases hr3 a h with h2 | h2; exact hr1 a h2; exact .inr (by omega); exact .inr (by omega)
    refine Sx.calm rfl rfl (Cm.assign rfl) rfl ?_
    refine Sx.nil ?_
    refine At.weak [(0, _), (1, _), (5, _), (8, _)] ⟨rfl, rfl, rfl, rfl, trivial⟩ ?_
    refine At.go ?_
    refine Sc.region ?_
    refine Sl.calm (Cm.move rfl) rfl ?_
    refine Sl.calm (Cm.move rfl) rfl ?_
    refine Sl.calm (Cm.sliceL sl23 rfl rfl (by omega)) rfl ?_
    refine Sl.calm (Cm.assign rfl) rfl ?_
    refine Sl.nil ?_
    refine At.block_normal ?_
    have hm : (r.take (min r.length 128)).length = min r.length 128 := by rw [List.length_take]; omega
    have hrs := rn_step (out := ys) (l := r) (by omega)
    refine At.again ⟨⟨ys ++ [UInt8.ofNat (min r.length 128 - 1)] ++ r.take (min r.length 128), a5, c5⟩, ⟨r.drop (min r.length 128), cutAo a1 c2 (min r.length 128) 1, c2 - min r.length 128⟩⟩ ⟨rfl, ?_, trivial⟩ ?_ (by show (r.drop (min r.length 128)).length < r.length; rw [List.length_drop]; omega)
    · show some (Value.slice (cutAo a1 c2 (min r.length 128) 1) _ _) = some (Value.slice _ _ _)
      rw [List.length_drop]; rfl
    · refine ⟨?_, ho5, ?_, ?_, by rw [List.length_drop]; omega, fun k hk => hsub k (blk_cut hk), ?_, ?_, ?_⟩
      · rw [← hrn, hrs]; simp
      · have := hv5.cut (l := min r.length 128) (h := r.length) (m := c2) (by omega) (Nat.le_refl _) hle (Nat.le_refl _); rwa [List.take_of_length_le (by simp)] at this
      · intro _ k hk hk2; exact hnew k hk hk2
      · exact hF5
      · exact hr5
      · simp only [List.length_append, List.length_take, List.length_drop, List.length_singleton]; omega
  ·
    refine Sl.nil ?_
    refine At.weak [(0, _), (1, _), (8, _)] ⟨rfl, rfl, rfl, trivial⟩ ?_
    refine At.go ?_
    refine Sc.cond_f rfl ?_
    refine Sc.exit ?_
    refine At.then_exit ?_
    refine At.then_exit ?_
    refine At.block_hit ?_
    refine At.go ?_
    refine Sc.seq ?_
    refine Sc.region ?_
    refine Sl.calm (Cm.move rfl) rfl ?_
    refine Sl.calm (Cm.assign rfl) rfl ?_
    refine Sl.nil ?_
    refine At.weak [(0, _), (1, _), (4, _), (8, _)] ⟨rfl, rfl, rfl, rfl, trivial⟩ ?_
    refine At.go ?_
    refine Sc.ret ?_
    refine At.ret1 rfl rfl ?_
    have hr0 : r = [] := List.eq_nil_of_length_eq_zero (by omega)
    subst hr0
    rw [rn_nil] at hrn
    rw [← hrn]
    exact ⟨_, rfl, o1, c1, rfl, ho1, hF1, hr1⟩
end Go.Proofs.YtpnfjfbfgaiolaaDoor
