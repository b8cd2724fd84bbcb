/- slices.Chunk: the iterator's contract. No condition beyond the bounds that each states. -/
import Derived.Test.YtpnfjfbfgaiolaaDoorRfk
import Derived.Test.YtpnfjfbfgaiolaaDoorBtk
namespace Go.Proofs.YtpnfjfbfgaiolaaDoor
open Go Go.RowKit
set_option linter.unusedVariables false

def KpB (sb nb : Nat) (W W' : World) : Prop := W'.heap[sb]? = W.heap[sb]? ∧ W'.heap[nb]? = W.heap[nb]?
theorem KpB.trans {sb nb : Nat} {A B C : World} (h : KpB sb nb A B) (k : KpB sb nb B C) : KpB sb nb A C := ⟨k.1.trans h.1, k.2.trans h.2⟩
def ckN (len k : Nat) : Nat := (len + k - 1) / k
def ckE (len k i : Nat) : Nat := min k (len - i * k)
def ckV (o : Option Addr) (len k i : Nat) : Value := .slice (cutAo o (i * k + ckE len k i) (i * k) 1) (ckE len k i) (ckE len k i)
theorem ck_lt {len k i : Nat} (hk : 1 ≤ k) : i < ckN len k ↔ i * k < len := by
  unfold ckN
  rw [Nat.lt_div_iff_mul_lt (by omega)]
  omega
theorem ck_succ (i k : Nat) : (i + 1) * k = i * k + k := Nat.succ_mul i k
def ckA (sb nb : Nat) : List Value := [.pointer (some ⟨sb, 0, none⟩), .pointer (some ⟨nb, 0, none⟩)]
set_option maxHeartbeats 2000000 in
theorem chunk_it (sb nb : Nat) (o : Option Addr) (c len k : Nat) (w0 : World) (hs : w0.heap[sb]? = some (.cells [Value.slice o len c].toArray 23 (0, 0))) (hn : w0.heap[nb]? = some (.cells [Value.int .i64 k].toArray 3 (0, 0)))
    (hk : 1 ≤ k) (hk2 : k ≤ 1099511627776) (hl : len ≤ c) (hlb : len ≤ 1099511627776) :
    SeqStopsK Fence.wide 3 Tryd.prog 32 (ckA sb nb).toArray (fun i : Fin (ckN len k) => #[ckV o len k i.1]) (KpB sb nb) (fun xs => xs.map (·.1) = List.range (ckN len k)) (fun _ => True) (ckN len k) w0 := by
  intro l J Jx W hW hJ hJx hY h0
  refine callsIn_wide.2 ?_
  have hs1 : W.heap[sb]? = some (.cells [Value.slice o len c].toArray 23 (0, 0)) := (hW.block sb (Array.getElem?_eq_some_iff.1 hs).1).trans hs
  have hn1 : W.heap[nb]? = some (.cells [Value.int .i64 k].toArray 3 (0, 0)) := (hW.block nb (Array.getElem?_eq_some_iff.1 hn).1).trans hn
  have ea : (#[Value.func (.yield l) #[] #[]] ++ (ckA sb nb).toArray) = [.func (.yield l) #[] #[], .pointer (some ⟨sb, 0, none⟩), .pointer (some ⟨nb, 0, none⟩)].toArray := by simp [ckA]
  rw [ea]
  refine calls_of_sc 31 [(0, _), (1, _), (2, _)] Tryd.func32 rfl rfl rfl (enter_slots ⟨rfl, rfl, rfl, trivial⟩) ?_
  refine Sc.seq ?_
  refine Sc.region ?_
  refine Sl.calm (Cm.assign rfl) rfl ?_
  refine Sl.nil ?_
  refine At.go ?_
  refine Sc.block ?_
  refine Sc.loop (β := Nat) (fun i => [(0, .func (.yield l) #[] #[]), (1, .pointer (some ⟨sb, 0, none⟩)), (2, .pointer (some ⟨nb, 0, none⟩)), (4, .int .i64 (i * k : Nat))]) (fun i w => i ≤ ckN len k ∧ (∃ xs : List (Fin (ckN len k)), xs.map (·.1) = List.range i ∧ J xs w) ∧ w.heap[sb]? = some (.cells [Value.slice o len c].toArray 23 (0, 0)) ∧ w.heap[nb]? = some (.cells [Value.int .i64 k].toArray 3 (0, 0))) (fun i => ckN len k - i) 0 ⟨rfl, rfl, rfl, (by rw [Nat.zero_mul]; rfl), trivial⟩ ⟨Nat.zero_le _, ⟨[], rfl, h0⟩, hs1, hn1⟩ ?_
  rintro i w ⟨hi, ⟨xs, hx, hJw⟩, hs2, hn2⟩
  have hxl : i = xs.length := by have := congrArg List.length hx; simpa using this.symm
  refine Sc.seq ?_
  refine Sc.seq ?_
  refine Sc.region ?_
  refine Sl.calm (Cm.move rfl) rfl ?_
  refine Sl.calm (Cm.ld sca23 rfl (cellF0 hs2 rfl)) rfl ?_
  refine Sl.calm (Cm.len sl23 rfl) rfl ?_
  refine Sl.fork (Cm.lss rfl rfl) rfl (fun h9 => ?_) (fun h9 => ?_)
  ·
    have hilt : i < ckN len k := (ck_lt hk).2 (by omega)
    have hik : i * k < len := by omega
    obtain ⟨e, he⟩ : ∃ e, e = ckE len k i := ⟨_, rfl⟩
    have he2 : e = min k (len - i * k) := he
    have hcv : ckV o len k i = .slice (cutAo o (i * k + e) (i * k) 1) e e := by unfold ckV; rw [← he]
    refine Sl.nil ?_
    refine At.weak [(0, _), (1, _), (2, _), (4, _), (9, _)] ⟨rfl, rfl, rfl, rfl, rfl, trivial⟩ ?_
    refine At.go ?_
    refine Sc.cond_t rfl ?_
    refine Sc.skip ?_
    refine At.go ?_
    refine Sc.seq ?_
    refine Sc.block ?_
    refine Sc.seq ?_
    refine Sc.quiet 7 [0, 1, 2, 3, 4, 5, 6] mixed (by kernel_rfl) ?_
    refine Sx.calm rfl rfl (Cm.ld sca3 rfl (cellF0 hn2 rfl)) rfl ?_
    refine Sx.calm rfl rfl (Cm.ld sca23 rfl (cellF0 hs2 rfl)) rfl ?_
    refine Sx.calm rfl rfl (Cm.move rfl) rfl ?_
    refine Sx.calm rfl rfl (Cm.sliceL sl23 rfl rfl (by omega)) rfl ?_
    refine Sx.calm rfl rfl (Cm.len sl23 rfl) rfl ?_
    refine Sx.calm rfl rfl (Cm.ofEq (u := .int .i64 (e : Int)) (Cm.min2 rfl rfl) (by rw [he2]; congr 1; omega)) rfl ?_
    refine Sx.calm rfl rfl (Cm.assign rfl) rfl ?_
    refine Sx.nil ?_
    refine At.weak [(0, _), (1, _), (2, _), (4, _), (5, _), (9, _)] ⟨rfl, rfl, rfl, rfl, rfl, rfl, trivial⟩ ?_
    refine At.go ?_
    refine Sc.seq ?_
    refine Sc.regionI 3 ?_
    refine Si.calm (Cm.move rfl) rfl ?_
    refine Si.calm (Cm.ld sca23 rfl (cellF0 hs2 rfl)) rfl ?_
    refine Si.calm (Cm.move rfl) rfl ?_
    refine Si.calm (Cm.move rfl) rfl ?_
    refine Si.calm (Cm.move rfl) rfl ?_
    refine Si.calm (Cm.add64 rfl rfl (by omega)) rfl ?_
    refine Si.calm (Cm.move rfl) rfl ?_
    refine Si.calm (Cm.move rfl) rfl ?_
    refine Si.calm (Cm.add64 rfl rfl (by omega)) rfl ?_
    refine Si.calm (Cm.ofEq (u := ckV o len k i) (Cm.sliceLHM sl23 rfl rfl rfl rfl (by omega) (by omega) (by omega)) (by rw [hcv, show ((i * k : Nat) : Int).toNat = i * k from rfl, show (((i * k : Nat) : Int) + (e : Int)).toNat = i * k + e by omega, Nat.add_sub_cancel_left])) rfl ?_
    refine Si.yield rfl rfl (hY xs ⟨i, hilt⟩ (w.drewN 1) (hJ _ _ _ none hJw ⟨rfl, rfl, rfl, Nat.le_refl _, fun _ _ _ => rfl⟩ (fun r e => by cases e)) (by rw [← hxl]; exact hilt)) rfl ?_ ?_
    ·
      rintro W' ⟨hJ', hK'⟩
      refine Si.calm (Cm.not rfl) rfl ?_
      refine Si.nil ?_
      refine At.weak [(0, _), (1, _), (2, _), (4, _), (5, _), (9, _), (30, _)] ⟨rfl, rfl, rfl, rfl, rfl, rfl, rfl, trivial⟩ ?_
      refine At.go ?_
      refine Sc.cond_f rfl ?_
      refine Sc.skip ?_
      refine At.block_normal ?_
      refine At.go ?_
      refine Sc.region ?_
      refine Sl.calm (Cm.move rfl) rfl ?_
      refine Sl.calm (Cm.ld sca3 rfl (cellF0 (hK'.2.trans hn2) rfl)) rfl ?_
      refine Sl.calm (Cm.add64 rfl rfl (by omega)) rfl ?_
      refine Sl.calm (Cm.assign rfl) rfl ?_
      refine Sl.nil ?_
      refine At.again (i + 1) ⟨rfl, rfl, rfl, ?_, trivial⟩ ⟨by omega, ⟨xs ++ [⟨i, hilt⟩], by rw [List.map_append, hx, List.range_succ]; rfl, hJ'⟩, hK'.1.trans hs2, hK'.2.trans hn2⟩ (by show ckN len k - (i + 1) < ckN len k - i; omega)
      rw [ck_succ]; rfl
    ·
      rintro W' hJ'
      refine Si.calm (Cm.not rfl) rfl ?_
      refine Si.nil ?_
      refine At.weak [(0, _), (1, _), (2, _), (4, _), (5, _), (9, _), (30, _)] ⟨rfl, rfl, rfl, rfl, rfl, rfl, rfl, trivial⟩ ?_
      refine At.go ?_
      refine Sc.cond_t rfl ?_
      refine Sc.ret ?_
      refine At.block_ret ?_
      refine At.then_ret ?_
      refine At.then_ret ?_
      refine At.block_ret ?_
      refine At.ret0 rfl ?_
      exact ⟨⟨_, rfl⟩, .inr ⟨_, trivial, hJ'⟩⟩
  ·
    have h9n := mt (ck_lt (len := len) (i := i) hk).1 (show ¬ i * k < len by omega)
    have hie : i = ckN len k := by omega
    refine Sl.nil ?_
    refine At.weak [(0, _), (1, _), (2, _), (4, _), (9, _)] ⟨rfl, rfl, rfl, rfl, rfl, trivial⟩ ?_
    refine At.go ?_
    refine Sc.cond_f rfl ?_
    refine Sc.exit ?_
    refine At.then_exit ?_
    refine At.then_exit ?_
    refine At.block_hit ?_
    refine At.end0 rfl ?_
    exact ⟨⟨_, rfl⟩, .inl ⟨xs, by show xs.map (·.1) = _; rw [hx, hie], hJw⟩⟩
set_option maxHeartbeats 1000000 in
theorem chunk_ok (o : Option Addr) (c len k : Nat) (W : World) (hk : 1 ≤ k) :
    Calls Tryd.prog 22 [.slice o len c, .int .i64 k].toArray W (Ret fun v w' => v = .func (.func 32) #[] (ckA W.heap.size (W.heap.size + 1)).toArray ∧ w'.heap[W.heap.size]? = some (.cells [Value.slice o len c].toArray 23 (0, 0)) ∧ w'.heap[W.heap.size + 1]? = some (.cells [Value.int .i64 k].toArray 3 (0, 0)) ∧ W.heap.size + 2 ≤ w'.heap.size ∧ Foot nob W w') := by
  refine calls_of_sc 9 [(0, _), (1, _)] Tryd.func22 rfl rfl rfl (enter_slots ⟨rfl, rfl, trivial⟩) ?_
  refine Sc.seq ?_
  refine Sc.region ?_
  refine Sl.box rfl rfl ?_
  intro w1 hg1 hs1 hf1
  refine Sl.box rfl rfl ?_
  intro w2 hg2 hs2 hf2
  have hg1b := hf2.obj hg1 id
  rw [hs1] at hg2 ⊢
  refine Sl.calm (Cm.assign rfl) rfl ?_
  refine Sl.nil ?_
  refine At.go ?_
  refine Sc.seq ?_
  refine Sc.seq ?_
  refine Sc.region ?_
  refine Sl.calm (Cm.ld sca3 rfl (cellF0 (cs := [Value.int .i64 k]) hg2 rfl)) rfl ?_
  refine Sl.calm (Cm.no (Cm.lss rfl rfl) (by omega)) rfl ?_
  refine Sl.nil ?_
  refine At.weak [(0, _), (1, _), (2, _), (3, _), (4, _), (6, _)] ⟨rfl, rfl, rfl, rfl, rfl, rfl, trivial⟩ ?_
  refine At.go ?_
  refine Sc.cond_f rfl ?_
  refine Sc.skip ?_
  refine At.go ?_
  refine Sc.seq ?_
  refine Sc.region ?_
  refine Sl.calm (by refine Cm.makeFunc (cs := [.tmp 2, .tmp 3]) (vs := ckA W.heap.size (W.heap.size + 1)) ?_; rfl) rfl ?_
  refine Sl.calm (Cm.assign rfl) rfl ?_
  refine Sl.nil ?_
  refine At.weak [(0, _), (1, _), (2, _), (3, _), (4, _), (6, _)] ⟨rfl, rfl, rfl, rfl, rfl, rfl, trivial⟩ ?_
  refine At.go ?_
  refine Sc.ret ?_
  refine At.ret1 rfl rfl ?_
  exact ⟨_, rfl, rfl, hg1b, hg2, by omega, hf1.trans hf2⟩
end Go.Proofs.YtpnfjfbfgaiolaaDoor
