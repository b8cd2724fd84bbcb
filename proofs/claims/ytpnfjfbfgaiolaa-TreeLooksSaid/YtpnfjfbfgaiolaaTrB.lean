/- tree, the reference: Same, Find, named, Placed. No condition beyond the bounds that each states. -/
import Derived.Test.YtpnfjfbfgaiolaaTrA
namespace Go.Proofs.Ytpnfjfbfgaiolaa
open Go Go.RowKit
set_option linter.unusedVariables false

theorem add2 (a : Addr) (i j : Nat) : (a.add i).add j = a.add (i + j) := Addr.add_add a i j
theorem list_cmp {α : Type} {a b : List α} (hl : a.length = b.length) {k : Nat} (hk : a.length ≤ k) (d : α) (h : ∀ i, i < k → i < a.length → a.getD i d = b.getD i d) : a = b := by
  apply List.ext_getElem hl
  intro i h1 h2
  have := h i (by omega) h1
  simpa [List.getD, h1, h2] using this
set_option maxHeartbeats 1000000 in
theorem rsame_ok (ao bo : Option Addr) (ac bc : Nat) (a b : List (List UInt8)) (W : World) (ha : Vw strE W.heap ao ac a) (hb : Vw strE W.heap bo bc b) :
    Calls Try.prog 26 [.slice ao a.length ac, .slice bo b.length bc].toArray W (Ret fun v w' => v = .bool (decide (a = b)) ∧ Foot nob W w') := by
  have h63 := ha.len63
  refine calls_of_sc 26 [(0, _), (1, _)] Try.func26 rfl rfl rfl (enter_slots ⟨rfl, rfl, trivial⟩) ?_
  refine Sc.seq ?_
  refine Sc.region ?_
  refine Sl.calm (Cm.assign rfl) rfl ?_
  refine Sl.nil ?_
  refine At.go ?_
  refine Sc.seq ?_
  refine Sc.seq ?_
  refine Sc.region ?_
  refine Sl.calm (Cm.move rfl) rfl ?_
  refine Sl.calm (Cm.len sl28 rfl) rfl ?_
  refine Sl.calm (Cm.move rfl) rfl ?_
  refine Sl.calm (Cm.len sl28 rfl) rfl ?_
  refine Sl.fork (Cm.neq rfl rfl) rfl (fun h10 => ?_) (fun h10 => ?_)
  ·
    refine Sl.nil ?_
    refine At.weak [(0, _), (1, _), (4, _), (10, _)] ⟨rfl, rfl, rfl, rfl, trivial⟩ ?_
    refine At.go ?_
    refine Sc.cond_t rfl ?_
    refine Sc.seq ?_
    refine Sc.region ?_
    refine Sl.calm (Cm.assign rfl) rfl ?_
    refine Sl.nil ?_
    refine At.go ?_
    refine Sc.ret ?_
    refine At.then_ret ?_
    refine At.ret1 rfl rfl ?_
    exact ⟨_, rfl, by rw [decide_eq_false (fun e => by subst e; exact h10 rfl)], Foot.refl _ _⟩
  ·
    refine Sl.nil ?_
    refine At.weak [(0, _), (1, _), (4, _), (10, _)] ⟨rfl, rfl, rfl, rfl, trivial⟩ ?_
    refine At.go ?_
    refine Sc.cond_f rfl ?_
    refine Sc.skip ?_
    refine At.go ?_
    refine Sc.seq ?_
    refine Sc.seq ?_
    refine Sc.region ?_
    refine Sl.calm (Cm.assign rfl) rfl ?_
    refine Sl.nil ?_
    refine At.go ?_
    refine Sc.block ?_
    refine Sc.loop (β := Nat) (fun k => [(0, .slice ao a.length ac), (1, .slice bo b.length bc), (5, .int .i64 k)]) (fun k w => k ≤ a.length ∧ (∀ i, i < k → i < a.length → a.getD i [] = b.getD i []) ∧ Foot nob W w) (fun k => a.length - k) 0 ⟨rfl, rfl, rfl, trivial⟩ ⟨Nat.zero_le _, fun i hi => by omega, Foot.refl _ _⟩ ?_
    rintro k w2 ⟨hk, hsm, hF2⟩
    refine Sc.seq ?_
    refine Sc.seq ?_
    refine Sc.region ?_
    refine Sl.calm (Cm.move rfl) rfl ?_
    refine Sl.calm (Cm.move rfl) rfl ?_
    refine Sl.calm (Cm.len sl28 rfl) rfl ?_
    refine Sl.fork (Cm.lss rfl rfl) rfl (fun h14 => ?_) (fun h14 => ?_)
    ·
      have hka : k < a.length := by omega
      have hkb : k < b.length := by omega
      have ha2 := ha.grow hF2
      have hb2 := hb.grow hF2
      refine Sl.nil ?_
      refine At.weak [(0, _), (1, _), (5, _), (14, _)] ⟨rfl, rfl, rfl, rfl, trivial⟩ ?_
      refine At.go ?_
      refine Sc.cond_t rfl ?_
      refine Sc.skip ?_
      refine At.go ?_
      refine Sc.seq ?_
      refine Sc.block ?_
      refine Sc.seq ?_
      refine Sc.quiet 9 [0, 1, 2, 3, 4, 5, 6, 7, 8] mixed (by kernel_rfl) ?_
      refine Sx.calm rfl rfl (Cm.move rfl) rfl ?_
      refine Sx.calm rfl rfl (Cm.move rfl) rfl ?_
      refine Sx.calm rfl rfl (Cm.indexAddr1 sl28 rfl rfl ha2.non (by omega)) rfl ?_
      refine Sx.calm rfl rfl (Cm.ld sca9 rfl (ha2.get k (a.getD k []) (by simp [List.getD, hka]))) rfl ?_
      refine Sx.calm rfl rfl (Cm.move rfl) rfl ?_
      refine Sx.calm rfl rfl (Cm.move rfl) rfl ?_
      refine Sx.calm rfl rfl (Cm.indexAddr1 sl28 rfl rfl hb2.non (by omega)) rfl ?_
      refine Sx.calm rfl rfl (Cm.ld sca9 rfl (hb2.get k (b.getD k []) (by simp [List.getD, hkb]))) rfl ?_
      refine Sx.fork rfl rfl (Cm.neqBs rfl rfl) rfl (fun h25 => ?_) (fun h25 => ?_)
      ·
        refine Sx.nil ?_
        refine At.weak [(0, _), (1, _), (5, _), (14, _), (25, _)] ⟨rfl, rfl, rfl, rfl, rfl, trivial⟩ ?_
        refine At.go ?_
        refine Sc.cond_t rfl ?_
        refine Sc.seq ?_
        refine Sc.region ?_
        refine Sl.calm (Cm.assign rfl) rfl ?_
        refine Sl.nil ?_
        refine At.go ?_
        refine Sc.ret ?_
        refine At.block_ret ?_
        refine At.then_ret ?_
        refine At.then_ret ?_
        refine At.block_ret ?_
        refine At.then_ret ?_
        refine At.ret1 rfl rfl ?_
        exact ⟨_, rfl, by rw [decide_eq_false (fun e => h25 (by rw [e]))], hF2.draws 1⟩
      ·
        refine Sx.nil ?_
        refine At.weak [(0, _), (1, _), (5, _), (14, _), (25, _)] ⟨rfl, rfl, rfl, rfl, rfl, trivial⟩ ?_
        refine At.go ?_
        refine Sc.cond_f rfl ?_
        refine Sc.skip ?_
        refine At.block_normal ?_
        refine At.go ?_
        refine Sc.region ?_
        refine Sl.calm (Cm.move rfl) rfl ?_
        refine Sl.calm (Cm.add64 rfl rfl (by omega)) rfl ?_
        refine Sl.calm (Cm.assign rfl) rfl ?_
        refine Sl.nil ?_
        refine At.again (k + 1) ⟨rfl, rfl, rfl, trivial⟩ ⟨by omega, fun i hi hia => ?_, hF2.draws 1⟩ (by show a.length - (k + 1) < a.length - k; omega)
        by_cases hik : i = k
        · subst hik; exact Classical.not_not.1 h25
        · exact hsm i (by omega) hia
    ·
      refine Sl.nil ?_
      refine At.weak [(0, _), (1, _), (5, _), (14, _)] ⟨rfl, rfl, rfl, rfl, trivial⟩ ?_
      refine At.go ?_
      refine Sc.cond_f rfl ?_
      refine Sc.exit ?_
      refine At.then_exit ?_
      refine At.then_exit ?_
      refine At.block_hit ?_
      refine At.go ?_
      refine Sc.seq ?_
      refine Sc.region ?_
      refine Sl.calm (Cm.assign rfl) rfl ?_
      refine Sl.nil ?_
      refine At.go ?_
      refine Sc.ret ?_
      refine At.ret1 rfl rfl ?_
      exact ⟨_, rfl, by rw [decide_eq_true (list_cmp (by omega) (k := k) (by omega) [] hsm)], hF2⟩
/-- where names come up first -/
def findP (ps : List (NdH × Nd)) (s : List (List UInt8)) : Int := match ps.findIdx? (fun p => decide (p.2.names = s)) with | some i => i | none => -1
theorem findP_hit {ps : List (NdH × Nd)} {s : List (List UInt8)} {i : Nat} {p : NdH × Nd} (hp : ps[i]? = some p) (h1 : p.2.names = s) (h2 : ∀ j q, j < i → ps[j]? = some q → q.2.names ≠ s) : findP ps s = i := by
  have hi := (List.getElem?_eq_some_iff.1 hp).1
  have : ps.findIdx? (fun p => decide (p.2.names = s)) = some i := by
    rw [List.findIdx?_eq_some_iff_getElem]
    refine ⟨hi, by rw [(List.getElem?_eq_some_iff.1 hp).2]; exact decide_eq_true h1, fun j hj => ?_⟩
    have := h2 j _ hj (List.getElem?_eq_getElem (by omega))
    simpa using this
  unfold findP; rw [this]
theorem findP_miss {ps : List (NdH × Nd)} {s : List (List UInt8)} (h : ∀ p ∈ ps, p.2.names ≠ s) : findP ps s = -1 := by
  have : ps.findIdx? (fun p => decide (p.2.names = s)) = none := by
    rw [List.findIdx?_eq_none_iff]
    intro p hp
    exact decide_eq_false (h p hp)
  unfold findP; rw [this]
theorem findP_spec (ps : List (NdH × Nd)) (s : List (List UInt8)) : (findP ps s = -1 ∧ ∀ p ∈ ps, p.2.names ≠ s) ∨ ∃ (i : Nat) (p : NdH × Nd), findP ps s = i ∧ ps[i]? = some p ∧ p.2.names = s ∧ ∀ j q, j < i → ps[j]? = some q → q.2.names ≠ s := by
  by_cases h : ∃ p ∈ ps, p.2.names = s
  · right
    obtain ⟨i, hi⟩ : ∃ i, ps.findIdx? (fun p => decide (p.2.names = s)) = some i := by
      cases hf : ps.findIdx? (fun p => decide (p.2.names = s)) with
      | some i => exact ⟨i, rfl⟩
      | none =>
        rw [List.findIdx?_eq_none_iff] at hf
        obtain ⟨p, hp, e⟩ := h
        have := hf p hp
        simp [e] at this
    obtain ⟨h1, h2, h3⟩ := List.findIdx?_eq_some_iff_getElem.1 hi
    refine ⟨i, ps[i], by unfold findP; rw [hi], List.getElem?_eq_getElem h1, by simpa using h2, fun j q hj hq => ?_⟩
    have := h3 j hj
    rw [(List.getElem?_eq_some_iff.1 hq).2] at this
    simpa using this
  · left
    have h' : ∀ p ∈ ps, p.2.names ≠ s := fun p hp e => h ⟨p, hp, e⟩
    exact ⟨findP_miss h', h'⟩
variable {D : Nat → Prop}
set_option maxHeartbeats 1000000 in
theorem rfind_ok (lo : Option Addr) (lc : Nat) (ps : List (NdH × Nd)) (so : Option Addr) (sc : Nat) (s : List (List UInt8)) (W : World) (hv : NodesV D W.heap lo lc ps) (hs : Vw strE W.heap so sc s) :
    Calls Try.prog 19 [.slice lo ps.length lc, .slice so s.length sc].toArray W (Ret fun v w' => v = .int .i64 (findP ps s) ∧ Foot nob W w') := by
  have h63 := hv.1.len63
  refine calls_of_sc 22 [(0, _), (1, _)] Try.func19 rfl rfl rfl (enter_slots ⟨rfl, rfl, trivial⟩) ?_
  refine Sc.seq ?_
  refine Sc.region ?_
  refine Sl.calm (Cm.assign rfl) rfl ?_
  refine Sl.nil ?_
  refine At.go ?_
  refine Sc.seq ?_
  refine Sc.seq ?_
  refine Sc.region ?_
  refine Sl.calm (Cm.assign rfl) rfl ?_
  refine Sl.nil ?_
  refine At.go ?_
  refine Sc.block ?_
  refine Sc.loop (β := Nat) (fun k => [(0, .slice lo ps.length lc), (1, .slice so s.length sc), (5, .int .i64 k)]) (fun k w => k ≤ ps.length ∧ (∀ j q, j < k → ps[j]? = some q → q.2.names ≠ s) ∧ Foot nob W w) (fun k => ps.length - k) 0 ⟨rfl, rfl, rfl, trivial⟩ ⟨Nat.zero_le _, fun i q hi => by omega, Foot.refl _ _⟩ ?_
  rintro k w2 ⟨hk, hno, hF2⟩
  refine Sc.seq ?_
  refine Sc.seq ?_
  refine Sc.region ?_
  refine Sl.calm (Cm.move rfl) rfl ?_
  refine Sl.calm (Cm.move rfl) rfl ?_
  refine Sl.calm (Cm.len sl22 rfl) rfl ?_
  refine Sl.fork (Cm.lss rfl rfl) rfl (fun h10 => ?_) (fun h10 => ?_)
  ·
    obtain ⟨p, hp⟩ : ∃ p, ps[k]? = some p := ⟨_, List.getElem?_eq_getElem (by omega)⟩
    have hv2 := hv.grow hF2
    have hn2 := (hv2.2 p (List.mem_of_getElem? hp)).1
    obtain ⟨p1, p2⟩ := p
    refine Sl.nil ?_
    refine At.weak [(0, _), (1, _), (5, _), (10, _)] ⟨rfl, rfl, rfl, rfl, trivial⟩ ?_
    refine At.go ?_
    refine Sc.cond_t rfl ?_
    refine Sc.skip ?_
    refine At.go ?_
    refine Sc.seq ?_
    refine Sc.block ?_
    refine Sc.seq ?_
    refine Sc.region ?_
    refine Sl.calm (Cm.move rfl) rfl ?_
    refine Sl.calm (Cm.move rfl) rfl ?_
    refine Sl.calm (Cm.indexAddr sl22 rfl rfl hv2.1.non (by omega)) rfl ?_
    refine Sl.calm (Cm.field fld34_0 rfl) rfl ?_
    refine Sl.calm (Cm.ld sca28 rfl (hv2.1.rowZ k rfl hp 0 _ rfl)) rfl ?_
    refine Sl.calm (Cm.move rfl) rfl ?_
    refine Sl.call fn26 rfl ((by show Calls _ _ [Value.slice p1.names.a p1.names.n p1.names.c, _].toArray _ _; rw [hn2.1]; exact rsame_ok p1.names.a so p1.names.c sc p2.names s w2 hn2.2.1 (hs.grow hF2))) rfl ?_
    rintro _ w3 ⟨rfl, hf3⟩
    by_cases h19 : p2.names = s
    ·
      rw [decide_eq_true h19]
      refine Sl.calm (Cm.assign rfl) rfl ?_
      refine Sl.nil ?_
      refine At.weak [(0, _), (1, _), (5, _), (6, _), (10, _)] ⟨rfl, rfl, rfl, rfl, rfl, trivial⟩ ?_
      refine At.go ?_
      refine Sc.seq ?_
      refine Sc.region ?_
      refine Sl.calm (Cm.move rfl) rfl ?_
      refine Sl.nil ?_
      refine At.go ?_
      refine Sc.cond_t rfl ?_
      refine Sc.seq ?_
      refine Sc.region ?_
      refine Sl.calm (Cm.move rfl) rfl ?_
      refine Sl.calm (Cm.assign rfl) rfl ?_
      refine Sl.nil ?_
      refine At.weak [(0, _), (1, _), (4, _), (5, _), (6, _), (10, _), (20, _)] ⟨rfl, rfl, rfl, rfl, rfl, rfl, rfl, trivial⟩ ?_
      refine At.go ?_
      refine Sc.ret ?_
      refine At.block_ret ?_
      refine At.then_ret ?_
      refine At.then_ret ?_
      refine At.block_ret ?_
      refine At.then_ret ?_
      refine At.ret1 rfl rfl ?_
      exact ⟨_, rfl, by rw [findP_hit hp h19 hno], hF2.trans hf3⟩
    ·
      rw [decide_eq_false h19]
      refine Sl.calm (Cm.assign rfl) rfl ?_
      refine Sl.nil ?_
      refine At.weak [(0, _), (1, _), (5, _), (6, _), (10, _)] ⟨rfl, rfl, rfl, rfl, rfl, trivial⟩ ?_
      refine At.go ?_
      refine Sc.seq ?_
      refine Sc.region ?_
      refine Sl.calm (Cm.move rfl) rfl ?_
      refine Sl.nil ?_
      refine At.go ?_
      refine Sc.cond_f rfl ?_
      refine Sc.skip ?_
      refine At.block_normal ?_
      refine At.go ?_
      refine Sc.region ?_
      refine Sl.calm (Cm.move rfl) rfl ?_
      refine Sl.calm (Cm.add64 rfl rfl (by omega)) rfl ?_
      refine Sl.calm (Cm.assign rfl) rfl ?_
      refine Sl.nil ?_
      refine At.again (k + 1) ⟨rfl, rfl, rfl, trivial⟩ ⟨by omega, fun j q hj hq => ?_, hF2.trans hf3⟩ (by show ps.length - (k + 1) < ps.length - k; omega)
      by_cases hjk : j = k
      · subst hjk; rw [hp] at hq; cases hq; exact h19
      · exact hno j q (by omega) hq
  ·
    have hke : k = ps.length := by omega
    subst hke
    refine Sl.nil ?_
    refine At.weak [(0, _), (1, _), (5, _), (10, _)] ⟨rfl, rfl, rfl, rfl, trivial⟩ ?_
    refine At.go ?_
    refine Sc.cond_f rfl ?_
    refine Sc.exit ?_
    refine At.then_exit ?_
    refine At.then_exit ?_
    refine At.block_hit ?_
    refine At.go ?_
    refine Sc.seq ?_
    refine Sc.region ?_
    refine Sl.calm (Cm.assign rfl) rfl ?_
    refine Sl.nil ?_
    refine At.go ?_
    refine Sc.ret ?_
    refine At.ret1 rfl rfl ?_
    refine ⟨_, rfl, ?_, hF2⟩
    rw [findP_miss (fun q hq => by obtain ⟨j, hj⟩ := List.getElem?_of_mem hq; exact hno j q (List.getElem?_eq_some_iff.1 hj).1 hj)]
def isDirP (ps : List (NdH × Nd)) (s : List (List UInt8)) : Prop := 0 ≤ findP ps s ∧ (ps.getD (findP ps s).toNat (ndh0, nd0)).2.kind = 1
instance (ps : List (NdH × Nd)) (s : List (List UInt8)) : Decidable (isDirP ps s) := by unfold isDirP; exact inferInstance
theorem isDirP_iff (ps : List (NdH × Nd)) (s : List (List UInt8)) : isDirP ps s ↔ ∃ (i : Nat) (p : NdH × Nd), findP ps s = i ∧ ps[i]? = some p ∧ p.2.kind = 1 := by
  rcases findP_spec ps s with ⟨h1, h2⟩ | ⟨i, p, h1, h2, h3, h4⟩
  · constructor
    · intro h; have := h.1; omega
    · rintro ⟨i, p, e, _⟩; omega
  · have e : ps.getD (findP ps s).toNat (ndh0, nd0) = p := by rw [h1, List.getD, Int.toNat_natCast, h2]; rfl
    constructor
    · intro h; exact ⟨i, p, h1, h2, by rw [← e]; exact h.2⟩
    · rintro ⟨j, q, e1, hq, hk⟩
      have : j = i := by omega
      subst this; rw [h2] at hq; cases hq
      exact ⟨by omega, by rw [e]; exact hk⟩
theorem risdir_ok (lo : Option Addr) (lc : Nat) (ps : List (NdH × Nd)) (so : Option Addr) (sc : Nat) (s : List (List UInt8)) (W : World) (hv : NodesV D W.heap lo lc ps) (hs : Vw strE W.heap so sc s) :
    Calls Try.prog 60 [.slice lo ps.length lc, .slice so s.length sc].toArray W (Ret fun v w' => v = .bool (decide (isDirP ps s)) ∧ Foot nob W w') := by
  have hsp := findP_spec ps s
  obtain ⟨F, hF⟩ : ∃ F, F = findP ps s := ⟨_, rfl⟩
  refine calls_of_sc 19 [(0, _), (1, _)] Try.func60 rfl rfl rfl (enter_slots ⟨rfl, rfl, trivial⟩) ?_
  refine Sc.seq ?_
  refine Sc.region ?_
  refine Sl.calm (Cm.assign rfl) rfl ?_
  refine Sl.nil ?_
  refine At.go ?_
  refine Sc.seq ?_
  refine Sc.region ?_
  refine Sl.calm (Cm.move rfl) rfl ?_
  refine Sl.calm (Cm.move rfl) rfl ?_
  refine Sl.call fn19 rfl (rfind_ok lo lc ps so sc s W hv hs) rfl ?_
  rintro _ w2 ⟨rfl, hf2⟩
  rw [← hF] at hsp ⊢
  refine Sl.calm (Cm.assign rfl) rfl ?_
  refine Sl.nil ?_
  refine At.weak [(0, _), (1, _), (4, _), (5, _)] ⟨rfl, rfl, rfl, rfl, trivial⟩ ?_
  refine At.go ?_
  refine Sc.seq ?_
  refine Sc.region ?_
  refine Sl.calm (Cm.move rfl) rfl ?_
  refine Sl.fork (Cm.geq rfl rfl) rfl (fun h10 => ?_) (fun h10 => ?_)
  ·
    obtain ⟨i, p, h1, hp, h3, h4⟩ : ∃ (i : Nat) (p : NdH × Nd), F = i ∧ ps[i]? = some p ∧ p.2.names = s ∧ ∀ j q, j < i → ps[j]? = some q → q.2.names ≠ s := hsp.resolve_left (fun h => by have := h.1; omega)
    have hil := (List.getElem?_eq_some_iff.1 hp).1
    refine Sl.calm (Cm.move rfl) rfl ?_
    refine Sl.want rfl rfl (Cm.move rfl) rfl ?_
    refine Sl.want rfl rfl (Cm.move rfl) rfl ?_
    refine Sl.want rfl rfl (Cm.indexAddr sl22 rfl rfl hv.1.non (by omega)) rfl ?_
    refine Sl.want rfl rfl (Cm.field fld34_2 rfl) rfl ?_
    refine Sl.want rfl rfl (Cm.ld sca3 rfl ((hv.1.grow hf2).rowZ i h1 hp 2 _ rfl)) rfl ?_
    refine Sl.forkWant rfl rfl (Cm.eql rfl rfl) rfl (fun h17 => ?_) (fun h17 => ?_)
    ·
      have hyes : isDirP ps s := (isDirP_iff ps s).2 ⟨i, p, by rw [← hF]; exact h1, hp, h17⟩
      refine Sl.calm (Cm.pick_t rfl rfl) rfl ?_
      refine Sl.calm (Cm.assign rfl) rfl ?_
      refine Sl.nil ?_
      refine At.weak [(0, _), (1, _), (4, _), (5, _)] ⟨rfl, rfl, rfl, rfl, trivial⟩ ?_
      refine At.go ?_
      refine Sc.ret ?_
      refine At.ret1 rfl rfl ?_
      first
        | exact ⟨_, rfl, by rw [decide_eq_true hyes], hf2⟩
        | exact ⟨_, rfl, by rw [decide_eq_false hno], hf2⟩
    ·
      have hno : ¬ isDirP ps s := fun h => by
        obtain ⟨j, q, e, hq, hk⟩ := (isDirP_iff ps s).1 h
        rw [← hF, h1] at e
        have e : i = j := by omega
        subst e; rw [hp] at hq; cases hq; exact h17 hk
      refine Sl.calm (Cm.pick_t rfl rfl) rfl ?_
      refine Sl.calm (Cm.assign rfl) rfl ?_
      refine Sl.nil ?_
      refine At.weak [(0, _), (1, _), (4, _), (5, _)] ⟨rfl, rfl, rfl, rfl, trivial⟩ ?_
      refine At.go ?_
      refine Sc.ret ?_
      refine At.ret1 rfl rfl ?_
      first
        | exact ⟨_, rfl, by rw [decide_eq_true hyes], hf2⟩
        | exact ⟨_, rfl, by rw [decide_eq_false hno], hf2⟩
  ·
    have hno : ¬ isDirP ps s := fun h => by have := h.1; rw [← hF] at this; omega
    refine Sl.calm (Cm.move rfl) rfl ?_
    refine Sl.skip rfl rfl rfl rfl ?_
    refine Sl.skip rfl rfl rfl rfl ?_
    refine Sl.skip rfl rfl rfl rfl ?_
    refine Sl.skip rfl rfl rfl rfl ?_
    refine Sl.skip rfl rfl rfl rfl ?_
    refine Sl.skip rfl rfl rfl rfl ?_
    refine Sl.calm (Cm.pick_f rfl rfl) rfl ?_
    refine Sl.calm (Cm.assign rfl) rfl ?_
    refine Sl.nil ?_
    refine At.weak [(0, _), (1, _), (4, _), (5, _)] ⟨rfl, rfl, rfl, rfl, trivial⟩ ?_
    refine At.go ?_
    refine Sc.ret ?_
    refine At.ret1 rfl rfl ?_
    first
      | exact ⟨_, rfl, by rw [decide_eq_true hyes], hf2⟩
      | exact ⟨_, rfl, by rw [decide_eq_false hno], hf2⟩
end Go.Proofs.Ytpnfjfbfgaiolaa
