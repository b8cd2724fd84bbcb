/- tree: what is within a directory; the program's Kids and the reference's. No condition beyond the bounds that each states. -/
import Derived.Test.YtpnfjfbfgaiolaaTsGk
namespace Go.Proofs.Ytpnfjfbfgaiolaa
open Go Go.RowKit Go.Maps
set_option linter.unusedVariables false

/-! plain -/
def nmG (ps : List (NdH × Nd)) (k : Nat) : List (List UInt8) := (ps.getD k (ndh0, nd0)).2.names
theorem nmG_at {ps : List (NdH × Nd)} {k : Nat} {p : NdH × Nd} (h : ps[k]? = some p) : nmG ps k = p.2.names := by unfold nmG; rw [List.getD, h]; rfl
def kidQ (l s : List (List UInt8)) : Prop := l.length = s.length + 1 ∧ l.take s.length = s
instance (l s : List (List UInt8)) : Decidable (kidQ l s) := by unfold kidQ; exact inferInstance
theorem kidQ_below {l s : List (List UInt8)} : kidQ l s ↔ l.length = s.length + 1 ∧ belowP l s := by
  unfold kidQ belowP
  constructor
  · rintro ⟨h1, h2⟩; exact ⟨h1, by omega, h2⟩
  · rintro ⟨h1, _, h2⟩; exact ⟨h1, h2⟩
def kidG (ps : List (NdH × Nd)) (s : List (List UInt8)) : Nat → List Int
  | 0 => []
  | i + 1 => if kidQ (nmG ps i) s then kidG ps s i ++ [(i : Int)] else kidG ps s i
section
variable {ps : List (NdH × Nd)} {s : List (List UInt8)}
theorem kidG_yes {i : Nat} (h : kidQ (nmG ps i) s) : kidG ps s (i + 1) = kidG ps s i ++ [(i : Int)] := by rw [kidG, if_pos h]
theorem kidG_no {i : Nat} (h : ¬ kidQ (nmG ps i) s) : kidG ps s (i + 1) = kidG ps s i := by rw [kidG, if_neg h]
theorem kidG_mem {z : Int} : ∀ {i : Nat}, z ∈ kidG ps s i ↔ ∃ k : Nat, z = k ∧ k < i ∧ kidQ (nmG ps k) s
  | 0 => ⟨fun h => (by simp [kidG] at h), fun ⟨k, _, h, _⟩ => (by omega)⟩
  | i + 1 => by
    by_cases h : kidQ (nmG ps i) s
    · rw [kidG_yes h, List.mem_append, List.mem_singleton, kidG_mem (i := i)]
      constructor
      · rintro (⟨k, h1, h2, h3⟩ | h1)
        · exact ⟨k, h1, by omega, h3⟩
        · exact ⟨i, h1, by omega, h⟩
      · rintro ⟨k, h1, h2, h3⟩
        by_cases e : k = i
        · exact .inr (by rw [h1, e])
        · exact .inl ⟨k, h1, by omega, h3⟩
    · rw [kidG_no h, kidG_mem (i := i)]
      constructor
      · rintro ⟨k, h1, h2, h3⟩; exact ⟨k, h1, by omega, h3⟩
      · rintro ⟨k, h1, h2, h3⟩
        by_cases e : k = i
        · exact absurd (e ▸ h3) h
        · exact ⟨k, h1, by omega, h3⟩
theorem kidG_inc : ∀ i : Nat, (kidG ps s i).Pairwise (· < ·)
  | 0 => List.Pairwise.nil
  | i + 1 => by
    by_cases h : kidQ (nmG ps i) s
    · rw [kidG_yes h, List.pairwise_append]
      refine ⟨kidG_inc i, by simp, fun a ha b hb => ?_⟩
      obtain ⟨k, e, hk, _⟩ := kidG_mem.1 ha
      rw [List.mem_singleton] at hb
      subst hb; omega
    · rw [kidG_no h]; exact kidG_inc i
theorem kidG_len : ∀ i : Nat, (kidG ps s i).length ≤ i
  | 0 => Nat.le_refl _
  | i + 1 => by
    have := kidG_len i
    by_cases h : kidQ (nmG ps i) s
    · rw [kidG_yes h, List.length_append, List.length_singleton]; omega
    · rw [kidG_no h]; omega
end
theorem gd_at {xs : List Int} {k : Nat} (h : k < xs.length) : xs.getD k 0 = xs[k] := by simp [List.getD, h]
theorem inc_of {xs : List Int} (h : xs.Pairwise (· < ·)) : Inc xs 0 xs.length := fun i j _ hij hj => by
  rw [gd_at (by omega), gd_at hj]; exact List.pairwise_iff_getElem.1 h i j (by omega) hj hij
section
variable {K : Int → List (List UInt8)}
theorem srt_pw {xs : List Int} (h : Srt K xs 0 xs.length) : xs.Pairwise (ltS K) := List.pairwise_iff_getElem.2 fun i j hi hj hij => by
  have := h i j (Nat.zero_le _) hij hj
  rwa [gd_at hi, gd_at hj] at this
theorem ltS_irr {x : Int} (h : ltS K x x) : False := by
  rcases h with h | ⟨_, h⟩
  · rw [cmpL_self] at h; omega
  · omega
theorem ltS_asy {x y : Int} (h : ltS K x y) (g : ltS K y x) : False := ltS_irr (ltS_trans h g)
theorem pw_uniq : ∀ {xs ys : List Int}, xs.Perm ys → xs.Pairwise (ltS K) → ys.Pairwise (ltS K) → xs = ys
  | [], ys, hp, _, _ => by rw [List.nil_perm] at hp; exact hp.symm
  | x :: xs, [], hp, _, _ => by have := hp.length_eq; simp at this
  | x :: xs, y :: ys, hp, hx, hy => by
    have h1 := List.pairwise_cons.1 hx
    have h2 := List.pairwise_cons.1 hy
    have e : x = y := by
      apply Classical.byContradiction
      intro hne
      have hxm : x ∈ ys := by
        have := hp.mem_iff.1 (show x ∈ x :: xs by simp)
        rcases List.mem_cons.1 this with e | h
        · exact absurd e hne
        · exact h
      have hym : y ∈ xs := by
        have := hp.mem_iff.2 (show y ∈ y :: ys by simp)
        rcases List.mem_cons.1 this with e | h
        · exact absurd e.symm hne
        · exact h
      exact ltS_asy (h1.1 y hym) (h2.1 x hxm)
    subst e
    rw [pw_uniq (List.Perm.cons_inv hp) h1.2 h2.2]
theorem kid_uniq {xs ys : List Int} (hp : xs.Perm ys) (hx : Srt K xs 0 xs.length) (hy : Srt K ys 0 ys.length) : xs = ys := pw_uniq hp (srt_pw hx) (srt_pw hy)
end
theorem wrap_succ {a b : Nat} (ha : a ≤ 9223372036854775807) (hb : b ≤ 9223372036854775807) : ((a : Int) = IntKind.i64.wrap ((b : Int) + 1)) ↔ a = b + 1 := by
  by_cases h : b = 9223372036854775807
  · subst h
    have e : IntKind.i64.wrap (((9223372036854775807 : Nat) : Int) + 1) = -9223372036854775808 := by unfold IntKind.wrap; simp [IntKind.bits, IntKind.signed]
    rw [e]; omega
  · rw [wrap64_id (by omega)]; omega
/-- what both come to -/
def KidsL (ps : List (NdH × Nd)) (s : List (List UInt8)) (ys : List Int) : Prop := ys.Perm (kidG ps s ps.length) ∧ Srt (fun z => nmG ps z.toNat) ys 0 ys.length
theorem KidsL.uniq {ps : List (NdH × Nd)} {s : List (List UInt8)} {xs ys : List Int} (h : KidsL ps s xs) (g : KidsL ps s ys) : xs = ys := kid_uniq (h.1.trans g.1.symm) h.2 g.2
/-- last names -/
def lastN (l : List (List UInt8)) : List UInt8 := l.getD (l.length - 1) []
theorem kid_cmp {a b s : List (List UInt8)} (ha : kidQ a s) (hb : kidQ b s) : cmpL a b = cmpB (lastN a) (lastN b) := by
  have e : ∀ {l : List (List UInt8)}, kidQ l s → l = s ++ [lastN l] := fun {l} h => by
    have h1 : l[s.length]? = some (lastN l) := by
      unfold lastN; rw [h.1, List.getD, Nat.add_sub_cancel, List.getElem?_eq_getElem (by have := h.1; omega)]; rfl
    have h2 := tkL h1
    rw [h.2, List.take_of_length_le (by have := h.1; omega)] at h2; exact h2
  conv => lhs; rw [e ha, e hb]
  rw [cmpL_app]
  show (if lastN a = lastN b then cmpL [] [] else if Op.bytesLess (lastN a) (lastN b) = true then -1 else 1) = _
  unfold cmpB
  by_cases h1 : Op.bytesLess (lastN a) (lastN b) = true
  · rw [if_pos h1, if_neg (fun h => by rw [h, bl_irrefl] at h1; cases h1), if_pos h1]
  · rw [if_neg h1]
    by_cases h2 : lastN a = lastN b
    · rw [if_pos h2, if_pos h2, if_neg h1]; rfl
    · rw [if_neg h2, if_neg h2, if_neg h1]
theorem cmpB_gt {a b : List UInt8} : cmpB a b < 0 ↔ Op.bytesLess a b = true := by
  unfold cmpB
  by_cases h1 : Op.bytesLess a b = true
  · rw [if_pos h1]; simp [h1]
  · rw [if_neg h1]
    by_cases h2 : a = b
    · rw [if_pos h2]; simp [h1]
    · rw [if_neg h2]; simp [h1]
variable {D : Nat → Prop}
set_option maxHeartbeats 1000000 in
theorem kcmp_ok (lo : Option Addr) (lc : Nat) (ps : List (NdH × Nd)) (g : Nat) (x y : Int) (W : World) {T : TypeId} {fr : Nat × Nat} (hv : NodesV D W.heap lo lc ps) (hg : W.heap[g]? = some (.cells [Value.slice lo ps.length lc].toArray T fr)) (hx : 0 ≤ x ∧ x < ps.length) (hy : 0 ≤ y ∧ y < ps.length) :
    Calls Try.prog 40 [.int .i64 x, .int .i64 y, .pointer (some ⟨g, 0, none⟩)].toArray W (Ret fun v w' => v = .int .i64 (cmpL (nmG ps x.toNat) (nmG ps y.toNat)) ∧ Foot nob W w') := by
  have h63 := hv.1.len63
  obtain ⟨p, hp⟩ : ∃ p, ps[x.toNat]? = some p := ⟨_, List.getElem?_eq_getElem (by omega)⟩
  obtain ⟨q, hq⟩ : ∃ q, ps[y.toNat]? = some q := ⟨_, List.getElem?_eq_getElem (by omega)⟩
  rw [nmG_at hp, nmG_at hq]
  have hpn := (hv.2 p (List.mem_of_getElem? hp)).1
  have hqn := (hv.2 q (List.mem_of_getElem? hq)).1
  have hgv : VwM 10 encN W.heap lo lc ps := hv.1
  refine calls_of_sc 17 [(0, _), (1, _), (2, _)] Try.func40 rfl rfl rfl (enter_slots ⟨rfl, rfl, rfl, trivial⟩) ?_
  refine Sc.seq ?_
  refine Sc.region ?_
  refine Sl.calm (Cm.assign rfl) rfl ?_
  refine Sl.nil ?_
  refine At.go ?_
  refine Sc.seq ?_
  refine Sc.draw 12 (fun H => H[g]? = some (.cells [Value.slice lo ps.length lc].toArray T fr) ∧ VwM 10 encN H lo lc ps) [10] [0, 1, 2, 3, 4, 5, 6, 7, 8, 9, 10, 11] mixed (by kernel_rfl) (⟨hg, hgv⟩) ?_
  refine Sx.calm rfl rfl (Cm.load sca22 rfl (fun H hH => cellF0 hH.1 rfl)) rfl ?_
  refine Sx.calm rfl rfl (Cm.move rfl) rfl ?_
  refine Sx.calm rfl rfl (Cm.indexAddr sl22 rfl rfl hv.1.non (by omega)) rfl ?_
  refine Sx.calm rfl rfl (Cm.field fld34_0 rfl) rfl ?_
  refine Sx.calm rfl rfl (Cm.load sca28 rfl (fun H hH => hH.2.rowZ x.toNat (by omega) hp 0 _ rfl)) rfl ?_
  refine Sx.calm rfl rfl (Cm.load sca22 rfl (fun H hH => cellF0 hH.1 rfl)) rfl ?_
  refine Sx.calm rfl rfl (Cm.move rfl) rfl ?_
  refine Sx.calm rfl rfl (Cm.indexAddr sl22 rfl rfl hv.1.non (by omega)) rfl ?_
  refine Sx.calm rfl rfl (Cm.field fld34_0 rfl) rfl ?_
  refine Sx.calm rfl rfl (Cm.load sca28 rfl (fun H hH => hH.2.rowZ y.toNat (by omega) hq 0 _ rfl)) rfl ?_
  refine Sx.eff rfl rfl (Sl.call fn41 rfl ((by show Calls _ _ [Value.slice p.1.names.a p.1.names.n p.1.names.c, Value.slice q.1.names.a q.1.names.n q.1.names.c].toArray _ _; rw [hpn.1, hqn.1]; exact compare_ok _ _ _ _ p.2.names q.2.names _ hpn.2.1 hqn.2.1)) rfl ?_)
  rintro _ w3 ⟨rfl, hw3⟩
  subst hw3
  refine Sx.on (by exact ⟨hg, hgv⟩) ?_
  refine Sx.calm rfl rfl (Cm.assign rfl) rfl ?_
  refine Sx.nil ?_
  refine At.weak [(0, _), (1, _), (2, _), (5, _)] ⟨rfl, rfl, rfl, rfl, trivial⟩ ?_
  refine At.go ?_
  refine Sc.ret ?_
  refine At.ret1 rfl rfl ?_
  exact ⟨_, rfl, rfl, (Foot.refl _ _).draws 1⟩
set_option maxHeartbeats 1000000 in
theorem last_ok (o : Option Addr) (c : Nat) (a : List (List UInt8)) (W : World) (ha : Vw strE W.heap o c a) (hne : a ≠ []) :
    Calls Try.prog 42 [.slice o a.length c].toArray W (Ret fun v w' => v = .string (bs (lastN a)) ∧ Foot nob W w') := by
  have h63 := ha.len63
  have h0 : 0 < a.length := by rcases a with _ | ⟨x, r⟩; exact absurd rfl hne; simp
  have hl : a[a.length - 1]? = some (lastN a) := by unfold lastN; rw [List.getD, List.getElem?_eq_getElem (by omega)]; rfl
  refine calls_of_sc 9 [(0, _)] Try.func42 rfl rfl rfl (enter_slots ⟨rfl, trivial⟩) ?_
  refine Sc.seq ?_
  refine Sc.region ?_
  refine Sl.calm (Cm.assign rfl) rfl ?_
  refine Sl.nil ?_
  refine At.go ?_
  refine Sc.seq ?_
  refine Sc.region ?_
  refine Sl.calm (Cm.move rfl) rfl ?_
  refine Sl.calm (Cm.move rfl) rfl ?_
  refine Sl.calm (Cm.len sl28 rfl) rfl ?_
  refine Sl.calm (Cm.sub64 rfl rfl (by omega)) rfl ?_
  refine Sl.calm (Cm.indexAddr1 sl28 rfl rfl ha.non (by omega)) rfl ?_
  refine Sl.calm (Cm.ofEq (u := .string (bs (lastN a))) (Cm.ld sca9 rfl (ha.gz [] (a.length - 1) (by omega) (by omega))) rfl) rfl ?_
  refine Sl.calm (Cm.assign rfl) rfl ?_
  refine Sl.nil ?_
  refine At.weak [(0, _), (2, _)] ⟨rfl, rfl, trivial⟩ ?_
  refine At.go ?_
  refine Sc.ret ?_
  refine At.ret1 rfl rfl ?_
  exact ⟨_, rfl, rfl, Foot.refl _ _⟩
set_option maxHeartbeats 2000000 in
theorem kids_ok (lo : Option Addr) (lc : Nat) (ps : List (NdH × Nd)) (so : Option Addr) (sc : Nat) (s : List (List UInt8)) (W : World) (hv : NodesV D W.heap lo lc ps) (hs : Vw strE W.heap so sc s) (hn : ps.length ≤ 100000) :
    Calls Try.prog 16 [.slice lo ps.length lc, .slice so s.length sc].toArray W (Ret fun v w' => ∃ o c ys, v = .slice o (List.length (α := Int) ys) c ∧ Own i64 3 w'.heap o c ys ∧ Fr W.heap.size o ∧ KidsL ps s ys ∧ Foot nob W w') := by
  have h63 := hv.1.len63
  have hs63 : s.length ≤ 9223372036854775807 := by have := hs.len63; omega
  refine calls_of_sc 37 [(0, _), (1, _)] Try.func16 rfl rfl rfl (enter_slots ⟨rfl, rfl, trivial⟩) ?_
  refine Sc.seq ?_
  refine Sc.region ?_
  refine Sl.box rfl rfl ?_
  intro w1 hg1 hs1 hf1
  obtain ⟨g, hg⟩ : ∃ g, g = W.heap.size := ⟨_, rfl⟩
  rw [← hg] at hg1 hs1 ⊢
  replace hg1 : w1.heap[g]? = some (.cells [Value.slice lo ps.length lc].toArray 22 (0, 0)) := hg1
  refine Sl.calm (Cm.assign rfl) rfl ?_
  refine Sl.nil ?_
  refine At.go ?_
  refine Sc.seq ?_
  refine Sc.region ?_
  refine Sl.calm (Cm.assign rfl) rfl ?_
  refine Sl.nil ?_
  refine At.go ?_
  refine Sc.seq ?_
  refine Sc.seq ?_
  refine Sc.region ?_
  refine Sl.calm (Cm.ofEq (u := .slice lo ps.length lc) (Cm.ld sca22 rfl (cellF0 hg1 rfl)) rfl) rfl ?_
  refine Sl.calm (Cm.len sl22 rfl) rfl ?_
  refine Sl.calm (Cm.move rfl) rfl ?_
  refine Sl.nil ?_
  refine At.go ?_
  refine Sc.block ?_
  refine Sc.loop (β := Nat × Option Addr × Nat) (fun ⟨i, o, c⟩ => [(0, .slice lo ps.length lc), (1, .slice so s.length sc), (2, .pointer (some ⟨g, 0, none⟩)), (5, .slice o (kidG ps s i).length c), (8, .slice lo ps.length lc), (9, .int .i64 ps.length), (10, .int .i64 i)]) (fun ⟨i, o, c⟩ w => i ≤ ps.length ∧ Own i64 3 w.heap o c (kidG ps s i) ∧ Fr w1.heap.size o ∧ Foot nob w1 w) (fun ⟨i, o, c⟩ => ps.length - i) ⟨0, none, 0⟩ ⟨rfl, rfl, rfl, rfl, rfl, rfl, rfl, trivial⟩ ⟨Nat.zero_le _, Own.nil, Fr.none, Foot.refl _ _⟩ ?_
  rintro ⟨i, o, c⟩ w2 ⟨hi, ho2, hfo, hF2⟩
  refine Sc.seq ?_
  refine Sc.region ?_
  refine Sl.fork (Cm.lss rfl rfl) rfl (fun h11 => ?_) (fun h11 => ?_)
  ·
    have hil : i < ps.length := by omega
    obtain ⟨p, hp⟩ : ∃ p, ps[i]? = some p := ⟨_, List.getElem?_eq_getElem hil⟩
    have hv2 := (hv.grow hf1).grow hF2
    have hll := kidG_len (ps := ps) (s := s) i
    have hnm := nmG_at hp
    have hpl : p.2.names.length ≤ 9223372036854775807 := by have := ((hv2.2 p (List.mem_of_getElem? hp)).1).2.1.len63; omega
    refine Sl.nil ?_
    refine At.go ?_
    refine Sc.seq ?_
    refine Sc.cond_t rfl ?_
    refine Sc.skip ?_
    refine At.go ?_
    refine Sc.seq ?_
    refine Sc.block ?_
    refine Sc.seq ?_
    refine Sc.region ?_
    refine Sl.calm (Cm.move rfl) rfl ?_
    refine Sl.calm (Cm.indexAddr sl22 rfl rfl hv2.1.non (by omega)) rfl ?_
    refine Sl.calm (Cm.ldM (cs := encN p) agg34 rfl (fun j v hj => hv2.1.rowZ i rfl hp j v hj)) rfl ?_
    refine Sl.allocC zc34 rfl ?_
    intro w3 hg3 hs3 hf3
    obtain ⟨r, hr⟩ : ∃ r, r = w2.heap.size := ⟨_, rfl⟩
    rw [← hr] at hg3 ⊢
    refine Sl.calm (Cm.assign rfl) rfl ?_
    refine Sl.storeAll (vs := encN p) agg34 rfl rfl (encN_cells p).2 hg3 rfl ?_
    intro w4 hg4 hs4 hf4
    have hf24 : Foot nob w2 w4 := hf3.trans_to hf4 (fun k e => .inr (by have e : k = r := e; omega))
    have hF4 : Foot nob w1 w4 := hF2.trans hf24
    have hv4 := (hv.grow hf1).grow hF4
    have hs4 := (hs.grow hf1).grow hF4
    have hn4 := (hv4.2 p (List.mem_of_getElem? hp)).1
    have ho4 := ho2.grow hf24
    refine Sl.nil ?_
    refine At.weak [(0, _), (1, _), (2, _), (5, _), (6, _), (7, _), (8, _), (9, _), (10, _), (11, _)] ⟨rfl, rfl, rfl, rfl, rfl, rfl, rfl, rfl, rfl, rfl, trivial⟩ ?_
    refine At.go ?_
    refine Sc.seq ?_
    refine Sc.region ?_
    refine Sl.calm (Cm.field fld34_0 rfl) rfl ?_
    refine Sl.calm (Cm.ld sca28 rfl (cellF hg4 rfl)) rfl ?_
    refine Sl.calm (Cm.ofEq (u := .int .i64 p.2.names.length) (Cm.len sl28 rfl) (by rw [← hn4.1])) rfl ?_
    refine Sl.calm (Cm.move rfl) rfl ?_
    refine Sl.calm (Cm.len sl28 rfl) rfl ?_
    refine Sl.calm (Cm.addW rfl rfl) rfl ?_
    refine Sl.fork (Cm.eql rfl rfl) rfl (fun h21 => ?_) (fun h21 => ?_)
    ·
      replace h21 := (wrap_succ hpl hs63).1 h21
      refine Sl.calm (Cm.move rfl) rfl ?_
      refine Sl.want rfl rfl (Cm.field fld34_0 rfl) rfl ?_
      refine Sl.want rfl rfl (Cm.ld sca28 rfl (cellF hg4 rfl)) rfl ?_
      refine Sl.want rfl rfl (Cm.move rfl) rfl ?_
      refine Sl.callWant rfl rfl fn38 rfl ((by show Calls _ _ [Value.slice p.1.names.a p.1.names.n p.1.names.c, _].toArray _ _; rw [hn4.1]; exact below_ok p.1.names.a so p.1.names.c sc p.2.names s w4 hn4.2.1 hs4)) rfl ?_
      rintro _ w5 ⟨rfl, hf5⟩
      by_cases h26 : belowP p.2.names s
      ·
        rw [decide_eq_true h26]
        have hkd : kidQ (nmG ps i) s := by rw [hnm]; exact kidQ_below.2 ⟨by omega, h26⟩
        refine Sl.calm (Cm.pick_t rfl rfl) rfl ?_
        refine Sl.nil ?_
        refine At.weak [(0, _), (1, _), (2, _), (5, _), (6, _), (7, _), (8, _), (9, _), (10, _), (11, _), (27, _)] ⟨rfl, rfl, rfl, rfl, rfl, rfl, rfl, rfl, rfl, rfl, rfl, trivial⟩ ?_
        refine At.go ?_
        refine Sc.cond_t rfl ?_
        refine Sc.region ?_
        refine Sl.calm (Cm.move rfl) rfl ?_
        refine Sl.calm (Cm.move rfl) rfl ?_
        refine Sl.lit1 (enc := i64) (u := (i : Int)) sl37 (i64_oneS _) rfl rfl ?_
        intro w6 ho6 hs6 hf6
        refine Sl.append i64_oneS sl37 rfl rfl ((ho4.grow hf5).grow hf6) ho6.vw (by simp only [List.length_singleton]; omega) (by simp only [List.length_singleton]; unfold maxLen; omega) rfl ?_
        intro o7 c7 w7 ho7 hf7 hr7 hn7
        refine Sl.calm (Cm.assign rfl) rfl ?_
        refine Sl.nil ?_
        refine At.block_normal ?_
        refine At.weak [(0, _), (1, _), (2, _), (5, _), (6, _), (7, _), (8, _), (9, _), (10, _), (11, _), (27, _)] ⟨rfl, rfl, rfl, rfl, rfl, rfl, rfl, rfl, rfl, rfl, rfl, trivial⟩ ?_
        refine At.go ?_
        refine Sc.region ?_
        refine Sl.calm (Cm.add64 rfl rfl (by omega)) rfl ?_
        refine Sl.calm (Cm.move rfl) rfl ?_
        refine Sl.nil ?_
        have hF7 : Foot nob w1 w7 := (hF4.trans (hf5.trans hf6)).trans_to hf7 hfo.step
        rw [← kidG_yes hkd] at ho7 ⊢
        exact At.again ⟨i + 1, o7, c7⟩ ⟨rfl, rfl, rfl, rfl, rfl, rfl, rfl, trivial⟩ ⟨by omega, ho7, fr_app hfo hr7 (by have := hF2.size; have := hf24.size; have := hf5.size; have := hf6.size; omega), hF7⟩ (by show ps.length - (i + 1) < ps.length - i; omega)
      ·
        rw [decide_eq_false h26]
        have hkd : ¬ kidQ (nmG ps i) s := by rw [hnm]; exact fun h => h26 (kidQ_below.1 h).2
        refine Sl.calm (Cm.pick_t rfl rfl) rfl ?_
        refine Sl.nil ?_
        refine At.weak [(0, _), (1, _), (2, _), (5, _), (6, _), (7, _), (8, _), (9, _), (10, _), (11, _), (27, _)] ⟨rfl, rfl, rfl, rfl, rfl, rfl, rfl, rfl, rfl, rfl, rfl, trivial⟩ ?_
        refine At.go ?_
        refine Sc.cond_f rfl ?_
        refine Sc.skip ?_
        refine At.block_normal ?_
        refine At.go ?_
        refine Sc.region ?_
        refine Sl.calm (Cm.add64 rfl rfl (by omega)) rfl ?_
        refine Sl.calm (Cm.move rfl) rfl ?_
        refine Sl.nil ?_
        have key : ∀ w5 : World, Foot nob w4 w5 → ¬ kidQ (nmG ps i) s → (Own i64 3 w5.heap o c (kidG ps s (i + 1)) ∧ Value.slice o (kidG ps s i).length c = .slice o (kidG ps s (i + 1)).length c) := fun w5 hf hk => by rw [kidG_no hk]; exact ⟨ho4.grow hf, rfl⟩
        first
          | exact At.again ⟨i + 1, o, c⟩ ⟨rfl, rfl, rfl, congrArg some (key w5 hf5 hkd).2, rfl, rfl, rfl, trivial⟩ ⟨by omega, (key w5 hf5 hkd).1, hfo, hF4.trans hf5⟩ (by show ps.length - (i + 1) < ps.length - i; omega)
          | exact At.again ⟨i + 1, o, c⟩ ⟨rfl, rfl, rfl, congrArg some (key w4 (Foot.refl _ _) (by rw [hnm]; exact fun h => h21 (by have := h.1; omega))).2, rfl, rfl, rfl, trivial⟩ ⟨by omega, (key w4 (Foot.refl _ _) (by rw [hnm]; exact fun h => h21 (by have := h.1; omega))).1, hfo, hF4⟩ (by show ps.length - (i + 1) < ps.length - i; omega)
    ·
      replace h21 := fun h => h21 ((wrap_succ hpl hs63).2 h)
      refine Sl.calm (Cm.move rfl) rfl ?_
      refine Sl.skip rfl rfl rfl rfl ?_
      refine Sl.skip rfl rfl rfl rfl ?_
      refine Sl.skip rfl rfl rfl rfl ?_
      refine Sl.skip rfl rfl rfl rfl ?_
      refine Sl.calm (Cm.pick_f rfl rfl) rfl ?_
      refine Sl.nil ?_
      refine At.weak [(0, _), (1, _), (2, _), (5, _), (6, _), (7, _), (8, _), (9, _), (10, _), (11, _), (27, _)] ⟨rfl, rfl, rfl, rfl, rfl, rfl, rfl, rfl, rfl, rfl, rfl, trivial⟩ ?_
      refine At.go ?_
      refine Sc.cond_f rfl ?_
      refine Sc.skip ?_
      refine At.block_normal ?_
      refine At.go ?_
      refine Sc.region ?_
      refine Sl.calm (Cm.add64 rfl rfl (by omega)) rfl ?_
      refine Sl.calm (Cm.move rfl) rfl ?_
      refine Sl.nil ?_
      have key : ∀ w5 : World, Foot nob w4 w5 → ¬ kidQ (nmG ps i) s → (Own i64 3 w5.heap o c (kidG ps s (i + 1)) ∧ Value.slice o (kidG ps s i).length c = .slice o (kidG ps s (i + 1)).length c) := fun w5 hf hk => by rw [kidG_no hk]; exact ⟨ho4.grow hf, rfl⟩
      first
        | exact At.again ⟨i + 1, o, c⟩ ⟨rfl, rfl, rfl, congrArg some (key w5 hf5 hkd).2, rfl, rfl, rfl, trivial⟩ ⟨by omega, (key w5 hf5 hkd).1, hfo, hF4.trans hf5⟩ (by show ps.length - (i + 1) < ps.length - i; omega)
        | exact At.again ⟨i + 1, o, c⟩ ⟨rfl, rfl, rfl, congrArg some (key w4 (Foot.refl _ _) (by rw [hnm]; exact fun h => h21 (by have := h.1; omega))).2, rfl, rfl, rfl, trivial⟩ ⟨by omega, (key w4 (Foot.refl _ _) (by rw [hnm]; exact fun h => h21 (by have := h.1; omega))).1, hfo, hF4⟩ (by show ps.length - (i + 1) < ps.length - i; omega)
  ·
    have hie : i = ps.length := by omega
    subst hie
    have hapw : ∀ w, Foot (blk o) w2 w → Foot nob w1 w := fun w hf => hF2.trans_to hf hfo.step
    have hvk : ∀ w, Foot (blk o) w2 w → NodesV D w.heap lo lc ps := fun w hf => (hv.grow hf1).grow (hapw w hf)
    have hgk : ∀ w, Foot (blk o) w2 w → w.heap[g]? = some (.cells [Value.slice lo ps.length lc].toArray 22 (0, 0)) := fun w hf => (hapw w hf).obj hg1 id
    refine Sl.nil ?_
    refine At.go ?_
    refine Sc.seq ?_
    refine Sc.cond_f rfl ?_
    refine Sc.exit ?_
    refine At.then_exit ?_
    refine At.then_exit ?_
    refine At.block_hit ?_
    refine At.go ?_
    refine Sc.seq ?_
    refine Sc.region ?_
    refine Sl.calm (Cm.move rfl) rfl ?_
    refine Sl.calm (Cm.makeFunc (vs := [.pointer (some ⟨g, 0, none⟩)]) rfl) rfl ?_
    refine Sl.call fn39 rfl (sortStable_ok (V := fun z : Int => 0 ≤ z ∧ z < ps.length) (K := fun z : Int => nmG ps z.toNat) w2 o ⟨fn40, fun w x y hf hx hy => kcmp_ok lo lc ps g x y w (hvk w hf) (hgk w hf) hx hy⟩ c (kidG ps s ps.length).length (by have := kidG_len (ps := ps) (s := s) ps.length; omega) (kidG ps s ps.length) w2 ⟨ho2, rfl, Foot.refl _ _⟩ (fun z hz => by obtain ⟨k, e, hk, _⟩ := kidG_mem.1 hz; omega) (inc_of (kidG_inc _))) rfl ?_
    rintro _ w8 ⟨rfl, ys, hy, hyp, hys⟩
    have hF8 : Foot nob w1 w8 := hF2.trans_to hy.2.2 hfo.step
    refine Sl.nil ?_
    refine At.weak [(0, _), (1, _), (2, _), (5, _), (8, _), (9, _), (10, _), (11, _)] ⟨rfl, rfl, rfl, rfl, rfl, rfl, rfl, rfl, trivial⟩ ?_
    refine At.go ?_
    refine Sc.seq ?_
    refine Sc.region ?_
    refine Sl.calm (Cm.move rfl) rfl ?_
    refine Sl.calm (Cm.assign rfl) rfl ?_
    refine Sl.nil ?_
    refine At.weak [(0, _), (1, _), (2, _), (4, _), (5, _), (8, _), (9, _), (10, _), (11, _)] ⟨rfl, rfl, rfl, rfl, rfl, rfl, rfl, rfl, rfl, trivial⟩ ?_
    refine At.go ?_
    refine Sc.ret ?_
    refine At.ret1 rfl rfl ?_
    exact ⟨_, rfl, o, c, ys, by rw [hy.2.1], hy.1, hfo.mono (by omega), ⟨hyp, by rw [hy.2.1]; exact hys⟩, hf1.trans hF8⟩
end Go.Proofs.Ytpnfjfbfgaiolaa
