/- tree: the law TreeOrder. No condition beyond the bounds that each states. -/
import Derived.Test.YtpnfjfbfgaiolaaToA
namespace Go.Proofs.Ytpnfjfbfgaiolaa
open Go Go.RowKit Go.Maps
set_option linter.unusedVariables false

/-! xor -/
def xorZ (a b : Int) : Int := IntKind.i64.wrap (((BitVec.ofInt 64 a ^^^ BitVec.ofInt 64 b).toNat : Nat) : Int)
theorem wrapF (z : Int) : IntKind.i64.wrap z = if 9223372036854775808 ≤ z % 18446744073709551616 then z % 18446744073709551616 - 18446744073709551616 else z % 18446744073709551616 := by
  unfold IntKind.wrap; simp [IntKind.bits, IntKind.signed]
theorem wrap_inj {a b : Nat} (ha : a < 2 ^ 64) (hb : b < 2 ^ 64) (h : IntKind.i64.wrap (a : Int) = IntKind.i64.wrap (b : Int)) : a = b := by
  rw [wrapF, wrapF] at h
  split at h <;> split at h <;> omega
theorem wrap_range (a : Nat) : -9223372036854775808 ≤ IntKind.i64.wrap (a : Int) ∧ IntKind.i64.wrap (a : Int) ≤ 9223372036854775807 := by
  rw [wrapF]
  split <;> omega
theorem ofInt_inj {a b : Int} (ha : -9223372036854775808 ≤ a ∧ a ≤ 9223372036854775807) (hb : -9223372036854775808 ≤ b ∧ b ≤ 9223372036854775807) (h : BitVec.ofInt 64 a = BitVec.ofInt 64 b) : a = b := by
  have h1 := congrArg BitVec.toInt h
  rw [BitVec.toInt_ofInt, BitVec.toInt_ofInt, Int.bmod_eq_of_le (by omega) (by omega), Int.bmod_eq_of_le (by omega) (by omega)] at h1
  exact h1
theorem xorZ_inj {a b m : Int} (ha : -9223372036854775808 ≤ a ∧ a ≤ 9223372036854775807) (hb : -9223372036854775808 ≤ b ∧ b ≤ 9223372036854775807) (h : xorZ a m = xorZ b m) : a = b := by
  have h1 := wrap_inj (BitVec.isLt _) (BitVec.isLt _) h
  have h2 := BitVec.eq_of_toNat_eq h1
  refine ofInt_inj ha hb ?_
  have h3 := congrArg (· ^^^ BitVec.ofInt 64 m) h2
  simpa [BitVec.xor_assoc] using h3
section
variable {P : Program} {N : Nt} {l : SF} {ty t' : TypeId} {pos : String} {aft : Array Edge} {dd : Option Nat} {g : Option (Nat × Bool)} {CH : Array Obj → Prop} {x y : Operand} {t : TypeId} {a b : Int}
theorem Cm.xorI (hx : evL l x = some (.int .i64 a)) (hy : evL l y = some (.int .i64 b)) : Cm P N CH l ⟨dd, .binOp .xor t x y t', ty, pos, aft, g⟩ (.int .i64 (xorZ a b)) := fun c w hc _ => by
  have h3 : (Op.intBits .xor .i64 a b).run P w = .ok (.int .i64 (xorZ a b)) w := rfl
  simp [execOp, hc.ev hx, hc.ev hy, eqGuard, binOp, h3]
end
theorem tmod_bd (z : Int) {n : Nat} (h : 0 < n) : -(n : Int) < z.tmod n ∧ z.tmod n < n := by
  rcases Int.le_total 0 z with hz | hz
  · rw [Int.tmod_eq_emod_of_nonneg hz]
    have := Int.emod_nonneg z (show (n : Int) ≠ 0 by omega)
    have := Int.emod_lt_of_pos z (show (0 : Int) < n by omega)
    omega
  · have e : z = -(-z) := by omega
    rw [e, Int.neg_tmod, Int.tmod_eq_emod_of_nonneg (show 0 ≤ -z by omega)]
    have := Int.emod_nonneg (-z) (show (n : Int) ≠ 0 by omega)
    have := Int.emod_lt_of_pos (-z) (show (0 : Int) < n by omega)
    omega
theorem pick_perm {α : Type} {os rs R : List α} {k : Nat} {q : α} (h : (os ++ rs).Perm R) (hq : rs[k]? = some q) : ((os ++ [q]) ++ (rs.take k ++ rs.drop (k + 1))).Perm R := by
  refine List.Perm.trans ?_ h
  have e : rs = rs.take k ++ q :: rs.drop (k + 1) := by rw [← drop_at hq, List.take_append_drop]
  conv => rhs; rw [e]
  rw [List.append_assoc]
  exact List.Perm.append_left os (show (q :: (rs.take k ++ rs.drop (k + 1))).Perm _ from List.perm_middle.symm)
variable {D : Nat → Prop}
theorem ren_tk {f : Int → Int} {ps : List (NdH × Nd)} {i : Nat} {p : NdH × Nd} (hp : ps[i]? = some p) : (ps.take (i + 1)).map (renQ f) = (ps.take i).map (renQ f) ++ [renQ f p] := by rw [tkL hp]; simp
theorem ok_ren {m : Int} {n : Nd} (h : okN n) : okN (renI (fun z => xorZ z m) n) := fun z hz => by
  simp only [renI, List.mem_cons, List.not_mem_nil, or_false] at hz
  rcases hz with rfl | rfl | rfl | rfl | rfl
  · exact wrap_range _
  · exact h _ (by simp)
  · exact h _ (by simp)
  · exact h _ (by simp)
  · exact h _ (by simp)
theorem ok_can {ls qs : List (NdH × Nd)} (h : ∀ p ∈ ls, okN p.2) (hl : ls.length ≤ 1024) (hq : nds qs = nds (canP ls)) : ∀ q ∈ qs, okN q.2 := by
  intro q hqm z hz
  obtain ⟨i, hi⟩ := List.getElem?_of_mem hqm
  obtain ⟨p, hp, e⟩ := can_at hq hi
  have hpm := (srt_perm ls).mem_iff.1 (List.mem_of_getElem? hp)
  obtain ⟨h1, h2, _⟩ := can_ino hq hi
  have h3 := seen_le (inosOf ((srtP ls).take i))
  have h4 : (inosOf ((srtP ls).take i)).length ≤ (srtP ls).length := by unfold inosOf; rw [List.length_map, List.length_take]; omega
  have h5 := (srt_perm ls).length_eq
  unfold seenN at h2
  simp only [List.mem_cons, List.not_mem_nil, or_false] at hz
  rcases hz with rfl | rfl | rfl | rfl | rfl
  · omega
  · rw [e]; exact h p hpm _ (by simp [renP])
  · rw [e]; exact h p hpm _ (by simp [renP])
  · rw [e]; exact h p hpm _ (by simp [renP])
  · rw [e]; exact h p hpm _ (by simp [renP])
theorem sm_can {ls qs : List (NdH × Nd)} (h : ∀ p ∈ ls, smN p.2) (hq : nds qs = nds (canP ls)) : ∀ q ∈ qs, smN q.2 := by
  intro q hqm
  obtain ⟨i, hi⟩ := List.getElem?_of_mem hqm
  obtain ⟨p, hp, e⟩ := can_at hq hi
  rw [e]
  exact h p ((srt_perm ls).mem_iff.1 (List.mem_of_getElem? hp))
set_option maxHeartbeats 8000000 in
theorem treeOrder_ok (lo : Option Addr) (lc : Nat) (ps : List (NdH × Nd)) (oo : Option Addr) (oc : Nat) (od : List Int) (more : Int) (W : World) (hv : NodesV D W.heap lo lc ps) (hw : ∀ p ∈ ps, okN p.2 ∧ smN p.2) (hvo : Vw i64 W.heap oo oc od) :
    Calls Try.prog 7 [.slice lo ps.length lc, .slice oo od.length oc, .int .i64 more].toArray W (Ret fun v w' => v = .bool true ∧ Foot nob W w') := by
  have hfl := few_len ps
  have ho63 := hvo.len63
  obtain ⟨f, hf⟩ : ∃ f : Int → Int, f = fun z => xorZ z more := ⟨_, rfl⟩
  refine calls_of_sc 131 [(0, _), (1, _), (2, _)] Try.func7 rfl rfl rfl (enter_slots ⟨rfl, rfl, rfl, trivial⟩) ?_
  refine Sc.seq ?_
  refine Sc.region ?_
  refine Sl.calm (Cm.assign rfl) rfl ?_
  refine Sl.nil ?_
  refine At.go ?_
  refine Sc.seq ?_
  refine Sc.region ?_
  refine Sl.call fn10 rfl (shown_ok W) rfl ?_
  rintro _ w1 ⟨rfl, hf1⟩
  refine Sl.calm (Cm.assign rfl) rfl ?_
  refine Sl.nil ?_
  refine At.weak [(0, _), (1, _), (2, _), (6, _), (7, _)] ⟨rfl, rfl, rfl, rfl, rfl, trivial⟩ ?_
  refine At.go ?_
  refine Sc.seq ?_
  refine Sc.region ?_
  refine Sl.calm (Cm.move rfl) rfl ?_
  refine Sl.call fn11 rfl (few_ok lo lc ps w1 (hv.grow hf1)) rfl ?_
  rintro _ w2 ⟨o, c, rfl, ho, hfo, hf2, hvf⟩
  obtain ⟨ls, hls⟩ : ∃ ls, ls = fewL ps := ⟨_, rfl⟩
  have hok2 := ok_few hw
  have hsm2 := sm_few hw
  rw [← hls] at hvf hok2 hsm2 hfl ⊢
  refine Sl.calm (Cm.assign rfl) rfl ?_
  refine Sl.nil ?_
  refine At.weak [(0, _), (1, _), (2, _), (6, _), (7, _)] ⟨rfl, rfl, rfl, rfl, rfl, trivial⟩ ?_
  refine At.go ?_
  refine Sc.seq ?_
  refine Sc.region ?_
  refine Sl.calm (Cm.move rfl) rfl ?_
  refine Sl.call fn22 rfl (canon_ok o c ls w2 hvf hsm2 hok2) rfl ?_
  rintro _ w3 ⟨oa, ca, qa, rfl, ha1, ha2, hva, hfa, hf3⟩
  have hF3 := (hf1.trans hf2).trans hf3
  have hv3 := hvf.grow hf3
  have hinj : InjOn f (inosOf ls) := fun a ha b hb h => by
    obtain ⟨p, hp, rfl⟩ := List.mem_map.1 ha
    obtain ⟨q, hq, rfl⟩ := List.mem_map.1 hb
    rw [hf] at h
    exact xorZ_inj (hok2 p hp _ (by simp)) (hok2 q hq _ (by simp)) h
  refine Sl.calm (Cm.move rfl) rfl ?_
  refine Sl.calm (Cm.extract rfl rfl) rfl ?_
  refine Sl.calm (Cm.extract rfl rfl) rfl ?_
  refine Sl.calm (Cm.assign rfl) rfl ?_
  refine Sl.calm (Cm.assign rfl) rfl ?_
  refine Sl.nil ?_
  refine At.weak [(0, _), (1, _), (2, _), (6, _), (7, _), (8, _), (9, _)] ⟨rfl, rfl, rfl, rfl, rfl, rfl, rfl, trivial⟩ ?_
  refine At.go ?_
  refine Sc.seq ?_
  refine Sc.region ?_
  refine Sl.lit0M encN_cells sl22 rfl ?_
  intro w4 ho4 hs4 hf4
  refine Sl.calm (Cm.assign rfl) rfl ?_
  refine Sl.nil ?_
  refine At.weak [(0, _), (1, _), (2, _), (6, _), (7, _), (8, _), (9, _), (10, _)] ⟨rfl, rfl, rfl, rfl, rfl, rfl, rfl, rfl, trivial⟩ ?_
  refine At.go ?_
  refine Sc.seq ?_
  refine Sc.seq ?_
  refine Sc.region ?_
  refine Sl.calm (Cm.assign rfl) rfl ?_
  refine Sl.nil ?_
  refine At.go ?_
  refine Sc.block ?_
  refine Sc.loop (β := Nat × Option Addr × Nat) (fun ⟨i, o1, c1⟩ => [(0, .slice o ls.length c), (1, .slice oo od.length oc), (2, .int .i64 more), (7, .bool true), (8, .slice oa qa.length ca), (9, .int .i64 (chk (nds ls))), (10, .slice o1 ((ls.take i).map (renQ f)).length c1), (11, .int .i64 i)]) (fun ⟨i, o1, c1⟩ w => i ≤ ls.length ∧ OwnM 10 encN 34 w.heap o1 c1 ((ls.take i).map (renQ f)) ∧ Fr w3.heap.size o1 ∧ Foot nob w3 w) (fun ⟨i, o1, c1⟩ => ls.length - i) ⟨0, some ⟨w3.heap.size, 0, none⟩, 0⟩ ⟨rfl, rfl, rfl, rfl, rfl, rfl, rfl, rfl, trivial⟩ ⟨Nat.zero_le _, ho4, fr_at2 _, hf4⟩ ?_
  rintro ⟨i, o1, c1⟩ w5 ⟨hi, ho5, hfr5, hF5⟩
  refine Sc.seq ?_
  refine Sc.seq ?_
  refine Sc.region ?_
  refine Sl.calm (Cm.move rfl) rfl ?_
  refine Sl.calm (Cm.move rfl) rfl ?_
  refine Sl.calm (Cm.len sl22 rfl) rfl ?_
  refine Sl.fork (Cm.lss rfl rfl) rfl (fun h34 => ?_) (fun h34 => ?_)
  ·
    have hil : i < ls.length := by omega
    obtain ⟨p, hp⟩ : ∃ p, ls[i]? = some p := ⟨_, List.getElem?_eq_getElem hil⟩
    have hv5 := hv3.grow hF5
    refine Sl.nil ?_
    refine At.weak [(0, _), (1, _), (2, _), (7, _), (8, _), (9, _), (10, _), (11, _), (34, _)] ⟨rfl, rfl, rfl, rfl, rfl, rfl, rfl, rfl, rfl, trivial⟩ ?_
    refine At.go ?_
    refine Sc.cond_t rfl ?_
    refine Sc.skip ?_
    refine At.go ?_
    refine Sc.seq ?_
    refine Sc.block ?_
    refine Sc.seq ?_
    refine Sc.region ?_
    refine Sl.calm (Cm.move rfl) rfl ?_
    refine Sl.calm (Cm.move rfl) rfl ?_
    refine Sl.calm (Cm.indexAddr sl22 rfl rfl hv5.1.non (by omega)) rfl ?_
    refine Sl.calm (Cm.ldM (cs := encN p) agg34 rfl (fun j v hj => hv5.1.rowZ i rfl hp j v hj)) rfl ?_
    refine Sl.allocC zc34 rfl ?_
    intro w6 hg6 hs6 hf6
    obtain ⟨q, hq⟩ : ∃ q, q = w5.heap.size := ⟨_, rfl⟩
    rw [← hq] at hg6 ⊢
    refine Sl.storeAll (vs := encN p) agg34 rfl rfl (encN_cells p).2 hg6 rfl ?_
    intro w7 hg7 hs7 hf7
    have hf57 : Foot nob w5 w7 := hf6.trans_to hf7 (fun k e => .inr (by have e : k = q := e; omega))
    refine Sl.nil ?_
    refine At.weak [(0, _), (1, _), (2, _), (7, _), (8, _), (9, _), (10, _), (11, _), (12, _), (34, _)] ⟨rfl, rfl, rfl, rfl, rfl, rfl, rfl, rfl, rfl, rfl, trivial⟩ ?_
    refine At.go ?_
    refine Sc.seq ?_
    refine Sc.region ?_
    refine Sl.calm (Cm.field fld34_1 rfl) rfl ?_
    refine Sl.calm (Cm.ld sca3 rfl (cellF hg7 rfl)) rfl ?_
    refine Sl.calm (Cm.move rfl) rfl ?_
    refine Sl.calm (Cm.xorI rfl rfl) rfl ?_
    refine Sl.calm (Cm.field fld34_1 rfl) rfl ?_
    refine Sl.store sca3 rfl rfl rfl hg7 rfl ?_
    intro w8 hg8 hs8 hf8
    have hf58 : Foot nob w5 w8 := hf57.trans_to hf8 (fun k e => .inr (by have e : k = q := e; omega))
    have hgr : w8.heap[q]? = some (.cells (encN (renQ f p)).toArray 34 (0, 0)) := by rw [hf]; exact hg8
    refine Sl.nil ?_
    refine At.weak [(0, _), (1, _), (2, _), (7, _), (8, _), (9, _), (10, _), (11, _), (12, _), (34, _)] ⟨rfl, rfl, rfl, rfl, rfl, rfl, rfl, rfl, rfl, rfl, trivial⟩ ?_
    refine At.go ?_
    refine Sc.region ?_
    refine Sl.calm (Cm.move rfl) rfl ?_
    refine Sl.calm (Cm.ldM (cs := encN (renQ f p)) agg34 rfl (cellsF hgr 0 rfl)) rfl ?_
    obtain ⟨y, hy⟩ : ∃ y, y = renQ f p := ⟨_, rfl⟩
    rw [← hy]
    refine Sl.litG sl22 (cs := (encN y).toArray) zc34 rfl rfl rfl (by kernel_rfl) rfl ?_
    intro w9 hg9 hs9 hf9
    have ho9 : OwnM 10 encN 34 w9.heap (some ⟨w8.heap.size, 0, none⟩) 1 [y] := ownM_new (xs := [y]) encN_cells (by simpa using hg9) (by show 1 ≤ maxLen; decide)
    refine Sl.appendM encN_cells rfl sl22 rfl rfl ((ho5.grow hf58).grow hf9) (ho9.vw encN_cells) (by simp only [List.length_singleton, List.length_map, List.length_take]; omega) (by simp only [List.length_singleton, List.length_map, List.length_take]; unfold maxLen; omega) rfl ?_
    intro oA cA wA hoA hfA hrA hnA
    rw [hy, ← ren_tk hp] at hoA ⊢
    have hFA : Foot nob w3 wA := (hF5.trans (hf58.trans hf9)).trans_to hfA hfr5.step
    have hfrA : Fr w3.heap.size oA := fr_app hfr5 hrA (by have := hF5.size; have := hf58.size; have := hf9.size; omega)
    refine Sl.calm (Cm.assign rfl) rfl ?_
    refine Sl.nil ?_
    refine At.block_normal ?_
    refine At.weak [(0, _), (1, _), (2, _), (7, _), (8, _), (9, _), (10, _), (11, _), (12, _), (34, _)] ⟨rfl, rfl, rfl, rfl, rfl, rfl, rfl, rfl, rfl, rfl, trivial⟩ ?_
    refine At.go ?_
    refine Sc.region ?_
    refine Sl.calm (Cm.move rfl) rfl ?_
    refine Sl.calm (Cm.add64 rfl rfl (by omega)) rfl ?_
    refine Sl.calm (Cm.assign rfl) rfl ?_
    refine Sl.nil ?_
    exact At.again ⟨i + 1, oA, cA⟩ ⟨rfl, rfl, rfl, rfl, rfl, rfl, rfl, rfl, trivial⟩ ⟨by omega, hoA, hfrA, hFA⟩ (by show ls.length - (i + 1) < ls.length - i; omega)
  ·
    have hie : i = ls.length := by omega
    subst hie
    rw [List.take_length] at ho5
    refine Sl.nil ?_
    refine At.weak [(0, _), (1, _), (2, _), (7, _), (8, _), (9, _), (10, _), (11, _), (34, _)] ⟨rfl, rfl, rfl, rfl, rfl, rfl, rfl, rfl, rfl, trivial⟩ ?_
    refine At.go ?_
    refine Sc.cond_f rfl ?_
    refine Sc.exit ?_
    refine At.then_exit ?_
    refine At.then_exit ?_
    refine At.block_hit ?_
    refine At.go ?_
    refine Sc.seq ?_
    refine Sc.region ?_
    refine Sl.lit0M encN_cells sl22 rfl ?_
    intro wB hoB hsB hfB
    obtain ⟨R, hR⟩ : ∃ R, R = ls.map (renQ f) := ⟨_, rfl⟩
    have hoR := ho5.grow hfB
    rw [← hR] at hoR
    have hRl : R.length = ls.length := by rw [hR, List.length_map]
    have hltR := ho5.lt
    have hFB := hF5.trans hfB
    refine Sl.calm (Cm.assign rfl) rfl ?_
    refine Sl.nil ?_
    refine At.weak [(0, _), (1, _), (2, _), (7, _), (8, _), (9, _), (10, _), (11, _), (13, _), (34, _)] ⟨rfl, rfl, rfl, rfl, rfl, rfl, rfl, rfl, rfl, rfl, trivial⟩ ?_
    refine At.go ?_
    refine Sc.seq ?_
    refine Sc.seq ?_
    refine Sc.region ?_
    refine Sl.calm (Cm.assign rfl) rfl ?_
    refine Sl.nil ?_
    refine At.go ?_
    refine Sc.block ?_
    refine Sc.loop (β := Nat × (Option Addr × Nat × List (NdH × Nd)) × (Option Addr × Nat × List (NdH × Nd))) (fun ⟨i, ⟨o1, c1, rs⟩, ⟨o2, c2, os⟩⟩ => [(1, .slice oo od.length oc), (7, .bool true), (8, .slice oa qa.length ca), (9, .int .i64 (chk (nds ls))), (10, .slice o1 rs.length c1), (13, .slice o2 os.length c2), (14, .int .i64 i)]) (fun ⟨i, ⟨o1, c1, rs⟩, ⟨o2, c2, os⟩⟩ w => (i + rs.length = ls.length ∧ os.length = i) ∧ OwnM 10 encN 34 w.heap o1 c1 rs ∧ Fr w3.heap.size o1 ∧ OwnM 10 encN 34 w.heap o2 c2 os ∧ Fr w3.heap.size o2 ∧ (∀ a b : Addr, o1 = some a → o2 = some b → a.block ≠ b.block) ∧ (os ++ rs).Perm R ∧ Foot nob w3 w) (fun ⟨i, ⟨o1, c1, rs⟩, ⟨o2, c2, os⟩⟩ => rs.length) ⟨0, ⟨o1, c1, R⟩, ⟨some ⟨w5.heap.size, 0, none⟩, 0, []⟩⟩ ⟨rfl, rfl, rfl, rfl, (congrArg (fun n : Nat => some (Value.slice o1 n c1)) (by rw [hR, List.length_map, List.length_map, List.take_length])), rfl, rfl, trivial⟩ ⟨⟨by omega, rfl⟩, hoR, hfr5, hoB, fun a ha => by cases ha; exact hF5.size, fun a b ha hb e => by cases hb; have := hltR a ha; have e : a.block = w5.heap.size := e; omega, by simp, hFB⟩ ?_
    rintro ⟨i, ⟨o1, c1, rs⟩, ⟨o2, c2, os⟩⟩ wC ⟨⟨hir, hol⟩, ho1, hfr1, ho2, hfr2, hap, hpe, hFC⟩
    refine Sc.seq ?_
    refine Sc.seq ?_
    refine Sc.region ?_
    refine Sl.calm (Cm.move rfl) rfl ?_
    refine Sl.calm (Cm.len sl22 rfl) rfl ?_
    refine Sl.fork (Cm.gtr rfl rfl) rfl (fun h53 => ?_) (fun h53 => ?_)
    ·
      have hrl : 0 < rs.length := by omega
      refine Sl.nil ?_
      refine At.weak [(1, _), (7, _), (8, _), (9, _), (10, _), (13, _), (14, _), (53, _)] ⟨rfl, rfl, rfl, rfl, rfl, rfl, rfl, rfl, trivial⟩ ?_
      refine At.go ?_
      refine Sc.cond_t rfl ?_
      refine Sc.skip ?_
      refine At.go ?_
      refine Sc.seq ?_
      refine Sc.block ?_
      refine Sc.seq ?_
      refine Sc.region ?_
      refine Sl.calm (Cm.assign rfl) rfl ?_
      refine Sl.nil ?_
      refine At.go ?_
      refine Sc.cut (β := Int) (fun z => [(1, .slice oo od.length oc), (7, .bool true), (8, .slice oa qa.length ca), (9, .int .i64 (chk (nds ls))), (10, .slice o1 rs.length c1), (13, .slice o2 os.length c2), (14, .int .i64 i), (15, .int .i64 z)]) (fun z w => (-(rs.length : Int) < z ∧ z < rs.length) ∧ w = wC) ?_ ?_
      ·
        refine Sc.seq ?_
        refine Sc.region ?_
        refine Sl.calm (Cm.move rfl) rfl ?_
        refine Sl.calm (Cm.move rfl) rfl ?_
        refine Sl.calm (Cm.len sl37 rfl) rfl ?_
        refine Sl.fork (Cm.lss rfl rfl) rfl (fun h59 => ?_) (fun h59 => ?_)
        ·
          have hov := hvo.grow (hF3.trans hFC)
          obtain ⟨z, hz⟩ : ∃ z, od[i]? = some z := ⟨_, List.getElem?_eq_getElem (by omega)⟩
          refine Sl.nil ?_
          refine At.weak [(1, _), (7, _), (8, _), (9, _), (10, _), (13, _), (14, _), (15, _), (53, _), (59, _)] ⟨rfl, rfl, rfl, rfl, rfl, rfl, rfl, rfl, rfl, rfl, trivial⟩ ?_
          refine At.go ?_
          refine Sc.cond_t rfl ?_
          refine Sc.region ?_
          refine Sl.calm (Cm.move rfl) rfl ?_
          refine Sl.calm (Cm.move rfl) rfl ?_
          refine Sl.calm (Cm.indexAddr1 sl37 rfl rfl hov.non (by omega)) rfl ?_
          refine Sl.calm (Cm.ld sca3 rfl (hov.get i z hz)) rfl ?_
          refine Sl.calm (Cm.move rfl) rfl ?_
          refine Sl.calm (Cm.len sl22 rfl) rfl ?_
          refine Sl.calm (Cm.remW rfl rfl (by omega)) rfl ?_
          have htb := tmod_bd z hrl
          refine Sl.calm (Cm.assign rfl) rfl ?_
          refine Sl.nil ?_
          first
            | exact At.cut _ ⟨rfl, rfl, rfl, rfl, rfl, rfl, rfl, rfl, trivial⟩ ⟨htb, rfl⟩
            | exact At.cut 0 ⟨rfl, rfl, rfl, rfl, rfl, rfl, rfl, rfl, trivial⟩ ⟨by omega, rfl⟩
        ·
          refine Sl.nil ?_
          refine At.weak [(1, _), (7, _), (8, _), (9, _), (10, _), (13, _), (14, _), (15, _), (53, _), (59, _)] ⟨rfl, rfl, rfl, rfl, rfl, rfl, rfl, rfl, rfl, rfl, trivial⟩ ?_
          refine At.go ?_
          refine Sc.cond_f rfl ?_
          refine Sc.skip ?_
          first
            | exact At.cut _ ⟨rfl, rfl, rfl, rfl, rfl, rfl, rfl, rfl, trivial⟩ ⟨htb, rfl⟩
            | exact At.cut 0 ⟨rfl, rfl, rfl, rfl, rfl, rfl, rfl, rfl, trivial⟩ ⟨by omega, rfl⟩
      ·
        rintro z wz ⟨htz, hwz⟩
        subst wz
        refine Sc.cut (β := Nat) (fun k => [(1, .slice oo od.length oc), (7, .bool true), (8, .slice oa qa.length ca), (9, .int .i64 (chk (nds ls))), (10, .slice o1 rs.length c1), (13, .slice o2 os.length c2), (14, .int .i64 i), (15, .int .i64 k)]) (fun k w => k < rs.length ∧ w = wC) ?_ ?_
        ·
          refine Sc.seq ?_
          refine Sc.region ?_
          refine Sl.calm (Cm.move rfl) rfl ?_
          refine Sl.fork (Cm.lss rfl rfl) rfl (fun h68 => ?_) (fun h68 => ?_)
          ·
            refine Sl.nil ?_
            refine At.weak [(1, _), (7, _), (8, _), (9, _), (10, _), (13, _), (14, _), (15, _), (68, _)] ⟨rfl, rfl, rfl, rfl, rfl, rfl, rfl, rfl, rfl, trivial⟩ ?_
            refine At.go ?_
            refine Sc.cond_t rfl ?_
            refine Sc.region ?_
            refine Sl.calm (Cm.move rfl) rfl ?_
            refine Sl.calm (Cm.neg64 rfl (by omega)) rfl ?_
            refine Sl.calm (Cm.assign rfl) rfl ?_
            refine Sl.nil ?_
            first
              | exact At.cut (-z).toNat ⟨rfl, rfl, rfl, rfl, rfl, rfl, rfl, congrArg (fun z : Int => some (Value.int .i64 z)) (by omega), trivial⟩ ⟨by omega, rfl⟩
              | exact At.cut z.toNat ⟨rfl, rfl, rfl, rfl, rfl, rfl, rfl, congrArg (fun z : Int => some (Value.int .i64 z)) (by omega), trivial⟩ ⟨by omega, rfl⟩
          ·
            refine Sl.nil ?_
            refine At.weak [(1, _), (7, _), (8, _), (9, _), (10, _), (13, _), (14, _), (15, _), (68, _)] ⟨rfl, rfl, rfl, rfl, rfl, rfl, rfl, rfl, rfl, trivial⟩ ?_
            refine At.go ?_
            refine Sc.cond_f rfl ?_
            refine Sc.skip ?_
            first
              | exact At.cut (-z).toNat ⟨rfl, rfl, rfl, rfl, rfl, rfl, rfl, congrArg (fun z : Int => some (Value.int .i64 z)) (by omega), trivial⟩ ⟨by omega, rfl⟩
              | exact At.cut z.toNat ⟨rfl, rfl, rfl, rfl, rfl, rfl, rfl, congrArg (fun z : Int => some (Value.int .i64 z)) (by omega), trivial⟩ ⟨by omega, rfl⟩
        ·
          rintro k wz ⟨hkr, hwz⟩
          subst wz
          refine Sc.seq ?_
          refine Sc.region ?_
          refine Sl.calm (Cm.move rfl) rfl ?_
          refine Sl.calm (Cm.move rfl) rfl ?_
          refine Sl.calm (Cm.move rfl) rfl ?_
          obtain ⟨q, hq⟩ : ∃ q, rs[k]? = some q := ⟨_, List.getElem?_eq_getElem hkr⟩
          have hvr := ho1.vw encN_cells
          refine Sl.calm (Cm.indexAddr sl22 rfl rfl hvr.non (by omega)) rfl ?_
          refine Sl.calm (Cm.ldM (cs := encN q) agg34 rfl (fun j v hj => hvr.rowZ k rfl hq j v hj)) rfl ?_
          refine Sl.litG sl22 (cs := (encN q).toArray) zc34 rfl rfl rfl (by kernel_rfl) rfl ?_
          intro wD hgD hsD hfD
          have hoD : OwnM 10 encN 34 wD.heap (some ⟨wC.heap.size, 0, none⟩) 1 [q] := ownM_new (xs := [q]) encN_cells (by simpa using hgD) (by show 1 ≤ maxLen; decide)
          refine Sl.appendM encN_cells rfl sl22 rfl rfl (ho2.grow hfD) (hoD.vw encN_cells) (by simp only [List.length_singleton]; omega) (by simp only [List.length_singleton]; unfold maxLen; omega) rfl ?_
          intro o2n c2n wE ho2E hfE hrE hnE
          have hFE : Foot nob w3 wE := (hFC.trans hfD).trans_to hfE hfr2.step
          have hfr2n : Fr w3.heap.size o2n := fr_app hfr2 hrE (by have := hFC.size; have := hfD.size; omega)
          have ho1E := (ho1.grow hfD).keep hfE (fun a ha ⟨b, hb, e⟩ => hap a b ha hb e.symm)
          have hapE : ∀ a b : Addr, o1 = some a → o2n = some b → a.block ≠ b.block := fun a b ha hb e => by rcases hrE b hb with h | h; exact hap a b ha h e; have := (ho1.grow hfD).lt a ha; omega
          refine Sl.calm (Cm.assign rfl) rfl ?_
          refine Sl.nil ?_
          refine At.weak [(1, _), (7, _), (8, _), (9, _), (10, _), (13, _), (14, _), (15, _)] ⟨rfl, rfl, rfl, rfl, rfl, rfl, rfl, rfl, trivial⟩ ?_
          refine At.go ?_
          refine Sc.draw 11 (fun _ => True) [0, 4, 9] [1, 2, 3, 5, 6, 7, 8, 0, 4, 9, 10] mixed (by kernel_rfl) (trivial) ?_
          refine Sx.calm rfl rfl (Cm.move rfl) rfl ?_
          refine Sx.calm rfl rfl (Cm.move rfl) rfl ?_
          refine Sx.calm rfl rfl (Cm.ofEq (u := .slice o1 (rs.take k).length c1) (Cm.sliceH sl22 rfl rfl (by have := (ho1.vw encN_cells).le; omega)) (by rw [cutAo_zero, List.length_take, Nat.min_eq_left (by omega)]; rfl)) rfl ?_
          refine Sx.calm rfl rfl (Cm.move rfl) rfl ?_
          refine Sx.calm rfl rfl (Cm.move rfl) rfl ?_
          refine Sx.calm rfl rfl (Cm.add64 rfl rfl (by omega)) rfl ?_
          refine Sx.calm rfl rfl (Cm.ofEq (u := .slice (cutAo o1 c1 (k + 1) 10) (rs.drop (k + 1)).length (c1 - (k + 1))) (Cm.sliceL sl22 rfl rfl (by omega)) (by rw [List.length_drop]; rfl)) rfl ?_
          refine Sx.eff rfl rfl (Sl.lit0M encN_cells sl22 rfl ?_)
          intro wF hoF hsF hfF
          have hfF := hfF.undraw
          have hoF : OwnM 10 encN 34 wF.heap (some ⟨wE.heap.size, 0, none⟩) 0 [] := hoF
          have ho1F := ho1E.grow hfF
          have ho2F := ho2E.grow hfF
          have hl1 := ho1E.lt
          have hl2 := ho2E.lt
          have hFF := hFE.trans hfF
          refine Sx.on (by exact trivial) ?_
          refine Sx.eff rfl rfl (Sl.appendM encN_cells rfl sl22 rfl rfl hoF ((ho1F.vw encN_cells).take k) (by simp only [List.length_nil, List.length_take]; omega) (by simp only [List.length_nil, List.length_take]; unfold maxLen; omega) rfl ?_)
          intro oG cG wG hoG hfG hrG hnG
          rw [List.nil_append] at hoG ⊢
          have hFG : Foot nob w3 wG := hFF.trans_to hfG (fun j ⟨a, ha, e⟩ => .inr (by cases ha; have e : wE.heap.size = j := e; have := hFE.size; omega))
          have ho1G := ho1F.keep hfG (fun a ha ⟨b, hb, e⟩ => by cases hb; have e : wE.heap.size = a.block := e; have := hl1 a ha; omega)
          have ho2G := ho2F.keep hfG (fun a ha ⟨b, hb, e⟩ => by cases hb; have e : wE.heap.size = a.block := e; have := hl2 a ha; omega)
          have hfrG : Fr wE.heap.size oG := fr_app (fr_at2 _) hrG hfF.size
          refine Sx.on (by exact trivial) ?_
          refine Sx.eff rfl rfl (Sl.appendM encN_cells rfl sl22 rfl rfl hoG ((ho1G.vw encN_cells).dropK hkr) (by simp only [List.length_take, List.length_drop]; omega) (by simp only [List.length_take, List.length_drop]; unfold maxLen; omega) rfl ?_)
          intro oH cH wH hoH hfH hrH hnH
          have hFH : Foot nob w3 wH := hFG.trans_to hfH (fun j ⟨a, ha, e⟩ => .inr (by have := hfrG a ha; have := hFE.size; omega))
          have ho2H := ho2G.keep hfH (fun a ha ⟨b, hb, e⟩ => by have := hfrG b hb; have := hl2 a ha; omega)
          have hfrH : Fr wE.heap.size oH := fr_app hfrG hrH (by have := hfF.size; have := hfG.size; omega)
          refine Sx.on (by exact trivial) ?_
          refine Sx.calm rfl rfl (Cm.assign rfl) rfl ?_
          refine Sx.nil ?_
          refine At.block_normal ?_
          refine At.weak [(1, _), (7, _), (8, _), (9, _), (10, _), (13, _), (14, _), (15, _)] ⟨rfl, rfl, rfl, rfl, rfl, rfl, rfl, rfl, trivial⟩ ?_
          refine At.go ?_
          refine Sc.region ?_
          refine Sl.calm (Cm.move rfl) rfl ?_
          refine Sl.calm (Cm.add64 rfl rfl (by omega)) rfl ?_
          refine Sl.calm (Cm.assign rfl) rfl ?_
          refine Sl.nil ?_
          exact At.again ⟨i + 1, ⟨oH, cH, rs.take k ++ rs.drop (k + 1)⟩, ⟨o2n, c2n, os ++ [q]⟩⟩ ⟨rfl, rfl, rfl, rfl, rfl, rfl, rfl, trivial⟩ ⟨⟨by simp only [List.length_append, List.length_take, List.length_drop]; omega, by simp [hol]⟩, hoH, fun a ha => by have := hfrH a ha; have := hFE.size; omega, ho2H, hfr2n, fun a b ha hb e => by have := hfrH a ha; have := hl2 b hb; omega, pick_perm hpe hq, hFH⟩ (by show (rs.take k ++ rs.drop (k + 1)).length < rs.length; simp only [List.length_append, List.length_take, List.length_drop]; omega)
    ·
      have hr0 : rs = [] := List.length_eq_zero_iff.1 (by omega)
      subst hr0
      rw [List.append_nil] at hpe
      refine Sl.nil ?_
      refine At.weak [(1, _), (7, _), (8, _), (9, _), (10, _), (13, _), (14, _), (53, _)] ⟨rfl, rfl, rfl, rfl, rfl, rfl, rfl, rfl, trivial⟩ ?_
      refine At.go ?_
      refine Sc.cond_f rfl ?_
      refine Sc.exit ?_
      refine At.then_exit ?_
      refine At.then_exit ?_
      refine At.block_hit ?_
      refine At.go ?_
      refine Sc.seq ?_
      refine Sc.region ?_
      refine Sl.calm (Cm.move rfl) rfl ?_
      have hRm : ∀ q ∈ os, ∃ p ∈ ls, q = renQ f p := fun q hq => by
        have := hpe.mem_iff.1 hq
        rw [hR] at this
        obtain ⟨p, hp, e⟩ := List.mem_map.1 this
        exact ⟨p, hp, e.symm⟩
      have hpR : os.Perm (ls.map (renQ f)) := by rw [← hR]; exact hpe
      have hgd := good_of hpR hinj
      refine Sl.call fn22 rfl (canon_ok (D := D) o2 c2 os wC ⟨ho2.vw encN_cells, fun q hq => by obtain ⟨p, hp, rfl⟩ := hRm q hq; exact (hv3.grow hFC).2 p hp⟩ (fun q hq => by obtain ⟨p, hp, rfl⟩ := hRm q hq; exact hsm2 p hp) (fun q hq => by obtain ⟨p, hp, rfl⟩ := hRm q hq; rw [hf]; exact ok_ren (hok2 p hp))) rfl ?_
      rintro _ wK ⟨ob, cb, qb, rfl, hb1, hb2, hvb, hfb, hfK⟩
      refine Sl.calm (Cm.move rfl) rfl ?_
      refine Sl.calm (Cm.extract rfl rfl) rfl ?_
      refine Sl.calm (Cm.extract rfl rfl) rfl ?_
      refine Sl.calm (Cm.assign rfl) rfl ?_
      refine Sl.calm (Cm.assign rfl) rfl ?_
      refine Sl.nil ?_
      refine At.weak [(1, _), (7, _), (8, _), (9, _), (10, _), (13, _), (14, _), (16, _), (17, _), (53, _)] ⟨rfl, rfl, rfl, rfl, rfl, rfl, rfl, rfl, rfl, rfl, trivial⟩ ?_
      refine At.go ?_
      refine Sc.seq ?_
      refine Sc.seq ?_
      refine Sc.region ?_
      refine Sl.calm (Cm.move rfl) rfl ?_
      refine Sl.fork (Cm.neq rfl rfl) rfl (fun h94 => ?_) (fun h94 => ?_)
      ·
        have hbz : chk (nds os) ≠ 0 := fun h => h94 ((chk0_iff _).2 (hgd.1 ((chk0_iff _).1 h)))
        have hq0 := ha1 h94
        refine Sl.nil ?_
        refine At.weak [(1, _), (7, _), (8, _), (9, _), (10, _), (13, _), (14, _), (16, _), (17, _), (53, _), (94, _)] ⟨rfl, rfl, rfl, rfl, rfl, rfl, rfl, rfl, rfl, rfl, rfl, trivial⟩ ?_
        refine At.go ?_
        refine Sc.cond_t rfl ?_
        refine Sc.seq ?_
        refine Sc.region ?_
        refine Sl.calm (Cm.move rfl) rfl ?_
        refine Sl.calm (Cm.move rfl) rfl ?_
        refine Sl.want rfl rfl (Cm.move rfl) rfl ?_
        refine Sl.want rfl rfl (Cm.yes (Cm.neq rfl rfl) hbz) rfl ?_
        refine Sl.calm (Cm.pick_t rfl rfl) rfl ?_
        refine Sl.calm (Cm.move rfl) rfl ?_
        refine Sl.want rfl rfl (Cm.move rfl) rfl ?_
        refine Sl.want rfl rfl (Cm.len sl22 rfl) rfl ?_
        refine Sl.want rfl rfl (Cm.yes (Cm.eql rfl rfl) (by rw [hq0]; rfl)) rfl ?_
        refine Sl.calm (Cm.pick_t rfl rfl) rfl ?_
        refine Sl.calm (Cm.assign rfl) rfl ?_
        refine Sl.nil ?_
        refine At.weak [(1, _), (6, _), (7, _), (8, _), (9, _), (10, _), (13, _), (14, _), (16, _), (17, _), (53, _), (94, _)] ⟨rfl, rfl, rfl, rfl, rfl, rfl, rfl, rfl, rfl, rfl, rfl, rfl, trivial⟩ ?_
        refine At.go ?_
        refine Sc.ret ?_
        refine At.then_ret ?_
        refine At.ret1 rfl rfl ?_
        first
          | exact ⟨_, rfl, rfl, (hF3.trans hFC).trans hfK⟩
          | exact ⟨_, rfl, rfl, (((hF3.trans hFK).trans hfL).trans hfM).trans hfN⟩
      ·
        have hz : chk (nds ls) = 0 := Classical.not_not.1 h94
        have hgl := (chk0_iff _).1 hz
        have hbz : chk (nds os) = 0 := (chk0_iff _).2 (hgd.2 hgl)
        have hcan := can_ren hpR hinj (chk_twice hbz)
        have hqa := ha2 hz
        have hqb : nds qa = nds qb := by rw [hqa, hb2 hbz, hcan]
        have hga : good (nds qa) := by rw [hqa]; exact can_good hgl
        have hcz := (chk0_iff _).2 hga
        have hFK := (hFC.trans hfK)
        refine Sl.nil ?_
        refine At.weak [(1, _), (7, _), (8, _), (9, _), (10, _), (13, _), (14, _), (16, _), (17, _), (53, _), (94, _)] ⟨rfl, rfl, rfl, rfl, rfl, rfl, rfl, rfl, rfl, rfl, rfl, trivial⟩ ?_
        refine At.go ?_
        refine Sc.cond_f rfl ?_
        refine Sc.skip ?_
        refine At.go ?_
        refine Sc.seq ?_
        refine Sc.region ?_
        refine Sl.calm (Cm.move rfl) rfl ?_
        refine Sl.call fn22 rfl (canon_ok oa ca qa wK (hva.grow hFK) (sm_can hsm2 hqa) (ok_can hok2 (by omega) hqa)) rfl ?_
        rintro _ wL ⟨od2, cd2, qc, rfl, hc1, hc2, hvc, hfc, hfL⟩
        have hqc : nds qa = nds qc := by rw [hc2 hcz, can_again hgl hqa]
        refine Sl.calm (Cm.move rfl) rfl ?_
        refine Sl.calm (Cm.extract rfl rfl) rfl ?_
        refine Sl.calm (Cm.extract rfl rfl) rfl ?_
        refine Sl.calm (Cm.assign rfl) rfl ?_
        refine Sl.calm (Cm.assign rfl) rfl ?_
        refine Sl.nil ?_
        refine At.weak [(1, _), (7, _), (8, _), (9, _), (10, _), (13, _), (14, _), (16, _), (17, _), (18, _), (19, _), (53, _), (94, _)] ⟨rfl, rfl, rfl, rfl, rfl, rfl, rfl, rfl, rfl, rfl, rfl, rfl, rfl, trivial⟩ ?_
        refine At.go ?_
        refine Sc.seq ?_
        refine Sc.region ?_
        refine Sl.calm (Cm.move rfl) rfl ?_
        refine Sl.calm (Cm.move rfl) rfl ?_
        refine Sl.call fn24 rfl (rsameN_ok oa ob ca cb qa qb wL (hva.grow (hFK.trans hfL)) (hvb.grow hfL)) rfl ?_
        rintro _ wM ⟨hs1, ⟨b1, rfl⟩, hfM⟩
        obtain rfl : b1 = true := by simpa using hs1.2 hqb
        refine Sl.calm (Cm.assign rfl) rfl ?_
        refine Sl.nil ?_
        refine At.weak [(1, _), (7, _), (8, _), (9, _), (10, _), (13, _), (14, _), (16, _), (17, _), (18, _), (19, _), (20, _), (53, _), (94, _)] ⟨rfl, rfl, rfl, rfl, rfl, rfl, rfl, rfl, rfl, rfl, rfl, rfl, rfl, rfl, trivial⟩ ?_
        refine At.go ?_
        refine Sc.seq ?_
        refine Sc.region ?_
        refine Sl.calm (Cm.move rfl) rfl ?_
        refine Sl.calm (Cm.move rfl) rfl ?_
        refine Sl.call fn24 rfl (rsameN_ok oa od2 ca cd2 qa qc wM (hva.grow ((hFK.trans hfL).trans hfM)) (hvc.grow hfM)) rfl ?_
        rintro _ wN ⟨hs2, ⟨b2, rfl⟩, hfN⟩
        obtain rfl : b2 = true := by simpa using hs2.2 hqc
        refine Sl.calm (Cm.assign rfl) rfl ?_
        refine Sl.nil ?_
        refine At.weak [(1, _), (7, _), (8, _), (9, _), (10, _), (13, _), (14, _), (16, _), (17, _), (18, _), (19, _), (20, _), (21, _), (53, _), (94, _)] ⟨rfl, rfl, rfl, rfl, rfl, rfl, rfl, rfl, rfl, rfl, rfl, rfl, rfl, rfl, rfl, trivial⟩ ?_
        refine At.go ?_
        refine Sc.seq ?_
        refine Sc.region ?_
        refine Sl.calm (Cm.move rfl) rfl ?_
        refine Sl.calm (Cm.move rfl) rfl ?_
        refine Sl.want rfl rfl (Cm.move rfl) rfl ?_
        refine Sl.want rfl rfl (Cm.yes (Cm.eql rfl rfl) hbz) rfl ?_
        refine Sl.calm (Cm.pick_t rfl rfl) rfl ?_
        refine Sl.calm (Cm.move rfl) rfl ?_
        refine Sl.want rfl rfl (Cm.move rfl) rfl ?_
        refine Sl.want rfl rfl (Cm.yes (Cm.eql rfl rfl) hcz) rfl ?_
        refine Sl.calm (Cm.pick_t rfl rfl) rfl ?_
        refine Sl.calm (Cm.move rfl) rfl ?_
        refine Sl.want rfl rfl (Cm.move rfl) rfl ?_
        refine Sl.calm (Cm.pick_t rfl rfl) rfl ?_
        refine Sl.calm (Cm.move rfl) rfl ?_
        refine Sl.want rfl rfl (Cm.move rfl) rfl ?_
        refine Sl.calm (Cm.pick_t rfl rfl) rfl ?_
        refine Sl.calm (Cm.assign rfl) rfl ?_
        refine Sl.nil ?_
        refine At.weak [(1, _), (6, _), (7, _), (8, _), (9, _), (10, _), (13, _), (14, _), (16, _), (17, _), (18, _), (19, _), (20, _), (21, _), (53, _), (94, _)] ⟨rfl, rfl, rfl, rfl, rfl, rfl, rfl, rfl, rfl, rfl, rfl, rfl, rfl, rfl, rfl, rfl, trivial⟩ ?_
        refine At.go ?_
        refine Sc.ret ?_
        refine At.ret1 rfl rfl ?_
        first
          | exact ⟨_, rfl, rfl, (hF3.trans hFC).trans hfK⟩
          | exact ⟨_, rfl, rfl, (((hF3.trans hFK).trans hfL).trans hfM).trans hfN⟩
end Go.Proofs.Ytpnfjfbfgaiolaa
