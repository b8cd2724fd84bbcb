/- tree: the program's linked and Check. No condition beyond the bounds that each states. -/
import Derived.Test.YtpnfjfbfgaiolaaTrKk
namespace Go.Proofs.Ytpnfjfbfgaiolaa
open Go Go.RowKit Go.Maps
set_option linter.unusedVariables false

/-! a struct's field -/
def fldV (P : Program) (s f o : Nat) : Bool := match P.underlying s with
  | some (.struct fs) => (match fs[f]? with | some x => decide (x.offset = o) && scaB P x.type | none => false)
  | _ => false
section
variable {P : Program} {N : Nt} {l : SF} {ty : TypeId} {pos : String} {aft : Array Edge} {dd : Option Nat} {g : Option (Nat × Bool)} {CH : Array Obj → Prop} {x : Operand} {v : Value}
theorem Cm.fieldV {cs : List Value} {s f o : Nat} (hs : fldV P s f o = true) (hx : evL l x = some (.agg cs.toArray)) (hv : cs[o]? = some v) : Cm P N CH l ⟨dd, .field s x f, ty, pos, aft, g⟩ v := fun a w ha _ => by
  unfold fldV at hs
  split at hs
  · rename_i fs hu
    split at hs
    · rename_i y hy
      simp only [Bool.and_eq_true, decide_eq_true_eq] at hs
      obtain ⟨h1, h2⟩ := hs
      simp [execOp, ha.ev hx, Instr.field, run_underlying hu, hy, part, sca_agg h2, h1, asAgg, hv]
    · cases hs
  · cases hs
end
theorem fvKind : fldV Try.prog 34 2 2 = true := by kernel_rfl

/-! nodes by their numbers -/
theorem mpI : MapT Try.prog 76 3 34 zNd := ⟨by kernel_rfl, by kernel_rfl⟩
def atK (qs : List (NdH × Nd)) (z : Int) : NdH × Nd := (qs.find? (fun q => decide (q.2.ino = z))).getD (ndh0, nd0)
def hasK (qs : List (NdH × Nd)) (z : Int) : Prop := ∃ q ∈ qs, q.2.ino = z
instance (qs : List (NdH × Nd)) (z : Int) : Decidable (hasK qs z) := by unfold hasK; exact inferInstance
def MapK (qs : List (NdH × Nd)) (m : List (I6 × Value)) : Prop := ∀ z : I6, getM m z = (qs.find? (fun q => decide (q.2.ino = z.1))).map (fun q => Value.agg (encN q).toArray)
section
variable {qs : List (NdH × Nd)} {m : List (I6 × Value)}
theorem MapK.nil : MapK [] [] := fun z => rfl
theorem MapK.z (h : MapK qs m) (z : I6) : (getM m z).getD zNd = Value.agg (encN (atK qs z.1)).toArray := by
  rw [h z]; unfold atK
  cases qs.find? (fun q => decide (q.2.ino = z.1)) <;> rfl
theorem MapK.is (h : MapK qs m) (z : I6) : decide ((getM m z).isSome = true) = decide (hasK qs z.1) := by
  apply decide_eq_decide.2
  rw [h z, Option.isSome_map, List.find?_isSome]
  simp [hasK]
theorem MapK.new (h : MapK qs m) {p : NdH × Nd} (z : I6) (hz : z.1 = p.2.ino) (hn : ¬ hasK qs p.2.ino) : MapK (qs ++ [p]) (setM m z (.agg (encN p).toArray)) := fun y => by
  rw [setM_get, List.find?_append]
  by_cases e : y = z
  · subst e
    have : qs.find? (fun q => decide (q.2.ino = y.1)) = none := List.find?_eq_none.2 (fun q hq => by simpa using fun e => hn ⟨q, hq, by rw [e, hz]⟩)
    rw [if_pos rfl, this]; simp [hz]
  · have : [p].find? (fun q => decide (q.2.ino = y.1)) = none := by
      have : ¬ p.2.ino = y.1 := fun g => e (Subtype.ext (by rw [← g, hz]))
      simp [this]
    rw [if_neg e, h y, this, Option.or_none]
theorem MapK.old (h : MapK qs m) {p : NdH × Nd} (hn : hasK qs p.2.ino) : MapK (qs ++ [p]) m := fun y => by
  rw [List.find?_append, h y]
  by_cases e : y.1 = p.2.ino
  · obtain ⟨q, hq, hi⟩ := hn
    have : (qs.find? (fun q => decide (q.2.ino = y.1))).isSome = true := by
      rw [List.find?_isSome]; exact ⟨q, hq, by simp [hi, e]⟩
    obtain ⟨r, hr⟩ := Option.isSome_iff_exists.1 this
    rw [hr]; rfl
  · have : [p].find? (fun q => decide (q.2.ino = y.1)) = none := by
      have : ¬ p.2.ino = y.1 := fun g => e g.symm
      simp [this]
    rw [this, Option.or_none]
theorem atK_mem {z : Int} (h : hasK qs z) : atK qs z ∈ qs ∧ (atK qs z).2.ino = z := by
  obtain ⟨q, hq, hi⟩ := h
  have : (qs.find? (fun q => decide (q.2.ino = z))).isSome = true := by
    rw [List.find?_isSome]; exact ⟨q, hq, by simp [hi]⟩
  obtain ⟨r, hr⟩ := Option.isSome_iff_exists.1 this
  unfold atK
  rw [hr]
  exact ⟨List.mem_of_find?_eq_some hr, by simpa using List.find?_some (p := fun q : NdH × Nd => decide (q.2.ino = z)) hr⟩
end
theorem lnk_alk {l : List Nd} (h : l.Pairwise lnkR) {b q : Nd} (hb : b ∈ l) (hq : q ∈ l) (e : b.ino = q.ino) : Alk b q := by
  obtain ⟨i, h1, rfl⟩ := List.getElem_of_mem hb
  obtain ⟨j, h2, rfl⟩ := List.getElem_of_mem hq
  rcases Nat.lt_trichotomy i j with hlt | heq | hgt
  · exact (List.pairwise_iff_getElem.1 h i j h1 h2 hlt e.symm).2.symm
  · subst heq; exact Alk.refl _
  · exact (List.pairwise_iff_getElem.1 h j i h2 h1 hgt e).2
theorem take_mem {ps : List (NdH × Nd)} {i : Nat} {q : NdH × Nd} (h : q ∈ ps.take i) : q.2 ∈ (nds ps).take i := by
  rw [← nds_take]; exact List.mem_map.2 ⟨q, h, rfl⟩
theorem lnk_snoc {ps : List (NdH × Nd)} {i : Nat} {p : NdH × Nd} (hp : ps[i]? = some p) (h : ((nds ps).take i).Pairwise lnkR) (hb : ∀ b ∈ (nds ps).take i, lnkR b p.2) : ((nds ps).take (i + 1)).Pairwise lnkR := by
  rw [tkN hp]
  exact List.pairwise_append.2 ⟨h, by simp, fun b hb' a ha => by rw [List.mem_singleton] at ha; subst ha; exact hb b hb'⟩
theorem lnk_old {ps : List (NdH × Nd)} {i : Nat} {p : NdH × Nd} (hp : ps[i]? = some p) (h : ((nds ps).take i).Pairwise lnkR) (ho : hasK (ps.take i) p.2.ino) (hk : p.2.kind ≠ 1) (ha : Alk p.2 (atK (ps.take i) p.2.ino).2) : ((nds ps).take (i + 1)).Pairwise lnkR :=
  lnk_snoc hp h fun b hb e => ⟨hk, ha.trans (lnk_alk h (take_mem (atK_mem ho).1) hb ((atK_mem ho).2.trans e))⟩
theorem lnk_new {ps : List (NdH × Nd)} {i : Nat} {p : NdH × Nd} (hp : ps[i]? = some p) (h : ((nds ps).take i).Pairwise lnkR) (ho : ¬ hasK (ps.take i) p.2.ino) : ((nds ps).take (i + 1)).Pairwise lnkR :=
  lnk_snoc hp h fun b hb e => absurd (show hasK (ps.take i) p.2.ino by
    rw [← nds_take] at hb
    obtain ⟨q, hq, rfl⟩ := List.mem_map.1 hb
    exact ⟨q, hq, e.symm⟩) ho
theorem lnk_bad {ps : List (NdH × Nd)} {i : Nat} {p : NdH × Nd} (hp : ps[i]? = some p) (ho : hasK (ps.take i) p.2.ino) (hb : ¬ (p.2.kind ≠ 1 ∧ Alk p.2 (atK (ps.take i) p.2.ino).2)) : ¬ (nds ps).Pairwise lnkR := by
  intro h
  obtain ⟨h1, h2⟩ := atK_mem ho
  obtain ⟨j, hj⟩ := List.getElem?_of_mem h1
  rw [List.getElem?_take] at hj
  split at hj
  · exact hb (lnk_at h (by assumption) hj hp h2.symm)
  · cases hj
variable {D : Nat → Prop}
set_option maxHeartbeats 4000000 in
theorem linked_ok (lo : Option Addr) (lc : Nat) (ps : List (NdH × Nd)) (W : World) (hv : NodesV D W.heap lo lc ps) (hok : ∀ p ∈ ps, okN p.2) :
    Calls Try.prog 32 [.slice lo ps.length lc].toArray W (Ret fun v w' => v = .int .i64 (if (nds ps).Pairwise lnkR then 0 else 8) ∧ Foot nob W w') := by
  have h63 := hv.1.len63
  refine calls_of_sc 41 [(0, _)] Try.func32 rfl rfl rfl (enter_slots ⟨rfl, trivial⟩) ?_
  refine Sc.seq ?_
  refine Sc.region ?_
  refine Sl.calm (Cm.assign rfl) rfl ?_
  refine Sl.nil ?_
  refine At.go ?_
  refine Sc.seq ?_
  refine Sc.region ?_
  refine Sl.makeMap (enc := enI) rfl ?_
  intro w1 hm1 hs1 hf1
  obtain ⟨g, hg⟩ : ∃ g, g = W.heap.size := ⟨_, rfl⟩
  rw [← hg] at hm1 ⊢
  refine Sl.calm (Cm.assign rfl) rfl ?_
  refine Sl.nil ?_
  refine At.weak [(0, _), (2, _), (3, _)] ⟨rfl, rfl, rfl, trivial⟩ ?_
  refine At.go ?_
  refine Sc.seq ?_
  refine Sc.seq ?_
  refine Sc.region ?_
  refine Sl.calm (Cm.move rfl) rfl ?_
  refine Sl.calm (Cm.len sl22 rfl) rfl ?_
  refine Sl.calm (Cm.move rfl) rfl ?_
  refine Sl.nil ?_
  refine At.go ?_
  refine Sc.block ?_
  refine Sc.loop (β := Nat × List (I6 × Value)) (fun ⟨i, m⟩ => [(0, .slice lo ps.length lc), (3, .map (some g)), (9, .slice lo ps.length lc), (10, .int .i64 ps.length), (11, .int .i64 i)]) (fun ⟨i, m⟩ w => i ≤ ps.length ∧ MapL enI w.heap g m ∧ MapK (ps.take i) m ∧ ((nds ps).take i).Pairwise lnkR ∧ Foot nob W w) (fun ⟨i, m⟩ => ps.length - i) ⟨0, []⟩ ⟨rfl, rfl, rfl, rfl, rfl, trivial⟩ ⟨Nat.zero_le _, hm1, MapK.nil, by simp, hf1⟩ ?_
  rintro ⟨i, m⟩ w4 ⟨hi, hm4, hMK, hlk, hF4⟩
  refine Sc.seq ?_
  refine Sc.region ?_
  refine Sl.fork (Cm.lss rfl rfl) rfl (fun h12 => ?_) (fun h12 => ?_)
  ·
    have hil : i < ps.length := by omega
    obtain ⟨p, hp⟩ : ∃ p, ps[i]? = some p := ⟨_, List.getElem?_eq_getElem hil⟩
    have hpm := List.mem_of_getElem? hp
    have hv4 := hv.grow hF4
    have hzi := hok p hpm p.2.ino (by simp)
    refine Sl.nil ?_
    refine At.go ?_
    refine Sc.seq ?_
    refine Sc.cond_t rfl ?_
    refine Sc.skip ?_
    refine At.go ?_
    refine Sc.seq ?_
    refine Sc.block ?_
    refine Sc.seq ?_
    refine Sc.region ?_
    refine Sl.calm (Cm.indexAddr sl22 rfl rfl hv4.1.non (by omega)) rfl ?_
    refine Sl.calm (Cm.ldM (cs := encN p) agg34 rfl (fun j v hj => hv4.1.rowZ i rfl hp j v hj)) rfl ?_
    refine Sl.allocC zc34 rfl ?_
    intro w5 hg5 hs5 hf5
    obtain ⟨q, hq⟩ : ∃ q, q = w4.heap.size := ⟨_, rfl⟩
    rw [← hq] at hg5 ⊢
    refine Sl.storeAll (vs := encN p) agg34 rfl rfl (encN_cells p).2 hg5 rfl ?_
    intro w6 hg6 hs6 hf6
    have hf46 : Foot nob w4 w6 := hf5.trans_to hf6 (fun k e => .inr (by have e : k = q := e; omega))
    have hF6 : Foot nob W w6 := hF4.trans hf46
    have hm6 := hm4.keep hf46 id
    have hgq : g < q := by rw [hq]; exact hm4.obj
    refine Sl.nil ?_
    refine At.weak [(0, _), (3, _), (5, _), (9, _), (10, _), (11, _), (12, _)] ⟨rfl, rfl, rfl, rfl, rfl, rfl, rfl, trivial⟩ ?_
    refine At.go ?_
    refine Sc.seq ?_
    refine Sc.region ?_
    refine Sl.calm (Cm.move rfl) rfl ?_
    refine Sl.calm (Cm.field fld34_1 rfl) rfl ?_
    refine Sl.calm (Cm.ld sca3 rfl (cellF hg6 rfl)) rfl ?_
    refine Sl.calm (Cm.ofEq (u := .tuple [.agg (encN (atK (ps.take i) p.2.ino)).toArray, .bool (decide (hasK (ps.take i) p.2.ino))].toArray) (Cm.lookupOk mpI keyI (a := (⟨p.2.ino, hzi⟩ : I6)) rfl rfl (fun _ e => by rw [e]; exact hm6)) (by rw [hMK.z, hMK.is])) rfl ?_
    refine Sl.calm (Cm.move rfl) rfl ?_
    refine Sl.calm (Cm.extract rfl rfl) rfl ?_
    refine Sl.calm (Cm.extract rfl rfl) rfl ?_
    by_cases h21 : hasK (ps.take i) p.2.ino
    ·
      rw [decide_eq_true h21]
      refine Sl.allocC zc34 rfl ?_
      intro w8 hg8 hs8 hf8
      obtain ⟨r, hr⟩ : ∃ r, r = w6.heap.size := ⟨_, rfl⟩
      rw [← hr] at hg8 ⊢
      refine Sl.storeAll (vs := encN (atK (ps.take i) p.2.ino)) agg34 rfl rfl (encN_cells _).2 hg8 rfl ?_
      intro w9 hg9 hs9 hf9
      have hf69 : Foot nob w6 w9 := hf8.trans_to hf9 (fun k e => .inr (by have e : k = r := e; omega))
      have hF9 : Foot nob W w9 := hF6.trans hf69
      have hm9 := hm6.keep hf69 id
      have hgn := hf69.obj hg6 id
      have hv9 := hv.grow hF9
      refine Sl.calm (Cm.assign rfl) rfl ?_
      refine Sl.nil ?_
      refine At.weak [(0, _), (3, _), (5, _), (6, _), (7, _), (9, _), (10, _), (11, _), (12, _)] ⟨rfl, rfl, rfl, rfl, rfl, rfl, rfl, rfl, rfl, trivial⟩ ?_
      refine At.go ?_
      refine Sc.seq ?_
      refine Sc.seq ?_
      refine Sc.region ?_
      refine Sl.calm (Cm.move rfl) rfl ?_
      refine Sl.calm (Cm.move rfl) rfl ?_
      refine Sl.want rfl rfl (Cm.field fld34_2 rfl) rfl ?_
      refine Sl.want rfl rfl (Cm.ld sca3 rfl (cellF hgn rfl)) rfl ?_
      refine Sl.forkWant rfl rfl (Cm.eql rfl rfl) rfl (fun h26 => ?_) (fun h26 => ?_)
      ·
        refine Sl.want rfl rfl (Cm.move rfl) rfl ?_
        refine Sl.skip rfl rfl rfl rfl ?_
        refine Sl.skip rfl rfl rfl rfl ?_
        refine Sl.skip rfl rfl rfl rfl ?_
        refine Sl.skip rfl rfl rfl rfl ?_
        refine Sl.want rfl rfl (Cm.pick_t rfl rfl) rfl ?_
        refine Sl.calm (Cm.pick_t rfl rfl) rfl ?_
        refine Sl.nil ?_
        refine At.weak [(0, _), (3, _), (5, _), (6, _), (7, _), (9, _), (10, _), (11, _), (12, _), (33, _)] ⟨rfl, rfl, rfl, rfl, rfl, rfl, rfl, rfl, rfl, rfl, trivial⟩ ?_
        refine At.go ?_
        refine Sc.cond_t rfl ?_
        refine Sc.seq ?_
        refine Sc.region ?_
        refine Sl.calm (Cm.assign rfl) rfl ?_
        refine Sl.nil ?_
        refine At.go ?_
        refine Sc.ret ?_
        refine At.then_ret ?_
        refine At.block_ret ?_
        refine At.then_ret ?_
        refine At.then_ret ?_
        refine At.block_ret ?_
        refine At.then_ret ?_
        refine At.ret1 rfl rfl ?_
        first
          | exact ⟨_, rfl, by rw [if_neg (lnk_bad hp h21 (fun h => h.1 h26))], hF9⟩
          | exact ⟨_, rfl, by rw [if_neg (lnk_bad hp h21 (fun h => h30 h.2))], hF9.trans hf10⟩
          | exact ⟨_, rfl, by rw [if_pos hlk], hF4⟩
      ·
        refine Sl.want rfl rfl (Cm.move rfl) rfl ?_
        refine Sl.want rfl rfl (Cm.ldM (cs := encN p) agg34 rfl (cellsF hgn 0 rfl)) rfl ?_
        refine Sl.want rfl rfl (Cm.ldM (cs := encN (atK (ps.take i) p.2.ino)) agg34 rfl (cellsF hg9 0 rfl)) rfl ?_
        refine Sl.callWant rfl rfl fn14 rfl (alike_ok p (atK (ps.take i) p.2.ino) w9 (hv9.2 p hpm) (hv9.2 _ (List.mem_of_mem_take (atK_mem h21).1))) rfl ?_
        rintro _ w10 ⟨rfl, hf10⟩
        by_cases h30 : Alk p.2 (atK (ps.take i) p.2.ino).2
        ·
          rw [decide_eq_true h30]
          refine Sl.want rfl rfl (Cm.not rfl) rfl ?_
          refine Sl.want rfl rfl (Cm.pick_f rfl rfl) rfl ?_
          refine Sl.calm (Cm.pick_t rfl rfl) rfl ?_
          refine Sl.nil ?_
          refine At.weak [(0, _), (3, _), (5, _), (6, _), (7, _), (9, _), (10, _), (11, _), (12, _), (33, _)] ⟨rfl, rfl, rfl, rfl, rfl, rfl, rfl, rfl, rfl, rfl, trivial⟩ ?_
          refine At.go ?_
          refine Sc.cond_f rfl ?_
          refine Sc.skip ?_
          refine At.go ?_
          refine Sc.seq ?_
          refine Sc.region ?_
          refine Sl.calm (Cm.move rfl) rfl ?_
          refine Sl.calm (Cm.not rfl) rfl ?_
          refine Sl.nil ?_
          refine At.weak [(0, _), (3, _), (5, _), (6, _), (7, _), (9, _), (10, _), (11, _), (12, _), (33, _), (35, _)] ⟨rfl, rfl, rfl, rfl, rfl, rfl, rfl, rfl, rfl, rfl, rfl, trivial⟩ ?_
          refine At.go ?_
          refine Sc.cond_f rfl ?_
          refine Sc.skip ?_
          refine At.block_normal ?_
          refine At.go ?_
          refine Sc.region ?_
          refine Sl.calm (Cm.add64 rfl rfl (by omega)) rfl ?_
          refine Sl.calm (Cm.move rfl) rfl ?_
          refine Sl.nil ?_
          first
            | exact At.again ⟨i + 1, m⟩ ⟨rfl, rfl, rfl, rfl, rfl, trivial⟩ ⟨by omega, hm9.keep hf10 id, by rw [tkL hp]; exact hMK.old h21, lnk_old hp hlk h21 h26 h30, hF9.trans hf10⟩ (by show ps.length - (i + 1) < ps.length - i; omega)
            | exact At.again ⟨i + 1, _⟩ ⟨rfl, rfl, rfl, rfl, rfl, trivial⟩ ⟨by omega, hm11, by rw [tkL hp]; exact hMK.new _ rfl h21, lnk_new hp hlk h21, hF11⟩ (by show ps.length - (i + 1) < ps.length - i; omega)
        ·
          rw [decide_eq_false h30]
          refine Sl.want rfl rfl (Cm.not rfl) rfl ?_
          refine Sl.want rfl rfl (Cm.pick_f rfl rfl) rfl ?_
          refine Sl.calm (Cm.pick_t rfl rfl) rfl ?_
          refine Sl.nil ?_
          refine At.weak [(0, _), (3, _), (5, _), (6, _), (7, _), (9, _), (10, _), (11, _), (12, _), (33, _)] ⟨rfl, rfl, rfl, rfl, rfl, rfl, rfl, rfl, rfl, rfl, trivial⟩ ?_
          refine At.go ?_
          refine Sc.cond_t rfl ?_
          refine Sc.seq ?_
          refine Sc.region ?_
          refine Sl.calm (Cm.assign rfl) rfl ?_
          refine Sl.nil ?_
          refine At.go ?_
          refine Sc.ret ?_
          refine At.then_ret ?_
          refine At.block_ret ?_
          refine At.then_ret ?_
          refine At.then_ret ?_
          refine At.block_ret ?_
          refine At.then_ret ?_
          refine At.ret1 rfl rfl ?_
          first
            | exact ⟨_, rfl, by rw [if_neg (lnk_bad hp h21 (fun h => h.1 h26))], hF9⟩
            | exact ⟨_, rfl, by rw [if_neg (lnk_bad hp h21 (fun h => h30 h.2))], hF9.trans hf10⟩
            | exact ⟨_, rfl, by rw [if_pos hlk], hF4⟩
    ·
      rw [decide_eq_false h21]
      refine Sl.allocC zc34 rfl ?_
      intro w8 hg8 hs8 hf8
      obtain ⟨r, hr⟩ : ∃ r, r = w6.heap.size := ⟨_, rfl⟩
      rw [← hr] at hg8 ⊢
      refine Sl.storeAll (vs := encN (atK (ps.take i) p.2.ino)) agg34 rfl rfl (encN_cells _).2 hg8 rfl ?_
      intro w9 hg9 hs9 hf9
      have hf69 : Foot nob w6 w9 := hf8.trans_to hf9 (fun k e => .inr (by have e : k = r := e; omega))
      have hF9 : Foot nob W w9 := hF6.trans hf69
      have hm9 := hm6.keep hf69 id
      have hgn := hf69.obj hg6 id
      have hv9 := hv.grow hF9
      refine Sl.calm (Cm.assign rfl) rfl ?_
      refine Sl.nil ?_
      refine At.weak [(0, _), (3, _), (5, _), (6, _), (7, _), (9, _), (10, _), (11, _), (12, _)] ⟨rfl, rfl, rfl, rfl, rfl, rfl, rfl, rfl, rfl, trivial⟩ ?_
      refine At.go ?_
      refine Sc.seq ?_
      refine Sc.seq ?_
      refine Sc.region ?_
      refine Sl.calm (Cm.move rfl) rfl ?_
      refine Sl.calm (Cm.move rfl) rfl ?_
      refine Sl.skip rfl rfl rfl rfl ?_
      refine Sl.skip rfl rfl rfl rfl ?_
      refine Sl.skip rfl rfl rfl rfl ?_
      refine Sl.skip rfl rfl rfl rfl ?_
      refine Sl.skip rfl rfl rfl rfl ?_
      refine Sl.skip rfl rfl rfl rfl ?_
      refine Sl.skip rfl rfl rfl rfl ?_
      refine Sl.skip rfl rfl rfl rfl ?_
      refine Sl.skip rfl rfl rfl rfl ?_
      refine Sl.calm (Cm.pick_f rfl rfl) rfl ?_
      refine Sl.nil ?_
      refine At.weak [(0, _), (3, _), (5, _), (6, _), (7, _), (9, _), (10, _), (11, _), (12, _), (33, _)] ⟨rfl, rfl, rfl, rfl, rfl, rfl, rfl, rfl, rfl, rfl, trivial⟩ ?_
      refine At.go ?_
      refine Sc.cond_f rfl ?_
      refine Sc.skip ?_
      refine At.go ?_
      refine Sc.seq ?_
      refine Sc.region ?_
      refine Sl.calm (Cm.move rfl) rfl ?_
      refine Sl.calm (Cm.not rfl) rfl ?_
      refine Sl.nil ?_
      refine At.weak [(0, _), (3, _), (5, _), (6, _), (7, _), (9, _), (10, _), (11, _), (12, _), (33, _), (35, _)] ⟨rfl, rfl, rfl, rfl, rfl, rfl, rfl, rfl, rfl, rfl, rfl, trivial⟩ ?_
      refine At.go ?_
      refine Sc.cond_t rfl ?_
      refine Sc.region ?_
      refine Sl.calm (Cm.move rfl) rfl ?_
      refine Sl.calm (Cm.field fld34_1 rfl) rfl ?_
      refine Sl.calm (Cm.ld sca3 rfl (cellF hgn rfl)) rfl ?_
      refine Sl.calm (Cm.ldM (cs := encN p) agg34 rfl (cellsF hgn 0 rfl)) rfl ?_
      refine Sl.mapUpdate mpI keyI (a := (⟨p.2.ino, hzi⟩ : I6)) rfl rfl rfl hm9 ?_
      intro w11 hm11 hs11 hf11
      have hF11 : Foot nob W w11 := hF9.trans_to hf11 (fun k e => .inr (by have e : k = g := e; omega))
      refine Sl.nil ?_
      refine At.block_normal ?_
      refine At.weak [(0, _), (3, _), (5, _), (6, _), (7, _), (9, _), (10, _), (11, _), (12, _), (33, _), (35, _)] ⟨rfl, rfl, rfl, rfl, rfl, rfl, rfl, rfl, rfl, rfl, rfl, trivial⟩ ?_
      refine At.go ?_
      refine Sc.region ?_
      refine Sl.calm (Cm.add64 rfl rfl (by omega)) rfl ?_
      refine Sl.calm (Cm.move rfl) rfl ?_
      refine Sl.nil ?_
      first
        | exact At.again ⟨i + 1, m⟩ ⟨rfl, rfl, rfl, rfl, rfl, trivial⟩ ⟨by omega, hm9.keep hf10 id, by rw [tkL hp]; exact hMK.old h21, lnk_old hp hlk h21 h26 h30, hF9.trans hf10⟩ (by show ps.length - (i + 1) < ps.length - i; omega)
        | exact At.again ⟨i + 1, _⟩ ⟨rfl, rfl, rfl, rfl, rfl, trivial⟩ ⟨by omega, hm11, by rw [tkL hp]; exact hMK.new _ rfl h21, lnk_new hp hlk h21, hF11⟩ (by show ps.length - (i + 1) < ps.length - i; omega)
  ·
    have hie : i = ps.length := by omega
    subst hie
    rw [List.take_of_length_le (by simp)] at hlk
    refine Sl.nil ?_
    refine At.go ?_
    refine Sc.seq ?_
    refine Sc.cond_f rfl ?_
    refine Sc.exit ?_
    refine At.then_exit ?_
    refine At.then_exit ?_
    refine At.block_hit ?_
    refine At.go ?_
    refine Sc.seq ?_
    refine Sc.region ?_
    refine Sl.calm (Cm.assign rfl) rfl ?_
    refine Sl.nil ?_
    refine At.go ?_
    refine Sc.ret ?_
    refine At.ret1 rfl rfl ?_
    first
      | exact ⟨_, rfl, by rw [if_neg (lnk_bad hp h21 (fun h => h.1 h26))], hF9⟩
      | exact ⟨_, rfl, by rw [if_neg (lnk_bad hp h21 (fun h => h30 h.2))], hF9.trans hf10⟩
      | exact ⟨_, rfl, by rw [if_pos hlk], hF4⟩
theorem plc_root {ps : List (NdH × Nd)} (hl : ¬ (1024 : Int) < ps.length) (hz : nmd (nds ps) = 0) (hr : ¬ (atN ps []).2.kind = 1) : plc (nds ps) = 4 := by
  have hll : (nds ps).length = ps.length := by simp
  unfold plc; rw [if_neg (by omega), if_neg (fun h => h hz), if_pos (fun h => hr ((atN_dir (nmd_zero hz).2.2 _).2 h))]
theorem plc_par {ps : List (NdH × Nd)} (hl : ¬ (1024 : Int) < ps.length) (hz : nmd (nds ps) = 0) (hr : (atN ps []).2.kind = 1) {p : NdH × Nd} (hp : p ∈ ps) (hne : p.2.names ≠ []) (hb : ¬ (atN ps p.2.names.dropLast).2.kind = 1) : plc (nds ps) = 5 := by
  have hll : (nds ps).length = ps.length := by simp
  have ht := (nmd_zero hz).2.2
  unfold plc; rw [if_neg (by omega), if_neg (fun h => h hz), if_neg (fun h => h ((atN_dir ht _).1 hr)), if_pos ⟨p.2, List.mem_map.2 ⟨p, hp, rfl⟩, hne, fun h => hb ((atN_dir ht _).2 h)⟩]
theorem plc_zero {ps : List (NdH × Nd)} (hl : ¬ (1024 : Int) < ps.length) (hz : nmd (nds ps) = 0) (hr : (atN ps []).2.kind = 1) (hb : ∀ p ∈ ps, p.2.names ≠ [] → (atN ps p.2.names.dropLast).2.kind = 1) : plc (nds ps) = 0 := by
  have hll : (nds ps).length = ps.length := by simp
  have ht := (nmd_zero hz).2.2
  unfold plc; rw [if_neg (by omega), if_neg (fun h => h hz), if_neg (fun h => h ((atN_dir ht _).1 hr)), if_neg]
  rintro ⟨n, hn, h1, h2⟩
  obtain ⟨p, hp, rfl⟩ := List.mem_map.1 hn
  exact h2 ((atN_dir ht _).1 (hb p hp h1))
theorem ex_nds {ps : List (NdH × Nd)} {R : Nd → Prop} : (∃ n ∈ nds ps, R n) ↔ ∃ p ∈ ps, R p.2 :=
  ⟨fun ⟨n, hn, h⟩ => by obtain ⟨p, hp, rfl⟩ := List.mem_map.1 hn; exact ⟨p, hp, h⟩, fun ⟨p, hp, h⟩ => ⟨p.2, List.mem_map.2 ⟨p, hp, rfl⟩, h⟩⟩
theorem named_ok' (lo : Option Addr) (lc : Nat) (ps : List (NdH × Nd)) (W : World) (hv : NodesV D W.heap lo lc ps) (hsm : ∀ p ∈ ps, smN p.2) :
    Calls Try.prog 27 [.slice lo ps.length lc].toArray W (Ret fun v w' => ∃ og, v = .tuple [.map og, .int .i64 (nmd (nds ps))].toArray ∧ Foot nob W w' ∧ (nmd (nds ps) = 0 → ∃ g m, og = some g ∧ MapL enS w'.heap g m ∧ MapN ps m)) := by
  refine (named_ok lo lc ps W hv hsm).mono ?_
  rintro e w' ⟨v, rfl, z, rfl, hf, ⟨h1, rfl⟩ | ⟨h1, g, m, rfl, h2, h3⟩⟩
  · exact ⟨_, rfl, none, rfl, hf, fun h => absurd h h1⟩
  · exact ⟨_, rfl, some g, by rw [h1], hf, fun _ => ⟨g, m, rfl, h2, h3⟩⟩
set_option maxHeartbeats 4000000 in
theorem check_ok (lo : Option Addr) (lc : Nat) (ps : List (NdH × Nd)) (W : World) (hv : NodesV D W.heap lo lc ps) (hsm : ∀ p ∈ ps, smN p.2) (hok : ∀ p ∈ ps, okN p.2) :
    Calls Try.prog 12 [.slice lo ps.length lc].toArray W (Ret fun v w' => v = .int .i64 (chk (nds ps)) ∧ Foot nob W w') := by
  have h63 := hv.1.len63
  have hll : (nds ps).length = ps.length := by simp
  have hp0 : (pathL []).length ≤ maxLen := path_len (by simp) (by simp)
  have ho0 : okPath [] := fun s hs => by cases hs
  refine calls_of_sc 55 [(0, _)] Try.func12 rfl rfl rfl (enter_slots ⟨rfl, trivial⟩) ?_
  refine Sc.seq ?_
  refine Sc.region ?_
  refine Sl.calm (Cm.assign rfl) rfl ?_
  refine Sl.nil ?_
  refine At.go ?_
  refine Sc.seq ?_
  refine Sc.seq ?_
  refine Sc.region ?_
  refine Sl.calm (Cm.move rfl) rfl ?_
  refine Sl.calm (Cm.len sl22 rfl) rfl ?_
  refine Sl.fork (Cm.gtr rfl rfl) rfl (fun h10 => ?_) (fun h10 => ?_)
  ·
    have hc : plc (nds ps) = 3 := by unfold plc; rw [if_pos (by omega)]
    refine Sl.nil ?_
    refine At.weak [(0, _), (2, _), (10, _)] ⟨rfl, rfl, rfl, trivial⟩ ?_
    refine At.go ?_
    refine Sc.cond_t rfl ?_
    refine Sc.seq ?_
    refine Sc.region ?_
    refine Sl.calm (Cm.assign rfl) rfl ?_
    refine Sl.nil ?_
    refine At.go ?_
    refine Sc.ret ?_
    refine At.then_ret ?_
    refine At.ret1 rfl rfl ?_
    first
      | exact ⟨_, rfl, by rw [chk_plc, hc, if_pos (by decide)], Foot.refl _ _⟩
      | exact ⟨_, rfl, by rw [chk_plc, hc, if_pos h18], hf2⟩
      | exact ⟨_, rfl, by rw [chk_plc, hc, if_pos (by decide)], hF6.trans hf7⟩
      | exact ⟨_, rfl, by rw [chk_plc, hc, if_pos (by decide)], hf2.trans hf3⟩
      | exact ⟨_, rfl, by rw [chk_plc, if_neg (fun h => h hpz), if_pos (ex_nds.2 h51)], hF4.trans hf5⟩
      | exact ⟨_, rfl, by rw [chk_plc, hpz, if_neg (show ¬ ((0 : Int) ≠ 0) from fun h => h rfl), if_neg (fun h : ∃ n ∈ nds ps, ¬ mayN n => h51 (ex_nds.1 h))], (hF4.trans hf5).trans hf6⟩
  ·
    refine Sl.nil ?_
    refine At.weak [(0, _), (2, _), (10, _)] ⟨rfl, rfl, rfl, trivial⟩ ?_
    refine At.go ?_
    refine Sc.cond_f rfl ?_
    refine Sc.skip ?_
    refine At.go ?_
    refine Sc.seq ?_
    refine Sc.region ?_
    refine Sl.calm (Cm.move rfl) rfl ?_
    refine Sl.call fn27 rfl (named_ok' lo lc ps W hv hsm) rfl ?_
    rintro _ w2 ⟨og, rfl, hf2, hmn⟩
    refine Sl.calm (Cm.move rfl) rfl ?_
    refine Sl.calm (Cm.extract rfl rfl) rfl ?_
    refine Sl.calm (Cm.extract rfl rfl) rfl ?_
    refine Sl.calm (Cm.assign rfl) rfl ?_
    refine Sl.calm (Cm.assign rfl) rfl ?_
    refine Sl.nil ?_
    refine At.weak [(0, _), (2, _), (3, _), (4, _), (10, _)] ⟨rfl, rfl, rfl, rfl, rfl, trivial⟩ ?_
    refine At.go ?_
    refine Sc.seq ?_
    refine Sc.block ?_
    refine Sc.seq ?_
    refine Sc.region ?_
    refine Sl.calm (Cm.move rfl) rfl ?_
    refine Sl.fork (Cm.neq rfl rfl) rfl (fun h18 => ?_) (fun h18 => ?_)
    ·
      have hc : plc (nds ps) = nmd (nds ps) := by unfold plc; rw [if_neg (by omega), if_pos h18]
      refine Sl.calm (Cm.assign rfl) rfl ?_
      refine Sl.nil ?_
      refine At.weak [(0, _), (2, _), (3, _), (4, _), (10, _), (16, _)] ⟨rfl, rfl, rfl, rfl, rfl, rfl, trivial⟩ ?_
      refine At.go ?_
      refine Sc.cond_t rfl ?_
      refine Sc.seq ?_
      refine Sc.region ?_
      refine Sl.calm (Cm.move rfl) rfl ?_
      refine Sl.calm (Cm.assign rfl) rfl ?_
      refine Sl.nil ?_
      refine At.weak [(0, _), (2, _), (3, _), (4, _), (10, _), (16, _)] ⟨rfl, rfl, rfl, rfl, rfl, rfl, trivial⟩ ?_
      refine At.go ?_
      refine Sc.ret ?_
      refine At.block_ret ?_
      refine At.then_ret ?_
      refine At.ret1 rfl rfl ?_
      first
        | exact ⟨_, rfl, by rw [chk_plc, hc, if_pos (by decide)], Foot.refl _ _⟩
        | exact ⟨_, rfl, by rw [chk_plc, hc, if_pos h18], hf2⟩
        | exact ⟨_, rfl, by rw [chk_plc, hc, if_pos (by decide)], hF6.trans hf7⟩
        | exact ⟨_, rfl, by rw [chk_plc, hc, if_pos (by decide)], hf2.trans hf3⟩
        | exact ⟨_, rfl, by rw [chk_plc, if_neg (fun h => h hpz), if_pos (ex_nds.2 h51)], hF4.trans hf5⟩
        | exact ⟨_, rfl, by rw [chk_plc, hpz, if_neg (show ¬ ((0 : Int) ≠ 0) from fun h => h rfl), if_neg (fun h : ∃ n ∈ nds ps, ¬ mayN n => h51 (ex_nds.1 h))], (hF4.trans hf5).trans hf6⟩
    ·
      have hz : nmd (nds ps) = 0 := Classical.not_not.1 h18
      obtain ⟨g, m, rfl, hm2, hMN⟩ := hmn hz
      obtain ⟨hvn, hnl, ht⟩ := nmd_zero hz
      refine Sl.calm (Cm.assign rfl) rfl ?_
      refine Sl.nil ?_
      refine At.weak [(0, _), (2, _), (3, _), (4, _), (10, _), (16, _)] ⟨rfl, rfl, rfl, rfl, rfl, rfl, trivial⟩ ?_
      refine At.go ?_
      refine Sc.cond_f rfl ?_
      refine Sc.seq ?_
      refine Sc.region ?_
      refine Sl.calm (Cm.move rfl) rfl ?_
      refine Sl.call fn28 rfl (nJoin_ok none 0 [] w2 (Vw.nil 0 (Nat.zero_le _)) (by simp) (by simp)) rfl ?_
      rintro _ w3 ⟨rfl, hf3⟩
      have hm3 := hm2.keep hf3 id
      refine Sl.calm (Cm.ofEq (u := .agg (encN (atN ps [])).toArray) (Cm.lookup mpN keyS (a := (⟨pathL [], hp0⟩ : SK)) rfl rfl (fun _ e => by rw [e]; exact hm3)) (hMN.z ho0 hp0)) rfl ?_
      refine Sl.calm (Cm.fieldV fvKind (cs := encN (atN ps [])) rfl rfl) rfl ?_
      refine Sl.fork (Cm.neq rfl rfl) rfl (fun h25 => ?_) (fun h25 => ?_)
      ·
        have hc := plc_root h10 hz h25
        refine Sl.calm (Cm.assign rfl) rfl ?_
        refine Sl.nil ?_
        refine At.weak [(0, _), (2, _), (3, _), (4, _), (10, _), (16, _), (20, _)] ⟨rfl, rfl, rfl, rfl, rfl, rfl, rfl, trivial⟩ ?_
        refine At.go ?_
        refine Sc.cond_t rfl ?_
        refine Sc.seq ?_
        refine Sc.region ?_
        refine Sl.calm (Cm.assign rfl) rfl ?_
        refine Sl.nil ?_
        refine At.go ?_
        refine Sc.ret ?_
        refine At.block_ret ?_
        refine At.then_ret ?_
        refine At.ret1 rfl rfl ?_
        first
          | exact ⟨_, rfl, by rw [chk_plc, hc, if_pos (by decide)], Foot.refl _ _⟩
          | exact ⟨_, rfl, by rw [chk_plc, hc, if_pos h18], hf2⟩
          | exact ⟨_, rfl, by rw [chk_plc, hc, if_pos (by decide)], hF6.trans hf7⟩
          | exact ⟨_, rfl, by rw [chk_plc, hc, if_pos (by decide)], hf2.trans hf3⟩
          | exact ⟨_, rfl, by rw [chk_plc, if_neg (fun h => h hpz), if_pos (ex_nds.2 h51)], hF4.trans hf5⟩
          | exact ⟨_, rfl, by rw [chk_plc, hpz, if_neg (show ¬ ((0 : Int) ≠ 0) from fun h => h rfl), if_neg (fun h : ∃ n ∈ nds ps, ¬ mayN n => h51 (ex_nds.1 h))], (hF4.trans hf5).trans hf6⟩
      ·
        have hr : (atN ps []).2.kind = 1 := Classical.not_not.1 h25
        refine Sl.calm (Cm.assign rfl) rfl ?_
        refine Sl.nil ?_
        refine At.weak [(0, _), (2, _), (3, _), (4, _), (10, _), (16, _), (20, _)] ⟨rfl, rfl, rfl, rfl, rfl, rfl, rfl, trivial⟩ ?_
        refine At.go ?_
        refine Sc.cond_f rfl ?_
        refine Sc.skip ?_
        refine At.block_normal ?_
        refine At.go ?_
        refine Sc.seq ?_
        refine Sc.seq ?_
        refine Sc.region ?_
        refine Sl.calm (Cm.move rfl) rfl ?_
        refine Sl.calm (Cm.len sl22 rfl) rfl ?_
        refine Sl.calm (Cm.move rfl) rfl ?_
        refine Sl.nil ?_
        refine At.go ?_
        refine Sc.block ?_
        refine Sc.loop (β := Nat) (fun i => [(0, .slice lo ps.length lc), (3, .map (some g)), (26, .slice lo ps.length lc), (27, .int .i64 ps.length), (28, .int .i64 i)]) (fun i w => i ≤ ps.length ∧ MapL enS w.heap g m ∧ (∀ (j : Nat) (p : NdH × Nd), j < i → ps[j]? = some p → p.2.names ≠ [] → (atN ps p.2.names.dropLast).2.kind = 1) ∧ Foot nob W w) (fun i => ps.length - i) 0 ⟨rfl, rfl, rfl, rfl, rfl, trivial⟩ ⟨Nat.zero_le _, hm3, fun j p hj => by omega, hf2.trans hf3⟩ ?_
        rintro i w4 ⟨hi, hm4, hpar, hF4⟩
        refine Sc.seq ?_
        refine Sc.region ?_
        refine Sl.fork (Cm.lss rfl rfl) rfl (fun h29 => ?_) (fun h29 => ?_)
        ·
          have hil : i < ps.length := by omega
          obtain ⟨p, hp⟩ : ∃ p, ps[i]? = some p := ⟨_, List.getElem?_eq_getElem hil⟩
          have hpm := List.mem_of_getElem? hp
          have hv4 := hv.grow hF4
          have hnm := List.mem_of_getElem? (nds_get hp)
          obtain ⟨hop, hsl⟩ := names_of hvn hnm
          have hn16 := hnl _ hnm
          refine Sl.nil ?_
          refine At.go ?_
          refine Sc.seq ?_
          refine Sc.cond_t rfl ?_
          refine Sc.skip ?_
          refine At.go ?_
          refine Sc.seq ?_
          refine Sc.block ?_
          refine Sc.seq ?_
          refine Sc.region ?_
          refine Sl.calm (Cm.indexAddr sl22 rfl rfl hv4.1.non (by omega)) rfl ?_
          refine Sl.calm (Cm.ldM (cs := encN p) agg34 rfl (fun j v hj => hv4.1.rowZ i rfl hp j v hj)) rfl ?_
          refine Sl.allocC zc34 rfl ?_
          intro w5 hg5 hs5 hf5
          obtain ⟨q, hq⟩ : ∃ q, q = w4.heap.size := ⟨_, rfl⟩
          rw [← hq] at hg5 ⊢
          refine Sl.storeAll (vs := encN p) agg34 rfl rfl (encN_cells p).2 hg5 rfl ?_
          intro w6 hg6 hs6 hf6
          have hf46 : Foot nob w4 w6 := hf5.trans_to hf6 (fun k e => .inr (by have e : k = q := e; omega))
          have hF6 : Foot nob W w6 := hF4.trans hf46
          have hn6 := ((hv.grow hF6).2 p hpm).1
          have hm6 := hm4.keep hf46 id
          refine Sl.nil ?_
          refine At.weak [(0, _), (3, _), (6, _), (26, _), (27, _), (28, _), (29, _)] ⟨rfl, rfl, rfl, rfl, rfl, rfl, rfl, trivial⟩ ?_
          refine At.go ?_
          refine Sc.seq ?_
          refine Sc.region ?_
          refine Sl.calm (Cm.field fld34_0 rfl) rfl ?_
          refine Sl.calm (Cm.ld sca28 rfl (cellF hg6 rfl)) rfl ?_
          refine Sl.calm (Cm.len sl28 rfl) rfl ?_
          rw [hn6.1]
          refine Sl.calm (Cm.sub64 rfl rfl (by omega)) rfl ?_
          refine Sl.calm (Cm.assign rfl) rfl ?_
          refine Sl.nil ?_
          refine At.weak [(0, _), (3, _), (6, _), (7, _), (26, _), (27, _), (28, _), (29, _)] ⟨rfl, rfl, rfl, rfl, rfl, rfl, rfl, rfl, trivial⟩ ?_
          refine At.go ?_
          refine Sc.seq ?_
          refine Sc.region ?_
          refine Sl.calm (Cm.move rfl) rfl ?_
          refine Sl.fork (Cm.geq rfl rfl) rfl (fun h37 => ?_) (fun h37 => ?_)
          ·
            refine Sl.calm (Cm.move rfl) rfl ?_
            refine Sl.want rfl rfl (Cm.move rfl) rfl ?_
            refine Sl.want rfl rfl (Cm.field fld34_0 rfl) rfl ?_
            refine Sl.want rfl rfl (Cm.ld sca28 rfl (cellF hg6 rfl)) rfl ?_
            refine Sl.want rfl rfl (Cm.move rfl) rfl ?_
            refine Sl.want rfl rfl (Cm.ofEq (u := .slice p.1.names.a p.2.names.dropLast.length p.1.names.c) (Cm.sliceH sl28 rfl rfl (by have := hn6.2.1.le; omega)) (by rw [cutAo_zero, List.length_dropLast]; congr 1; omega)) rfl ?_
            refine Sl.callWant rfl rfl fn28 rfl (nJoin_ok p.1.names.a p.1.names.c p.2.names.dropLast w6 (by rw [drop_take]; exact hn6.2.1.take _) (by rw [List.length_dropLast]; omega) (fun s hs => hsl s (List.dropLast_subset _ hs))) rfl ?_
            rintro _ w7 ⟨rfl, hf7⟩
            have hm7 := hm6.keep hf7 id
            have hdo : okPath p.2.names.dropLast := fun s hs => hop s (List.dropLast_subset _ hs)
            have hdl : (pathL p.2.names.dropLast).length ≤ maxLen := path_len (by rw [List.length_dropLast]; omega) (fun s hs => hsl s (List.dropLast_subset _ hs))
            refine Sl.want rfl rfl (Cm.ofEq (u := .agg (encN (atN ps p.2.names.dropLast)).toArray) (Cm.lookup mpN keyS (a := (⟨pathL p.2.names.dropLast, hdl⟩ : SK)) rfl rfl (fun _ e => by rw [e]; exact hm7)) (hMN.z hdo hdl)) rfl ?_
            refine Sl.want rfl rfl (Cm.fieldV fvKind (cs := encN (atN ps p.2.names.dropLast)) rfl rfl) rfl ?_
            refine Sl.forkWant rfl rfl (Cm.neq rfl rfl) rfl (fun h47 => ?_) (fun h47 => ?_)
            ·
              have hc := plc_par h10 hz hr hpm (fun e => by rw [e] at h37; simp at h37) h47
              refine Sl.calm (Cm.pick_t rfl rfl) rfl ?_
              refine Sl.nil ?_
              refine At.weak [(0, _), (3, _), (6, _), (7, _), (26, _), (27, _), (28, _), (29, _), (48, _)] ⟨rfl, rfl, rfl, rfl, rfl, rfl, rfl, rfl, rfl, trivial⟩ ?_
              refine At.go ?_
              refine Sc.cond_t rfl ?_
              refine Sc.seq ?_
              refine Sc.region ?_
              refine Sl.calm (Cm.assign rfl) rfl ?_
              refine Sl.nil ?_
              refine At.go ?_
              refine Sc.ret ?_
              refine At.block_ret ?_
              refine At.then_ret ?_
              refine At.then_ret ?_
              refine At.block_ret ?_
              refine At.then_ret ?_
              refine At.ret1 rfl rfl ?_
              first
                | exact ⟨_, rfl, by rw [chk_plc, hc, if_pos (by decide)], Foot.refl _ _⟩
                | exact ⟨_, rfl, by rw [chk_plc, hc, if_pos h18], hf2⟩
                | exact ⟨_, rfl, by rw [chk_plc, hc, if_pos (by decide)], hF6.trans hf7⟩
                | exact ⟨_, rfl, by rw [chk_plc, hc, if_pos (by decide)], hf2.trans hf3⟩
                | exact ⟨_, rfl, by rw [chk_plc, if_neg (fun h => h hpz), if_pos (ex_nds.2 h51)], hF4.trans hf5⟩
                | exact ⟨_, rfl, by rw [chk_plc, hpz, if_neg (show ¬ ((0 : Int) ≠ 0) from fun h => h rfl), if_neg (fun h : ∃ n ∈ nds ps, ¬ mayN n => h51 (ex_nds.1 h))], (hF4.trans hf5).trans hf6⟩
            ·
              refine Sl.calm (Cm.pick_t rfl rfl) rfl ?_
              refine Sl.nil ?_
              refine At.weak [(0, _), (3, _), (6, _), (7, _), (26, _), (27, _), (28, _), (29, _), (48, _)] ⟨rfl, rfl, rfl, rfl, rfl, rfl, rfl, rfl, rfl, trivial⟩ ?_
              refine At.go ?_
              refine Sc.cond_f rfl ?_
              refine Sc.skip ?_
              refine At.block_normal ?_
              refine At.go ?_
              refine Sc.region ?_
              refine Sl.calm (Cm.add64 rfl rfl (by omega)) rfl ?_
              refine Sl.calm (Cm.move rfl) rfl ?_
              refine Sl.nil ?_
              first
                | (refine At.again (i + 1) ⟨rfl, rfl, rfl, rfl, rfl, trivial⟩ ⟨by omega, hm7, fun j q hj hq hne => ?_, hF6.trans hf7⟩ (by show ps.length - (i + 1) < ps.length - i; omega)
                   by_cases e : j = i
                   · subst e; rw [hp] at hq; cases hq; exact Classical.not_not.1 h47
                   · exact hpar j q (by omega) hq hne)
                | (refine At.again (i + 1) ⟨rfl, rfl, rfl, rfl, rfl, trivial⟩ ⟨by omega, hm6, fun j q hj hq hne => ?_, hF6⟩ (by show ps.length - (i + 1) < ps.length - i; omega)
                   by_cases e : j = i
                   · subst e; rw [hp] at hq; cases hq; exact absurd (List.length_eq_zero_iff.1 (by omega)) hne
                   · exact hpar j q (by omega) hq hne)
          ·
            refine Sl.calm (Cm.move rfl) rfl ?_
            refine Sl.skip rfl rfl rfl rfl ?_
            refine Sl.skip rfl rfl rfl rfl ?_
            refine Sl.skip rfl rfl rfl rfl ?_
            refine Sl.skip rfl rfl rfl rfl ?_
            refine Sl.skip rfl rfl rfl rfl ?_
            refine Sl.skip rfl rfl rfl rfl ?_
            refine Sl.skip rfl rfl rfl rfl ?_
            refine Sl.skip rfl rfl rfl rfl ?_
            refine Sl.skip rfl rfl rfl rfl ?_
            refine Sl.calm (Cm.pick_f rfl rfl) rfl ?_
            refine Sl.nil ?_
            refine At.weak [(0, _), (3, _), (6, _), (7, _), (26, _), (27, _), (28, _), (29, _), (48, _)] ⟨rfl, rfl, rfl, rfl, rfl, rfl, rfl, rfl, rfl, trivial⟩ ?_
            refine At.go ?_
            refine Sc.cond_f rfl ?_
            refine Sc.skip ?_
            refine At.block_normal ?_
            refine At.go ?_
            refine Sc.region ?_
            refine Sl.calm (Cm.add64 rfl rfl (by omega)) rfl ?_
            refine Sl.calm (Cm.move rfl) rfl ?_
            refine Sl.nil ?_
            first
              | (refine At.again (i + 1) ⟨rfl, rfl, rfl, rfl, rfl, trivial⟩ ⟨by omega, hm7, fun j q hj hq hne => ?_, hF6.trans hf7⟩ (by show ps.length - (i + 1) < ps.length - i; omega)
                 by_cases e : j = i
                 · subst e; rw [hp] at hq; cases hq; exact Classical.not_not.1 h47
                 · exact hpar j q (by omega) hq hne)
              | (refine At.again (i + 1) ⟨rfl, rfl, rfl, rfl, rfl, trivial⟩ ⟨by omega, hm6, fun j q hj hq hne => ?_, hF6⟩ (by show ps.length - (i + 1) < ps.length - i; omega)
                 by_cases e : j = i
                 · subst e; rw [hp] at hq; cases hq; exact absurd (List.length_eq_zero_iff.1 (by omega)) hne
                 · exact hpar j q (by omega) hq hne)
        ·
          have hie : i = ps.length := by omega
          subst hie
          have hpz := plc_zero h10 hz hr (fun p hp hne => by obtain ⟨j, hj⟩ := List.getElem?_of_mem hp; exact hpar j p (List.getElem?_eq_some_iff.1 hj).1 hj hne)
          refine Sl.nil ?_
          refine At.go ?_
          refine Sc.seq ?_
          refine Sc.cond_f rfl ?_
          refine Sc.exit ?_
          refine At.then_exit ?_
          refine At.then_exit ?_
          refine At.block_hit ?_
          refine At.go ?_
          refine Sc.seq ?_
          refine Sc.seq ?_
          refine Sc.region ?_
          refine Sl.calm (Cm.move rfl) rfl ?_
          refine Sl.call fn29 rfl (containsFunc_ok (R := fun p : NdH × Nd => ¬ mayN p.2) 30 [] fn30 lo lc ps w4 (hv.grow hF4) (fun w p hp hf => check1_ok p w (((hv.grow hF4).2 p hp).grow hf) (hsm p hp))) rfl ?_
          rintro _ w5 ⟨rfl, hf5⟩
          by_cases h51 : ∃ p ∈ ps, ¬ mayN p.2
          ·
            rw [decide_eq_true h51]
            refine Sl.calm (Cm.not rfl) rfl ?_
            refine Sl.nil ?_
            refine At.weak [(0, _), (3, _), (26, _), (27, _), (28, _), (29, _), (52, _)] ⟨rfl, rfl, rfl, rfl, rfl, rfl, rfl, trivial⟩ ?_
            refine At.go ?_
            refine Sc.cond_f rfl ?_
            refine Sc.skip ?_
            refine At.go ?_
            refine Sc.seq ?_
            refine Sc.region ?_
            refine Sl.calm (Cm.assign rfl) rfl ?_
            refine Sl.nil ?_
            refine At.go ?_
            refine Sc.ret ?_
            refine At.ret1 rfl rfl ?_
            first
              | exact ⟨_, rfl, by rw [chk_plc, hc, if_pos (by decide)], Foot.refl _ _⟩
              | exact ⟨_, rfl, by rw [chk_plc, hc, if_pos h18], hf2⟩
              | exact ⟨_, rfl, by rw [chk_plc, hc, if_pos (by decide)], hF6.trans hf7⟩
              | exact ⟨_, rfl, by rw [chk_plc, hc, if_pos (by decide)], hf2.trans hf3⟩
              | exact ⟨_, rfl, by rw [chk_plc, if_neg (fun h => h hpz), if_pos (ex_nds.2 h51)], hF4.trans hf5⟩
              | exact ⟨_, rfl, by rw [chk_plc, hpz, if_neg (show ¬ ((0 : Int) ≠ 0) from fun h => h rfl), if_neg (fun h : ∃ n ∈ nds ps, ¬ mayN n => h51 (ex_nds.1 h))], (hF4.trans hf5).trans hf6⟩
          ·
            rw [decide_eq_false h51]
            refine Sl.calm (Cm.not rfl) rfl ?_
            refine Sl.nil ?_
            refine At.weak [(0, _), (3, _), (26, _), (27, _), (28, _), (29, _), (52, _)] ⟨rfl, rfl, rfl, rfl, rfl, rfl, rfl, trivial⟩ ?_
            refine At.go ?_
            refine Sc.cond_t rfl ?_
            refine Sc.seq ?_
            refine Sc.region ?_
            refine Sl.calm (Cm.move rfl) rfl ?_
            refine Sl.call fn32 rfl (linked_ok lo lc ps w5 ((hv.grow hF4).grow hf5) hok) rfl ?_
            rintro _ w6 ⟨rfl, hf6⟩
            refine Sl.calm (Cm.assign rfl) rfl ?_
            refine Sl.nil ?_
            refine At.weak [(0, _), (2, _), (3, _), (26, _), (27, _), (28, _), (29, _), (52, _)] ⟨rfl, rfl, rfl, rfl, rfl, rfl, rfl, rfl, trivial⟩ ?_
            refine At.go ?_
            refine Sc.ret ?_
            refine At.then_ret ?_
            refine At.ret1 rfl rfl ?_
            first
              | exact ⟨_, rfl, by rw [chk_plc, hc, if_pos (by decide)], Foot.refl _ _⟩
              | exact ⟨_, rfl, by rw [chk_plc, hc, if_pos h18], hf2⟩
              | exact ⟨_, rfl, by rw [chk_plc, hc, if_pos (by decide)], hF6.trans hf7⟩
              | exact ⟨_, rfl, by rw [chk_plc, hc, if_pos (by decide)], hf2.trans hf3⟩
              | exact ⟨_, rfl, by rw [chk_plc, if_neg (fun h => h hpz), if_pos (ex_nds.2 h51)], hF4.trans hf5⟩
              | exact ⟨_, rfl, by rw [chk_plc, hpz, if_neg (show ¬ ((0 : Int) ≠ 0) from fun h => h rfl), if_neg (fun h : ∃ n ∈ nds ps, ¬ mayN n => h51 (ex_nds.1 h))], (hF4.trans hf5).trans hf6⟩
end Go.Proofs.Ytpnfjfbfgaiolaa
