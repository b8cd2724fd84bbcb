/- tree: the program's may; IndexFunc over nodes. No condition beyond the bounds that each states. -/
import Derived.Test.YtpamandneifemaaKJ
import Derived.Test.YtpamandneifemaaXbk
import Derived.Test.YtpamandneifemaaBtk
import Derived.Test.YtpamandneifemaaSj
import Derived.Test.YtpamandneifemaaKG
import Derived.Test.YtpamandneifemaaSkk
import Derived.Test.YtpamandneifemaaGdk
namespace Go.Proofs.Ytpamandneifemaa
open Go Go.RowKit
set_option linter.unusedVariables false

def plainP (s : List UInt8) (m : Int) : Prop := (1 ≤ (s.length : Int) ∧ (s.length : Int) ≤ m) ∧ (0 : UInt8) ∉ s
instance (s : List UInt8) (m : Int) : Decidable (plainP s m) := by unfold plainP; exact inferInstance
variable {D : Nat → Prop}
/-! IndexFunc, ContainsFunc -/
def fidx (ps : List (NdH × Nd)) (R : NdH × Nd → Prop) [DecidablePred R] : Int := match ps.findIdx? (fun p => decide (R p)) with | some i => i | none => -1
section
variable {R : NdH × Nd → Prop} [DecidablePred R]
theorem fidx_hit {ps : List (NdH × Nd)} {i : Nat} {p : NdH × Nd} (hp : ps[i]? = some p) (h1 : R p) (h2 : ∀ (j : Nat) (q : NdH × Nd), j < i → ps[j]? = some q → ¬ R q) : fidx ps R = i := by
  have hi := (List.getElem?_eq_some_iff.1 hp).1
  have : ps.findIdx? (fun p => decide (R p)) = some i := by
    rw [List.findIdx?_eq_some_iff_getElem]
    refine ⟨hi, by rw [(List.getElem?_eq_some_iff.1 hp).2]; exact decide_eq_true h1, fun j hj => ?_⟩
    have := h2 j _ hj (List.getElem?_eq_getElem (by omega))
    simpa using this
  unfold fidx; rw [this]
theorem fidx_miss {ps : List (NdH × Nd)} (h : ∀ p ∈ ps, ¬ R p) : fidx ps R = -1 := by
  have : ps.findIdx? (fun p => decide (R p)) = none := by
    rw [List.findIdx?_eq_none_iff]
    intro p hp
    exact decide_eq_false (h p hp)
  unfold fidx; rw [this]
theorem fidx_pos {ps : List (NdH × Nd)} : 0 ≤ fidx ps R ↔ ∃ p ∈ ps, R p := by
  constructor
  · intro h
    apply Classical.byContradiction
    intro hn
    rw [fidx_miss (fun p hp hr => hn ⟨p, hp, hr⟩)] at h
    omega
  · rintro ⟨p, hp, hr⟩
    unfold fidx
    cases hf : ps.findIdx? (fun p => decide (R p)) with
    | some i => exact Int.natCast_nonneg i
    | none =>
      rw [List.findIdx?_eq_none_iff] at hf
      have := hf p hp
      simp [hr] at this
set_option maxHeartbeats 1000000 in
theorem indexFunc_ok (f : FuncId) (cs : List Value) (hf : fnB Try.prog f = true) (lo : Option Addr) (lc : Nat) (ps : List (NdH × Nd)) (W : World) (hv : NodesV D W.heap lo lc ps)
    (hc : ∀ w p, p ∈ ps → Foot nob W w → Calls Try.prog f ([Value.agg (encN p).toArray] ++ cs).toArray w (Ret fun v w' => v = .bool (decide (R p)) ∧ Foot nob w w')) :
    Calls Try.prog 56 [.slice lo ps.length lc, .func (.func f) #[] cs.toArray].toArray W (Ret fun v w' => v = .int .i64 (fidx ps R) ∧ Foot nob W w') := by
  have h63 := hv.1.len63
  refine calls_of_sc 19 [(0, _), (1, _)] Try.func56 rfl rfl rfl (enter_slots ⟨rfl, rfl, trivial⟩) ?_
  refine Sc.seq ?_
  refine Sc.region ?_
  refine Sl.calm (Cm.assign rfl) rfl ?_
  refine Sl.nil ?_
  refine At.go ?_
  refine Sc.seq ?_
  refine Sc.seq ?_
  refine Sc.region ?_
  refine Sl.calm (Cm.move rfl) rfl ?_
  refine Sl.calm (Cm.len sl25 rfl) rfl ?_
  refine Sl.calm (Cm.move rfl) rfl ?_
  refine Sl.nil ?_
  refine At.weak [(0, _), (1, _), (4, _), (7, _), (8, _)] ⟨rfl, rfl, rfl, rfl, rfl, trivial⟩ ?_
  refine At.go ?_
  refine Sc.block ?_
  refine Sc.loop (β := Nat) (fun i => [(0, .slice lo ps.length lc), (1, .func (.func f) #[] cs.toArray), (7, .int .i64 ps.length), (8, .int .i64 i)]) (fun i w => i ≤ ps.length ∧ (∀ (j : Nat) (q : NdH × Nd), j < i → ps[j]? = some q → ¬ R q) ∧ Foot nob W w) (fun i => ps.length - i) 0 ⟨rfl, rfl, rfl, rfl, trivial⟩ ⟨Nat.zero_le _, fun j q hj => by omega, Foot.refl _ _⟩ ?_
  rintro i w2 ⟨hi, hno, hF2⟩
  refine Sc.seq ?_
  refine Sc.region ?_
  refine Sl.fork (Cm.lss rfl rfl) rfl (fun h9 => ?_) (fun h9 => ?_)
  ·
    have hil : i < ps.length := by omega
    obtain ⟨p, hp⟩ : ∃ p, ps[i]? = some p := ⟨_, List.getElem?_eq_getElem hil⟩
    have hpm := List.mem_of_getElem? hp
    have hv2 := hv.grow hF2
    refine Sl.nil ?_
    refine At.go ?_
    refine Sc.seq ?_
    refine Sc.cond_t rfl ?_
    refine Sc.skip ?_
    refine At.go ?_
    refine Sc.seq ?_
    refine Sc.block ?_
    refine Sc.seq ?_
    refine Sc.region ?_
    refine Sl.calm (Cm.move rfl) rfl ?_
    refine Sl.calm (Cm.assign rfl) rfl ?_
    refine Sl.nil ?_
    refine At.weak [(0, _), (1, _), (5, _), (7, _), (8, _), (9, _)] ⟨rfl, rfl, rfl, rfl, rfl, rfl, trivial⟩ ?_
    refine At.go ?_
    refine Sc.seq ?_
    refine Sc.region ?_
    refine Sl.calm (Cm.move rfl) rfl ?_
    refine Sl.calm (Cm.move rfl) rfl ?_
    refine Sl.calm (Cm.move rfl) rfl ?_
    refine Sl.calm (Cm.indexAddr sl25 rfl rfl hv2.1.non (by omega)) rfl ?_
    refine Sl.calm (Cm.ldM (cs := encN p) agg35 rfl (fun j v hj => hv2.1.rowZ i rfl hp j v hj)) rfl ?_
    refine Sl.callC hf rfl rfl (hc w2 p hpm hF2) rfl ?_
    intro v3 w3 hr3
    obtain ⟨rfl, hf3⟩ := hr3
    by_cases h16 : R p
    ·
      rw [decide_eq_true h16]
      refine Sl.nil ?_
      refine At.weak [(0, _), (1, _), (5, _), (7, _), (8, _), (9, _), (16, _)] ⟨rfl, rfl, rfl, rfl, rfl, rfl, rfl, trivial⟩ ?_
      refine At.go ?_
      refine Sc.cond_t rfl ?_
      refine Sc.seq ?_
      refine Sc.region ?_
      refine Sl.calm (Cm.move rfl) rfl ?_
      refine Sl.calm (Cm.assign rfl) rfl ?_
      refine Sl.nil ?_
      refine At.weak [(0, _), (1, _), (4, _), (5, _), (7, _), (8, _), (9, _), (16, _)] ⟨rfl, rfl, rfl, rfl, rfl, rfl, rfl, rfl, trivial⟩ ?_
      refine At.go ?_
      refine Sc.ret ?_
      refine At.block_ret ?_
      refine At.then_ret ?_
      refine At.then_ret ?_
      refine At.block_ret ?_
      refine At.then_ret ?_
      refine At.ret1 rfl rfl ?_
      exact ⟨_, rfl, by rw [fidx_hit hp h16 hno], hF2.trans hf3⟩
    ·
      rw [decide_eq_false h16]
      refine Sl.nil ?_
      refine At.weak [(0, _), (1, _), (5, _), (7, _), (8, _), (9, _), (16, _)] ⟨rfl, rfl, rfl, rfl, rfl, rfl, rfl, trivial⟩ ?_
      refine At.go ?_
      refine Sc.cond_f rfl ?_
      refine Sc.skip ?_
      refine At.block_normal ?_
      refine At.go ?_
      refine Sc.region ?_
      refine Sl.calm (Cm.add64 rfl rfl (by omega)) rfl ?_
      refine Sl.calm (Cm.move rfl) rfl ?_
      refine Sl.nil ?_
      refine At.again (i + 1) ⟨rfl, rfl, rfl, rfl, trivial⟩ ⟨by omega, fun j q hj hq => ?_, hF2.trans hf3⟩ (by show ps.length - (i + 1) < ps.length - i; omega)
      by_cases e : j = i
      · subst e; rw [hp] at hq; cases hq; exact h16
      · exact hno j q (by omega) hq
  ·
    have hie : i = ps.length := by omega
    subst hie
    refine Sl.nil ?_
    refine At.go ?_
    refine Sc.seq ?_
    refine Sc.cond_f rfl ?_
    refine Sc.exit ?_
    refine At.then_exit ?_
    refine At.then_exit ?_
    refine At.block_hit ?_
    refine At.go ?_
    refine Sc.seq ?_
    refine Sc.region ?_
    refine Sl.calm (Cm.assign rfl) rfl ?_
    refine Sl.nil ?_
    refine At.go ?_
    refine Sc.ret ?_
    refine At.ret1 rfl rfl ?_
    refine ⟨_, rfl, ?_, hF2⟩
    rw [fidx_miss (fun q hq => by obtain ⟨j, hj⟩ := List.getElem?_of_mem hq; exact hno j q (List.getElem?_eq_some_iff.1 hj).1 hj)]
end
end Go.Proofs.Ytpamandneifemaa
/- tree: the program's Alike. No condition beyond the bounds that each states. -/
namespace Go.Proofs.Ytpamandneifemaa
open Go Go.RowKit
set_option linter.unusedVariables false

variable {D : Nat → Prop}
end Go.Proofs.Ytpamandneifemaa
/- names: Join. No condition beyond the bounds that each states. -/
namespace Go.Proofs.Ytpamandneifemaa
open Go Go.RowKit
set_option linter.unusedVariables false

/-! Join -/
theorem join_extra : Builder.Extra Try.prog Try.joinA_ren where
  sizeBuilder := by kernel_rfl
  liesBuilder := by kernel_rfl
  t5 := Try.underlying5
  a5 := Try.isAgg5
  z5 := Try.sizeOf5
  v5 := Try.zeroValue5
  infoByte := by kernel_rfl
  cellsByte := by kernel_rfl
  sizeByte := by kernel_rfl
  neB5 := by decide
theorem strJoin_ok (a : Option Addr) (c : Nat) (L : List (List UInt8)) (W : World) (hv : Vw strE W.heap a c L) (hl : L.length ≤ 1000) (hs : ∀ s ∈ L, s.length ≤ 255) :
    Calls Try.prog 47 [.slice a L.length c, .string (bs [47])].toArray W (Ret fun v w' => v = .string (bs (Lib.join L [47])) ∧ Foot nob W w') := by
  match L, hv, hl, hs with
  | [], hv, _, _ =>
    refine (Any.strings_Join_none Try.joinA join_extra a c (bs [47]) W).mono ?_
    rintro e w' ⟨rfl, rfl⟩
    exact ⟨_, rfl, rfl, Foot.refl _ _⟩
  | x :: L, hv, hl, hs =>
    cases a with
    | none => exact absurd rfl (hv.non (by simp))
    | some ad =>
      obtain ⟨bk, o, sp⟩ := ad
      have h0 := hv.get 0 x rfl
      have hsp : sp = none := by
        unfold cellH at h0
        split at h0
        · split at h0
          · cases h0
          · rename_i h; simpa [adr, Addr.add] using h
        · cases h0
      subst hsp
      have hlt : bk < W.heap.size := by
        unfold cellH at h0
        split at h0
        · rename_i h; exact (Array.getElem?_eq_some_iff.1 h).1
        · cases h0
      have hj : (Lib.join (((x :: L).map bs).map (·.data.toList)) (bs [47]).data.toList) = Lib.join (x :: L) [47] := by
        congr 1; rw [List.map_map]; conv => rhs; rw [← List.map_id (x :: L)]
        rfl
      have hc := Any.strings_Join Try.joinA join_extra bk o c ((x :: L).map bs) (bs [47]) W (fun j y hy => by
        rw [List.getElem?_map, Option.map_eq_some_iff] at hy
        obtain ⟨s, hs1, rfl⟩ := hy
        have hg := hv.get j s hs1; by_cases hj0 : j = 0 <;> simpa [adr, Addr.add, cell?_eq, strE, hj0] using hg) hlt (by rw [List.length_map]; omega) (by rw [List.length_map]; exact hv.le) (by
          rw [hj]; have := join_len hs; omega)
      rw [hj, List.length_map] at hc
      refine hc.mono ?_
      rintro e w' ⟨rfl, hb⟩
      exact ⟨_, rfl, rfl, hb.os, hb.tape, hb.output, hb.size, fun k hk _ => hb.block k hk⟩
theorem nJoin_ok (a : Option Addr) (c : Nat) (L : List (List UInt8)) (W : World) (hv : Vw strE W.heap a c L) (hl : L.length ≤ 1000) (hs : ∀ s ∈ L, s.length ≤ 255) :
    Calls Try.prog 32 [.slice a L.length c].toArray W (Ret fun v w' => v = .string (bs (pathL L)) ∧ Foot nob W w') := by
  have hjl := join_len hs
  refine calls_of_sc 6 [(0, _)] Try.func32 rfl rfl rfl (enter_slots ⟨rfl, trivial⟩) ?_
  refine Sc.seq ?_
  refine Sc.region ?_
  refine Sl.calm (Cm.assign rfl) rfl ?_
  refine Sl.nil ?_
  refine At.go ?_
  refine Sc.seq ?_
  refine Sc.region ?_
  refine Sl.calm (Cm.move rfl) rfl ?_
  refine Sl.call fn47 rfl (strJoin_ok a c L W hv hl hs) rfl ?_
  rintro _ w1 ⟨rfl, hf1⟩
  refine Sl.calm (Cm.catBs (a := [47]) rfl rfl (by simp; omega)) rfl ?_
  refine Sl.calm (Cm.assign rfl) rfl ?_
  refine Sl.nil ?_
  refine At.weak [(0, _), (2, _)] ⟨rfl, rfl, trivial⟩ ?_
  refine At.go ?_
  refine Sc.ret ?_
  refine At.ret1 rfl rfl ?_
  exact ⟨_, rfl, rfl, hf1⟩
end Go.Proofs.Ytpamandneifemaa
/- tree: the program's named. No condition beyond the bounds that each states. -/
namespace Go.Proofs.Ytpamandneifemaa
open Go Go.RowKit Go.Maps
set_option linter.unusedVariables false

def zNd : Value := .agg (encN (ndh0, nd0)).toArray
/-! nodes by their paths -/
def atN (qs : List (NdH × Nd)) (s : List (List UInt8)) : NdH × Nd := (qs.find? (fun q => decide (q.2.names = s))).getD (ndh0, nd0)
def hasN (qs : List (NdH × Nd)) (s : List (List UInt8)) : Prop := ∃ q ∈ qs, q.2.names = s
instance (qs : List (NdH × Nd)) (s : List (List UInt8)) : Decidable (hasN qs s) := by unfold hasN; exact inferInstance
def MapN (qs : List (NdH × Nd)) (m : List (SK × Value)) : Prop := ∀ (s : List (List UInt8)) (h : (pathL s).length ≤ maxLen), okPath s → getM m (⟨pathL s, h⟩ : SK) = (qs.find? (fun q => decide (q.2.names = s))).map (fun q => Value.agg (encN q).toArray)
section
variable {qs : List (NdH × Nd)} {m : List (SK × Value)} {s : List (List UInt8)}
theorem MapN.nil : MapN [] [] := fun s h hs => rfl
theorem MapN.z (h : MapN qs m) (hs : okPath s) (hl : (pathL s).length ≤ maxLen) : (getM m (⟨pathL s, hl⟩ : SK)).getD zNd = Value.agg (encN (atN qs s)).toArray := by
  rw [h s hl hs]; unfold atN
  cases qs.find? (fun q => decide (q.2.names = s)) <;> rfl
theorem MapN.is (h : MapN qs m) (hs : okPath s) (hl : (pathL s).length ≤ maxLen) : decide ((getM m (⟨pathL s, hl⟩ : SK)).isSome = true) = decide (hasN qs s) := by
  apply decide_eq_decide.2
  rw [h s hl hs, Option.isSome_map, List.find?_isSome]
  simp [hasN]
theorem MapN.snoc (h : MapN qs m) {p : NdH × Nd} (hp : okPath p.2.names) (hn : ¬ hasN qs p.2.names) (hl : (pathL p.2.names).length ≤ maxLen) : MapN (qs ++ [p]) (setM m (⟨pathL p.2.names, hl⟩ : SK) (.agg (encN p).toArray)) := fun s hs ho => by
  rw [setM_get, List.find?_append]
  by_cases e : p.2.names = s
  · subst e
    have : qs.find? (fun q => decide (q.2.names = p.2.names)) = none := List.find?_eq_none.2 (fun q hq => by simpa using fun e => hn ⟨q, hq, e⟩)
    rw [if_pos rfl, this]; simp
  · have : [p].find? (fun q => decide (q.2.names = s)) = none := by simp [e]
    rw [if_neg (fun g => e (pathL_inj ho hp (congrArg Subtype.val g)).symm), h s hs ho, this, Option.or_none]
end
theorem names_of {l : List Nd} {n : Nd} (h : ∀ s ∈ allNm l, vErr s = 0) (hn : n ∈ l) : okPath n.names ∧ ∀ s ∈ n.names, s.length ≤ 255 := by
  have k : ∀ s ∈ n.names, vErr s = 0 := fun s hs => h s (List.mem_flatMap.2 ⟨n, hn, hs⟩)
  exact ⟨fun s hs => ⟨(vErr_ok (k s hs)).2.1, (vErr_ok (k s hs)).2.2.2⟩, fun s hs => (vErr_ok (k s hs)).1⟩
theorem path_len {s : List (List UInt8)} (hl : s.length ≤ 16) (h : ∀ x ∈ s, x.length ≤ 255) : (pathL s).length ≤ maxLen := by
  have := join_len h
  unfold pathL maxLen
  rw [List.length_cons]; omega
theorem twice_in {ps : List (NdH × Nd)} {i : Nat} {p : NdH × Nd} (hp : ps[i]? = some p) (h : hasN (ps.take i) p.2.names) : twiceL (nds ps) := by
  obtain ⟨q, hq, e⟩ := h
  obtain ⟨j, hj⟩ := List.getElem?_of_mem hq
  rw [List.getElem?_take] at hj
  split at hj
  · exact (twice_iff ps).2 ⟨j, i, q, p, by assumption, hj, hp, e⟩
  · cases hj
theorem notin_find {ps : List (NdH × Nd)} {i : Nat} {p : NdH × Nd} (hp : ps[i]? = some p) (h : ¬ hasN (ps.take i) p.2.names) : ¬ findP ps p.2.names < i := by
  intro hlt
  rcases findP_spec ps p.2.names with ⟨h1, h2⟩ | ⟨j, q, h1, h2, h3, h4⟩
  · exact absurd rfl (h2 p (List.mem_of_getElem? hp))
  · exact h ⟨q, List.mem_of_getElem? (i := j) (by rw [List.getElem?_take, if_pos (by omega)]; exact h2), h3⟩
theorem atN_dir {ps : List (NdH × Nd)} (ht : ¬ twiceL (nds ps)) (s : List (List UInt8)) : (atN ps s).2.kind = 1 ↔ dirAt (nds ps) s := by
  unfold atN
  cases hf : ps.find? (fun q => decide (q.2.names = s)) with
  | none =>
    rw [List.find?_eq_none] at hf
    constructor
    · intro h; cases h
    · rintro ⟨n, hn, h1, h2⟩
      obtain ⟨q, hq, rfl⟩ := List.mem_map.1 hn
      exact absurd (decide_eq_true h1) (hf q hq)
  | some q =>
    have hq := List.mem_of_find?_eq_some hf
    have he : q.2.names = s := by simpa using List.find?_some (p := fun q : NdH × Nd => decide (q.2.names = s)) hf
    constructor
    · intro h; exact ⟨q.2, List.mem_map.2 ⟨q, hq, rfl⟩, he, h⟩
    · rintro ⟨n, hn, h1, h2⟩
      obtain ⟨r, hr, rfl⟩ := List.mem_map.1 hn
      obtain ⟨i, hi⟩ := List.getElem?_of_mem hq
      obtain ⟨j, hj⟩ := List.getElem?_of_mem hr
      have : i = j := by
        apply Classical.byContradiction
        intro hne
        rcases Nat.lt_or_gt_of_ne hne with hlt | hgt
        · exact ht ((twice_iff ps).2 ⟨i, j, q, r, hlt, hi, hj, he.trans h1.symm⟩)
        · exact ht ((twice_iff ps).2 ⟨j, i, r, q, hgt, hj, hi, h1.trans he.symm⟩)
      subst this; rw [hi] at hj; cases hj; exact h2
variable {D : Nat → Prop}
end Go.Proofs.Ytpamandneifemaa
/- tree: the program's linked and Check. No condition beyond the bounds that each states. -/
namespace Go.Proofs.Ytpamandneifemaa
open Go Go.RowKit Go.Maps
set_option linter.unusedVariables false

/-! a struct's field -/
def fldV (P : Program) (s f o : Nat) : Bool := match P.underlying s with
  | some (.struct fs) => (match fs[f]? with | some x => decide (x.offset = o) && scaB P x.type | none => false)
  | _ => false
section
variable {P : Program} {N : Nt} {l : SF} {ty : TypeId} {pos : String} {aft : Array Edge} {dd : Option Nat} {g : Option (Nat × Bool)} {CH : Array Obj → Prop} {x : Operand} {v : Value}
theorem Cm.fieldV {cs : List Value} {s f o : Nat} (hs : fldV P s f o = true) (hx : evL l x = some (.agg cs.toArray)) (hv : cs[o]? = some v) : Cm P N CH l ⟨dd, .field s x f, ty, pos, aft, g⟩ v := fun a w ha _ => by
  unfold fldV at hs
  split at hs
  · rename_i fs hu
    split at hs
    · rename_i y hy
      simp only [Bool.and_eq_true, decide_eq_true_eq] at hs
      obtain ⟨h1, h2⟩ := hs
      simp [execOp, ha.ev hx, Instr.field, run_underlying hu, hy, part, sca_agg h2, h1, asAgg, hv]
    · cases hs
  · cases hs
end
theorem fvKind : fldV Try.prog 35 2 2 = true := by kernel_rfl

/-! nodes by their numbers -/
def atK (qs : List (NdH × Nd)) (z : Int) : NdH × Nd := (qs.find? (fun q => decide (q.2.ino = z))).getD (ndh0, nd0)
def hasK (qs : List (NdH × Nd)) (z : Int) : Prop := ∃ q ∈ qs, q.2.ino = z
instance (qs : List (NdH × Nd)) (z : Int) : Decidable (hasK qs z) := by unfold hasK; exact inferInstance
def MapK (qs : List (NdH × Nd)) (m : List (I6 × Value)) : Prop := ∀ z : I6, getM m z = (qs.find? (fun q => decide (q.2.ino = z.1))).map (fun q => Value.agg (encN q).toArray)
section
variable {qs : List (NdH × Nd)} {m : List (I6 × Value)}
theorem MapK.nil : MapK [] [] := fun z => rfl
theorem MapK.z (h : MapK qs m) (z : I6) : (getM m z).getD zNd = Value.agg (encN (atK qs z.1)).toArray := by
  rw [h z]; unfold atK
  cases qs.find? (fun q => decide (q.2.ino = z.1)) <;> rfl
theorem MapK.is (h : MapK qs m) (z : I6) : decide ((getM m z).isSome = true) = decide (hasK qs z.1) := by
  apply decide_eq_decide.2
  rw [h z, Option.isSome_map, List.find?_isSome]
  simp [hasK]
theorem MapK.new (h : MapK qs m) {p : NdH × Nd} (z : I6) (hz : z.1 = p.2.ino) (hn : ¬ hasK qs p.2.ino) : MapK (qs ++ [p]) (setM m z (.agg (encN p).toArray)) := fun y => by
  rw [setM_get, List.find?_append]
  by_cases e : y = z
  · subst e
    have : qs.find? (fun q => decide (q.2.ino = y.1)) = none := List.find?_eq_none.2 (fun q hq => by simpa using fun e => hn ⟨q, hq, by rw [e, hz]⟩)
    rw [if_pos rfl, this]; simp [hz]
  · have : [p].find? (fun q => decide (q.2.ino = y.1)) = none := by
      have : ¬ p.2.ino = y.1 := fun g => e (Subtype.ext (by rw [← g, hz]))
      simp [this]
    rw [if_neg e, h y, this, Option.or_none]
theorem MapK.old (h : MapK qs m) {p : NdH × Nd} (hn : hasK qs p.2.ino) : MapK (qs ++ [p]) m := fun y => by
  rw [List.find?_append, h y]
  by_cases e : y.1 = p.2.ino
  · obtain ⟨q, hq, hi⟩ := hn
    have : (qs.find? (fun q => decide (q.2.ino = y.1))).isSome = true := by
      rw [List.find?_isSome]; exact ⟨q, hq, by simp [hi, e]⟩
    obtain ⟨r, hr⟩ := Option.isSome_iff_exists.1 this
    rw [hr]; rfl
  · have : [p].find? (fun q => decide (q.2.ino = y.1)) = none := by
      have : ¬ p.2.ino = y.1 := fun g => e g.symm
      simp [this]
    rw [this, Option.or_none]
theorem atK_mem {z : Int} (h : hasK qs z) : atK qs z ∈ qs ∧ (atK qs z).2.ino = z := by
  obtain ⟨q, hq, hi⟩ := h
  have : (qs.find? (fun q => decide (q.2.ino = z))).isSome = true := by
    rw [List.find?_isSome]; exact ⟨q, hq, by simp [hi]⟩
  obtain ⟨r, hr⟩ := Option.isSome_iff_exists.1 this
  unfold atK
  rw [hr]
  exact ⟨List.mem_of_find?_eq_some hr, by simpa using List.find?_some (p := fun q : NdH × Nd => decide (q.2.ino = z)) hr⟩
end
theorem lnk_alk {l : List Nd} (h : l.Pairwise lnkR) {b q : Nd} (hb : b ∈ l) (hq : q ∈ l) (e : b.ino = q.ino) : Alk b q := by
  obtain ⟨i, h1, rfl⟩ := List.getElem_of_mem hb
  obtain ⟨j, h2, rfl⟩ := List.getElem_of_mem hq
  rcases Nat.lt_trichotomy i j with hlt | heq | hgt
  · exact (List.pairwise_iff_getElem.1 h i j h1 h2 hlt e.symm).2.symm
  · subst heq; exact Alk.refl _
  · exact (List.pairwise_iff_getElem.1 h j i h2 h1 hgt e).2
theorem take_mem {ps : List (NdH × Nd)} {i : Nat} {q : NdH × Nd} (h : q ∈ ps.take i) : q.2 ∈ (nds ps).take i := by
  rw [← nds_take]; exact List.mem_map.2 ⟨q, h, rfl⟩
theorem lnk_snoc {ps : List (NdH × Nd)} {i : Nat} {p : NdH × Nd} (hp : ps[i]? = some p) (h : ((nds ps).take i).Pairwise lnkR) (hb : ∀ b ∈ (nds ps).take i, lnkR b p.2) : ((nds ps).take (i + 1)).Pairwise lnkR := by
  rw [tkN hp]
  exact List.pairwise_append.2 ⟨h, by simp, fun b hb' a ha => by rw [List.mem_singleton] at ha; subst ha; exact hb b hb'⟩
theorem lnk_old {ps : List (NdH × Nd)} {i : Nat} {p : NdH × Nd} (hp : ps[i]? = some p) (h : ((nds ps).take i).Pairwise lnkR) (ho : hasK (ps.take i) p.2.ino) (hk : p.2.kind ≠ 1) (ha : Alk p.2 (atK (ps.take i) p.2.ino).2) : ((nds ps).take (i + 1)).Pairwise lnkR :=
  lnk_snoc hp h fun b hb e => ⟨hk, ha.trans (lnk_alk h (take_mem (atK_mem ho).1) hb ((atK_mem ho).2.trans e))⟩
theorem lnk_new {ps : List (NdH × Nd)} {i : Nat} {p : NdH × Nd} (hp : ps[i]? = some p) (h : ((nds ps).take i).Pairwise lnkR) (ho : ¬ hasK (ps.take i) p.2.ino) : ((nds ps).take (i + 1)).Pairwise lnkR :=
  lnk_snoc hp h fun b hb e => absurd (show hasK (ps.take i) p.2.ino by
    rw [← nds_take] at hb
    obtain ⟨q, hq, rfl⟩ := List.mem_map.1 hb
    exact ⟨q, hq, e.symm⟩) ho
theorem lnk_bad {ps : List (NdH × Nd)} {i : Nat} {p : NdH × Nd} (hp : ps[i]? = some p) (ho : hasK (ps.take i) p.2.ino) (hb : ¬ (p.2.kind ≠ 1 ∧ Alk p.2 (atK (ps.take i) p.2.ino).2)) : ¬ (nds ps).Pairwise lnkR := by
  intro h
  obtain ⟨h1, h2⟩ := atK_mem ho
  obtain ⟨j, hj⟩ := List.getElem?_of_mem h1
  rw [List.getElem?_take] at hj
  split at hj
  · exact hb (lnk_at h (by assumption) hj hp h2.symm)
  · cases hj
variable {D : Nat → Prop}
theorem plc_root {ps : List (NdH × Nd)} (hl : ¬ (1024 : Int) < ps.length) (hz : nmd (nds ps) = 0) (hr : ¬ (atN ps []).2.kind = 1) : plc (nds ps) = 4 := by
  have hll : (nds ps).length = ps.length := by simp
  unfold plc; rw [if_neg (by omega), if_neg (fun h => h hz), if_pos (fun h => hr ((atN_dir (nmd_zero hz).2.2 _).2 h))]
theorem plc_par {ps : List (NdH × Nd)} (hl : ¬ (1024 : Int) < ps.length) (hz : nmd (nds ps) = 0) (hr : (atN ps []).2.kind = 1) {p : NdH × Nd} (hp : p ∈ ps) (hne : p.2.names ≠ []) (hb : ¬ (atN ps p.2.names.dropLast).2.kind = 1) : plc (nds ps) = 5 := by
  have hll : (nds ps).length = ps.length := by simp
  have ht := (nmd_zero hz).2.2
  unfold plc; rw [if_neg (by omega), if_neg (fun h => h hz), if_neg (fun h => h ((atN_dir ht _).1 hr)), if_pos ⟨p.2, List.mem_map.2 ⟨p, hp, rfl⟩, hne, fun h => hb ((atN_dir ht _).2 h)⟩]
theorem plc_zero {ps : List (NdH × Nd)} (hl : ¬ (1024 : Int) < ps.length) (hz : nmd (nds ps) = 0) (hr : (atN ps []).2.kind = 1) (hb : ∀ p ∈ ps, p.2.names ≠ [] → (atN ps p.2.names.dropLast).2.kind = 1) : plc (nds ps) = 0 := by
  have hll : (nds ps).length = ps.length := by simp
  have ht := (nmd_zero hz).2.2
  unfold plc; rw [if_neg (by omega), if_neg (fun h => h hz), if_neg (fun h => h ((atN_dir ht _).1 hr)), if_neg]
  rintro ⟨n, hn, h1, h2⟩
  obtain ⟨p, hp, rfl⟩ := List.mem_map.1 hn
  exact h2 ((atN_dir ht _).1 (hb p hp h1))
theorem ex_nds {ps : List (NdH × Nd)} {R : Nd → Prop} : (∃ n ∈ nds ps, R n) ↔ ∃ p ∈ ps, R p.2 :=
  ⟨fun ⟨n, hn, h⟩ => by obtain ⟨p, hp, rfl⟩ := List.mem_map.1 hn; exact ⟨p, hp, h⟩, fun ⟨p, hp, h⟩ => ⟨p.2, List.mem_map.2 ⟨p, hp, rfl⟩, h⟩⟩
end Go.Proofs.Ytpamandneifemaa
/- tree laws: the examples; few. No condition beyond the bounds that each states. -/
namespace Go.Proofs.Ytpamandneifemaa
open Go Go.RowKit Go.Maps
set_option linter.unusedVariables false

section
variable {P : Program} {N : Nt} {Q : Exit → Act → World → Prop} {l : SF} {w : World} {ops : Array Oper} {rest : List Oper} {op : Op} {ty : TypeId} {pos : String} {aft : Array Edge} {d : Nat}
theorem Sl.wanted {j s : Nat} {b : Bool} (hj : (ops[j]?).bind (·.dst) = some s) (hs : lk l s = some (.bool b)) (h : Sl P N ops Q (⟨some d, op, ty, pos, aft, none⟩ :: rest) l w) :
    Sl P N ops Q (⟨some d, op, ty, pos, aft, some (j, b)⟩ :: rest) l w := fun a ha => by
  have h1 := h a ha
  unfold wpList at h1 ⊢
  rw [if_pos (by simp [Region.wanted])] at h1
  rw [if_pos (by simp [Region.wanted, yielded_of ha hj hs])]
  exact h1
end
theorem fr_app {B n : Nat} {o o' : Option Addr} (h : Fr B o) (hr : ∀ a, o' = some a → o = some a ∨ n ≤ a.block) (hn : B ≤ n) : Fr B o' := fun a ha => by
  rcases hr a ha with h1 | h1
  · exact h a h1
  · omega

/-! few -/
def cutHd (h : Hd) (n : Nat) : Hd := if n < h.n then ⟨h.a, n, h.c⟩ else h
theorem cutHd_yes {h : Hd} {n : Nat} (k : n < h.n) : cutHd h n = ⟨h.a, n, h.c⟩ := if_pos k
theorem cutHd_no {h : Hd} {n : Nat} (k : ¬ n < h.n) : cutHd h n = h := if_neg k
def fewN (n : Nd) : Nd := { n with names := n.names.take 20, data := n.data.take 5000, xs := n.xs.take 10 }
def fewP (p : NdH × Nd) : NdH × Nd := (⟨cutHd p.1.names 20, cutHd p.1.data 5000, cutHd p.1.xs 10⟩, fewN p.2)
def fewL (ps : List (NdH × Nd)) : List (NdH × Nd) := (ps.take 60).map fewP
variable {D : Nat → Prop}
theorem take_ne {α : Type} {l : List α} {n : Nat} (h : l.take n ≠ []) : l ≠ [] := fun e => h (by rw [e]; exact List.take_nil)
theorem NmV.cut {H : Array Obj} {h : Hd} {l : List (List UInt8)} (v : NmV D H h l) (n : Nat) : NmV D H (cutHd h n) (l.take n) := by
  by_cases k : n < h.n
  · rw [cutHd_yes k]
    exact ⟨by have := v.1; rw [List.length_take]; show n = _; omega, v.2.1.take n, fun hne => v.2.2 (take_ne hne)⟩
  · rw [cutHd_no k, List.take_of_length_le (by have := v.1; omega)]; exact v
theorem ByV.cut {H : Array Obj} {h : Hd} {l : List UInt8} (v : ByV D H h l) (n : Nat) : ByV D H (cutHd h n) (l.take n) := by
  by_cases k : n < h.n
  · rw [cutHd_yes k]
    exact ⟨by have := v.1; rw [List.length_take]; show n = _; omega, v.2.1.take n, fun hne => v.2.2 (take_ne hne)⟩
  · rw [cutHd_no k, List.take_of_length_le (by have := v.1; omega)]; exact v
theorem XsV.cut {H : Array Obj} {h : Hd} {X : List Xa} (v : XsV D H h X) (n : Nat) : XsV D H (cutHd h n) (X.take n) := by
  by_cases k : n < h.n
  · rw [cutHd_yes k]
    obtain ⟨h1, ys, h2, h3, h4, h5⟩ := v
    refine ⟨by rw [List.length_take]; show n = _; omega, ys.take n, h2.take n, by simp [h3], fun hne => h4 (take_ne hne), fun i x y hx hy => ?_⟩
    rw [List.getElem?_take] at hx hy
    by_cases hi : i < n
    · rw [if_pos hi] at hx hy; exact h5 i x y hx hy
    · rw [if_neg hi] at hx; cases hx
  · rw [cutHd_no k, List.take_of_length_le (by have := v.1; omega)]; exact v
theorem NdV.few {H : Array Obj} {p : NdH × Nd} (v : NdV D H p) : NdV D H (fewP p) := ⟨v.1.cut 20, v.2.1.cut 5000, v.2.2.cut 10⟩
theorem smN.few {n : Nd} (h : smN n) : smN (fewN n) := ⟨h.1, fun s hs => h.2.1 s (List.mem_of_mem_take hs), fun x hx => h.2.2 x (List.mem_of_mem_take hx)⟩
theorem few_all {R : Nd → Prop} {ps : List (NdH × Nd)} (h : ∀ p ∈ ps, R (fewN p.2)) : ∀ p ∈ fewL ps, R p.2 := by
  intro p hp
  obtain ⟨q, hq, rfl⟩ := List.mem_map.1 hp
  exact h q (List.mem_of_mem_take hq)
theorem few_len (ps : List (NdH × Nd)) : (fewL ps).length ≤ 60 := by unfold fewL; rw [List.length_map, List.length_take]; omega
theorem mapTk {ps : List (NdH × Nd)} {i : Nat} {p : NdH × Nd} (hp : ps[i]? = some p) : (ps.take (i + 1)).map fewP = (ps.take i).map fewP ++ [fewP p] := by rw [tkL hp]; simp
/-! the examples -/
def rootP : NdH × Nd := (ndh0, { nd0 with ino := 1, kind := 1 })
def kidP (g : Nat) : NdH × Nd := (⟨⟨some ⟨g, 0, none⟩, 2, 2⟩, hd0, hd0⟩, { nd0 with names := [[97], [98]], ino := 2, kind := 2 })
theorem chk_root : chk (nds [rootP]) = 0 := by decide +kernel
theorem chk_none : chk (nds []) = 4 := by decide +kernel
theorem chk_kid (g : Nat) : chk (nds [rootP, kidP g]) = 5 := by show chk [{ nd0 with ino := 1, kind := 1 }, { nd0 with names := [[97], [98]], ino := 2, kind := 2 }] = 5; decide +kernel
theorem nil_v (H : Array Obj) : NdV (fun _ => True) H rootP :=
  ⟨⟨rfl, Vw.nil 0 (Nat.zero_le _), fun _ _ _ => trivial⟩, ⟨rfl, Vw.nil 0 (Nat.zero_le _), fun _ _ _ => trivial⟩, ⟨rfl, [], ⟨Nat.zero_le _, Nat.zero_le _, fun h => absurd rfl h, fun i x hx => by simp at hx⟩, rfl, fun _ _ _ => trivial, fun i x y hx => by simp at hx⟩⟩
theorem root_sm : smN rootP.2 := ⟨Nat.zero_le _, by simp [rootP, nd0], by simp [rootP, nd0]⟩
theorem root_ok : okN rootP.2 := by simp [okN, rootP, nd0]
theorem kid_v (g : Nat) {H : Array Obj} (h : Vw strE H (some ⟨g, 0, none⟩) 2 [[97], [98]]) : NdV (fun _ => True) H (kidP g) :=
  ⟨⟨rfl, h, fun _ _ _ => trivial⟩, (nil_v H).2⟩
theorem kid_sm (g : Nat) : smN (kidP g).2 := ⟨Nat.zero_le _, by simp [kidP]; decide, by simp [kidP, nd0]⟩
theorem kid_ok (g : Nat) : okN (kidP g).2 := by simp [okN, kidP, nd0]
end Go.Proofs.Ytpamandneifemaa
/- tree: the laws TreeChecks, TreeAlike. No condition beyond the bounds that each states. -/
namespace Go.Proofs.Ytpamandneifemaa
open Go Go.RowKit Go.Maps
set_option linter.unusedVariables false

variable {D : Nat → Prop}
theorem sm_few {ps : List (NdH × Nd)} (h : ∀ p ∈ ps, okN p.2 ∧ smN p.2) : ∀ p ∈ fewL ps, smN p.2 := few_all fun p hp => (h p hp).2.few
theorem ok_few {ps : List (NdH × Nd)} (h : ∀ p ∈ ps, okN p.2 ∧ smN p.2) : ∀ p ∈ fewL ps, okN p.2 := few_all (R := okN) fun p hp => (h p hp).1
/-- a node under other names -/
def othP (p : NdH × Nd) (h : Hd) (s : List (List UInt8)) (z : Int) : NdH × Nd := (⟨h, (fewP p).1.data, (fewP p).1.xs⟩, { fewN p.2 with names := s, ino := z })
theorem oth_alk (p : NdH × Nd) (h : Hd) (s : List (List UInt8)) (z : Int) : Alk (fewP p).2 (othP p h s z).2 := ⟨rfl, ⟨rfl, rfl, rfl⟩, rfl, rfl, rfl, rfl⟩
end Go.Proofs.Ytpamandneifemaa
