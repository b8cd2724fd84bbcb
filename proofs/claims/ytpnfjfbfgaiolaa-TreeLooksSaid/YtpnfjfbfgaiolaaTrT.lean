/- tree: the reference's Numbered and Canon. No condition beyond the bounds that each states. -/
import Derived.Test.YtpnfjfbfgaiolaaTrS
namespace Go.Proofs.Ytpnfjfbfgaiolaa
open Go Go.RowKit Go.Maps
set_option linter.unusedVariables false

/-! numbers as they come first -/
def addS (s : List Int) (z : Int) : List Int := if z ∈ s then s else s ++ [z]
def seenOf (zs : List Int) : List Int := zs.foldl addS []
def numZ (zs : List Int) (z : Int) : Int := ((seenOf zs).idxOf z : Nat) + 1
theorem addS_mem {s : List Int} {z x : Int} : x ∈ addS s z ↔ x ∈ s ∨ x = z := by
  unfold addS
  split
  · rename_i h; exact ⟨.inl, fun g => g.elim id (fun e => e ▸ h)⟩
  · simp
theorem fold_mem : ∀ (zs s : List Int) (x : Int), x ∈ zs.foldl addS s ↔ x ∈ s ∨ x ∈ zs
  | [], s, x => by simp
  | z :: zs, s, x => by
    rw [List.foldl_cons, fold_mem zs, addS_mem, List.mem_cons]
    exact or_assoc
theorem seen_mem {zs : List Int} {x : Int} : x ∈ seenOf zs ↔ x ∈ zs := by unfold seenOf; rw [fold_mem]; simp
theorem fold_ext : ∀ (zs s : List Int), ∃ r, zs.foldl addS s = s ++ r
  | [], s => ⟨[], by simp⟩
  | z :: zs, s => by
    obtain ⟨r, h⟩ := fold_ext zs (addS s z)
    rw [List.foldl_cons, h]
    unfold addS
    split
    · exact ⟨r, rfl⟩
    · exact ⟨z :: r, by simp⟩
theorem seen_app (a b : List Int) : ∃ r, seenOf (a ++ b) = seenOf a ++ r := by
  unfold seenOf; rw [List.foldl_append]; exact fold_ext _ _
theorem seen_snoc (a : List Int) (z : Int) : seenOf (a ++ [z]) = addS (seenOf a) z := by unfold seenOf; rw [List.foldl_append]; rfl
theorem numZ_new {a b : List Int} {z : Int} (h : z ∉ a) : numZ (a ++ z :: b) z = ((seenOf a).length : Nat) + 1 := by
  obtain ⟨r, hr⟩ := seen_app (a ++ [z]) b
  have e : a ++ z :: b = (a ++ [z]) ++ b := by simp
  have hs : z ∉ seenOf a := fun g => h (seen_mem.1 g)
  unfold numZ
  rw [e, hr, seen_snoc]
  unfold addS
  rw [if_neg hs, List.append_assoc, List.idxOf_append, if_neg hs]
  show ((List.idxOf z (z :: r) + (seenOf a).length : Nat) : Int) + 1 = _
  rw [List.idxOf_cons_self, Nat.zero_add]
theorem seen_len_new {a : List Int} {z : Int} (h : z ∉ a) : (seenOf (a ++ [z])).length = (seenOf a).length + 1 := by
  rw [seen_snoc]; unfold addS; rw [if_neg (fun g => h (seen_mem.1 g))]; simp
theorem seen_len_old {a : List Int} {z : Int} (h : z ∈ a) : (seenOf (a ++ [z])).length = (seenOf a).length := by
  rw [seen_snoc]; unfold addS; rw [if_pos (seen_mem.2 h)]
theorem addS_le (s : List Int) (z : Int) : (addS s z).length ≤ s.length + 1 := by unfold addS; split <;> simp
theorem seen_le (zs : List Int) : (seenOf zs).length ≤ zs.length := by
  have : ∀ (zs s : List Int), (zs.foldl addS s).length ≤ s.length + zs.length := fun zs => by
    induction zs with
    | nil => intro s; simp
    | cons z zs ih => intro s; rw [List.foldl_cons, List.length_cons]; have := ih (addS s z); have := addS_le s z; omega
  have := this zs []
  simpa [seenOf] using this
def inosOf (ps : List (NdH × Nd)) : List Int := ps.map (·.2.ino)
def renP (zs : List Int) (p : NdH × Nd) : NdH × Nd := (p.1, { p.2 with ino := numZ zs p.2.ino })
def numP (ps : List (NdH × Nd)) : List (NdH × Nd) := ps.map (renP (inosOf ps))
theorem inos_split {ps : List (NdH × Nd)} {i : Nat} {p : NdH × Nd} (hp : ps[i]? = some p) : inosOf ps = inosOf (ps.take i) ++ p.2.ino :: inosOf (ps.drop (i + 1)) := by
  conv => lhs; rw [← List.take_append_drop i ps, drop_at hp]
  simp [inosOf]
theorem inos_tk {ps : List (NdH × Nd)} {i : Nat} {p : NdH × Nd} (hp : ps[i]? = some p) : inosOf (ps.take (i + 1)) = inosOf (ps.take i) ++ [p.2.ino] := by rw [tkL hp]; simp [inosOf]
theorem ino_mem {ps : List (NdH × Nd)} {i : Nat} {z : Int} : z ∈ inosOf (ps.take i) ↔ ∃ (k : Nat) (q : NdH × Nd), k < i ∧ ps[k]? = some q ∧ q.2.ino = z := by
  unfold inosOf
  constructor
  · intro h
    obtain ⟨q, hq, e⟩ := List.mem_map.1 h
    obtain ⟨k, hk⟩ := List.getElem?_of_mem hq
    rw [List.getElem?_take] at hk
    split at hk
    · exact ⟨k, q, by assumption, hk, e⟩
    · cases hk
  · rintro ⟨k, q, hk, hq, e⟩
    exact List.mem_map.2 ⟨q, List.mem_of_getElem? (i := k) (by rw [List.getElem?_take, if_pos hk]; exact hq), e⟩
theorem renTk {zs : List Int} {ps : List (NdH × Nd)} {i : Nat} {p : NdH × Nd} (hp : ps[i]? = some p) : (ps.take (i + 1)).map (renP zs) = (ps.take i).map (renP zs) ++ [renP zs p] := by rw [tkL hp]; simp
theorem numZ_pos (zs : List Int) (z : Int) : 1 ≤ numZ zs z := by unfold numZ; omega
variable {D : Nat → Prop}
set_option maxHeartbeats 4000000 in
theorem rnum_ok (lo : Option Addr) (lc : Nat) (ps : List (NdH × Nd)) (W : World) (hv : VwM 10 encN W.heap lo lc ps) (h1000 : ps.length ≤ 1024) :
    Calls Try.prog 52 [.slice lo ps.length lc].toArray W (Ret fun v w' => ∃ o c, v = .slice o (numP ps).length c ∧ OwnM 10 encN 34 w'.heap o c (numP ps) ∧ Fr W.heap.size o ∧ Foot nob W w') := by
  have h63 := hv.len63
  obtain ⟨Z, hZ⟩ : ∃ Z, Z = inosOf ps := ⟨_, rfl⟩
  refine calls_of_sc 54 [(0, _)] Try.func52 rfl rfl rfl (enter_slots ⟨rfl, trivial⟩) ?_
  refine Sc.seq ?_
  refine Sc.region ?_
  refine Sl.calm (Cm.assign rfl) rfl ?_
  refine Sl.nil ?_
  refine At.go ?_
  refine Sc.seq ?_
  refine Sc.region ?_
  refine Sl.lit0M encN_cells sl22 rfl ?_
  intro w1 ho1 hs1 hf1
  refine Sl.calm (Cm.assign rfl) rfl ?_
  refine Sl.nil ?_
  refine At.weak [(0, _), (2, _), (3, _)] ⟨rfl, rfl, rfl, trivial⟩ ?_
  refine At.go ?_
  refine Sc.seq ?_
  refine Sc.region ?_
  refine Sl.calm (Cm.assign rfl) rfl ?_
  refine Sl.nil ?_
  refine At.go ?_
  refine Sc.seq ?_
  refine Sc.seq ?_
  refine Sc.region ?_
  refine Sl.calm (Cm.assign rfl) rfl ?_
  refine Sl.nil ?_
  refine At.go ?_
  refine Sc.block ?_
  refine Sc.loop (β := Nat × Option Addr × Nat) (fun ⟨i, o, c⟩ => [(0, .slice lo ps.length lc), (3, .slice o ((ps.take i).map (renP Z)).length c), (4, .int .i64 (((seenOf (inosOf (ps.take i))).length : Nat) + 1)), (5, .int .i64 i)]) (fun ⟨i, o, c⟩ w => i ≤ ps.length ∧ OwnM 10 encN 34 w.heap o c ((ps.take i).map (renP Z)) ∧ Fr W.heap.size o ∧ Foot nob W w) (fun ⟨i, o, c⟩ => ps.length - i) ⟨0, some ⟨W.heap.size, 0, none⟩, 0⟩ ⟨rfl, rfl, rfl, rfl, trivial⟩ ⟨Nat.zero_le _, ho1, fun a ha => by cases ha; exact Nat.le_refl _, hf1⟩ ?_
  rintro ⟨i, o, c⟩ w2 ⟨hi, ho2, hfo, hF2⟩
  refine Sc.seq ?_
  refine Sc.seq ?_
  refine Sc.region ?_
  refine Sl.calm (Cm.move rfl) rfl ?_
  refine Sl.calm (Cm.move rfl) rfl ?_
  refine Sl.calm (Cm.len sl22 rfl) rfl ?_
  refine Sl.fork (Cm.lss rfl rfl) rfl (fun h12 => ?_) (fun h12 => ?_)
  ·
    have hil : i < ps.length := by omega
    obtain ⟨p, hp⟩ : ∃ p, ps[i]? = some p := ⟨_, List.getElem?_eq_getElem hil⟩
    have hv2 := hv.keep' hF2 (fun _ _ _ => id)
    have hsl := seen_le (inosOf (ps.take i))
    have hil2 : (inosOf (ps.take i)).length = i := by simp [inosOf]; omega
    refine Sl.nil ?_
    refine At.weak [(0, _), (3, _), (4, _), (5, _), (12, _)] ⟨rfl, rfl, rfl, rfl, rfl, trivial⟩ ?_
    refine At.go ?_
    refine Sc.cond_t rfl ?_
    refine Sc.skip ?_
    refine At.go ?_
    refine Sc.seq ?_
    refine Sc.block ?_
    refine Sc.seq ?_
    refine Sc.region ?_
    refine Sl.calm (Cm.move rfl) rfl ?_
    refine Sl.calm (Cm.move rfl) rfl ?_
    refine Sl.calm (Cm.indexAddr sl22 rfl rfl hv2.non (by omega)) rfl ?_
    refine Sl.calm (Cm.ldM (cs := encN p) agg34 rfl (fun j v hj => hv2.rowZ i rfl hp j v hj)) rfl ?_
    refine Sl.allocC zc34 rfl ?_
    intro w3 hg3 hs3 hf3
    obtain ⟨q, hq⟩ : ∃ q, q = w2.heap.size := ⟨_, rfl⟩
    rw [← hq] at hg3 ⊢
    have hoq : ∀ a, o = some a → ¬ a.block = q := fun a ha => by have := ho2.lt a ha; omega
    refine Sl.storeAll (vs := encN p) agg34 rfl rfl (encN_cells p).2 hg3 rfl ?_
    intro w4 hg4 hs4 hf4
    have hf24 : Foot nob w2 w4 := hf3.trans_to hf4 (fun k e => .inr (by have e : k = q := e; omega))
    refine Sl.nil ?_
    refine At.weak [(0, _), (3, _), (4, _), (5, _), (6, _), (12, _)] ⟨rfl, rfl, rfl, rfl, rfl, rfl, trivial⟩ ?_
    refine At.go ?_
    refine Sc.seq ?_
    refine Sc.region ?_
    refine Sl.calm (Cm.field fld34_1 rfl) rfl ?_
    refine Sl.store sca3 rfl rfl rfl hg4 rfl ?_
    intro w5 hg5 hs5 hf5
    have hf25 : Foot nob w2 w5 := hf24.trans_to hf5 (fun k e => .inr (by have e : k = q := e; omega))
    refine Sl.nil ?_
    refine At.weak [(0, _), (3, _), (4, _), (5, _), (6, _), (12, _)] ⟨rfl, rfl, rfl, rfl, rfl, rfl, trivial⟩ ?_
    refine At.go ?_
    refine Sc.seq ?_
    refine Sc.seq ?_
    refine Sc.region ?_
    refine Sl.calm (Cm.assign rfl) rfl ?_
    refine Sl.nil ?_
    refine At.go ?_
    refine Sc.block ?_
    refine Sc.loop (β := Nat × Int) (fun ⟨k, z⟩ => [(0, .slice lo ps.length lc), (3, .slice o ((ps.take i).map (renP Z)).length c), (4, .int .i64 (((seenOf (inosOf (ps.take i))).length : Nat) + 1)), (5, .int .i64 i), (6, .pointer (some ⟨q, 0, none⟩)), (7, .int .i64 k)]) (fun ⟨k, z⟩ w => k ≤ i ∧ w.heap[q]? = some (.cells (encN (p.1, { p.2 with ino := z })).toArray 34 (0, 0)) ∧ ((p.2.ino ∉ inosOf (ps.take k) → z = 0) ∧ (p.2.ino ∈ inosOf (ps.take k) → z = numZ Z p.2.ino)) ∧ Foot nob w2 w) (fun ⟨k, z⟩ => i - k) ⟨0, 0⟩ ⟨rfl, rfl, rfl, rfl, rfl, rfl, trivial⟩ ⟨Nat.zero_le _, hg5, ⟨fun _ => rfl, fun h => by simp [inosOf] at h⟩, hf25⟩ ?_
    rintro ⟨k, z⟩ w6 ⟨hk, hg6, hzc, hF6⟩
    refine Sc.seq ?_
    refine Sc.seq ?_
    refine Sc.region ?_
    refine Sl.calm (Cm.move rfl) rfl ?_
    refine Sl.calm (Cm.move rfl) rfl ?_
    refine Sl.fork (Cm.lss rfl rfl) rfl (fun h22 => ?_) (fun h22 => ?_)
    ·
      have hki : k < i := by omega
      obtain ⟨r, hr⟩ : ∃ r, ps[k]? = some r := ⟨_, List.getElem?_eq_getElem (by omega)⟩
      have hv6 := hv2.keep' hF6 (fun _ _ _ => id)
      have ho6 := ho2.grow hF6
      refine Sl.nil ?_
      refine At.weak [(0, _), (3, _), (4, _), (5, _), (6, _), (7, _), (22, _)] ⟨rfl, rfl, rfl, rfl, rfl, rfl, rfl, trivial⟩ ?_
      refine At.go ?_
      refine Sc.cond_t rfl ?_
      refine Sc.skip ?_
      refine At.go ?_
      refine Sc.seq ?_
      refine Sc.block ?_
      refine Sc.seq ?_
      refine Sc.quiet 11 [0, 1, 2, 3, 4, 5, 6, 7, 8, 9, 10] mixed (by kernel_rfl) ?_
      refine Sx.calm rfl rfl (Cm.move rfl) rfl ?_
      refine Sx.calm rfl rfl (Cm.move rfl) rfl ?_
      refine Sx.calm rfl rfl (Cm.indexAddr sl22 rfl rfl hv6.non (by omega)) rfl ?_
      refine Sx.calm rfl rfl (Cm.field fld34_1 rfl) rfl ?_
      refine Sx.calm rfl rfl (Cm.ld sca3 rfl (hv6.rowZ k rfl hr 1 _ rfl)) rfl ?_
      refine Sx.calm rfl rfl (Cm.move rfl) rfl ?_
      refine Sx.calm rfl rfl (Cm.move rfl) rfl ?_
      refine Sx.calm rfl rfl (Cm.indexAddr sl22 rfl rfl hv6.non (by omega)) rfl ?_
      refine Sx.calm rfl rfl (Cm.field fld34_1 rfl) rfl ?_
      refine Sx.calm rfl rfl (Cm.ld sca3 rfl (hv6.rowZ i rfl hp 1 _ rfl)) rfl ?_
      refine Sx.fork rfl rfl (Cm.eql rfl rfl) rfl (fun h35 => ?_) (fun h35 => ?_)
      ·
        refine Sx.nil ?_
        refine At.weak [(0, _), (3, _), (4, _), (5, _), (6, _), (7, _), (22, _), (35, _)] ⟨rfl, rfl, rfl, rfl, rfl, rfl, rfl, rfl, trivial⟩ ?_
        refine At.go ?_
        refine Sc.cond_t rfl ?_
        refine Sc.region ?_
        refine Sl.calm (Cm.move rfl) rfl ?_
        refine Sl.calm (Cm.move rfl) rfl ?_
        have hvo := ho6.vw encN_cells
        have hrk : ((ps.take i).map (renP Z))[k]? = some (renP Z r) := by rw [List.getElem?_map, List.getElem?_take, if_pos hki, hr]; rfl
        refine Sl.calm (Cm.indexAddr sl22 rfl rfl hvo.non (by rw [List.length_map, List.length_take]; omega)) rfl ?_
        refine Sl.calm (Cm.field fld34_1 rfl) rfl ?_
        refine Sl.calm (Cm.ld sca3 rfl (hvo.rowZ k rfl hrk 1 _ rfl)) rfl ?_
        refine Sl.calm (Cm.field fld34_1 rfl) rfl ?_
        refine Sl.store sca3 rfl rfl rfl hg6 rfl ?_
        intro w7 hg7 hs7 hf7
        have hF7 : Foot nob w2 w7 := (hF6.draws 1).trans_to hf7 (fun k e => .inr (by have e : k = q := e; omega))
        refine Sl.nil ?_
        refine At.block_normal ?_
        refine At.weak [(0, _), (3, _), (4, _), (5, _), (6, _), (7, _), (22, _), (35, _)] ⟨rfl, rfl, rfl, rfl, rfl, rfl, rfl, rfl, trivial⟩ ?_
        refine At.go ?_
        refine Sc.region ?_
        refine Sl.calm (Cm.move rfl) rfl ?_
        refine Sl.calm (Cm.add64 rfl rfl (by omega)) rfl ?_
        refine Sl.calm (Cm.assign rfl) rfl ?_
        refine Sl.nil ?_
        first
          | (refine At.again ⟨k + 1, numZ Z r.2.ino⟩ ⟨rfl, rfl, rfl, rfl, rfl, rfl, trivial⟩ ⟨by omega, hg7, ?_, hF7⟩ (by show i - (k + 1) < i - k; omega)
             rw [h35]
             exact ⟨fun h => absurd (by rw [inos_tk hr, List.mem_append]; exact .inr (by rw [h35]; exact List.mem_singleton.2 rfl)) h, fun _ => rfl⟩)
          | (refine At.again ⟨k + 1, z⟩ ⟨rfl, rfl, rfl, rfl, rfl, rfl, trivial⟩ ⟨by omega, hg6, ?_, hF6.draws 1⟩ (by show i - (k + 1) < i - k; omega)
             rw [inos_tk hr, List.mem_append, List.mem_singleton]
             exact ⟨fun h => hzc.1 (fun g => h (.inl g)), fun h => h.elim hzc.2 (fun e => absurd e.symm h35)⟩)
      ·
        refine Sx.nil ?_
        refine At.weak [(0, _), (3, _), (4, _), (5, _), (6, _), (7, _), (22, _), (35, _)] ⟨rfl, rfl, rfl, rfl, rfl, rfl, rfl, rfl, trivial⟩ ?_
        refine At.go ?_
        refine Sc.cond_f rfl ?_
        refine Sc.skip ?_
        refine At.block_normal ?_
        refine At.go ?_
        refine Sc.region ?_
        refine Sl.calm (Cm.move rfl) rfl ?_
        refine Sl.calm (Cm.add64 rfl rfl (by omega)) rfl ?_
        refine Sl.calm (Cm.assign rfl) rfl ?_
        refine Sl.nil ?_
        first
          | (refine At.again ⟨k + 1, numZ Z r.2.ino⟩ ⟨rfl, rfl, rfl, rfl, rfl, rfl, trivial⟩ ⟨by omega, hg7, ?_, hF7⟩ (by show i - (k + 1) < i - k; omega)
             rw [h35]
             exact ⟨fun h => absurd (by rw [inos_tk hr, List.mem_append]; exact .inr (by rw [h35]; exact List.mem_singleton.2 rfl)) h, fun _ => rfl⟩)
          | (refine At.again ⟨k + 1, z⟩ ⟨rfl, rfl, rfl, rfl, rfl, rfl, trivial⟩ ⟨by omega, hg6, ?_, hF6.draws 1⟩ (by show i - (k + 1) < i - k; omega)
             rw [inos_tk hr, List.mem_append, List.mem_singleton]
             exact ⟨fun h => hzc.1 (fun g => h (.inl g)), fun h => h.elim hzc.2 (fun e => absurd e.symm h35)⟩)
    ·
      have hke : k = i := by omega
      subst hke
      refine Sl.nil ?_
      refine At.weak [(0, _), (3, _), (4, _), (5, _), (6, _), (7, _), (22, _)] ⟨rfl, rfl, rfl, rfl, rfl, rfl, rfl, trivial⟩ ?_
      refine At.go ?_
      refine Sc.cond_f rfl ?_
      refine Sc.exit ?_
      refine At.then_exit ?_
      refine At.then_exit ?_
      refine At.block_hit ?_
      refine At.go ?_
      refine Sc.cut (β := Unit) (fun _u => [(0, .slice lo ps.length lc), (3, .slice o ((ps.take k).map (renP Z)).length c), (4, .int .i64 (((seenOf (inosOf (ps.take (k + 1)))).length : Nat) + 1)), (5, .int .i64 k), (6, .pointer (some ⟨q, 0, none⟩))]) (fun _u w => w.heap[q]? = some (.cells (encN (renP Z p)).toArray 34 (0, 0)) ∧ Foot nob w2 w) ?_ ?_
      ·
        refine Sc.seq ?_
        refine Sc.region ?_
        refine Sl.calm (Cm.field fld34_1 rfl) rfl ?_
        refine Sl.calm (Cm.ofEq (u := .int .i64 z) (Cm.ld sca3 rfl (cellF hg6 rfl)) rfl) rfl ?_
        refine Sl.fork (Cm.eql rfl rfl) rfl (fun h44 => ?_) (fun h44 => ?_)
        ·
          have hn : p.2.ino ∉ inosOf (ps.take k) := fun h => by have := hzc.2 h; have := numZ_pos Z p.2.ino; omega
          have hzz : numZ Z p.2.ino = ((seenOf (inosOf (ps.take k))).length : Nat) + 1 := by rw [hZ, inos_split hp]; exact numZ_new hn
          refine Sl.nil ?_
          refine At.weak [(0, _), (3, _), (4, _), (5, _), (6, _), (7, _), (22, _), (44, _)] ⟨rfl, rfl, rfl, rfl, rfl, rfl, rfl, rfl, trivial⟩ ?_
          refine At.go ?_
          refine Sc.cond_t rfl ?_
          refine Sc.seq ?_
          refine Sc.region ?_
          refine Sl.calm (Cm.move rfl) rfl ?_
          refine Sl.calm (Cm.field fld34_1 rfl) rfl ?_
          refine Sl.store sca3 rfl rfl rfl hg6 rfl ?_
          intro w8 hg8 hs8 hf8
          have hgR : w8.heap[q]? = some (.cells (encN (renP Z p)).toArray 34 (0, 0)) := by unfold renP; rw [hzz]; exact hg8
          have hF8 : Foot nob w2 w8 := hF6.trans_to hf8 (fun k e => .inr (by have e : k = q := e; omega))
          refine Sl.nil ?_
          refine At.weak [(0, _), (3, _), (4, _), (5, _), (6, _), (7, _), (22, _), (44, _)] ⟨rfl, rfl, rfl, rfl, rfl, rfl, rfl, rfl, trivial⟩ ?_
          refine At.go ?_
          refine Sc.region ?_
          refine Sl.calm (Cm.move rfl) rfl ?_
          refine Sl.calm (Cm.add64 rfl rfl (by omega)) rfl ?_
          refine Sl.calm (Cm.assign rfl) rfl ?_
          refine Sl.nil ?_
          first
            | exact At.cut () ⟨rfl, rfl, congrArg (fun z : Int => some (Value.int .i64 z)) (by rw [inos_tk hp, seen_len_new hn]; omega), rfl, rfl, trivial⟩ ⟨hgR, hF8⟩
            | exact At.cut () ⟨rfl, rfl, congrArg (fun z : Int => some (Value.int .i64 z)) (by rw [inos_tk hp, seen_len_old hin]), rfl, rfl, trivial⟩ ⟨by unfold renP; rw [← hzz]; exact hg6, hF6⟩
        ·
          have hin : p.2.ino ∈ inosOf (ps.take k) := by
            apply Classical.byContradiction
            intro hn
            exact h44 (hzc.1 hn)
          have hzz : z = numZ Z p.2.ino := hzc.2 hin
          refine Sl.nil ?_
          refine At.weak [(0, _), (3, _), (4, _), (5, _), (6, _), (7, _), (22, _), (44, _)] ⟨rfl, rfl, rfl, rfl, rfl, rfl, rfl, rfl, trivial⟩ ?_
          refine At.go ?_
          refine Sc.cond_f rfl ?_
          refine Sc.skip ?_
          first
            | exact At.cut () ⟨rfl, rfl, congrArg (fun z : Int => some (Value.int .i64 z)) (by rw [inos_tk hp, seen_len_new hn]; omega), rfl, rfl, trivial⟩ ⟨hgR, hF8⟩
            | exact At.cut () ⟨rfl, rfl, congrArg (fun z : Int => some (Value.int .i64 z)) (by rw [inos_tk hp, seen_len_old hin]), rfl, rfl, trivial⟩ ⟨by unfold renP; rw [← hzz]; exact hg6, hF6⟩
      ·
        rintro _ w8 ⟨hgR, hF8⟩
        refine Sc.region ?_
        refine Sl.calm (Cm.move rfl) rfl ?_
        refine Sl.calm (Cm.ldM (cs := encN (renP Z p)) agg34 rfl (cellsF hgR 0 rfl)) rfl ?_
        obtain ⟨y, hy⟩ : ∃ y, y = renP Z p := ⟨_, rfl⟩
        rw [← hy]
        refine Sl.litG sl22 (cs := (encN y).toArray) zc34 rfl rfl rfl (by kernel_rfl) rfl ?_
        intro w9 hg9 hs9 hf9
        have ho9 : OwnM 10 encN 34 w9.heap (some ⟨w8.heap.size, 0, none⟩) 1 [y] := ownM_new (xs := [y]) encN_cells (by simpa using hg9) (by show 1 ≤ maxLen; decide)
        refine Sl.appendM encN_cells rfl sl22 rfl rfl ((ho2.grow hF8).grow hf9) (ho9.vw encN_cells) (by simp only [List.length_singleton, List.length_map, List.length_take]; omega) (by simp only [List.length_singleton, List.length_map, List.length_take]; unfold maxLen; omega) rfl ?_
        intro o9 c9 w10 hoA hfA hrA hnA
        rw [hy, ← renTk hp] at hoA ⊢
        have hFA : Foot nob W w10 := (hF2.trans (hF8.trans hf9)).trans_to hfA hfo.step
        have hfo9 : Fr W.heap.size o9 := fr_app hfo hrA (by have := hF2.size; have := hF8.size; have := hf9.size; omega)
        refine Sl.calm (Cm.assign rfl) rfl ?_
        refine Sl.nil ?_
        refine At.block_normal ?_
        refine At.weak [(0, _), (3, _), (4, _), (5, _), (6, _)] ⟨rfl, rfl, rfl, rfl, rfl, trivial⟩ ?_
        refine At.go ?_
        refine Sc.region ?_
        refine Sl.calm (Cm.move rfl) rfl ?_
        refine Sl.calm (Cm.add64 rfl rfl (by omega)) rfl ?_
        refine Sl.calm (Cm.assign rfl) rfl ?_
        refine Sl.nil ?_
        exact At.again ⟨k + 1, o9, c9⟩ ⟨rfl, rfl, rfl, rfl, trivial⟩ ⟨by omega, hoA, hfo9, hFA⟩ (by show ps.length - (k + 1) < ps.length - k; omega)
  ·
    have hie : i = ps.length := by omega
    subst hie
    rw [List.take_length] at ho2
    refine Sl.nil ?_
    refine At.weak [(0, _), (3, _), (4, _), (5, _), (12, _)] ⟨rfl, rfl, rfl, rfl, rfl, trivial⟩ ?_
    refine At.go ?_
    refine Sc.cond_f rfl ?_
    refine Sc.exit ?_
    refine At.then_exit ?_
    refine At.then_exit ?_
    refine At.block_hit ?_
    refine At.go ?_
    refine Sc.seq ?_
    refine Sc.region ?_
    refine Sl.calm (Cm.move rfl) rfl ?_
    refine Sl.calm (Cm.assign rfl) rfl ?_
    refine Sl.nil ?_
    refine At.weak [(0, _), (2, _), (3, _), (4, _), (5, _), (12, _)] ⟨rfl, rfl, rfl, rfl, rfl, rfl, trivial⟩ ?_
    refine At.go ?_
    refine Sc.ret ?_
    refine At.ret1 rfl rfl ?_
    refine ⟨_, rfl, o, c, ?_, ?_, hfo, hF2⟩
    · rw [List.take_length, hZ]; rfl
    · unfold numP; rw [← hZ]; exact ho2
theorem num_v {H : Array Obj} {ps : List (NdH × Nd)} (h : ∀ p ∈ ps, NdV D H p) : ∀ p ∈ numP ps, NdV D H p := by
  intro p hp
  obtain ⟨q, hq, rfl⟩ := List.mem_map.1 hp
  exact h q hq
def canP (ps : List (NdH × Nd)) : List (NdH × Nd) := numP (srtP ps)
theorem chk_len {l : List Nd} (h : chk l = 0) : l.length ≤ 1024 := by
  unfold chk at h
  by_cases h1 : 1024 < l.length
  · rw [if_pos h1] at h; cases h
  · omega
theorem chk_plc0 {l : List Nd} (h : chk l = 0) : plc l = 0 := by
  rw [chk_plc] at h
  by_cases h1 : plc l = 0
  · exact h1
  · rw [if_pos h1] at h; exact absurd h h1
theorem plc_nmd0 {l : List Nd} (h : plc l = 0) : nmd l = 0 := by
  unfold plc at h
  by_cases h0 : 1024 < l.length
  · rw [if_pos h0] at h; cases h
  · rw [if_neg h0] at h
    by_cases h1 : nmd l = 0
    · exact h1
    · rw [if_pos h1] at h; exact absurd h h1
theorem chk_twice {l : List Nd} (h : chk l = 0) : ¬ twiceL l := (nmd_zero (plc_nmd0 (chk_plc0 h))).2.2
set_option maxHeartbeats 1000000 in
theorem rcanon_ok (lo : Option Addr) (lc : Nat) (ps : List (NdH × Nd)) (W : World) (hv : NodesV D W.heap lo lc ps) (hsm : ∀ p ∈ ps, smN p.2) :
    Calls Try.prog 23 [.slice lo ps.length lc].toArray W (Ret fun v w' => ∃ (o : Option Addr) (c : Nat) (qs : List (NdH × Nd)), v = .tuple [.slice o qs.length c, .int .i64 (chk (nds ps))].toArray ∧ qs = (if chk (nds ps) = 0 then canP ps else []) ∧ NodesV D w'.heap o c qs ∧ Foot nob W w') := by
  have hll : (nds ps).length = ps.length := by simp
  refine calls_of_sc 13 [(0, _)] Try.func23 rfl rfl rfl (enter_slots ⟨rfl, trivial⟩) ?_
  refine Sc.seq ?_
  refine Sc.region ?_
  refine Sl.calm (Cm.assign rfl) rfl ?_
  refine Sl.calm (Cm.assign rfl) rfl ?_
  refine Sl.nil ?_
  refine At.go ?_
  refine Sc.seq ?_
  refine Sc.region ?_
  refine Sl.calm (Cm.move rfl) rfl ?_
  refine Sl.call fn13 rfl (rcheck_ok lo lc ps W hv hsm) rfl ?_
  rintro _ w2 ⟨rfl, hf2⟩
  refine Sl.calm (Cm.assign rfl) rfl ?_
  refine Sl.nil ?_
  refine At.weak [(0, _), (2, _), (3, _), (4, _)] ⟨rfl, rfl, rfl, rfl, trivial⟩ ?_
  refine At.go ?_
  refine Sc.seq ?_
  refine Sc.seq ?_
  refine Sc.region ?_
  refine Sl.calm (Cm.move rfl) rfl ?_
  refine Sl.fork (Cm.neq rfl rfl) rfl (fun h8 => ?_) (fun h8 => ?_)
  ·
    refine Sl.nil ?_
    refine At.weak [(0, _), (2, _), (3, _), (4, _), (8, _)] ⟨rfl, rfl, rfl, rfl, rfl, trivial⟩ ?_
    refine At.go ?_
    refine Sc.cond_t rfl ?_
    refine Sc.seq ?_
    refine Sc.region ?_
    refine Sl.calm (Cm.move rfl) rfl ?_
    refine Sl.calm (Cm.assign rfl) rfl ?_
    refine Sl.calm (Cm.assign rfl) rfl ?_
    refine Sl.nil ?_
    refine At.weak [(0, _), (2, _), (3, _), (4, _), (8, _)] ⟨rfl, rfl, rfl, rfl, rfl, trivial⟩ ?_
    refine At.go ?_
    refine Sc.ret ?_
    refine At.then_ret ?_
    refine At.ret2 rfl rfl rfl ?_
    refine ⟨_, rfl, none, 0, [], rfl, (if_neg h8).symm, ⟨⟨Nat.zero_le _, Nat.zero_le _, fun h => absurd rfl h, fun i x hx => by simp at hx⟩, by simp⟩, hf2⟩
  ·
    have hz : chk (nds ps) = 0 := Classical.not_not.1 h8
    have hlen := chk_len hz
    have ht := chk_twice hz
    refine Sl.nil ?_
    refine At.weak [(0, _), (2, _), (3, _), (4, _), (8, _)] ⟨rfl, rfl, rfl, rfl, rfl, trivial⟩ ?_
    refine At.go ?_
    refine Sc.cond_f rfl ?_
    refine Sc.skip ?_
    refine At.go ?_
    refine Sc.seq ?_
    refine Sc.region ?_
    refine Sl.calm (Cm.move rfl) rfl ?_
    refine Sl.call fn53 rfl (rsorted_ok lo lc ps w2 (hv.grow hf2) (by omega)) rfl ?_
    rintro _ w3 ⟨o3, c3, ys, rfl, ho3, hfo3, hpe, hor, hf3⟩
    have hys := srt_uniq ht hpe hor
    have hyl := hpe.length_eq
    have hvy := ho3.vw encN_cells
    refine Sl.call fn52 rfl (rnum_ok o3 c3 ys w3 hvy (by omega)) rfl ?_
    rintro _ w4 ⟨o4, c4, rfl, ho4, hfo4, hf4⟩
    refine Sl.calm (Cm.assign rfl) rfl ?_
    refine Sl.calm (Cm.assign rfl) rfl ?_
    refine Sl.nil ?_
    refine At.weak [(0, _), (2, _), (3, _), (4, _), (8, _)] ⟨rfl, rfl, rfl, rfl, rfl, trivial⟩ ?_
    refine At.go ?_
    refine Sc.ret ?_
    refine At.ret2 rfl rfl rfl ?_
    have hF : Foot nob W w4 := (hf2.trans hf3).trans hf4
    refine ⟨_, rfl, o4, c4, numP ys, by rw [hz], by rw [if_pos hz, hys]; rfl, ⟨ho4.vw encN_cells, num_v fun p hp => (hv.grow hF).2 p (hpe.mem_iff.1 hp)⟩, hF⟩
end Go.Proofs.Ytpnfjfbfgaiolaa
