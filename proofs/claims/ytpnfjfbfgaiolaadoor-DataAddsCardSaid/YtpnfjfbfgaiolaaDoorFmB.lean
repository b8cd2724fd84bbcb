/- frame: what is read: the program's. No condition beyond the bounds that each states. -/
import Derived.Test.YtpnfjfbfgaiolaaDoorFmA
namespace Go.Proofs.YtpnfjfbfgaiolaaDoor
open Go Go.RowKit
set_option linter.unusedVariables false

theorem rerr_ok {D : Nat → Prop} (p : Nat) (E : Int) (ys : List UInt8) (W : World) (hP : RdL D W.heap p E ys) :
    Calls Tryd.prog 40 [.pointer (some ⟨p, 0, none⟩)].toArray W (Ret fun v w' => v = .int .i64 E ∧ w' = W) := by
  obtain ⟨ao, c, hobj, hv, hap⟩ := hP
  refine calls_of_sc 7 [(0, _)] Tryd.func40 rfl rfl rfl (enter_slots ⟨rfl, trivial⟩) ?_
  refine Sc.seq ?_
  refine Sc.region ?_
  refine Sl.calm (Cm.assign rfl) rfl ?_
  refine Sl.nil ?_
  refine At.go ?_
  refine Sc.seq ?_
  refine Sc.region ?_
  refine Sl.calm (Cm.move rfl) rfl ?_
  refine Sl.calm (Cm.nilCheck rfl) rfl ?_
  refine Sl.calm (Cm.field fld78_0 rfl) rfl ?_
  refine Sl.calm (Cm.ld sca45 rfl (cellF hobj rfl)) rfl ?_
  refine Sl.calm (Cm.assign rfl) rfl ?_
  refine Sl.nil ?_
  refine At.weak [(0, _), (2, _)] ⟨rfl, rfl, trivial⟩ ?_
  refine At.go ?_
  refine Sc.ret ?_
  refine At.ret1 rfl rfl ?_
  exact ⟨_, rfl, rfl, rfl⟩
/-- a cuts cells -/
def ctC (po : Option Addr) (n pc : Nat) (s : Nat) (st : Bool) (nx : Int) : List Value := [.slice po n pc, .int .u32 (s : Int), .bool st, .int .i64 nx]
theorem ctC_one (po : Option Addr) (n pc : Nat) (s : Nat) (st : Bool) (nx : Int) : ∀ v ∈ ctC po n pc s st nx, v.oneCell' = true := by simp [ctC, Value.oneCell']
def FnP (W : World) (im : List UInt8) (a : Int) : Value → World → Prop := fun v w' => Foot nob W w' ∧ match cutS im a with
  | none => v = .tuple #[.agg (ctC none 0 0 0 false 0).toArray, .int .i64 2]
  | some (x, s, st) => ∃ po pc, v = .tuple #[.agg (ctC po x.length pc s st (a + lenF x)).toArray, .int .i64 0] ∧ Own b8 5 w'.heap po pc x ∧ Fr W.heap.size po
theorem fn_none {W w' : World} {im : List UInt8} {a : Int} (h : cutS im a = none) (hf : Foot nob W w') : FnP W im a (.tuple #[.agg (ctC none 0 0 0 false 0).toArray, .int .i64 2]) w' := by
  unfold FnP; rw [h]; exact ⟨hf, rfl⟩
theorem or_byte {a b : Nat} (h : a < 256) : a ||| b * 256 = a + 256 * b := by
  have := Nat.two_pow_add_eq_or_of_lt (i := 8) h b
  rw [show (2 : Nat) ^ 8 = 256 from rfl] at this
  rw [Nat.or_comm, Nat.mul_comm b, ← this]; omega
theorem bit15 {n : Nat} (h : n < 65536) : n &&& 32768 = if 32768 ≤ n then 32768 else 0 := by
  apply Nat.eq_of_testBit_eq
  intro i
  rw [Nat.testBit_and, show (32768 : Nat) = 2 ^ 15 from rfl, Nat.testBit_two_pow]
  by_cases hi : 15 = i
  · subst hi
    rw [Nat.testBit_eq_decide_div_mod_eq]
    by_cases hn : 2 ^ 15 ≤ n
    · rw [if_pos hn, decide_eq_true (by omega)]; rfl
    · rw [if_neg hn, decide_eq_false (by omega)]; rfl
  · rw [decide_eq_false hi, Bool.and_false]
    split
    · rw [Nat.testBit_two_pow, decide_eq_false hi]
    · simp
theorem two_cut {r : List UInt8} {m : Nat} (h3 : 3 ≤ r.length) : (cutE (cutE 0 (r.drop 3) 4) (cutR 0 (r.drop 3) 4) m ≠ 0 ↔ r.length < 7 + m) ∧
    (¬ r.length < 7 + m → cutB 0 (r.drop 3) 4 = (r.drop 3).take 4 ∧ cutB (cutE 0 (r.drop 3) 4) (cutR 0 (r.drop 3) 4) m = (r.drop 7).take m) := by
  have hl : (r.drop 3).length = r.length - 3 := List.length_drop ..
  by_cases h7 : r.length < 7
  · have e : cutE 0 (r.drop 3) 4 = 2 := by rw [cutE_short (by omega) (by omega)]; rfl
    rw [e]
    refine ⟨⟨fun _ => by omega, fun _ => by rw [cutE_same (by decide)]; decide⟩, fun h => by omega⟩
  · have e : cutE 0 (r.drop 3) 4 = 0 := cutE_good (by omega) (by omega)
    obtain ⟨e1, e2⟩ := cutB_good e
    have e3 : (r.drop 3).drop (Int.toNat 4) = r.drop 7 := by rw [List.drop_drop]; rfl
    rw [e, e1, e2, e3]
    have hl7 : (r.drop 7).length = r.length - 7 := List.length_drop ..
    by_cases hm : r.length < 7 + m
    · refine ⟨⟨fun _ => hm, fun _ => by rw [cutE_short (by omega) (by omega)]; decide⟩, fun h => absurd hm h⟩
    · have e4 : cutE 0 (r.drop 7) m = 0 := cutE_good (by omega) (by omega)
      refine ⟨⟨fun h => absurd e4 h, fun h => absurd h hm⟩, fun _ => ⟨rfl, ?_⟩⟩
      rw [(cutB_good e4).1]; rfl
theorem hdEq (n : Nat) (l : List UInt8) : (.agg (hdV n).toArray : Value) = .agg ((hdB n).map b8).toArray := by rw [hdV_eq]
theorem cells_of {H : Array Obj} {ad : Addr} {cap : Nat} {l : List UInt8} (h : Vw b8 H (some ad) cap l) : ∀ j v, (l.map b8)[j]? = some v → cellH H (ad.add j) = some v := by
  intro j v hj
  rw [List.getElem?_map, Option.map_eq_some_iff] at hj
  obtain ⟨x, hx, rfl⟩ := hj
  exact h.get j x hx

set_option maxHeartbeats 2000000 in
theorem find_ok (io : Option Addr) (ic : Nat) (im : List UInt8) (a : Int) (W : World) (hv : Vw b8 W.heap io ic im) (hb : im.length ≤ 1099511627776) (ha : a ≤ 9223372036854775807) :
    Calls Tryd.prog 48 [.slice io im.length ic, .int .i64 a].toArray W (Ret (FnP W im a)) := by
  have hle := hv.le
  refine calls_of_sc 94 [(0, _), (1, _)] Tryd.func48 rfl rfl rfl (enter_slots ⟨rfl, rfl, trivial⟩) ?_
  refine Sc.seq ?_
  refine Sc.region ?_
  refine Sl.allocC zc93 rfl ?_
  intro w1 hg1 hs1 hf1
  have hg1 : w1.heap[W.heap.size]? = some (.cells (ctC none 0 0 0 false 0).toArray 93 (0, 0)) := hg1
  refine Sl.calm (Cm.assign rfl) rfl ?_
  refine Sl.nil ?_
  refine At.go ?_
  refine Sc.seq ?_
  refine Sc.seq ?_
  refine Sc.region ?_
  refine Sl.calm (Cm.move rfl) rfl ?_
  refine Sl.fork (Cm.lss rfl rfl) rfl (fun h12 => ?_) (fun h12 => ?_)
  ·
    have hno : cutS im a = none := by unfold cutS; rw [if_pos (by omega)]
    have hf9 : Foot nob w1 w1 := Foot.refl _ _
    refine Sl.calm (Cm.move rfl) rfl ?_
    refine Sl.skip rfl rfl rfl rfl ?_
    refine Sl.skip rfl rfl rfl rfl ?_
    refine Sl.skip rfl rfl rfl rfl ?_
    refine Sl.skip rfl rfl rfl rfl ?_
    refine Sl.calm (Cm.pick_t rfl rfl) rfl ?_
    refine Sl.nil ?_
    refine At.weak [(0, _), (1, _), (4, _), (5, _), (18, _)] ⟨rfl, rfl, rfl, rfl, rfl, trivial⟩ ?_
    refine At.go ?_
    refine Sc.cond_t rfl ?_
    refine Sc.seq ?_
    refine Sc.region ?_
    refine Sl.calm (Cm.build (cs := (ctC none 0 0 0 false 0).toArray) plc93 zc93 rfl (by kernel_rfl)) rfl ?_
    refine Sl.storeAll (vs := ctC none 0 0 0 false 0) agg93 rfl rfl (by exact ctC_one _ _ _ _ _ _) (hf9.obj hg1 id) rfl ?_
    intro w20 hg20 hs20 hf20
    refine Sl.calm (Cm.assign rfl) rfl ?_
    refine Sl.nil ?_
    refine At.weak [(0, _), (1, _), (4, _), (5, _), (18, _)] ⟨rfl, rfl, rfl, rfl, rfl, trivial⟩ ?_
    refine At.go ?_
    refine Sc.ret ?_
    refine At.then_ret ?_
    refine At.retC (cs := ctC none 0 0 0 false 0) rfl agg93 rfl rfl (fun j v hj => cellF hg20 hj) ?_
    exact ⟨_, rfl, fn_none hno ((hf1.trans hf9).trans_to hf20 (fun k hk => .inr (by have h : k = W.heap.size := hk; omega)))⟩
  ·
    refine Sl.calm (Cm.move rfl) rfl ?_
    refine Sl.want rfl rfl (Cm.move rfl) rfl ?_
    refine Sl.want rfl rfl (Cm.move rfl) rfl ?_
    refine Sl.want rfl rfl (Cm.len sl23 rfl) rfl ?_
    refine Sl.forkWant rfl rfl (Cm.gtr rfl rfl) rfl (fun h17 => ?_) (fun h17 => ?_)
    ·
      have hno : cutS im a = none := by unfold cutS; rw [if_pos (by omega)]
      have hf9 : Foot nob w1 w1 := Foot.refl _ _
      refine Sl.calm (Cm.pick_f rfl rfl) rfl ?_
      refine Sl.nil ?_
      refine At.weak [(0, _), (1, _), (4, _), (5, _), (18, _)] ⟨rfl, rfl, rfl, rfl, rfl, trivial⟩ ?_
      refine At.go ?_
      refine Sc.cond_t rfl ?_
      refine Sc.seq ?_
      refine Sc.region ?_
      refine Sl.calm (Cm.build (cs := (ctC none 0 0 0 false 0).toArray) plc93 zc93 rfl (by kernel_rfl)) rfl ?_
      refine Sl.storeAll (vs := ctC none 0 0 0 false 0) agg93 rfl rfl (by exact ctC_one _ _ _ _ _ _) (hf9.obj hg1 id) rfl ?_
      intro w20 hg20 hs20 hf20
      refine Sl.calm (Cm.assign rfl) rfl ?_
      refine Sl.nil ?_
      refine At.weak [(0, _), (1, _), (4, _), (5, _), (18, _)] ⟨rfl, rfl, rfl, rfl, rfl, trivial⟩ ?_
      refine At.go ?_
      refine Sc.ret ?_
      refine At.then_ret ?_
      refine At.retC (cs := ctC none 0 0 0 false 0) rfl agg93 rfl rfl (fun j v hj => cellF hg20 hj) ?_
      exact ⟨_, rfl, fn_none hno ((hf1.trans hf9).trans_to hf20 (fun k hk => .inr (by have h : k = W.heap.size := hk; omega)))⟩
    ·
      obtain ⟨q, rfl⟩ : ∃ q : Nat, a = q := ⟨a.toNat, by omega⟩
      have hcs : cutS im (q : Int) = cutP (im.drop q) := by unfold cutS; rw [if_neg (by omega)]; rfl
      obtain ⟨r, hr⟩ : ∃ r, r = im.drop q := ⟨_, rfl⟩
      have hrl : r.length = im.length - q := by rw [hr, List.length_drop]
      have hvr : Vw b8 W.heap (cutAo io ic q 1) (ic - q) r := by have := hv.cut (l := q) (h := im.length) (m := ic) (by omega) (Nat.le_refl _) hle (Nat.le_refl _); rw [List.take_of_length_le (by simp)] at this; rw [hr]; exact this
      rw [← hr] at hcs
      refine Sl.calm (Cm.pick_f rfl rfl) rfl ?_
      refine Sl.nil ?_
      refine At.weak [(0, _), (1, _), (4, _), (5, _), (18, _)] ⟨rfl, rfl, rfl, rfl, rfl, trivial⟩ ?_
      refine At.go ?_
      refine Sc.cond_f rfl ?_
      refine Sc.skip ?_
      refine At.go ?_
      refine Sc.seq ?_
      refine Sc.region ?_
      refine Sl.calm (Cm.move rfl) rfl ?_
      refine Sl.calm (Cm.move rfl) rfl ?_
      refine Sl.calm (Cm.ofEq (u := .slice (cutAo io ic q 1) r.length (ic - q)) (Cm.sliceL sl23 rfl rfl (by omega)) (by rw [hrl]; rfl)) rfl ?_
      refine Sl.call fn65 rfl (rdnew_ok (cutAo io ic q 1) (ic - q) r w1 (hvr.grow hf1) (by omega)) rfl ?_
      rintro _ w2 ⟨p, rfl, hp1, hP2, hf2⟩
      have hlp := hP2.lt
      have hg2 := hf2.obj hg1 id
      refine Sl.calm (Cm.assign rfl) rfl ?_
      refine Sl.nil ?_
      refine At.weak [(0, _), (1, _), (4, _), (5, _), (6, _), (18, _)] ⟨rfl, rfl, rfl, rfl, rfl, rfl, trivial⟩ ?_
      refine At.go ?_
      refine Sc.seq ?_
      refine Sc.region ?_
      refine Sl.calm (Cm.move rfl) rfl ?_
      refine Sl.call fn66 rfl (rbyt_ok p 0 r 3 w2 hP2 (by omega)) rfl ?_
      rintro _ w3 ⟨h3, hc3, rfl, ho3, hfr3, hP3, hf3⟩
      have hg3 := hf3.obj hg2 (by omega)
      have hz3 := hf3.size
      have hz2 := hf2.size
      have hF3 : Foot nob w1 w3 := hf2.trans_to hf3 (fun k hk => .inr (by have h : k = p := hk; omega))
      refine Sl.calm (Cm.assign rfl) rfl ?_
      refine Sl.nil ?_
      refine At.weak [(0, _), (1, _), (4, _), (5, _), (6, _), (7, _), (18, _)] ⟨rfl, rfl, rfl, rfl, rfl, rfl, rfl, trivial⟩ ?_
      refine At.go ?_
      refine Sc.seq ?_
      refine Sc.seq ?_
      refine Sc.region ?_
      refine Sl.calm (Cm.move rfl) rfl ?_
      refine Sl.calm (Cm.nilCheck rfl) rfl ?_
      refine Sl.calm (Cm.field fld119_0 rfl) rfl ?_
      refine Sl.call fn40 rfl (rerr_ok p _ _ w3 hP3) rfl ?_
      rintro _ wq ⟨rfl, hwq⟩
      subst wq
      refine Sl.fork (Cm.neq rfl rfl) rfl (fun h30 => ?_) (fun h30 => ?_)
      ·
        have hsh : r.length < 3 := Classical.byContradiction fun h => h30 (cutE_good (by omega) (by omega))
        have hno : cutS im (q : Int) = none := by rw [hcs]; unfold cutP; rw [if_pos hsh]
        have hf9 := hF3
        refine Sl.nil ?_
        refine At.weak [(0, _), (1, _), (4, _), (5, _), (6, _), (7, _), (18, _), (30, _)] ⟨rfl, rfl, rfl, rfl, rfl, rfl, rfl, rfl, trivial⟩ ?_
        refine At.go ?_
        refine Sc.cond_t rfl ?_
        refine Sc.seq ?_
        refine Sc.region ?_
        refine Sl.calm (Cm.build (cs := (ctC none 0 0 0 false 0).toArray) plc93 zc93 rfl (by kernel_rfl)) rfl ?_
        refine Sl.storeAll (vs := ctC none 0 0 0 false 0) agg93 rfl rfl (by exact ctC_one _ _ _ _ _ _) (hf9.obj hg1 id) rfl ?_
        intro w20 hg20 hs20 hf20
        refine Sl.calm (Cm.assign rfl) rfl ?_
        refine Sl.nil ?_
        refine At.weak [(0, _), (1, _), (4, _), (5, _), (6, _), (7, _), (18, _), (30, _)] ⟨rfl, rfl, rfl, rfl, rfl, rfl, rfl, rfl, trivial⟩ ?_
        refine At.go ?_
        refine Sc.ret ?_
        refine At.then_ret ?_
        refine At.retC (cs := ctC none 0 0 0 false 0) rfl agg93 rfl rfl (fun j v hj => cellF hg20 hj) ?_
        exact ⟨_, rfl, fn_none hno ((hf1.trans hf9).trans_to hf20 (fun k hk => .inr (by have h : k = W.heap.size := hk; omega)))⟩
      ·
        have hE3 : cutE 0 r 3 = 0 := Decidable.not_not.1 h30
        obtain ⟨z1, z2, z3⟩ := cutE_zero hE3
        have z3r : 3 ≤ r.length := by omega
        obtain ⟨cb, cr⟩ := cutB_good hE3
        rw [cb] at ho3
        rw [hE3, cr] at hP3
        have hl3 : (r.take (Int.toNat 3)).length = 3 := by rw [List.length_take]; omega
        rw [cb]
        obtain ⟨B, hB⟩ : ∃ B, B = r.take (Int.toNat 3) := ⟨_, rfl⟩
        rw [← hB] at ho3 hl3 ⊢
        have hg0 : B.getD 0 0 = r.getD 0 0 := by rw [hB, List.getD, List.getD, List.getElem?_take]; rfl
        have hg1b : B.getD 1 0 = r.getD 1 0 := by rw [hB, List.getD, List.getD, List.getElem?_take]; rfl
        obtain ⟨b0, hb0⟩ : ∃ x, x = (r.getD 0 0).toNat := ⟨_, rfl⟩
        obtain ⟨b1, hb1⟩ : ∃ x, x = (r.getD 1 0).toNat := ⟨_, rfl⟩
        have hb0l : b0 < 256 := by have := (r.getD 0 0).toNat_lt; omega
        have hb1l : b1 < 256 := by have := (r.getD 1 0).toNat_lt; omega
        have hcp : cutP r = _ := rfl
        conv at hcp => rhs; unfold cutP
        rw [← hb0, ← hb1, if_neg (show ¬ r.length < 3 by omega), show r.take 3 = B from hB.symm] at hcp
        obtain ⟨n, hn⟩ : ∃ n, n = b0 + 256 * b1 := ⟨_, rfl⟩
        rw [← hn] at hcp
        have hnl : n < 65536 := by omega
        obtain ⟨a3, ha3⟩ : ∃ x, h3 = some x := Option.ne_none_iff_exists'.1 (ho3.vw.non (by omega))
        subst ha3
        refine Sl.nil ?_
        refine At.weak [(0, _), (1, _), (4, _), (5, _), (6, _), (7, _), (18, _), (30, _)] ⟨rfl, rfl, rfl, rfl, rfl, rfl, rfl, rfl, trivial⟩ ?_
        refine At.go ?_
        refine Sc.cond_f rfl ?_
        refine Sc.skip ?_
        refine At.go ?_
        refine Sc.seq ?_
        refine Sc.quiet 11 [0, 1, 2, 3, 4, 5, 6, 7, 8, 9, 10] mixed (by kernel_rfl) ?_
        refine Sx.calm rfl rfl (Cm.move rfl) rfl ?_
        refine Sx.calm rfl rfl (Cm.indexAddr1 sl23 rfl rfl ho3.vw.non (by omega)) rfl ?_
        refine Sx.calm rfl rfl (Cm.ld sca5 rfl (ho3.vw.gz 0 0 rfl (by omega))) rfl ?_
        refine Sx.calm rfl rfl (Cm.convI_in (n := (b0 : Int)) is5 ty3 rfl (by rw [hg0, ← hb0]; exact wrap64_id (by omega))) rfl ?_
        refine Sx.calm rfl rfl (Cm.move rfl) rfl ?_
        refine Sx.calm rfl rfl (Cm.indexAddr1 sl23 rfl rfl ho3.vw.non (by omega)) rfl ?_
        refine Sx.calm rfl rfl (Cm.ld sca5 rfl (ho3.vw.gz 0 1 rfl (by omega))) rfl ?_
        refine Sx.calm rfl rfl (Cm.convI_in (n := (b1 : Int)) is5 ty3 rfl (by rw [hg1b, ← hb1]; exact wrap64_id (by omega))) rfl ?_
        refine Sx.calm rfl rfl (Cm.ofEq (u := .int .i64 ((b1 * 256 : Nat) : Int)) (Cm.shl64 rfl rfl (by omega) (by show _ ≤ (b1 : Int) * 256 ∧ (b1 : Int) * 256 ≤ _; omega)) (by show Value.int .i64 ((b1 : Int) * 256) = _; simp)) rfl ?_
        refine Sx.calm rfl rfl (Cm.ofEq (u := .int .i64 ((n : Nat) : Int)) (Cm.orN rfl rfl (by omega) (by omega)) (by rw [or_byte hb0l, hn])) rfl ?_
        refine Sx.calm rfl rfl (Cm.assign rfl) rfl ?_
        refine Sx.nil ?_
        refine At.weak [(0, _), (1, _), (4, _), (5, _), (6, _), (7, _), (8, _), (18, _), (30, _)] ⟨rfl, rfl, rfl, rfl, rfl, rfl, rfl, rfl, rfl, trivial⟩ ?_
        refine At.go ?_
        refine Sc.seq ?_
        refine Sc.draw 7 (fun H => Vw b8 H (some a3) hc3 B) [1] [0, 2, 3, 4, 1, 5, 6] mixed (by kernel_rfl) (ho3.vw) ?_
        refine Sx.calm rfl rfl (Cm.move rfl) rfl ?_
        refine Sx.calm rfl rfl (Cm.move rfl) rfl ?_
        refine Sx.calm rfl rfl (Cm.arrPtr0 Tryd.underlying82 rfl (by omega)) rfl ?_
        refine Sx.calm rfl rfl (Cm.loadM (cs := B.map b8) (by rw [List.length_map, hl3]; exact agg82) rfl (fun H hH => cells_of hH)) rfl ?_
        refine Sx.eff rfl rfl (Sl.call fn35 rfl (head_ok n _ hnl) rfl ?_)
        rintro _ w4 ⟨rfl, hf4⟩
        have hf4 := hf4.undraw.undraw
        refine Sx.on (by exact ho3.vw.grow hf4) ?_
        refine Sx.calm rfl rfl (Cm.eqlArrB Tryd.underlying82 (by kernel_rfl) Tryd.underlying5 (by kernel_rfl) (by kernel_rfl) (by rw [← hdV_eq]; rfl) rfl (hdB_len n) hl3) rfl ?_
        refine Sx.calm rfl rfl (Cm.assign rfl) rfl ?_
        refine Sx.nil ?_
        refine At.weak [(0, _), (1, _), (4, _), (5, _), (6, _), (7, _), (8, _), (9, _), (18, _), (30, _)] ⟨rfl, rfl, rfl, rfl, rfl, rfl, rfl, rfl, rfl, rfl, trivial⟩ ?_
        refine At.go ?_
        refine Sc.seq ?_
        refine Sc.region ?_
        refine Sl.calm (Cm.move rfl) rfl ?_
        refine Sl.calm (Cm.ofEq (u := .int .i64 ((if 32768 ≤ n then 32768 else 0 : Nat) : Int)) (Cm.andN (b := 32768) rfl rfl (by omega) (by decide)) (by rw [bit15 hnl])) rfl ?_
        refine Sl.calm (Cm.ofEq (u := .bool (decide (32768 ≤ n))) (Cm.neq rfl rfl) (by congr 1; by_cases h : 32768 ≤ n <;> simp [h])) rfl ?_
        refine Sl.calm (Cm.move rfl) rfl ?_
        refine Sl.calm (Cm.add64 rfl rfl (by omega)) rfl ?_
        refine Sl.calm (Cm.build (cs := (ctC none 0 0 0 (decide (32768 ≤ n)) ((q : Int) + 3)).toArray) plc93 zc93 rfl (by kernel_rfl)) rfl ?_
        refine Sl.allocC zc93 rfl ?_
        intro w5 hg5 hs5 hf5
        refine Sl.storeAll (vs := ctC none 0 0 0 (decide (32768 ≤ n)) ((q : Int) + 3)) agg93 rfl rfl (by exact ctC_one _ _ _ _ _ _) hg5 rfl ?_
        intro w6 hg6 hs6 hf6
        obtain ⟨c, hc⟩ : ∃ c, c = w4.heap.size := ⟨_, rfl⟩
        rw [← hc] at hg6 ⊢
        have hz4 := hf4.size
        have hF36 : Foot nob w3 w6 := (hf4.trans hf5).trans_to hf6 (fun k hk => .inr (by have h : k = w4.heap.size := hk; omega))
        have hP6 := hP3.grow hF36
        have hF6 := hF3.trans hF36
        have hz6 := hF6.size
        obtain ⟨m, hm⟩ : ∃ m, m = n % 32768 := ⟨_, rfl⟩
        rw [← hm] at hcp
        refine Sl.nil ?_
        refine At.weak [(0, _), (1, _), (4, _), (5, _), (6, _), (7, _), (8, _), (9, _), (10, _), (18, _), (30, _)] ⟨rfl, rfl, rfl, rfl, rfl, rfl, rfl, rfl, rfl, rfl, rfl, trivial⟩ ?_
        refine At.go ?_
        refine Sc.seq ?_
        refine Sc.region ?_
        refine Sl.calm (Cm.move rfl) rfl ?_
        refine Sl.calm (Cm.ofEq (u := .int .i64 (m : Nat)) (Cm.andNot15 rfl rfl hnl) (by rw [hm])) rfl ?_
        refine Sl.calm (Cm.assign rfl) rfl ?_
        refine Sl.nil ?_
        refine At.weak [(0, _), (1, _), (4, _), (5, _), (6, _), (7, _), (8, _), (9, _), (10, _), (18, _), (30, _)] ⟨rfl, rfl, rfl, rfl, rfl, rfl, rfl, rfl, rfl, rfl, rfl, trivial⟩ ?_
        refine At.go ?_
        refine Sc.seq ?_
        refine Sc.seq ?_
        refine Sc.region ?_
        refine Sl.calm (Cm.move rfl) rfl ?_
        refine Sl.fork (Cm.notB rfl) rfl (fun h57 => ?_) (fun h57 => ?_)
        ·
          have hne : B ≠ hdB n := fun h => by rw [h] at h57; simp at h57
          have hno : cutS im (q : Int) = none := by rw [hcs, hcp, if_pos hne]
          have hf9 := hF6
          refine Sl.calm (Cm.move rfl) rfl ?_
          refine Sl.skip rfl rfl rfl rfl ?_
          refine Sl.skip rfl rfl rfl rfl ?_
          refine Sl.calm (Cm.pick_t rfl rfl) rfl ?_
          refine Sl.calm (Cm.move rfl) rfl ?_
          refine Sl.skip rfl rfl rfl rfl ?_
          refine Sl.skip rfl rfl rfl rfl ?_
          refine Sl.skip rfl rfl rfl rfl ?_
          refine Sl.skip rfl rfl rfl rfl ?_
          refine Sl.skip rfl rfl rfl rfl ?_
          refine Sl.skip rfl rfl rfl rfl ?_
          refine Sl.calm (Cm.pick_t rfl rfl) rfl ?_
          refine Sl.nil ?_
          refine At.weak [(0, _), (1, _), (4, _), (5, _), (6, _), (7, _), (8, _), (9, _), (10, _), (18, _), (30, _), (69, _)] ⟨rfl, rfl, rfl, rfl, rfl, rfl, rfl, rfl, rfl, rfl, rfl, rfl, trivial⟩ ?_
          refine At.go ?_
          refine Sc.cond_t rfl ?_
          refine Sc.seq ?_
          refine Sc.region ?_
          refine Sl.calm (Cm.build (cs := (ctC none 0 0 0 false 0).toArray) plc93 zc93 rfl (by kernel_rfl)) rfl ?_
          refine Sl.storeAll (vs := ctC none 0 0 0 false 0) agg93 rfl rfl (by exact ctC_one _ _ _ _ _ _) (hf9.obj hg1 id) rfl ?_
          intro w20 hg20 hs20 hf20
          refine Sl.calm (Cm.assign rfl) rfl ?_
          refine Sl.nil ?_
          refine At.weak [(0, _), (1, _), (4, _), (5, _), (6, _), (7, _), (8, _), (9, _), (10, _), (18, _), (30, _), (69, _)] ⟨rfl, rfl, rfl, rfl, rfl, rfl, rfl, rfl, rfl, rfl, rfl, rfl, trivial⟩ ?_
          refine At.go ?_
          refine Sc.ret ?_
          refine At.then_ret ?_
          refine At.retC (cs := ctC none 0 0 0 false 0) rfl agg93 rfl rfl (fun j v hj => cellF hg20 hj) ?_
          exact ⟨_, rfl, fn_none hno ((hf1.trans hf9).trans_to hf20 (fun k hk => .inr (by have h : k = W.heap.size := hk; omega)))⟩
        ·
          have heq : B = hdB n := Classical.byContradiction fun h => h57 (decide_eq_false (fun e => h e.symm))
          rw [if_neg (fun h => h heq)] at hcp
          refine Sl.calm (Cm.move rfl) rfl ?_
          refine Sl.want rfl rfl (Cm.move rfl) rfl ?_
          refine Sl.forkWant rfl rfl (Cm.gtr rfl rfl) rfl (fun h60 => ?_) (fun h60 => ?_)
          ·
            have hno : cutS im (q : Int) = none := by rw [hcs, hcp, if_pos (by omega)]
            have hf9 := hF6
            refine Sl.calm (Cm.pick_f rfl rfl) rfl ?_
            refine Sl.calm (Cm.move rfl) rfl ?_
            refine Sl.skip rfl rfl rfl rfl ?_
            refine Sl.skip rfl rfl rfl rfl ?_
            refine Sl.skip rfl rfl rfl rfl ?_
            refine Sl.skip rfl rfl rfl rfl ?_
            refine Sl.skip rfl rfl rfl rfl ?_
            refine Sl.skip rfl rfl rfl rfl ?_
            refine Sl.calm (Cm.pick_t rfl rfl) rfl ?_
            refine Sl.nil ?_
            refine At.weak [(0, _), (1, _), (4, _), (5, _), (6, _), (7, _), (8, _), (9, _), (10, _), (18, _), (30, _), (69, _)] ⟨rfl, rfl, rfl, rfl, rfl, rfl, rfl, rfl, rfl, rfl, rfl, rfl, trivial⟩ ?_
            refine At.go ?_
            refine Sc.cond_t rfl ?_
            refine Sc.seq ?_
            refine Sc.region ?_
            refine Sl.calm (Cm.build (cs := (ctC none 0 0 0 false 0).toArray) plc93 zc93 rfl (by kernel_rfl)) rfl ?_
            refine Sl.storeAll (vs := ctC none 0 0 0 false 0) agg93 rfl rfl (by exact ctC_one _ _ _ _ _ _) (hf9.obj hg1 id) rfl ?_
            intro w20 hg20 hs20 hf20
            refine Sl.calm (Cm.assign rfl) rfl ?_
            refine Sl.nil ?_
            refine At.weak [(0, _), (1, _), (4, _), (5, _), (6, _), (7, _), (8, _), (9, _), (10, _), (18, _), (30, _), (69, _)] ⟨rfl, rfl, rfl, rfl, rfl, rfl, rfl, rfl, rfl, rfl, rfl, rfl, trivial⟩ ?_
            refine At.go ?_
            refine Sc.ret ?_
            refine At.then_ret ?_
            refine At.retC (cs := ctC none 0 0 0 false 0) rfl agg93 rfl rfl (fun j v hj => cellF hg20 hj) ?_
            exact ⟨_, rfl, fn_none hno ((hf1.trans hf9).trans_to hf20 (fun k hk => .inr (by have h : k = W.heap.size := hk; omega)))⟩
          ·
            refine Sl.calm (Cm.pick_f rfl rfl) rfl ?_
            refine Sl.calm (Cm.move rfl) rfl ?_
            refine Sl.want rfl rfl (Cm.move rfl) rfl ?_
            refine Sl.forkWant rfl rfl (Cm.eql rfl rfl) rfl (fun h64 => ?_) (fun h64 => ?_)
            ·
              refine Sl.want rfl rfl (Cm.move rfl) rfl ?_
              refine Sl.want rfl rfl (Cm.field fld93_2 rfl) rfl ?_
              refine Sl.forkWant rfl rfl (Cm.ofBool (Cm.ld sca4 rfl (cellF hg6 rfl))) rfl (fun h67 => ?_) (fun h67 => ?_)
              ·
                have h67 : 32768 ≤ n := of_decide_eq_true h67
                have hno : cutS im (q : Int) = none := by rw [hcs, hcp, if_pos (by omega)]
                have hf9 := hF6
                refine Sl.want rfl rfl (Cm.pick_t rfl rfl) rfl ?_
                refine Sl.calm (Cm.pick_f rfl rfl) rfl ?_
                refine Sl.nil ?_
                refine At.weak [(0, _), (1, _), (4, _), (5, _), (6, _), (7, _), (8, _), (9, _), (10, _), (18, _), (30, _), (69, _)] ⟨rfl, rfl, rfl, rfl, rfl, rfl, rfl, rfl, rfl, rfl, rfl, rfl, trivial⟩ ?_
                refine At.go ?_
                refine Sc.cond_t rfl ?_
                refine Sc.seq ?_
                refine Sc.region ?_
                refine Sl.calm (Cm.build (cs := (ctC none 0 0 0 false 0).toArray) plc93 zc93 rfl (by kernel_rfl)) rfl ?_
                refine Sl.storeAll (vs := ctC none 0 0 0 false 0) agg93 rfl rfl (by exact ctC_one _ _ _ _ _ _) (hf9.obj hg1 id) rfl ?_
                intro w20 hg20 hs20 hf20
                refine Sl.calm (Cm.assign rfl) rfl ?_
                refine Sl.nil ?_
                refine At.weak [(0, _), (1, _), (4, _), (5, _), (6, _), (7, _), (8, _), (9, _), (10, _), (18, _), (30, _), (69, _)] ⟨rfl, rfl, rfl, rfl, rfl, rfl, rfl, rfl, rfl, rfl, rfl, rfl, trivial⟩ ?_
                refine At.go ?_
                refine Sc.ret ?_
                refine At.then_ret ?_
                refine At.retC (cs := ctC none 0 0 0 false 0) rfl agg93 rfl rfl (fun j v hj => cellF hg20 hj) ?_
                exact ⟨_, rfl, fn_none hno ((hf1.trans hf9).trans_to hf20 (fun k hk => .inr (by have h : k = W.heap.size := hk; omega)))⟩
              ·
                have h67 : ¬ 32768 ≤ n := fun h => h67 (decide_eq_true h)
                refine Sl.want rfl rfl (Cm.pick_t rfl rfl) rfl ?_
                refine Sl.calm (Cm.pick_f rfl rfl) rfl ?_
                refine Sl.nil ?_
                refine At.weak [(0, _), (1, _), (4, _), (5, _), (6, _), (7, _), (8, _), (9, _), (10, _), (18, _), (30, _), (69, _)] ⟨rfl, rfl, rfl, rfl, rfl, rfl, rfl, rfl, rfl, rfl, rfl, rfl, trivial⟩ ?_
                refine At.go ?_
                refine Sc.cond_f rfl ?_
                refine Sc.skip ?_
                refine At.go ?_
                refine Sc.seq ?_
                refine Sc.seq ?_
                refine Sc.region ?_
                refine Sl.calm (Cm.move rfl) rfl ?_
                refine Sl.fork (Cm.gtr rfl rfl) rfl (fun h72 => ?_) (fun h72 => ?_)
                ·
                  rw [if_neg (by omega), if_neg (by omega)] at hcp
                  obtain ⟨tc1, tc2⟩ := two_cut (r := r) (m := m) z3r
                  refine Sl.nil ?_
                  refine At.weak [(0, _), (1, _), (4, _), (5, _), (6, _), (7, _), (8, _), (9, _), (10, _), (18, _), (30, _), (69, _), (72, _)] ⟨rfl, rfl, rfl, rfl, rfl, rfl, rfl, rfl, rfl, rfl, rfl, rfl, rfl, trivial⟩ ?_
                  refine At.go ?_
                  refine Sc.cond_t rfl ?_
                  refine Sc.seq ?_
                  refine Sc.region ?_
                  refine Sl.calm (Cm.move rfl) rfl ?_
                  refine Sl.call fn67 rfl (rdnum_ok p 0 (r.drop 3) 4 w6 hP6 (by rw [List.length_drop]; omega)) rfl ?_
                  rintro _ w7 ⟨rfl, hP7, hf7⟩
                  rw [numE1_good (by decide) (by decide)] at hP7 ⊢
                  have hg7 := hf7.obj hg6 (by omega)
                  have hz7 := hf7.size
                  have hR7 := cutR_len 0 (r.drop 3) 4
                  rw [List.length_drop] at hR7
                  have hvs := valB_small (bs := cutB 0 (r.drop 3) 4) (cutB_len _ _ _)
                  refine Sl.calm (Cm.convI_in (n := ((valB (cutB 0 (r.drop 3) 4) : Nat) : Int)) is3 ty26 rfl (wrapU32 hvs)) rfl ?_
                  refine Sl.calm (Cm.field fld93_1 rfl) rfl ?_
                  refine Sl.store sca26 rfl rfl rfl hg7 rfl ?_
                  intro w8 hg8 hs8 hf8
                  have hP8 := hP7.keep hf8 (fun k hk h => by have h : k = c := h; omega)
                  refine Sl.nil ?_
                  refine At.weak [(0, _), (1, _), (4, _), (5, _), (6, _), (7, _), (8, _), (9, _), (10, _), (18, _), (30, _), (69, _), (72, _)] ⟨rfl, rfl, rfl, rfl, rfl, rfl, rfl, rfl, rfl, rfl, rfl, rfl, rfl, trivial⟩ ?_
                  refine At.go ?_
                  refine Sc.seq ?_
                  refine Sc.region ?_
                  refine Sl.calm (Cm.move rfl) rfl ?_
                  refine Sl.calm (Cm.move rfl) rfl ?_
                  refine Sl.call fn66 rfl (rbyt_ok p _ _ m w8 hP8 (by omega)) rfl ?_
                  rintro _ w9 ⟨x9, xc9, rfl, ho9, hfr9, hP9, hf9a⟩
                  have hg9 := hf9a.obj hg8 (fun h => by have h : c = p := h; omega)
                  have hz9 := hf9a.size
                  refine Sl.calm (Cm.field fld93_0 rfl) rfl ?_
                  refine Sl.store sca23 rfl rfl rfl hg9 rfl ?_
                  intro w10 hg10 hs10 hf10
                  have hP10 := hP9.keep hf10 (fun k hk h => by have h : k = c := h; omega)
                  have ho10 := ho9.keep hf10 (fun a ha h => by have := hfr9 a ha; have h : a.block = c := h; omega)
                  refine Sl.nil ?_
                  refine At.weak [(0, _), (1, _), (4, _), (5, _), (6, _), (7, _), (8, _), (9, _), (10, _), (18, _), (30, _), (69, _), (72, _)] ⟨rfl, rfl, rfl, rfl, rfl, rfl, rfl, rfl, rfl, rfl, rfl, rfl, rfl, trivial⟩ ?_
                  refine At.go ?_
                  refine Sc.region ?_
                  refine Sl.calm (Cm.field fld93_3 rfl) rfl ?_
                  refine Sl.calm (Cm.ld sca3 rfl (cellF hg10 rfl)) rfl ?_
                  refine Sl.calm (Cm.move rfl) rfl ?_
                  refine Sl.calm (Cm.add64 rfl rfl (by omega)) rfl ?_
                  refine Sl.calm (Cm.add64 rfl rfl (by omega)) rfl ?_
                  refine Sl.calm (Cm.field fld93_3 rfl) rfl ?_
                  refine Sl.store sca3 rfl rfl rfl hg10 rfl ?_
                  intro w11 hg11 hs11 hf11
                  have hP11 := hP10.keep hf11 (fun k hk h => by have h : k = c := h; omega)
                  have ho11 := ho10.keep hf11 (fun a ha h => by have := hfr9 a ha; have h : a.block = c := h; omega)
                  have hF11 : Foot nob w1 w11 := ((((hF6.trans_to hf7 (fun k hk => .inr (by have h : k = p := hk; omega))).trans_to hf8 (fun k hk => .inr (by have h : k = c := hk; omega))).trans_to hf9a (fun k hk => .inr (by have h : k = p := hk; omega))).trans_to hf10 (fun k hk => .inr (by have h : k = c := hk; omega))).trans_to hf11 (fun k hk => .inr (by have h : k = c := hk; omega))
                  refine Sl.nil ?_
                  refine At.weak [(0, _), (1, _), (4, _), (5, _), (6, _), (7, _), (8, _), (9, _), (10, _), (18, _), (30, _), (69, _), (72, _)] ⟨rfl, rfl, rfl, rfl, rfl, rfl, rfl, rfl, rfl, rfl, rfl, rfl, rfl, trivial⟩ ?_
                  refine At.go ?_
                  refine Sc.seq ?_
                  refine Sc.seq ?_
                  refine Sc.region ?_
                  refine Sl.calm (Cm.move rfl) rfl ?_
                  refine Sl.calm (Cm.nilCheck rfl) rfl ?_
                  refine Sl.calm (Cm.field fld119_0 rfl) rfl ?_
                  refine Sl.call fn40 rfl (rerr_ok p _ _ w11 hP11) rfl ?_
                  rintro _ wq ⟨rfl, hwq⟩
                  subst wq
                  refine Sl.fork (Cm.neq rfl rfl) rfl (fun h91 => ?_) (fun h91 => ?_)
                  ·
                    have hsh := tc1.1 h91
                    rw [if_pos hsh] at hcp
                    have hno : cutS im (q : Int) = none := by rw [hcs, hcp]
                    have hf9 := hF11
                    refine Sl.nil ?_
                    refine At.weak [(0, _), (1, _), (4, _), (5, _), (6, _), (7, _), (8, _), (9, _), (10, _), (18, _), (30, _), (69, _), (72, _), (91, _)] ⟨rfl, rfl, rfl, rfl, rfl, rfl, rfl, rfl, rfl, rfl, rfl, rfl, rfl, rfl, trivial⟩ ?_
                    refine At.go ?_
                    refine Sc.cond_t rfl ?_
                    refine Sc.seq ?_
                    refine Sc.region ?_
                    refine Sl.calm (Cm.build (cs := (ctC none 0 0 0 false 0).toArray) plc93 zc93 rfl (by kernel_rfl)) rfl ?_
                    refine Sl.storeAll (vs := ctC none 0 0 0 false 0) agg93 rfl rfl (by exact ctC_one _ _ _ _ _ _) (hf9.obj hg1 id) rfl ?_
                    intro w20 hg20 hs20 hf20
                    refine Sl.calm (Cm.assign rfl) rfl ?_
                    refine Sl.nil ?_
                    refine At.weak [(0, _), (1, _), (4, _), (5, _), (6, _), (7, _), (8, _), (9, _), (10, _), (18, _), (30, _), (69, _), (72, _), (91, _)] ⟨rfl, rfl, rfl, rfl, rfl, rfl, rfl, rfl, rfl, rfl, rfl, rfl, rfl, rfl, trivial⟩ ?_
                    refine At.go ?_
                    refine Sc.ret ?_
                    refine At.then_ret ?_
                    refine At.retC (cs := ctC none 0 0 0 false 0) rfl agg93 rfl rfl (fun j v hj => cellF hg20 hj) ?_
                    exact ⟨_, rfl, fn_none hno ((hf1.trans hf9).trans_to hf20 (fun k hk => .inr (by have h : k = W.heap.size := hk; omega)))⟩
                  ·
                    have hsh : ¬ r.length < 7 + m := fun h => h91 (tc1.2 h)
                    rw [if_neg hsh] at hcp
                    obtain ⟨c1, c2⟩ := tc2 hsh
                    rw [c1, c2] at hg11
                    rw [c2] at ho11
                    have hxl : ((r.drop 7).take m).length = m := by rw [List.length_take, List.length_drop]; omega
                    refine Sl.nil ?_
                    refine At.weak [(0, _), (1, _), (4, _), (5, _), (6, _), (7, _), (8, _), (9, _), (10, _), (18, _), (30, _), (69, _), (72, _), (91, _)] ⟨rfl, rfl, rfl, rfl, rfl, rfl, rfl, rfl, rfl, rfl, rfl, rfl, rfl, rfl, trivial⟩ ?_
                    refine At.go ?_
                    refine Sc.cond_f rfl ?_
                    refine Sc.skip ?_
                    refine At.go ?_
                    refine Sc.seq ?_
                    refine Sc.region ?_
                    refine Sl.calm (Cm.ldM (cs := ctC x9 ((r.drop 7).take m).length xc9 (valB ((r.drop 3).take 4)) (decide (32768 ≤ n)) ((q : Int) + 3 + (4 + m))) agg93 rfl (fun j v hj => cellF hg11 hj)) rfl ?_
                    refine Sl.storeAll (vs := ctC x9 ((r.drop 7).take m).length xc9 (valB ((r.drop 3).take 4)) (decide (32768 ≤ n)) ((q : Int) + 3 + (4 + m))) agg93 rfl rfl (by exact ctC_one _ _ _ _ _ _) (hF11.obj hg1 id) rfl ?_
                    intro w20 hg20 hs20 hf20
                    refine Sl.calm (Cm.assign rfl) rfl ?_
                    refine Sl.nil ?_
                    refine At.weak [(0, _), (1, _), (4, _), (5, _), (6, _), (7, _), (8, _), (9, _), (10, _), (18, _), (30, _), (69, _), (72, _), (91, _)] ⟨rfl, rfl, rfl, rfl, rfl, rfl, rfl, rfl, rfl, rfl, rfl, rfl, rfl, rfl, trivial⟩ ?_
                    refine At.go ?_
                    refine Sc.ret ?_
                    refine At.retC (cs := ctC x9 ((r.drop 7).take m).length xc9 (valB ((r.drop 3).take 4)) (decide (32768 ≤ n)) ((q : Int) + 3 + (4 + m))) rfl agg93 rfl rfl (fun j v hj => cellF hg20 hj) ?_
                    refine ⟨_, rfl, (hf1.trans hF11).trans_to hf20 (fun k hk => .inr (by have h : k = W.heap.size := hk; omega)), ?_⟩
                    rw [hcs, hcp]
                    refine ⟨x9, xc9, ?_, ho11.keep hf20 (fun a ha h => by have := hfr9 a ha; have h : a.block = W.heap.size := h; omega), fun a ha => by have := hfr9 a ha; omega⟩
                    rw [show (q : Int) + lenF ((r.drop 7).take m) = (q : Int) + 3 + (4 + m) by unfold lenF; rw [hxl, if_neg (by omega)]; omega]
                ·
                  rw [if_neg (by omega), if_pos (by omega)] at hcp
                  refine Sl.nil ?_
                  refine At.weak [(0, _), (1, _), (4, _), (5, _), (6, _), (7, _), (8, _), (9, _), (10, _), (18, _), (30, _), (69, _), (72, _)] ⟨rfl, rfl, rfl, rfl, rfl, rfl, rfl, rfl, rfl, rfl, rfl, rfl, rfl, trivial⟩ ?_
                  refine At.go ?_
                  refine Sc.cond_f rfl ?_
                  refine Sc.skip ?_
                  refine At.go ?_
                  refine Sc.seq ?_
                  refine Sc.seq ?_
                  refine Sc.region ?_
                  refine Sl.calm (Cm.move rfl) rfl ?_
                  refine Sl.calm (Cm.nilCheck rfl) rfl ?_
                  refine Sl.calm (Cm.field fld119_0 rfl) rfl ?_
                  refine Sl.call fn40 rfl (rerr_ok p _ _ w6 hP6) rfl ?_
                  rintro _ wq ⟨rfl, hwq⟩
                  subst wq
                  refine Sl.calm (Cm.no (Cm.neq rfl rfl) (fun h => h rfl)) rfl ?_
                  refine Sl.nil ?_
                  refine At.weak [(0, _), (1, _), (4, _), (5, _), (6, _), (7, _), (8, _), (9, _), (10, _), (18, _), (30, _), (69, _), (72, _), (91, _)] ⟨rfl, rfl, rfl, rfl, rfl, rfl, rfl, rfl, rfl, rfl, rfl, rfl, rfl, rfl, trivial⟩ ?_
                  refine At.go ?_
                  refine Sc.cond_f rfl ?_
                  refine Sc.skip ?_
                  refine At.go ?_
                  refine Sc.seq ?_
                  refine Sc.region ?_
                  refine Sl.calm (Cm.ldM (cs := ctC none 0 0 0 (decide (32768 ≤ n)) ((q : Int) + 3)) agg93 rfl (fun j v hj => cellF hg6 hj)) rfl ?_
                  refine Sl.storeAll (vs := ctC none 0 0 0 (decide (32768 ≤ n)) ((q : Int) + 3)) agg93 rfl rfl (by exact ctC_one _ _ _ _ _ _) (hF6.obj hg1 id) rfl ?_
                  intro w20 hg20 hs20 hf20
                  refine Sl.calm (Cm.assign rfl) rfl ?_
                  refine Sl.nil ?_
                  refine At.weak [(0, _), (1, _), (4, _), (5, _), (6, _), (7, _), (8, _), (9, _), (10, _), (18, _), (30, _), (69, _), (72, _), (91, _)] ⟨rfl, rfl, rfl, rfl, rfl, rfl, rfl, rfl, rfl, rfl, rfl, rfl, rfl, rfl, trivial⟩ ?_
                  refine At.go ?_
                  refine Sc.ret ?_
                  refine At.retC (cs := ctC none 0 0 0 (decide (32768 ≤ n)) ((q : Int) + 3)) rfl agg93 rfl rfl (fun j v hj => cellF hg20 hj) ?_
                  have hmz : decide (32768 ≤ n) = false := decide_eq_false (by omega)
                  refine ⟨_, rfl, (hf1.trans hF6).trans_to hf20 (fun k hk => .inr (by have h : k = W.heap.size := hk; omega)), ?_⟩
                  rw [hcs, hcp, hmz]
                  exact ⟨none, 0, rfl, Own.nil, Fr.none⟩
            ·
              refine Sl.want rfl rfl (Cm.move rfl) rfl ?_
              refine Sl.skip rfl rfl rfl rfl ?_
              refine Sl.skip rfl rfl rfl rfl ?_
              refine Sl.want rfl rfl (Cm.pick_f rfl rfl) rfl ?_
              refine Sl.calm (Cm.pick_f rfl rfl) rfl ?_
              refine Sl.nil ?_
              refine At.weak [(0, _), (1, _), (4, _), (5, _), (6, _), (7, _), (8, _), (9, _), (10, _), (18, _), (30, _), (69, _)] ⟨rfl, rfl, rfl, rfl, rfl, rfl, rfl, rfl, rfl, rfl, rfl, rfl, trivial⟩ ?_
              refine At.go ?_
              refine Sc.cond_f rfl ?_
              refine Sc.skip ?_
              refine At.go ?_
              refine Sc.seq ?_
              refine Sc.seq ?_
              refine Sc.region ?_
              refine Sl.calm (Cm.move rfl) rfl ?_
              refine Sl.fork (Cm.gtr rfl rfl) rfl (fun h72 => ?_) (fun h72 => ?_)
              ·
                rw [if_neg (by omega), if_neg (by omega)] at hcp
                obtain ⟨tc1, tc2⟩ := two_cut (r := r) (m := m) z3r
                refine Sl.nil ?_
                refine At.weak [(0, _), (1, _), (4, _), (5, _), (6, _), (7, _), (8, _), (9, _), (10, _), (18, _), (30, _), (69, _), (72, _)] ⟨rfl, rfl, rfl, rfl, rfl, rfl, rfl, rfl, rfl, rfl, rfl, rfl, rfl, trivial⟩ ?_
                refine At.go ?_
                refine Sc.cond_t rfl ?_
                refine Sc.seq ?_
                refine Sc.region ?_
                refine Sl.calm (Cm.move rfl) rfl ?_
                refine Sl.call fn67 rfl (rdnum_ok p 0 (r.drop 3) 4 w6 hP6 (by rw [List.length_drop]; omega)) rfl ?_
                rintro _ w7 ⟨rfl, hP7, hf7⟩
                rw [numE1_good (by decide) (by decide)] at hP7 ⊢
                have hg7 := hf7.obj hg6 (by omega)
                have hz7 := hf7.size
                have hR7 := cutR_len 0 (r.drop 3) 4
                rw [List.length_drop] at hR7
                have hvs := valB_small (bs := cutB 0 (r.drop 3) 4) (cutB_len _ _ _)
                refine Sl.calm (Cm.convI_in (n := ((valB (cutB 0 (r.drop 3) 4) : Nat) : Int)) is3 ty26 rfl (wrapU32 hvs)) rfl ?_
                refine Sl.calm (Cm.field fld93_1 rfl) rfl ?_
                refine Sl.store sca26 rfl rfl rfl hg7 rfl ?_
                intro w8 hg8 hs8 hf8
                have hP8 := hP7.keep hf8 (fun k hk h => by have h : k = c := h; omega)
                refine Sl.nil ?_
                refine At.weak [(0, _), (1, _), (4, _), (5, _), (6, _), (7, _), (8, _), (9, _), (10, _), (18, _), (30, _), (69, _), (72, _)] ⟨rfl, rfl, rfl, rfl, rfl, rfl, rfl, rfl, rfl, rfl, rfl, rfl, rfl, trivial⟩ ?_
                refine At.go ?_
                refine Sc.seq ?_
                refine Sc.region ?_
                refine Sl.calm (Cm.move rfl) rfl ?_
                refine Sl.calm (Cm.move rfl) rfl ?_
                refine Sl.call fn66 rfl (rbyt_ok p _ _ m w8 hP8 (by omega)) rfl ?_
                rintro _ w9 ⟨x9, xc9, rfl, ho9, hfr9, hP9, hf9a⟩
                have hg9 := hf9a.obj hg8 (fun h => by have h : c = p := h; omega)
                have hz9 := hf9a.size
                refine Sl.calm (Cm.field fld93_0 rfl) rfl ?_
                refine Sl.store sca23 rfl rfl rfl hg9 rfl ?_
                intro w10 hg10 hs10 hf10
                have hP10 := hP9.keep hf10 (fun k hk h => by have h : k = c := h; omega)
                have ho10 := ho9.keep hf10 (fun a ha h => by have := hfr9 a ha; have h : a.block = c := h; omega)
                refine Sl.nil ?_
                refine At.weak [(0, _), (1, _), (4, _), (5, _), (6, _), (7, _), (8, _), (9, _), (10, _), (18, _), (30, _), (69, _), (72, _)] ⟨rfl, rfl, rfl, rfl, rfl, rfl, rfl, rfl, rfl, rfl, rfl, rfl, rfl, trivial⟩ ?_
                refine At.go ?_
                refine Sc.region ?_
                refine Sl.calm (Cm.field fld93_3 rfl) rfl ?_
                refine Sl.calm (Cm.ld sca3 rfl (cellF hg10 rfl)) rfl ?_
                refine Sl.calm (Cm.move rfl) rfl ?_
                refine Sl.calm (Cm.add64 rfl rfl (by omega)) rfl ?_
                refine Sl.calm (Cm.add64 rfl rfl (by omega)) rfl ?_
                refine Sl.calm (Cm.field fld93_3 rfl) rfl ?_
                refine Sl.store sca3 rfl rfl rfl hg10 rfl ?_
                intro w11 hg11 hs11 hf11
                have hP11 := hP10.keep hf11 (fun k hk h => by have h : k = c := h; omega)
                have ho11 := ho10.keep hf11 (fun a ha h => by have := hfr9 a ha; have h : a.block = c := h; omega)
                have hF11 : Foot nob w1 w11 := ((((hF6.trans_to hf7 (fun k hk => .inr (by have h : k = p := hk; omega))).trans_to hf8 (fun k hk => .inr (by have h : k = c := hk; omega))).trans_to hf9a (fun k hk => .inr (by have h : k = p := hk; omega))).trans_to hf10 (fun k hk => .inr (by have h : k = c := hk; omega))).trans_to hf11 (fun k hk => .inr (by have h : k = c := hk; omega))
                refine Sl.nil ?_
                refine At.weak [(0, _), (1, _), (4, _), (5, _), (6, _), (7, _), (8, _), (9, _), (10, _), (18, _), (30, _), (69, _), (72, _)] ⟨rfl, rfl, rfl, rfl, rfl, rfl, rfl, rfl, rfl, rfl, rfl, rfl, rfl, trivial⟩ ?_
                refine At.go ?_
                refine Sc.seq ?_
                refine Sc.seq ?_
                refine Sc.region ?_
                refine Sl.calm (Cm.move rfl) rfl ?_
                refine Sl.calm (Cm.nilCheck rfl) rfl ?_
                refine Sl.calm (Cm.field fld119_0 rfl) rfl ?_
                refine Sl.call fn40 rfl (rerr_ok p _ _ w11 hP11) rfl ?_
                rintro _ wq ⟨rfl, hwq⟩
                subst wq
                refine Sl.fork (Cm.neq rfl rfl) rfl (fun h91 => ?_) (fun h91 => ?_)
                ·
                  have hsh := tc1.1 h91
                  rw [if_pos hsh] at hcp
                  have hno : cutS im (q : Int) = none := by rw [hcs, hcp]
                  have hf9 := hF11
                  refine Sl.nil ?_
                  refine At.weak [(0, _), (1, _), (4, _), (5, _), (6, _), (7, _), (8, _), (9, _), (10, _), (18, _), (30, _), (69, _), (72, _), (91, _)] ⟨rfl, rfl, rfl, rfl, rfl, rfl, rfl, rfl, rfl, rfl, rfl, rfl, rfl, rfl, trivial⟩ ?_
                  refine At.go ?_
                  refine Sc.cond_t rfl ?_
                  refine Sc.seq ?_
                  refine Sc.region ?_
                  refine Sl.calm (Cm.build (cs := (ctC none 0 0 0 false 0).toArray) plc93 zc93 rfl (by kernel_rfl)) rfl ?_
                  refine Sl.storeAll (vs := ctC none 0 0 0 false 0) agg93 rfl rfl (by exact ctC_one _ _ _ _ _ _) (hf9.obj hg1 id) rfl ?_
                  intro w20 hg20 hs20 hf20
                  refine Sl.calm (Cm.assign rfl) rfl ?_
                  refine Sl.nil ?_
                  refine At.weak [(0, _), (1, _), (4, _), (5, _), (6, _), (7, _), (8, _), (9, _), (10, _), (18, _), (30, _), (69, _), (72, _), (91, _)] ⟨rfl, rfl, rfl, rfl, rfl, rfl, rfl, rfl, rfl, rfl, rfl, rfl, rfl, rfl, trivial⟩ ?_
                  refine At.go ?_
                  refine Sc.ret ?_
                  refine At.then_ret ?_
                  refine At.retC (cs := ctC none 0 0 0 false 0) rfl agg93 rfl rfl (fun j v hj => cellF hg20 hj) ?_
                  exact ⟨_, rfl, fn_none hno ((hf1.trans hf9).trans_to hf20 (fun k hk => .inr (by have h : k = W.heap.size := hk; omega)))⟩
                ·
                  have hsh : ¬ r.length < 7 + m := fun h => h91 (tc1.2 h)
                  rw [if_neg hsh] at hcp
                  obtain ⟨c1, c2⟩ := tc2 hsh
                  rw [c1, c2] at hg11
                  rw [c2] at ho11
                  have hxl : ((r.drop 7).take m).length = m := by rw [List.length_take, List.length_drop]; omega
                  refine Sl.nil ?_
                  refine At.weak [(0, _), (1, _), (4, _), (5, _), (6, _), (7, _), (8, _), (9, _), (10, _), (18, _), (30, _), (69, _), (72, _), (91, _)] ⟨rfl, rfl, rfl, rfl, rfl, rfl, rfl, rfl, rfl, rfl, rfl, rfl, rfl, rfl, trivial⟩ ?_
                  refine At.go ?_
                  refine Sc.cond_f rfl ?_
                  refine Sc.skip ?_
                  refine At.go ?_
                  refine Sc.seq ?_
                  refine Sc.region ?_
                  refine Sl.calm (Cm.ldM (cs := ctC x9 ((r.drop 7).take m).length xc9 (valB ((r.drop 3).take 4)) (decide (32768 ≤ n)) ((q : Int) + 3 + (4 + m))) agg93 rfl (fun j v hj => cellF hg11 hj)) rfl ?_
                  refine Sl.storeAll (vs := ctC x9 ((r.drop 7).take m).length xc9 (valB ((r.drop 3).take 4)) (decide (32768 ≤ n)) ((q : Int) + 3 + (4 + m))) agg93 rfl rfl (by exact ctC_one _ _ _ _ _ _) (hF11.obj hg1 id) rfl ?_
                  intro w20 hg20 hs20 hf20
                  refine Sl.calm (Cm.assign rfl) rfl ?_
                  refine Sl.nil ?_
                  refine At.weak [(0, _), (1, _), (4, _), (5, _), (6, _), (7, _), (8, _), (9, _), (10, _), (18, _), (30, _), (69, _), (72, _), (91, _)] ⟨rfl, rfl, rfl, rfl, rfl, rfl, rfl, rfl, rfl, rfl, rfl, rfl, rfl, rfl, trivial⟩ ?_
                  refine At.go ?_
                  refine Sc.ret ?_
                  refine At.retC (cs := ctC x9 ((r.drop 7).take m).length xc9 (valB ((r.drop 3).take 4)) (decide (32768 ≤ n)) ((q : Int) + 3 + (4 + m))) rfl agg93 rfl rfl (fun j v hj => cellF hg20 hj) ?_
                  refine ⟨_, rfl, (hf1.trans hF11).trans_to hf20 (fun k hk => .inr (by have h : k = W.heap.size := hk; omega)), ?_⟩
                  rw [hcs, hcp]
                  refine ⟨x9, xc9, ?_, ho11.keep hf20 (fun a ha h => by have := hfr9 a ha; have h : a.block = W.heap.size := h; omega), fun a ha => by have := hfr9 a ha; omega⟩
                  rw [show (q : Int) + lenF ((r.drop 7).take m) = (q : Int) + 3 + (4 + m) by unfold lenF; rw [hxl, if_neg (by omega)]; omega]
              ·
                rw [if_neg (by omega), if_pos (by omega)] at hcp
                refine Sl.nil ?_
                refine At.weak [(0, _), (1, _), (4, _), (5, _), (6, _), (7, _), (8, _), (9, _), (10, _), (18, _), (30, _), (69, _), (72, _)] ⟨rfl, rfl, rfl, rfl, rfl, rfl, rfl, rfl, rfl, rfl, rfl, rfl, rfl, trivial⟩ ?_
                refine At.go ?_
                refine Sc.cond_f rfl ?_
                refine Sc.skip ?_
                refine At.go ?_
                refine Sc.seq ?_
                refine Sc.seq ?_
                refine Sc.region ?_
                refine Sl.calm (Cm.move rfl) rfl ?_
                refine Sl.calm (Cm.nilCheck rfl) rfl ?_
                refine Sl.calm (Cm.field fld119_0 rfl) rfl ?_
                refine Sl.call fn40 rfl (rerr_ok p _ _ w6 hP6) rfl ?_
                rintro _ wq ⟨rfl, hwq⟩
                subst wq
                refine Sl.calm (Cm.no (Cm.neq rfl rfl) (fun h => h rfl)) rfl ?_
                refine Sl.nil ?_
                refine At.weak [(0, _), (1, _), (4, _), (5, _), (6, _), (7, _), (8, _), (9, _), (10, _), (18, _), (30, _), (69, _), (72, _), (91, _)] ⟨rfl, rfl, rfl, rfl, rfl, rfl, rfl, rfl, rfl, rfl, rfl, rfl, rfl, rfl, trivial⟩ ?_
                refine At.go ?_
                refine Sc.cond_f rfl ?_
                refine Sc.skip ?_
                refine At.go ?_
                refine Sc.seq ?_
                refine Sc.region ?_
                refine Sl.calm (Cm.ldM (cs := ctC none 0 0 0 (decide (32768 ≤ n)) ((q : Int) + 3)) agg93 rfl (fun j v hj => cellF hg6 hj)) rfl ?_
                refine Sl.storeAll (vs := ctC none 0 0 0 (decide (32768 ≤ n)) ((q : Int) + 3)) agg93 rfl rfl (by exact ctC_one _ _ _ _ _ _) (hF6.obj hg1 id) rfl ?_
                intro w20 hg20 hs20 hf20
                refine Sl.calm (Cm.assign rfl) rfl ?_
                refine Sl.nil ?_
                refine At.weak [(0, _), (1, _), (4, _), (5, _), (6, _), (7, _), (8, _), (9, _), (10, _), (18, _), (30, _), (69, _), (72, _), (91, _)] ⟨rfl, rfl, rfl, rfl, rfl, rfl, rfl, rfl, rfl, rfl, rfl, rfl, rfl, rfl, trivial⟩ ?_
                refine At.go ?_
                refine Sc.ret ?_
                refine At.retC (cs := ctC none 0 0 0 (decide (32768 ≤ n)) ((q : Int) + 3)) rfl agg93 rfl rfl (fun j v hj => cellF hg20 hj) ?_
                have hmz : decide (32768 ≤ n) = false := decide_eq_false (by omega)
                refine ⟨_, rfl, (hf1.trans hF6).trans_to hf20 (fun k hk => .inr (by have h : k = W.heap.size := hk; omega)), ?_⟩
                rw [hcs, hcp, hmz]
                exact ⟨none, 0, rfl, Own.nil, Fr.none⟩
end Go.Proofs.YtpnfjfbfgaiolaaDoor
