/- frame: the law on a byte that is turned. No condition beyond the bounds that each states. -/
import Derived.Test.YtlpfahmkjgompaaFmH
namespace Go.Proofs.Ytlpfahmkjgompaa
open Go Go.RowKit
set_option linter.unusedVariables false

theorem xor_ne {a u : UInt8} (h : u.toNat ≠ 0) : a ^^^ u ≠ a := by
  intro e
  have h1 := congrArg UInt8.toNat e
  rw [UInt8.toNat_xor] at h1
  exact h (xor_can' (c := a.toNat) (by rw [h1, Nat.xor_zero]))
set_option maxHeartbeats 2000000 in
theorem frameTurned_ok (b0 : List UInt8) (ao : Option Addr) (cap : Nat) (n : Int) (c : Int) (W : World) (hv0 : Vw b8 W.heap ao cap b0) (hn : -9223372036854775808 ≤ n ∧ n ≤ 9223372036854775807) (hc : 0 ≤ c ∧ c ≤ 255) :
    Calls Try.prog 7 [.slice ao b0.length cap, .int .i64 n, .int .u8 c].toArray W (Ret fun v w' => v = .bool true ∧ Foot nob W w') := by
  obtain ⟨u0, hu⟩ : ∃ u : UInt8, c = u.toNat := ⟨UInt8.ofNat c.toNat, by rw [UInt8.toNat_ofNat']; omega⟩
  subst hu
  refine calls_of_sc 89 [(0, _), (1, _), (2, _)] Try.func7 rfl rfl rfl (enter_slots ⟨rfl, rfl, rfl, trivial⟩) ?_
  refine Sc.seq ?_
  refine Sc.region ?_
  refine Sl.calm (Cm.assign rfl) rfl ?_
  refine Sl.nil ?_
  refine At.go ?_
  refine Sc.seq ?_
  refine Sc.region ?_
  refine Sl.call fn14 rfl (shown04_ok W) rfl ?_
  rintro _ w1 ⟨rfl, hf1⟩
  refine Sl.calm (Cm.assign rfl) rfl ?_
  refine Sl.nil ?_
  refine At.weak [(0, _), (1, _), (2, _), (6, _), (7, _)] ⟨rfl, rfl, rfl, rfl, rfl, trivial⟩ ?_
  refine At.go ?_
  refine Sc.seq ?_
  refine Sc.region ?_
  refine Sl.calm (Cm.move rfl) rfl ?_
  refine Sl.call fn15 rfl (few4_ok ao cap b0 128 w1 (hv0.grow hf1)) rfl ?_
  rintro _ wq ⟨rfl, hwq⟩
  subst wq
  obtain ⟨b, hb⟩ : ∃ b, b = b0.take 128 := ⟨_, rfl⟩
  have hbl : b.length ≤ 128 := by rw [hb, List.length_take]; omega
  have hv : Vw b8 w1.heap ao cap b := by rw [hb]; exact (hv0.grow hf1).take 128
  rw [← hb]
  refine Sl.calm (Cm.assign rfl) rfl ?_
  refine Sl.nil ?_
  refine At.weak [(0, _), (1, _), (2, _), (6, _), (7, _)] ⟨rfl, rfl, rfl, rfl, rfl, trivial⟩ ?_
  refine At.go ?_
  refine Sc.seq ?_
  refine Sc.region ?_
  refine Sl.call fn16 rfl (crcnew_ok w1) rfl ?_
  rintro _ w4 ⟨rfl, hf4⟩
  refine Sl.allocC zc27 rfl ?_
  intro w5 hg5 hs5 hf5
  refine Sl.storeAll (vs := tab) aggTab rfl rfl tab_one hg5 (by rw [tab_len, List.length_replicate]) ?_
  intro w6 hg6 hs6 hf6
  obtain ⟨p, hp⟩ : ∃ p, p = w4.heap.size := ⟨_, rfl⟩
  have hF6 : Foot nob w1 w6 := (hf4.trans hf5).trans_to hf6 (fun k hk => .inr (by have h : k = w4.heap.size := hk; have := hf4.size; omega))
  rw [← hp] at hg6 ⊢
  have ht6 : TbV w6.heap p := hg6
  have hpl := putS_len hbl
  have hpz := putS_ok hbl
  refine Sl.nil ?_
  refine At.weak [(0, _), (1, _), (2, _), (6, _), (7, _), (8, _)] ⟨rfl, rfl, rfl, rfl, rfl, rfl, trivial⟩ ?_
  refine At.go ?_
  refine Sc.seq ?_
  refine Sc.region ?_
  refine Sl.calm (Cm.move rfl) rfl ?_
  refine Sl.call fn17 rfl (fput_ok p ao cap b w6 ht6 (hv.grow hF6)) rfl ?_
  rw [show putS b = ((putS b).1, 0) from Prod.ext rfl hpz]
  intro _ w2 hP
  have hP : PutE _ (putS b).1 0 _ w2 := hP
  obtain ⟨o2, c2, rfl, ho2, hfr2, hf2⟩ := hP
  have hF2 := (hf1.trans hF6).trans hf2
  have ht2 : TbV w2.heap p := hf2.obj ht6 id
  have hplt := (Array.getElem?_eq_some_iff.1 ht6).1
  obtain ⟨X, hX⟩ : ∃ X, X = (putS b).1 := ⟨_, rfl⟩
  rw [← hX] at ho2 hpl ⊢
  have hle2 := ho2.vw.le
  refine Sl.calm (Cm.move rfl) rfl ?_
  refine Sl.calm (Cm.extract rfl rfl) rfl ?_
  refine Sl.calm (Cm.extract rfl rfl) rfl ?_
  refine Sl.calm (Cm.assign rfl) rfl ?_
  refine Sl.calm (Cm.assign rfl) rfl ?_
  refine Sl.nil ?_
  refine At.weak [(0, _), (1, _), (2, _), (6, _), (7, _), (8, _), (9, _), (10, _)] ⟨rfl, rfl, rfl, rfl, rfl, rfl, rfl, rfl, trivial⟩ ?_
  refine At.go ?_
  refine Sc.seq ?_
  refine Sc.seq ?_
  refine Sc.region ?_
  refine Sl.calm (Cm.move rfl) rfl ?_
  refine Sl.calm (Cm.len sl22 rfl) rfl ?_
  refine Sl.calm (Cm.no (Cm.lss rfl rfl) (by omega)) rfl ?_
  refine Sl.nil ?_
  refine At.weak [(0, _), (1, _), (2, _), (6, _), (7, _), (8, _), (9, _), (10, _), (31, _)] ⟨rfl, rfl, rfl, rfl, rfl, rfl, rfl, rfl, rfl, trivial⟩ ?_
  refine At.go ?_
  refine Sc.cond_f rfl ?_
  refine Sc.skip ?_
  refine At.go ?_
  refine Sc.seq ?_
  refine Sc.region ?_
  refine Sl.calm (Cm.move rfl) rfl ?_
  refine Sl.calm (Cm.move rfl) rfl ?_
  refine Sl.calm (Cm.len sl22 rfl) rfl ?_
  refine Sl.calm (Cm.remW rfl rfl (by omega)) rfl ?_
  obtain ⟨r, hr⟩ : ∃ r : Int, r = n.tmod X.length := ⟨_, rfl⟩
  have hr1 : -(X.length : Int) < r ∧ r < X.length := by
    have h1 := Int.tmod_lt_of_pos n (show (0 : Int) < X.length by omega)
    have h2 := Int.lt_tmod_of_pos n (show (0 : Int) < X.length by omega)
    omega
  rw [← hr]
  refine Sl.calm (Cm.assign rfl) rfl ?_
  refine Sl.nil ?_
  refine At.weak [(0, _), (1, _), (2, _), (6, _), (7, _), (8, _), (9, _), (10, _), (11, _), (31, _)] ⟨rfl, rfl, rfl, rfl, rfl, rfl, rfl, rfl, rfl, rfl, trivial⟩ ?_
  refine At.go ?_
  refine Sc.cut (β := Nat) (fun k => [(2, .int .u8 u0.toNat), (7, .bool true), (8, .pointer (some ⟨p, 0, none⟩)), (9, .slice o2 X.length c2), (10, .int .i64 0), (11, .int .i64 k)]) (fun k w => k < X.length ∧ w = w2) ?_ ?_
  ·
    refine Sc.seq ?_
    refine Sc.region ?_
    refine Sl.calm (Cm.move rfl) rfl ?_
    refine Sl.fork (Cm.lss rfl rfl) rfl (fun h37 => ?_) (fun h37 => ?_)
    ·
      refine Sl.nil ?_
      refine At.weak [(0, _), (1, _), (2, _), (6, _), (7, _), (8, _), (9, _), (10, _), (11, _), (31, _), (37, _)] ⟨rfl, rfl, rfl, rfl, rfl, rfl, rfl, rfl, rfl, rfl, rfl, trivial⟩ ?_
      refine At.go ?_
      refine Sc.cond_t rfl ?_
      refine Sc.region ?_
      refine Sl.calm (Cm.move rfl) rfl ?_
      refine Sl.calm (Cm.neg64 rfl (by omega)) rfl ?_
      refine Sl.calm (Cm.assign rfl) rfl ?_
      refine Sl.nil ?_
      exact At.cut r.natAbs ⟨rfl, rfl, rfl, rfl, rfl, by show some (Value.int .i64 _) = some (Value.int .i64 _); congr 2; omega, trivial⟩ ⟨by omega, rfl⟩
    ·
      refine Sl.nil ?_
      refine At.weak [(0, _), (1, _), (2, _), (6, _), (7, _), (8, _), (9, _), (10, _), (11, _), (31, _), (37, _)] ⟨rfl, rfl, rfl, rfl, rfl, rfl, rfl, rfl, rfl, rfl, rfl, trivial⟩ ?_
      refine At.go ?_
      refine Sc.cond_f rfl ?_
      refine Sc.skip ?_
      exact At.cut r.natAbs ⟨rfl, rfl, rfl, rfl, rfl, by show some (Value.int .i64 _) = some (Value.int .i64 _); congr 2; omega, trivial⟩ ⟨by omega, rfl⟩
  ·
    rintro k wq ⟨hk, hwq⟩
    subst wq
    refine Sc.seq ?_
    refine Sc.region ?_
    refine Sl.calm (Cm.move rfl) rfl ?_
    refine Sl.calm (Cm.move rfl) rfl ?_
    refine Sl.calm (Cm.sliceH sl22 rfl rfl (by omega)) rfl ?_
    have hkl : (X.take k).length = k := by rw [List.length_take]; omega
    obtain ⟨sh1, sh2⟩ := short_put hbl (k := k) (by rw [← hX]; exact hk)
    rw [← hX] at sh1 sh2
    refine Sl.call fn19 rfl (by rw [cutAo_zero, show ((k : Nat) : Int).toNat = (X.take k).length from hkl.symm]; exact ftake_ok p o2 c2 (X.take k) 0 w2 ht2 (ho2.vw.take k) (by omega) (by decide)) rfl ?_
    rintro _ w7 ⟨o7, c7, rfl, ho7, hfr7, hf7⟩
    refine Sl.calm (Cm.move rfl) rfl ?_
    refine Sl.calm (Cm.extract rfl rfl) rfl ?_
    refine Sl.calm (Cm.extract rfl rfl) rfl ?_
    refine Sl.calm (Cm.extract rfl rfl) rfl ?_
    refine Sl.calm (Cm.assign rfl) rfl ?_
    refine Sl.calm (Cm.assign rfl) rfl ?_
    refine Sl.calm (Cm.assign rfl) rfl ?_
    refine Sl.nil ?_
    refine At.weak [(2, _), (7, _), (8, _), (9, _), (10, _), (11, _), (14, _)] ⟨rfl, rfl, rfl, rfl, rfl, rfl, rfl, trivial⟩ ?_
    refine At.go ?_
    refine Sc.seq ?_
    refine Sc.region ?_
    refine Sl.calm (Cm.move rfl) rfl ?_
    refine Sl.calm (Cm.move rfl) rfl ?_
    refine Sl.calm (Cm.sliceH sl22 rfl rfl (by omega)) rfl ?_
    refine Sl.call fn21 rfl (by rw [cutAo_zero, show ((k : Nat) : Int).toNat = (X.take k).length from hkl.symm]; exact fskip_ok o2 c2 (X.take k) 0 w7 ((ho2.grow hf7).vw.take k) (by omega) (by decide)) rfl ?_
    rintro _ w8 ⟨rfl, hf8⟩
    have hF28 := hf7.trans hf8
    have ho28 := ho2.grow hF28
    refine Sl.calm (Cm.move rfl) rfl ?_
    refine Sl.calm (Cm.extract rfl rfl) rfl ?_
    refine Sl.calm (Cm.extract rfl rfl) rfl ?_
    refine Sl.calm (Cm.assign rfl) rfl ?_
    refine Sl.calm (Cm.assign rfl) rfl ?_
    refine Sl.nil ?_
    refine At.weak [(2, _), (7, _), (8, _), (9, _), (10, _), (11, _), (14, _), (16, _)] ⟨rfl, rfl, rfl, rfl, rfl, rfl, rfl, rfl, trivial⟩ ?_
    refine At.go ?_
    refine Sc.cut (β := UInt8) (fun u => [(2, .int .u8 u.toNat), (7, .bool true), (8, .pointer (some ⟨p, 0, none⟩)), (9, .slice o2 X.length c2), (10, .int .i64 0), (11, .int .i64 k), (14, .int .i64 (takeS (X.take k) 0).2.2), (16, .int .i64 (skipS (X.take k) 0).2)]) (fun u w => u.toNat ≠ 0 ∧ w = w8) ?_ ?_
    ·
      refine Sc.seq ?_
      refine Sc.region ?_
      refine Sl.calm (Cm.move rfl) rfl ?_
      refine Sl.fork (Cm.eql rfl rfl) rfl (fun h56 => ?_) (fun h56 => ?_)
      ·
        refine Sl.nil ?_
        refine At.weak [(2, _), (7, _), (8, _), (9, _), (10, _), (11, _), (14, _), (16, _), (56, _)] ⟨rfl, rfl, rfl, rfl, rfl, rfl, rfl, rfl, rfl, trivial⟩ ?_
        refine At.go ?_
        refine Sc.cond_t rfl ?_
        refine Sc.region ?_
        refine Sl.calm (Cm.assign rfl) rfl ?_
        refine Sl.nil ?_
        exact At.cut (1 : UInt8) ⟨rfl, rfl, rfl, rfl, rfl, rfl, rfl, rfl, trivial⟩ ⟨by decide, rfl⟩
      ·
        refine Sl.nil ?_
        refine At.weak [(2, _), (7, _), (8, _), (9, _), (10, _), (11, _), (14, _), (16, _), (56, _)] ⟨rfl, rfl, rfl, rfl, rfl, rfl, rfl, rfl, rfl, trivial⟩ ?_
        refine At.go ?_
        refine Sc.cond_f rfl ?_
        refine Sc.skip ?_
        exact At.cut u0 ⟨rfl, rfl, rfl, rfl, rfl, rfl, rfl, rfl, trivial⟩ ⟨by omega, rfl⟩
    ·
      rintro u wq ⟨hu0, hwq⟩
      subst wq
      refine Sc.seq ?_
      refine Sc.region ?_
      refine Sl.calm (Cm.move rfl) rfl ?_
      refine Sl.calm (Cm.move rfl) rfl ?_
      refine Sl.calm (Cm.move rfl) rfl ?_
      refine Sl.calm (Cm.move rfl) rfl ?_
      refine Sl.calm (Cm.indexAddr1 sl22 rfl rfl ho28.vw.non (by omega)) rfl ?_
      refine Sl.calm (Cm.ld sca5 rfl (ho28.vw.gz 0 k rfl hk)) rfl ?_
      refine Sl.calm (Cm.move rfl) rfl ?_
      refine Sl.calm (Cm.ofEq (u := .int .u8 ((X.getD k 0 ^^^ u).toNat : Int)) (Cm.xor8 rfl rfl (X.getD k 0).toNat_lt u.toNat_lt) (by rw [UInt8.toNat_xor])) rfl ?_
      refine Sl.calm (Cm.indexAddr1 sl22 rfl rfl ho28.vw.non (by omega)) rfl ?_
      refine Sl.storeRow b8_one sca5 (z := (k : Int)) (u := X.getD k 0 ^^^ u) rfl rfl ho28 (by omega) ?_
      intro w9 ho9 hs9 hf9
      have ho9 : Own b8 5 w9.heap o2 c2 (X.set k (X.getD k 0 ^^^ u)) := ho9
      have ht9 : TbV w9.heap p := hf9.obj (hF28.obj ht2 id) (fun ⟨x, hx, h⟩ => by have := hfr2 x hx; have h : x.block = p := h; omega)
      have htn := turn_put hbl (k := k) (by rw [← hX]; exact hk) (v := X.getD k 0 ^^^ u) (by rw [← hX]; exact xor_ne hu0)
      rw [← hX] at htn
      refine Sl.nil ?_
      refine At.weak [(2, _), (7, _), (8, _), (9, _), (10, _), (11, _), (14, _), (16, _)] ⟨rfl, rfl, rfl, rfl, rfl, rfl, rfl, rfl, trivial⟩ ?_
      refine At.go ?_
      refine Sc.seq ?_
      refine Sc.region ?_
      refine Sl.calm (Cm.move rfl) rfl ?_
      refine Sl.call fn19 rfl (by rw [show X.length = (X.set k (X.getD k 0 ^^^ u)).length from (List.length_set ..).symm]; exact ftake_ok p o2 c2 (X.set k (X.getD k 0 ^^^ u)) 0 w9 ht9 ho9.vw (by rw [List.length_set]; omega) (by decide)) rfl ?_
      rintro _ w10 ⟨o10, c10, rfl, ho10, hfr10, hf10⟩
      refine Sl.calm (Cm.move rfl) rfl ?_
      refine Sl.calm (Cm.extract rfl rfl) rfl ?_
      refine Sl.calm (Cm.extract rfl rfl) rfl ?_
      refine Sl.calm (Cm.extract rfl rfl) rfl ?_
      refine Sl.calm (Cm.assign rfl) rfl ?_
      refine Sl.calm (Cm.assign rfl) rfl ?_
      refine Sl.calm (Cm.assign rfl) rfl ?_
      refine Sl.nil ?_
      refine At.weak [(2, _), (7, _), (8, _), (9, _), (10, _), (11, _), (14, _), (16, _), (19, _)] ⟨rfl, rfl, rfl, rfl, rfl, rfl, rfl, rfl, rfl, trivial⟩ ?_
      refine At.go ?_
      refine Sc.seq ?_
      refine Sc.region ?_
      refine Sl.calm (Cm.move rfl) rfl ?_
      refine Sl.calm (Cm.move rfl) rfl ?_
      refine Sl.want rfl rfl (Cm.move rfl) rfl ?_
      refine Sl.want rfl rfl (Cm.yes (Cm.eql rfl rfl) rfl) rfl ?_
      refine Sl.calm (Cm.pick_t rfl rfl) rfl ?_
      refine Sl.calm (Cm.move rfl) rfl ?_
      refine Sl.want rfl rfl (Cm.move rfl) rfl ?_
      refine Sl.want rfl rfl (Cm.yes (Cm.eql rfl rfl) (by exact sh1)) rfl ?_
      refine Sl.calm (Cm.pick_t rfl rfl) rfl ?_
      refine Sl.calm (Cm.move rfl) rfl ?_
      refine Sl.want rfl rfl (Cm.move rfl) rfl ?_
      refine Sl.want rfl rfl (Cm.yes (Cm.eql rfl rfl) (by exact sh2)) rfl ?_
      refine Sl.calm (Cm.pick_t rfl rfl) rfl ?_
      refine Sl.calm (Cm.move rfl) rfl ?_
      refine Sl.want rfl rfl (Cm.move rfl) rfl ?_
      refine Sl.want rfl rfl (Cm.yes (Cm.eql rfl rfl) (by exact htn)) rfl ?_
      refine Sl.calm (Cm.pick_t rfl rfl) rfl ?_
      refine Sl.calm (Cm.assign rfl) rfl ?_
      refine Sl.nil ?_
      refine At.weak [(2, _), (6, _), (7, _), (8, _), (9, _), (10, _), (11, _), (14, _), (16, _), (19, _)] ⟨rfl, rfl, rfl, rfl, rfl, rfl, rfl, rfl, rfl, rfl, trivial⟩ ?_
      refine At.go ?_
      refine Sc.ret ?_
      refine At.ret1 rfl rfl ?_
      exact ⟨_, rfl, rfl, (hF2.trans hF28).trans_to hf9 (fun k ⟨x, hx, h⟩ => .inr (by have := hfr2 x hx; have := (hf1.trans hF6).size; omega)) |>.trans hf10⟩
end Go.Proofs.Ytlpfahmkjgompaa
