/- crc: the table, sums: the program's and the reference's. No condition beyond the bounds that each states. -/
import Derived.Test.YtoaplldahbbaiaaBtk
namespace Go.Proofs.Ytoaplldahbbaiaa
open Go Go.RowKit
set_option linter.unusedVariables false

/-! ### the plain law -/
def e1 (r : Nat) : Nat := (r / 2) ^^^ (if r % 2 = 1 then 3988292384 else 0)
def eN (r : Nat) : Nat → Nat
  | 0 => r
  | k + 1 => e1 (eN r k)
def ent (i : Nat) : Nat := eN i 8
def crc1 (r : Nat) (c : UInt8) : Nat := (r / 256) ^^^ ent ((r % 256) ^^^ c.toNat)
def crcG (r : Nat) (b : List UInt8) : Nat := b.foldl crc1 r
def sumS (b : List UInt8) : Nat := 4294967295 ^^^ crcG 4294967295 b
theorem e1_lt {r : Nat} (h : r < 4294967296) : e1 r < 4294967296 := xor_lt32 (by omega) (by split <;> decide)
theorem eN_lt {r : Nat} (h : r < 4294967296) : ∀ k, eN r k < 4294967296
  | 0 => h
  | k + 1 => e1_lt (eN_lt h k)
theorem ent_lt {i : Nat} (h : i < 4294967296) : ent i < 4294967296 := eN_lt h 8
theorem idx_lt (r : Nat) (c : UInt8) : (r % 256) ^^^ c.toNat < 256 := xor_lt8 (by omega) c.toNat_lt
theorem crc1_lt {r : Nat} (h : r < 4294967296) (c : UInt8) : crc1 r c < 4294967296 := xor_lt32 (by omega) (ent_lt (by have := idx_lt r c; omega))
theorem crcG_lt : ∀ (b : List UInt8) {r : Nat}, r < 4294967296 → crcG r b < 4294967296
  | [], _, h => h
  | c :: b, r, h => crcG_lt b (crc1_lt h c)
theorem sumS_lt (b : List UInt8) : sumS b < 4294967296 := xor_lt32 (by decide) (crcG_lt b (by decide))
theorem crcG_snoc (r : Nat) (b : List UInt8) (c : UInt8) : crcG r (b ++ [c]) = crc1 (crcG r b) c := by unfold crcG; rw [List.foldl_append]; rfl
theorem take_snoc {b : List UInt8} {i : Nat} (h : i < b.length) : b.take (i + 1) = b.take i ++ [b.getD i 0] := by
  rw [List.take_succ_eq_append_getElem h, List.getD, List.getElem?_eq_getElem h]; rfl

/-! ### the table -/
def tabK (i : Nat) : List Value := (List.range 256).map (fun j => .int .u32 ((if j < i then ent j else 0 : Nat) : Int))
def tab : List Value := (List.range 256).map (fun j => .int .u32 ((ent j : Nat) : Int))
theorem tabK_len (i : Nat) : (tabK i).length = 256 := by simp [tabK]
theorem tab_len : tab.length = 256 := by simp [tab]
theorem tabK_set {i : Nat} (h : i < 256) : (tabK i).set i (.int .u32 ((ent i : Nat) : Int)) = tabK (i + 1) := by
  apply List.ext_getElem?
  intro q
  rw [List.getElem?_set, tabK_len]
  by_cases hq : i = q
  · subst hq
    rw [if_pos rfl, if_pos h]
    simp [tabK, h]
  · rw [if_neg hq]
    unfold tabK
    rw [List.getElem?_map, List.getElem?_map]
    by_cases hq2 : q < 256
    · rw [List.getElem?_range hq2]
      simp only [Option.map_some]
      congr 3
      by_cases h3 : q < i
      · rw [if_pos h3, if_pos (by omega)]
      · rw [if_neg h3, if_neg (by omega)]
    · rw [List.getElem?_eq_none (by simp; omega)]; rfl
theorem tabK_end : tabK 256 = tab := by
  unfold tabK tab
  apply List.map_congr_left
  intro j hj
  rw [if_pos (List.mem_range.1 hj)]
theorem tabK_zero : (List.replicate 256 (.int .u32 0) : List Value) = tabK 0 := by kernel_rfl
theorem tab_get {i : Nat} (h : i < 256) : tab[i]? = some (.int .u32 ((ent i : Nat) : Int)) := by simp [tab, h]
theorem tab_one : ∀ v ∈ tab, v.oneCell' = true := by
  intro v hv
  obtain ⟨j, _, rfl⟩ := List.mem_map.1 hv
  rfl
theorem zc42 : (Try.prog.info? 42).map (fun i => i.zero.map (·.cells)) = some (some (List.replicate 256 (.int .u32 0)).toArray) := by kernel_rfl
theorem arrT : ArrT Try.prog 42 40 256 1 := ⟨by kernel_rfl, by kernel_rfl⟩
theorem aggTab : aggB Try.prog 42 tab.length = true := by rw [tab_len]; exact agg42
/-- the table in memory -/
def TbV (H : Array Obj) (p : Nat) : Prop := H[p]? = some (.cells tab.toArray 42 (0, 0))
theorem arr_at (q i : Nat) : (⟨q, 0, none⟩ : Addr).add (((i : Nat) : Int).toNat * 1) = ⟨q, i, none⟩ := by rw [Addr.add_lit]; simp
theorem half_mul {x : Nat} (h : x < 4294967296) : IntKind.u32.wrap (((x &&& 1 : Nat) : Int) * 3988292384) = ((if x % 2 = 1 then 3988292384 else 0 : Nat) : Int) := by
  have e : x &&& 1 = x % 2 := Nat.and_one_is_mod x
  rw [e]
  by_cases h1 : x % 2 = 1
  · rw [if_pos h1, h1]; rfl
  · rw [if_neg h1, show x % 2 = 0 by omega]; rfl

set_option maxHeartbeats 1000000 in
theorem crcnew_ok (W : World) : Calls Try.prog 27 [].toArray W (Ret fun v w' => v = .agg tab.toArray ∧ Foot nob W w') := by
  refine calls_of_sc 23 [] Try.func27 rfl rfl rfl (enter_slots trivial) ?_
  refine Sc.seq ?_
  refine Sc.region ?_
  refine Sl.allocC zc42 rfl ?_
  intro w1 hg1 hs1 hf1
  have hg1 : w1.heap[W.heap.size]? = some (.cells (tabK 0).toArray 42 (0, 0)) := by rw [← tabK_zero]; exact hg1
  refine Sl.nil ?_
  refine At.go ?_
  refine Sc.seq ?_
  refine Sc.region ?_
  refine Sl.allocC zc42 rfl ?_
  intro w2 hg2 hs2 hf2
  have hg2 : w2.heap[w1.heap.size]? = some (.cells (tabK 0).toArray 42 (0, 0)) := by rw [← tabK_zero]; exact hg2
  have hg12 := hf2.obj hg1 id
  obtain ⟨q, hq⟩ : ∃ q, q = w1.heap.size := ⟨_, rfl⟩
  rw [← hq] at hg2 ⊢
  have hF2 := hf1.trans hf2
  refine Sl.nil ?_
  refine At.go ?_
  refine Sc.seq ?_
  refine Sc.seq ?_
  refine Sc.region ?_
  refine Sl.calm (Cm.move rfl) rfl ?_
  refine Sl.nil ?_
  refine At.go ?_
  refine Sc.block ?_
  refine Sc.loop (β := Nat) (fun i => [(0, .pointer (some ⟨W.heap.size, 0, none⟩)), (1, .pointer (some ⟨q, 0, none⟩)), (4, .int .i64 i)]) (fun i w => i ≤ 256 ∧ w.heap[q]? = some (.cells (tabK i).toArray 42 (0, 0)) ∧ w.heap[W.heap.size]? = some (.cells (tabK 0).toArray 42 (0, 0)) ∧ Foot nob W w) (fun i => 256 - i) 0 ⟨rfl, rfl, rfl, trivial⟩ ⟨by decide, hg2, hg12, hF2⟩ ?_
  rintro i w3 ⟨hi, hgq, hgr, hF3⟩
  refine Sc.seq ?_
  refine Sc.region ?_
  refine Sl.fork (Cm.lss rfl rfl) rfl (fun h5 => ?_) (fun h5 => ?_)
  ·
    refine Sl.nil ?_
    refine At.go ?_
    refine Sc.seq ?_
    refine Sc.cond_t rfl ?_
    refine Sc.skip ?_
    refine At.go ?_
    refine Sc.seq ?_
    refine Sc.block ?_
    refine Sc.seq ?_
    refine Sc.region ?_
    refine Sl.calm (Cm.move rfl) rfl ?_
    refine Sl.calm (Cm.assign rfl) rfl ?_
    refine Sl.nil ?_
    refine At.weak [(0, _), (1, _), (2, _), (4, _), (5, _)] ⟨rfl, rfl, rfl, rfl, rfl, trivial⟩ ?_
    refine At.go ?_
    refine Sc.seq ?_
    refine Sc.region ?_
    refine Sl.calm (Cm.move rfl) rfl ?_
    refine Sl.calm (Cm.convI_in (n := (i : Int)) is3 ty40 rfl (wrapU32 (by omega))) rfl ?_
    refine Sl.calm (Cm.assign rfl) rfl ?_
    refine Sl.nil ?_
    refine At.weak [(0, _), (1, _), (2, _), (3, _), (4, _), (5, _)] ⟨rfl, rfl, rfl, rfl, rfl, rfl, trivial⟩ ?_
    refine At.go ?_
    refine Sc.seq ?_
    refine Sc.seq ?_
    refine Sc.region ?_
    refine Sl.calm (Cm.move rfl) rfl ?_
    refine Sl.nil ?_
    refine At.go ?_
    refine Sc.block ?_
    refine Sc.loop (β := Nat) (fun k => [(0, .pointer (some ⟨W.heap.size, 0, none⟩)), (1, .pointer (some ⟨q, 0, none⟩)), (2, .int .i64 i), (3, .int .u32 ((eN i k : Nat) : Int)), (4, .int .i64 i), (9, .int .i64 k)]) (fun k w => k ≤ 8 ∧ w = w3) (fun k => 8 - k) 0 ⟨rfl, rfl, rfl, rfl, rfl, rfl, trivial⟩ ⟨by decide, rfl⟩ ?_
    rintro k wq ⟨hk, hwq⟩
    subst wq
    refine Sc.seq ?_
    refine Sc.region ?_
    refine Sl.fork (Cm.lss rfl rfl) rfl (fun h10 => ?_) (fun h10 => ?_)
    ·
      refine Sl.nil ?_
      refine At.go ?_
      refine Sc.seq ?_
      refine Sc.cond_t rfl ?_
      refine Sc.skip ?_
      refine At.go ?_
      refine Sc.seq ?_
      refine Sc.block ?_
      refine Sc.region ?_
      refine Sl.calm (Cm.move rfl) rfl ?_
      have hlt := eN_lt (r := i) (by omega) k
      refine Sl.calm (Cm.shr32 (n := 1) rfl rfl rfl (by decide)) rfl ?_
      refine Sl.calm (Cm.move rfl) rfl ?_
      refine Sl.calm (Cm.and32 (b := 1) rfl rfl hlt (by decide)) rfl ?_
      refine Sl.calm (Cm.ofEq (u := .int .u32 ((if eN i k % 2 = 1 then 3988292384 else 0 : Nat) : Int)) (Cm.mulW rfl rfl) (by rw [half_mul hlt])) rfl ?_
      refine Sl.calm (Cm.xor32 rfl rfl (by omega) (by split <;> decide)) rfl ?_
      refine Sl.calm (Cm.assign rfl) rfl ?_
      refine Sl.nil ?_
      refine At.block_normal ?_
      refine At.weak [(0, _), (1, _), (2, _), (3, _), (4, _), (9, _), (10, _)] ⟨rfl, rfl, rfl, rfl, rfl, rfl, rfl, trivial⟩ ?_
      refine At.go ?_
      refine Sc.region ?_
      refine Sl.calm (Cm.add64 rfl rfl (by omega)) rfl ?_
      refine Sl.calm (Cm.move rfl) rfl ?_
      refine Sl.nil ?_
      exact At.again (k + 1) ⟨rfl, rfl, rfl, rfl, rfl, rfl, trivial⟩ ⟨by omega, rfl⟩ (by show 8 - (k + 1) < 8 - k; omega)
    ·
      refine Sl.nil ?_
      refine At.go ?_
      refine Sc.seq ?_
      refine Sc.cond_f rfl ?_
      refine Sc.exit ?_
      refine At.then_exit ?_
      refine At.then_exit ?_
      refine At.block_hit ?_
      refine At.go ?_
      refine Sc.region ?_
      refine Sl.calm (Cm.move rfl) rfl ?_
      refine Sl.calm (Cm.move rfl) rfl ?_
      refine Sl.calm (Cm.ofEq (u := .pointer (some ⟨q, i, none⟩)) (Cm.indexArr arrT rfl rfl (by omega)) (by rw [arr_at])) rfl ?_
      have hk8 : k = 8 := by omega
      subst hk8
      refine Sl.store sca40 rfl rfl rfl hgq (by rw [Nat.blt_eq, tabK_len]; omega) ?_
      intro w4 hg4 hs4 hf4
      have hg4 : w4.heap[q]? = some (.cells (tabK (i + 1)).toArray 42 (0, 0)) := by rw [hg4]; congr 2; rw [← tabK_set (by omega)]; rfl
      refine Sl.nil ?_
      refine At.block_normal ?_
      refine At.weak [(0, _), (1, _), (2, _), (3, _), (4, _), (9, _), (10, _)] ⟨rfl, rfl, rfl, rfl, rfl, rfl, rfl, trivial⟩ ?_
      refine At.go ?_
      refine Sc.region ?_
      refine Sl.calm (Cm.add64 rfl rfl (by omega)) rfl ?_
      refine Sl.calm (Cm.move rfl) rfl ?_
      refine Sl.nil ?_
      exact At.again (i + 1) ⟨rfl, rfl, rfl, trivial⟩ ⟨by omega, hg4, hf4.obj hgr (by omega), hF3.trans_to hf4 (fun k hk => .inr (by have h : k = q := hk; omega))⟩ (by show 256 - (i + 1) < 256 - i; omega)
  ·
    refine Sl.nil ?_
    refine At.go ?_
    refine Sc.seq ?_
    refine Sc.cond_f rfl ?_
    refine Sc.exit ?_
    refine At.then_exit ?_
    refine At.then_exit ?_
    refine At.block_hit ?_
    refine At.go ?_
    refine Sc.seq ?_
    refine Sc.region ?_
    have hi2 : i = 256 := by omega
    subst hi2
    rw [tabK_end] at hgq
    refine Sl.calm (Cm.ldM (cs := tab) aggTab rfl (fun j v hj => cellF hgq hj)) rfl ?_
    refine Sl.storeAll (vs := tab) aggTab rfl rfl tab_one hgr (by rw [tab_len, tabK_len]) ?_
    intro w5 hg5 hs5 hf5
    refine Sl.nil ?_
    refine At.weak [(0, _), (1, _), (4, _), (5, _)] ⟨rfl, rfl, rfl, rfl, trivial⟩ ?_
    refine At.go ?_
    refine Sc.ret ?_
    refine At.retC1 (cs := tab) rfl aggTab rfl (fun j v hj => cellF hg5 hj) ?_
    exact ⟨_, rfl, rfl, hF3.trans_to hf5 (fun k hk => .inr (by have h : k = W.heap.size := hk; omega))⟩

theorem wrap8m (n : Nat) : IntKind.u8.wrap (n : Int) = ((n % 256 : Nat) : Int) := by
  show IntKind.wrap .u8 n = _
  simp [IntKind.wrap, IntKind.signed, IntKind.bits]
set_option maxHeartbeats 1000000 in
theorem more_ok (p : Nat) (s : Nat) (ao : Option Addr) (c : Nat) (b : List UInt8) (W : World) (ht : TbV W.heap p) (hv : Vw b8 W.heap ao c b) (hs : s < 4294967296) :
    Calls Try.prog 108 [.pointer (some ⟨p, 0, none⟩), .int .u32 (s : Nat), .slice ao b.length c].toArray W (Ret fun v w' => v = .int .u32 ((4294967295 ^^^ crcG (4294967295 ^^^ s) b : Nat) : Int) ∧ w' = W) := by
  have hs2 := xor_lt32 (show 4294967295 < 4294967296 by decide) hs
  have hl := hv.len63
  refine calls_of_sc 32 [(0, _), (1, _), (2, _)] Try.func108 rfl rfl rfl (enter_slots ⟨rfl, rfl, rfl, trivial⟩) ?_
  refine Sc.seq ?_
  refine Sc.region ?_
  refine Sl.calm (Cm.assign rfl) rfl ?_
  refine Sl.nil ?_
  refine At.go ?_
  refine Sc.seq ?_
  refine Sc.region ?_
  refine Sl.calm (Cm.move rfl) rfl ?_
  refine Sl.calm (Cm.not32 rfl hs) rfl ?_
  refine Sl.calm (Cm.assign rfl) rfl ?_
  refine Sl.nil ?_
  refine At.weak [(0, _), (1, _), (2, _), (6, _), (7, _)] ⟨rfl, rfl, rfl, rfl, rfl, trivial⟩ ?_
  refine At.go ?_
  refine Sc.seq ?_
  refine Sc.seq ?_
  refine Sc.region ?_
  refine Sl.calm (Cm.move rfl) rfl ?_
  refine Sl.calm (Cm.len sl25 rfl) rfl ?_
  refine Sl.calm (Cm.move rfl) rfl ?_
  refine Sl.nil ?_
  refine At.go ?_
  refine Sc.block ?_
  refine Sc.loop (β := Nat) (fun i => [(0, .pointer (some ⟨p, 0, none⟩)), (7, .int .u32 ((crcG (4294967295 ^^^ s) (b.take i) : Nat) : Int)), (12, .slice ao b.length c), (13, .int .i64 b.length), (14, .int .i64 i)]) (fun i w => i ≤ b.length ∧ w = W) (fun i => b.length - i) 0 ⟨rfl, rfl, rfl, rfl, rfl, trivial⟩ ⟨Nat.zero_le _, rfl⟩ ?_
  rintro i wq ⟨hi, hwq⟩
  subst wq
  refine Sc.seq ?_
  refine Sc.region ?_
  refine Sl.fork (Cm.lss rfl rfl) rfl (fun h15 => ?_) (fun h15 => ?_)
  ·
    refine Sl.nil ?_
    refine At.go ?_
    refine Sc.seq ?_
    refine Sc.cond_t rfl ?_
    refine Sc.skip ?_
    refine At.go ?_
    refine Sc.seq ?_
    refine Sc.block ?_
    refine Sc.seq ?_
    refine Sc.region ?_
    refine Sl.calm (Cm.indexAddr1 sl25 rfl rfl hv.non (by omega)) rfl ?_
    refine Sl.calm (Cm.ld sca5 rfl (hv.gz 0 i rfl (by omega))) rfl ?_
    obtain ⟨r, hr⟩ : ∃ r, r = crcG (4294967295 ^^^ s) (b.take i) := ⟨_, rfl⟩
    have hrl : r < 4294967296 := by rw [hr]; exact crcG_lt _ hs2
    rw [← hr]
    have hix := idx_lt r (b.getD i 0)
    refine Sl.calm (Cm.assign rfl) rfl ?_
    refine Sl.nil ?_
    refine At.weak [(0, _), (7, _), (9, _), (12, _), (13, _), (14, _), (15, _)] ⟨rfl, rfl, rfl, rfl, rfl, rfl, rfl, trivial⟩ ?_
    refine At.go ?_
    refine Sc.region ?_
    refine Sl.calm (Cm.move rfl) rfl ?_
    refine Sl.calm (Cm.shr32 (n := 8) rfl rfl rfl (by decide)) rfl ?_
    refine Sl.calm (Cm.move rfl) rfl ?_
    refine Sl.calm (Cm.move rfl) rfl ?_
    refine Sl.calm (Cm.convI_in (n := ((r % 256 : Nat) : Int)) is40 ty5 rfl (wrap8m r)) rfl ?_
    refine Sl.calm (Cm.move rfl) rfl ?_
    refine Sl.calm (Cm.xor8 rfl rfl (by omega) (b.getD i 0).toNat_lt) rfl ?_
    refine Sl.calm (Cm.nilCheck rfl) rfl ?_
    refine Sl.calm (Cm.ofEq (u := .pointer (some ⟨p, (r % 256) ^^^ (b.getD i 0).toNat, none⟩)) (Cm.indexArr arrT rfl rfl (by omega)) (by rw [arr_at])) rfl ?_
    refine Sl.calm (Cm.ld sca40 rfl (cellF0 ht (tab_get hix))) rfl ?_
    refine Sl.calm (Cm.xor32 rfl rfl (by omega) (ent_lt (by omega))) rfl ?_
    refine Sl.calm (Cm.assign rfl) rfl ?_
    refine Sl.nil ?_
    refine At.block_normal ?_
    refine At.weak [(0, _), (7, _), (9, _), (12, _), (13, _), (14, _), (15, _)] ⟨rfl, rfl, rfl, rfl, rfl, rfl, rfl, trivial⟩ ?_
    refine At.go ?_
    refine Sc.region ?_
    refine Sl.calm (Cm.add64 rfl rfl (by omega)) rfl ?_
    refine Sl.calm (Cm.move rfl) rfl ?_
    refine Sl.nil ?_
    refine At.again (i + 1) ⟨rfl, ?_, rfl, rfl, rfl, trivial⟩ ⟨by omega, rfl⟩ (by show b.length - (i + 1) < b.length - i; omega)
    rw [take_snoc (by omega), crcG_snoc, ← hr]; rfl
  ·
    refine Sl.nil ?_
    refine At.go ?_
    refine Sc.seq ?_
    refine Sc.cond_f rfl ?_
    refine Sc.exit ?_
    refine At.then_exit ?_
    refine At.then_exit ?_
    refine At.block_hit ?_
    refine At.go ?_
    refine Sc.seq ?_
    refine Sc.region ?_
    refine Sl.calm (Cm.move rfl) rfl ?_
    refine Sl.calm (Cm.not32 rfl (crcG_lt _ hs2)) rfl ?_
    refine Sl.calm (Cm.assign rfl) rfl ?_
    refine Sl.nil ?_
    refine At.weak [(0, _), (6, _), (7, _), (12, _), (13, _), (14, _), (15, _)] ⟨rfl, rfl, rfl, rfl, rfl, rfl, rfl, trivial⟩ ?_
    refine At.go ?_
    refine Sc.ret ?_
    refine At.ret1 rfl rfl ?_
    rw [List.take_of_length_le (by omega)]
    exact ⟨_, rfl, rfl, rfl⟩
theorem sum_ok (p : Nat) (ao : Option Addr) (c : Nat) (b : List UInt8) (W : World) (ht : TbV W.heap p) (hv : Vw b8 W.heap ao c b) :
    Calls Try.prog 99 [.pointer (some ⟨p, 0, none⟩), .slice ao b.length c].toArray W (Ret fun v w' => v = .int .u32 ((sumS b : Nat) : Int) ∧ w' = W) := by
  refine calls_of_sc 8 [(0, _), (1, _)] Try.func99 rfl rfl rfl (enter_slots ⟨rfl, rfl, trivial⟩) ?_
  refine Sc.seq ?_
  refine Sc.region ?_
  refine Sl.calm (Cm.assign rfl) rfl ?_
  refine Sl.nil ?_
  refine At.go ?_
  refine Sc.seq ?_
  refine Sc.region ?_
  refine Sl.calm (Cm.move rfl) rfl ?_
  refine Sl.calm (Cm.move rfl) rfl ?_
  refine Sl.call fn108 rfl (more_ok p 0 ao c b W ht hv (by decide)) rfl ?_
  rintro _ w1 ⟨rfl, hw1⟩
  subst w1
  refine Sl.calm (Cm.assign rfl) rfl ?_
  refine Sl.nil ?_
  refine At.weak [(0, _), (1, _), (4, _)] ⟨rfl, rfl, rfl, trivial⟩ ?_
  refine At.go ?_
  refine Sc.ret ?_
  refine At.ret1 rfl rfl ?_
  exact ⟨_, rfl, rfl, rfl⟩

/-! ### the reference's -/
theorem e1_odd {r : Nat} (h : r % 2 = 1) : (r / 2) ^^^ 3988292384 = e1 r := by unfold e1; rw [if_pos h]
theorem e1_even {r : Nat} (h : ¬ r % 2 = 1) : r / 2 = e1 r := by unfold e1; rw [if_neg h, Nat.xor_zero]
theorem quo32 {r n : Nat} (hr : r < 4294967296) : IntKind.u32.wrap (((r : Nat) : Int).tdiv n) = ((r / n : Nat) : Int) := by
  have h := Nat.div_le_self r n
  rw [show ((r : Nat) : Int).tdiv n = ((r / n : Nat) : Int) from rfl, wrapU32 (by omega)]
set_option maxHeartbeats 1000000 in
theorem entry_ok (i : Nat) (W : World) (hi : i < 4294967296) : Calls Try.prog 130 [.int .i64 i].toArray W (Ret fun v w' => v = .int .u32 ((ent i : Nat) : Int) ∧ w' = W) := by
  refine calls_of_sc 21 [(0, _)] Try.func130 rfl rfl rfl (enter_slots ⟨rfl, trivial⟩) ?_
  refine Sc.seq ?_
  refine Sc.region ?_
  refine Sl.calm (Cm.assign rfl) rfl ?_
  refine Sl.nil ?_
  refine At.go ?_
  refine Sc.seq ?_
  refine Sc.region ?_
  refine Sl.calm (Cm.move rfl) rfl ?_
  refine Sl.calm (Cm.convI_in (n := (i : Int)) is3 ty40 rfl (wrapU32 hi)) rfl ?_
  refine Sl.calm (Cm.assign rfl) rfl ?_
  refine Sl.nil ?_
  refine At.weak [(0, _), (2, _), (3, _)] ⟨rfl, rfl, rfl, trivial⟩ ?_
  refine At.go ?_
  refine Sc.seq ?_
  refine Sc.seq ?_
  refine Sc.region ?_
  refine Sl.calm (Cm.assign rfl) rfl ?_
  refine Sl.nil ?_
  refine At.go ?_
  refine Sc.block ?_
  refine Sc.loop (β := Nat) (fun k => [(3, .int .u32 ((eN i k : Nat) : Int)), (4, .int .i64 k)]) (fun k w => k ≤ 8 ∧ w = W) (fun k => 8 - k) 0 ⟨rfl, rfl, trivial⟩ ⟨by decide, rfl⟩ ?_
  rintro k wq ⟨hk, hwq⟩
  subst wq
  refine Sc.seq ?_
  refine Sc.seq ?_
  refine Sc.region ?_
  refine Sl.calm (Cm.move rfl) rfl ?_
  refine Sl.fork (Cm.lss rfl rfl) rfl (fun h9 => ?_) (fun h9 => ?_)
  ·
    refine Sl.nil ?_
    refine At.weak [(3, _), (4, _), (9, _)] ⟨rfl, rfl, rfl, trivial⟩ ?_
    refine At.go ?_
    refine Sc.cond_t rfl ?_
    refine Sc.skip ?_
    refine At.go ?_
    refine Sc.seq ?_
    refine Sc.block ?_
    refine Sc.seq ?_
    refine Sc.region ?_
    refine Sl.calm (Cm.move rfl) rfl ?_
    have hlt := eN_lt hi k
    refine Sl.calm (Cm.ofEq (u := .int .u32 ((eN i k % 2 : Nat) : Int)) (Cm.rem64 rfl rfl (by omega) (by decide)) rfl) rfl ?_
    refine Sl.calm (Cm.assign rfl) rfl ?_
    refine Sl.nil ?_
    refine At.weak [(3, _), (4, _), (5, _), (9, _)] ⟨rfl, rfl, rfl, rfl, trivial⟩ ?_
    refine At.go ?_
    refine Sc.seq ?_
    refine Sc.region ?_
    refine Sl.calm (Cm.move rfl) rfl ?_
    refine Sl.calm (Cm.ofEq (u := .int .u32 ((eN i k / 2 : Nat) : Int)) (Cm.quoW rfl rfl (by decide)) (by rw [show (2 : Int) = ((2 : Nat) : Int) from rfl, quo32 hlt])) rfl ?_
    refine Sl.calm (Cm.assign rfl) rfl ?_
    refine Sl.nil ?_
    refine At.weak [(3, _), (4, _), (5, _), (9, _)] ⟨rfl, rfl, rfl, rfl, trivial⟩ ?_
    refine At.go ?_
    refine Sc.seq ?_
    refine Sc.region ?_
    refine Sl.calm (Cm.move rfl) rfl ?_
    refine Sl.fork (Cm.eql rfl rfl) rfl (fun h17 => ?_) (fun h17 => ?_)
    ·
      refine Sl.nil ?_
      refine At.weak [(3, _), (4, _), (5, _), (9, _), (17, _)] ⟨rfl, rfl, rfl, rfl, rfl, trivial⟩ ?_
      refine At.go ?_
      refine Sc.cond_t rfl ?_
      refine Sc.region ?_
      refine Sl.calm (Cm.move rfl) rfl ?_
      refine Sl.calm (Cm.xor32 rfl rfl (by omega) (by decide)) rfl ?_
      refine Sl.calm (Cm.assign rfl) rfl ?_
      refine Sl.nil ?_
      refine At.block_normal ?_
      refine At.weak [(3, _), (4, _), (5, _), (9, _), (17, _)] ⟨rfl, rfl, rfl, rfl, rfl, trivial⟩ ?_
      refine At.go ?_
      refine Sc.region ?_
      refine Sl.calm (Cm.move rfl) rfl ?_
      refine Sl.calm (Cm.add64 rfl rfl (by omega)) rfl ?_
      refine Sl.calm (Cm.assign rfl) rfl ?_
      refine Sl.nil ?_
      refine At.again (k + 1) ⟨?_, rfl, trivial⟩ ⟨by omega, rfl⟩ (by show 8 - (k + 1) < 8 - k; omega)
      show some (Value.int .u32 _) = some (Value.int .u32 _)
      rw [show eN i (k + 1) = e1 (eN i k) from rfl, ← e1_odd (by omega)]
    ·
      refine Sl.nil ?_
      refine At.weak [(3, _), (4, _), (5, _), (9, _), (17, _)] ⟨rfl, rfl, rfl, rfl, rfl, trivial⟩ ?_
      refine At.go ?_
      refine Sc.cond_f rfl ?_
      refine Sc.skip ?_
      refine At.block_normal ?_
      refine At.go ?_
      refine Sc.region ?_
      refine Sl.calm (Cm.move rfl) rfl ?_
      refine Sl.calm (Cm.add64 rfl rfl (by omega)) rfl ?_
      refine Sl.calm (Cm.assign rfl) rfl ?_
      refine Sl.nil ?_
      refine At.again (k + 1) ⟨?_, rfl, trivial⟩ ⟨by omega, rfl⟩ (by show 8 - (k + 1) < 8 - k; omega)
      show some (Value.int .u32 _) = some (Value.int .u32 _)
      rw [show eN i (k + 1) = e1 (eN i k) from rfl, ← e1_even (by omega)]
  ·
    refine Sl.nil ?_
    refine At.weak [(3, _), (4, _), (9, _)] ⟨rfl, rfl, rfl, trivial⟩ ?_
    refine At.go ?_
    refine Sc.cond_f rfl ?_
    refine Sc.exit ?_
    refine At.then_exit ?_
    refine At.then_exit ?_
    refine At.block_hit ?_
    refine At.go ?_
    refine Sc.seq ?_
    refine Sc.region ?_
    refine Sl.calm (Cm.move rfl) rfl ?_
    refine Sl.calm (Cm.assign rfl) rfl ?_
    refine Sl.nil ?_
    refine At.weak [(2, _), (3, _), (4, _), (9, _)] ⟨rfl, rfl, rfl, rfl, trivial⟩ ?_
    refine At.go ?_
    refine Sc.ret ?_
    refine At.ret1 rfl rfl ?_
    have hk8 : k = 8 := by omega
    subst hk8
    exact ⟨_, rfl, rfl, rfl⟩
theorem xor_mod (r : Nat) (c : UInt8) : (r ^^^ c.toNat) % 256 = (r % 256) ^^^ c.toNat := by
  have := Nat.xor_mod_two_pow (a := r) (b := c.toNat) (n := 8)
  rw [show (2 : Nat) ^ 8 = 256 from rfl, Nat.mod_eq_of_lt c.toNat_lt] at this
  exact this
set_option maxHeartbeats 1000000 in
theorem rsum_ok (ao : Option Addr) (c : Nat) (b : List UInt8) (W : World) (hv : Vw b8 W.heap ao c b) :
    Calls Try.prog 115 [.slice ao b.length c].toArray W (Ret fun v w' => v = .int .u32 ((sumS b : Nat) : Int) ∧ w' = W) := by
  have hl := hv.len63
  refine calls_of_sc 26 [(0, _)] Try.func115 rfl rfl rfl (enter_slots ⟨rfl, trivial⟩) ?_
  refine Sc.seq ?_
  refine Sc.region ?_
  refine Sl.calm (Cm.assign rfl) rfl ?_
  refine Sl.nil ?_
  refine At.go ?_
  refine Sc.seq ?_
  refine Sc.region ?_
  refine Sl.calm (Cm.assign rfl) rfl ?_
  refine Sl.nil ?_
  refine At.go ?_
  refine Sc.seq ?_
  refine Sc.seq ?_
  refine Sc.region ?_
  refine Sl.calm (Cm.assign rfl) rfl ?_
  refine Sl.nil ?_
  refine At.go ?_
  refine Sc.block ?_
  refine Sc.loop (β := Nat) (fun i => [(0, .slice ao b.length c), (3, .int .u32 ((crcG 4294967295 (b.take i) : Nat) : Int)), (4, .int .i64 i)]) (fun i w => i ≤ b.length ∧ w = W) (fun i => b.length - i) 0 ⟨rfl, rfl, rfl, trivial⟩ ⟨Nat.zero_le _, rfl⟩ ?_
  rintro i wq ⟨hi, hwq⟩
  subst wq
  refine Sc.seq ?_
  refine Sc.seq ?_
  refine Sc.region ?_
  refine Sl.calm (Cm.move rfl) rfl ?_
  refine Sl.calm (Cm.move rfl) rfl ?_
  refine Sl.calm (Cm.len sl25 rfl) rfl ?_
  refine Sl.fork (Cm.lss rfl rfl) rfl (fun h8 => ?_) (fun h8 => ?_)
  ·
    refine Sl.nil ?_
    refine At.weak [(0, _), (3, _), (4, _), (8, _)] ⟨rfl, rfl, rfl, rfl, trivial⟩ ?_
    refine At.go ?_
    refine Sc.cond_t rfl ?_
    refine Sc.skip ?_
    refine At.go ?_
    refine Sc.seq ?_
    refine Sc.block ?_
    refine Sc.region ?_
    refine Sl.calm (Cm.move rfl) rfl ?_
    obtain ⟨r, hr⟩ : ∃ r, r = crcG 4294967295 (b.take i) := ⟨_, rfl⟩
    have hrl : r < 4294967296 := by rw [hr]; exact crcG_lt _ (by decide)
    rw [← hr]
    have hcl := (b.getD i 0).toNat_lt
    have hix := idx_lt r (b.getD i 0)
    refine Sl.calm (Cm.ofEq (u := .int .u32 ((r / 256 : Nat) : Int)) (Cm.quoW rfl rfl (by decide)) (by rw [show (256 : Int) = ((256 : Nat) : Int) from rfl, quo32 hrl])) rfl ?_
    refine Sl.calm (Cm.move rfl) rfl ?_
    refine Sl.calm (Cm.move rfl) rfl ?_
    refine Sl.calm (Cm.move rfl) rfl ?_
    refine Sl.calm (Cm.indexAddr1 sl25 rfl rfl hv.non (by omega)) rfl ?_
    refine Sl.calm (Cm.ld sca5 rfl (hv.gz 0 i rfl (by omega))) rfl ?_
    refine Sl.calm (Cm.convI_in (n := ((b.getD i 0).toNat : Int)) is5 ty40 rfl (wrapU32 (by omega))) rfl ?_
    refine Sl.calm (Cm.xor32 rfl rfl hrl (by omega)) rfl ?_
    refine Sl.calm (Cm.ofEq (u := .int .u32 (((r % 256) ^^^ (b.getD i 0).toNat : Nat) : Int)) (Cm.rem64 rfl rfl (by omega) (by decide)) (by rw [← xor_mod]; rfl)) rfl ?_
    refine Sl.calm (Cm.convI_in (n := (((r % 256) ^^^ (b.getD i 0).toNat : Nat) : Int)) is40 ty3 rfl (wrap64_id (by omega))) rfl ?_
    refine Sl.call fn130 rfl (entry_ok ((r % 256) ^^^ (b.getD i 0).toNat) W (by omega)) rfl ?_
    rintro _ w1 ⟨rfl, hw1⟩
    subst w1
    refine Sl.calm (Cm.xor32 rfl rfl (by omega) (ent_lt (by omega))) rfl ?_
    refine Sl.calm (Cm.assign rfl) rfl ?_
    refine Sl.nil ?_
    refine At.block_normal ?_
    refine At.weak [(0, _), (3, _), (4, _), (8, _)] ⟨rfl, rfl, rfl, rfl, trivial⟩ ?_
    refine At.go ?_
    refine Sc.region ?_
    refine Sl.calm (Cm.move rfl) rfl ?_
    refine Sl.calm (Cm.add64 rfl rfl (by omega)) rfl ?_
    refine Sl.calm (Cm.assign rfl) rfl ?_
    refine Sl.nil ?_
    refine At.again (i + 1) ⟨rfl, ?_, rfl, trivial⟩ ⟨by omega, rfl⟩ (by show b.length - (i + 1) < b.length - i; omega)
    rw [take_snoc (by omega), crcG_snoc, ← hr]; rfl
  ·
    refine Sl.nil ?_
    refine At.weak [(0, _), (3, _), (4, _), (8, _)] ⟨rfl, rfl, rfl, rfl, trivial⟩ ?_
    refine At.go ?_
    refine Sc.cond_f rfl ?_
    refine Sc.exit ?_
    refine At.then_exit ?_
    refine At.then_exit ?_
    refine At.block_hit ?_
    refine At.go ?_
    refine Sc.seq ?_
    refine Sc.region ?_
    refine Sl.calm (Cm.move rfl) rfl ?_
    rw [List.take_of_length_le (by omega)]
    refine Sl.calm (Cm.ofEq (u := .int .u32 ((sumS b : Nat) : Int)) (Cm.xor32 (b := 4294967295) rfl rfl (crcG_lt _ (by decide)) (by decide)) (by rw [Nat.xor_comm]; rfl)) rfl ?_
    refine Sl.calm (Cm.assign rfl) rfl ?_
    refine Sl.nil ?_
    refine At.weak [(0, _), (2, _), (3, _), (4, _), (8, _)] ⟨rfl, rfl, rfl, rfl, rfl, trivial⟩ ?_
    refine At.go ?_
    refine Sc.ret ?_
    refine At.ret1 rfl rfl ?_
    exact ⟨_, rfl, rfl, rfl⟩
end Go.Proofs.Ytoaplldahbbaiaa
