/- frame: Put, the program's. No condition beyond the bounds that each states. -/
import Derived.Test.YtpnfjfbfgaiolaaDoorFmP
import Derived.Test.YtpnfjfbfgaiolaaDoorLzG
namespace Go.Proofs.YtpnfjfbfgaiolaaDoor
open Go Go.RowKit
set_option linter.unusedVariables false

def hdV (n : Nat) : List Value := [.int .u8 ((n % 256 : Nat) : Int), .int .u8 ((n / 256 % 256 : Nat) : Int), .int .u8 ((255 ^^^ ((n % 256) ^^^ (n / 256 % 256)) : Nat) : Int)]
theorem hdV_one (n : Nat) : ∀ v ∈ hdV n, v.oneCell' = true := by simp [hdV, Value.oneCell']
theorem hdV_eq (n : Nat) : hdV n = (hdB n).map b8 := by
  have h := fun x (hx : x ∈ hdN n) => hdN_lt hx
  simp only [hdN, List.mem_cons, List.not_mem_nil, or_false, forall_eq_or_imp, forall_eq] at h
  obtain ⟨h1, h2, h3⟩ := h
  simp only [hdV, hdB, hdN, List.map_cons, List.map_nil, b8, UInt8.toNat_ofNat']
  rw [Nat.mod_eq_of_lt h1, Nat.mod_eq_of_lt h2, Nat.mod_eq_of_lt h3]
theorem arrF : ArrT Tryd.prog 82 5 3 1 := ⟨by kernel_rfl, by kernel_rfl⟩
theorem hv_div (n : Nat) : ((n : Nat) : Int) / 2 ^ (8 : Int).toNat = ((n / 256 : Nat) : Int) := rfl

set_option maxHeartbeats 1000000 in
theorem head_ok (n : Nat) (W : World) (hn : n < 65536) : Calls Tryd.prog 35 [.int .i64 n].toArray W (Ret fun v w' => v = .agg (hdV n).toArray ∧ Foot nob W w') := by
  refine calls_of_sc 18 [(0, _)] Tryd.func35 rfl rfl rfl (enter_slots ⟨rfl, trivial⟩) ?_
  refine Sc.seq ?_
  refine Sc.region ?_
  refine Sl.allocC zc82 rfl ?_
  intro w1 hg1 hs1 hf1
  have hg1 : w1.heap[W.heap.size]? = some (.cells [.int .u8 0, .int .u8 0, .int .u8 0].toArray 82 (0, 0)) := hg1
  refine Sl.nil ?_
  refine At.go ?_
  refine Sc.seq ?_
  refine Sc.region ?_
  refine Sl.calm (Cm.move rfl) rfl ?_
  refine Sl.calm (Cm.convI_in (n := ((n % 256 : Nat) : Int)) is3 ty5 rfl (wrap8m n)) rfl ?_
  refine Sl.calm (Cm.move rfl) rfl ?_
  refine Sl.calm (Cm.ofEq (u := .int .i64 ((n / 256 : Nat) : Int)) (Cm.shr rfl rfl (by omega)) (by rw [hv_div])) rfl ?_
  refine Sl.calm (Cm.convI_in (n := ((n / 256 % 256 : Nat) : Int)) is3 ty5 rfl (wrap8m _)) rfl ?_
  refine Sl.calm (Cm.buildArr (cs := [.int .u8 ((n % 256 : Nat) : Int), .int .u8 ((n / 256 % 256 : Nat) : Int), .int .u8 0].toArray) arrF zc82 rfl (by kernel_rfl)) rfl ?_
  refine Sl.allocC zc82 rfl ?_
  intro w2 hg2 hs2 hf2
  have hg12 := hf2.obj hg1 id
  obtain ⟨q, hq⟩ : ∃ q, q = w1.heap.size := ⟨_, rfl⟩
  rw [← hq] at hg2 ⊢
  refine Sl.storeAll (vs := [.int .u8 ((n % 256 : Nat) : Int), .int .u8 ((n / 256 % 256 : Nat) : Int), .int .u8 0]) agg82 rfl rfl (by simp [Value.oneCell']) hg2 rfl ?_
  intro w3 hg3 hs3 hf3
  have hg13 := hf3.obj hg12 (by omega)
  refine Sl.nil ?_
  refine At.weak [(0, _), (2, _), (3, _)] ⟨rfl, rfl, rfl, trivial⟩ ?_
  refine At.go ?_
  refine Sc.seq ?_
  refine Sc.region ?_
  refine Sl.calm (Cm.ofEq (u := .pointer (some ⟨q, 0, none⟩)) (Cm.indexArr arrF rfl rfl (by omega)) (by rw [Addr.add_lit]; rfl)) rfl ?_
  refine Sl.calm (Cm.ld sca5 rfl (cellF0 hg3 rfl)) rfl ?_
  refine Sl.calm (Cm.ofEq (u := .pointer (some ⟨q, 1, none⟩)) (Cm.indexArr arrF rfl rfl (by omega)) (by rw [Addr.add_lit]; rfl)) rfl ?_
  refine Sl.calm (Cm.ld sca5 rfl (cellF0 hg3 rfl)) rfl ?_
  refine Sl.calm (Cm.xor8 rfl rfl (by omega) (by omega)) rfl ?_
  refine Sl.calm (Cm.not8 rfl (xor_lt8 (by omega) (by omega))) rfl ?_
  refine Sl.calm (Cm.ofEq (u := .pointer (some ⟨q, 2, none⟩)) (Cm.indexArr arrF rfl rfl (by omega)) (by rw [Addr.add_lit]; rfl)) rfl ?_
  refine Sl.store sca5 rfl rfl rfl hg3 rfl ?_
  intro w4 hg4 hs4 hf4
  have hg4 : w4.heap[q]? = some (.cells (hdV n).toArray 82 (0, 0)) := hg4
  have hg14 := hf4.obj hg13 (by omega)
  refine Sl.nil ?_
  refine At.weak [(0, _), (2, _), (3, _)] ⟨rfl, rfl, rfl, trivial⟩ ?_
  refine At.go ?_
  refine Sc.seq ?_
  refine Sc.region ?_
  refine Sl.calm (Cm.ldM (cs := hdV n) agg82 rfl (fun j v hj => cellF hg4 hj)) rfl ?_
  refine Sl.storeAll (vs := hdV n) agg82 rfl rfl (by exact hdV_one n) hg14 rfl ?_
  intro w5 hg5 hs5 hf5
  refine Sl.nil ?_
  refine At.weak [(0, _), (2, _), (3, _)] ⟨rfl, rfl, rfl, trivial⟩ ?_
  refine At.go ?_
  refine Sc.ret ?_
  refine At.retC1 (cs := hdV n) rfl agg82 rfl (fun j v hj => cellF hg5 hj) ?_
  exact ⟨_, rfl, rfl, ((((hf1.trans hf2).trans_to hf3 (fun k hk => .inr (by have h : k = q := hk; omega))).trans_to hf4 (fun k hk => .inr (by have h : k = q := hk; omega)))).trans_to hf5 (fun k hk => .inr (by have h : k = W.heap.size := hk; omega))⟩
theorem hd_vw {H : Array Obj} {q n : Nat} {T : TypeId} (h : H[q]? = some (.cells (hdV n).toArray T (0, 0))) : Vw b8 H (some ⟨q, 0, none⟩) 3 (hdB n) := by
  refine ⟨Nat.le_refl _, by unfold maxLen; decide, fun _ => by simp, fun i x hx => ?_⟩
  have e1 : adr (some (⟨q, 0, none⟩ : Addr)) i = ⟨q, i, none⟩ := by
    show (⟨q, 0, none⟩ : Addr).add _ = _
    rw [Addr.add_lit, Nat.zero_add]
  rw [e1]
  refine cellF0 h ?_
  rw [hdV_eq, List.getElem?_map, hx]; rfl
theorem numX_fit {x : Nat} (h : x < 4294967296) : ¬ badN x 4 := by
  unfold badN
  have h2 : ((x : Int) / 2 ^ (8 * (4 : Int)).toNat) = 0 := by
    show (x : Int) / 4294967296 = 0
    omega
  omega
theorem put_stage {E : Int} (xs : List UInt8) {x : Nat} (h : x < 4294967296) (hE : E = 0) : numE E x 4 = 0 ∧ numX E xs x 4 = xs ++ le x 4 := by
  have h1 : numE E x 4 = 0 := by rw [numE_of_good (numX_fit h), hE]
  exact ⟨h1, numX_good h1⟩
theorem putX_z (xs ys : List UInt8) : putX 0 xs ys = xs ++ ys := by unfold putX; rw [if_pos rfl]
theorem doneX_z (xs : List UInt8) : doneX 0 xs = xs := by unfold doneX; rw [if_neg (by decide)]

set_option maxHeartbeats 2000000 in
theorem payload_ok (D : Nat → Prop) (pw tb p : Nat) (xo : Option Addr) (xc : Nat) (x : List UInt8) (mark : Nat) (W : World) (hP : WrL D W.heap pw 0 []) (hD : ∀ k, W.heap.size ≤ k → D k) (hb : W.heap[tb]? = some (.cells [.pointer (some ⟨p, 0, none⟩)].toArray 32 (0, 0))) (ht : TbV W.heap p)
    (hv : Vw b8 W.heap xo xc x) (hDb : ¬ D tb) (hDp : ¬ D p) (hDx : ∀ k, blk xo k → ¬ D k) (hx : x.length ≤ 128) (hm : mark ≤ 32768) :
    Calls Tryd.prog 34 [.slice xo x.length xc, .int .i64 mark, .pointer (some ⟨pw, 0, none⟩), .pointer (some ⟨tb, 0, none⟩)].toArray W
      (Ret fun v w' => ∃ ao c, v = .tuple #[.slice ao (frS x mark).length c, .int .i64 0] ∧ Own b8 5 w'.heap ao c (frS x mark) ∧ Fr W.heap.size ao ∧ Foot D W w') := by
  have hs := sumS_lt x
  refine calls_of_sc 29 [(0, _), (1, _), (2, _), (3, _)] Tryd.func34 rfl rfl rfl (enter_slots ⟨rfl, rfl, rfl, rfl, trivial⟩) ?_
  refine Sc.seq ?_
  refine Sc.region ?_
  refine Sl.calm (Cm.assign rfl) rfl ?_
  refine Sl.calm (Cm.assign rfl) rfl ?_
  refine Sl.nil ?_
  refine At.go ?_
  refine Sc.seq ?_
  refine Sc.region ?_
  refine Sl.calm (Cm.move rfl) rfl ?_
  refine Sl.calm (Cm.len sl23 rfl) rfl ?_
  refine Sl.calm (Cm.move rfl) rfl ?_
  refine Sl.calm (Cm.add64 rfl rfl (by omega)) rfl ?_
  rw [show ((x.length : Int) + mark) = ((x.length + mark : Nat) : Int) by omega]
  refine Sl.call fn35 rfl (head_ok (x.length + mark) W (by omega)) rfl ?_
  rintro _ w1 ⟨rfl, hf1⟩
  refine Sl.allocC zc82 rfl ?_
  intro w2 hg2 hs2 hf2
  refine Sl.storeAll (vs := hdV (x.length + mark)) agg82 rfl rfl (by exact hdV_one _) hg2 rfl ?_
  intro w3 hg3 hs3 hf3
  have hF3 : Foot nob W w3 := (hf1.trans hf2).trans_to hf3 (fun k hk => .inr (by have h : k = w1.heap.size := hk; have := hf1.size; omega))
  have hz3 := hF3.size
  have hz1 := hf1.size
  have hP3 := hP.shrink hF3
  have hvh := hd_vw hg3
  obtain ⟨D3, hD3⟩ : ∃ D3 : Nat → Prop, D3 = fun k => D k ∧ (k < W.heap.size ∨ w3.heap.size ≤ k) := ⟨_, rfl⟩
  have hD3a : ∀ k, w3.heap.size ≤ k → D3 k := fun k hk => by rw [hD3]; exact ⟨hD k (by omega), .inr hk⟩
  have hD3b : ∀ k, D3 k → D k := fun k hk => by rw [hD3] at hk; exact hk.1
  have hD3c : ¬ D3 w1.heap.size := fun h => by rw [hD3] at h; have := h.2; omega
  rw [← hD3] at hP3
  refine Sl.nil ?_
  refine At.weak [(0, _), (1, _), (2, _), (3, _), (6, _), (7, _), (8, _)] ⟨rfl, rfl, rfl, rfl, rfl, rfl, rfl, trivial⟩ ?_
  refine At.go ?_
  refine Sc.seq ?_
  refine Sc.region ?_
  refine Sl.calm (Cm.sliceArr arrF rfl) rfl ?_
  refine Sl.call fn36 rfl (wbytes_ok D3 pw 0 [] (some ⟨w1.heap.size, 0, none⟩) 3 (hdB (x.length + mark)) w3 hP3 hD3a hvh (by simp) (by simp [hdB_len])) rfl ?_
  rintro _ w4 ⟨hP4, hf4⟩
  rw [putX_z, List.nil_append] at hP4
  have hF4 : Foot D W w4 := hF3.any.trans (hf4.mono hD3b)
  have hv4 := hv.keep hF4 (fun a ha h => hDx _ ⟨a, ha, rfl⟩ h)
  have ht4 : TbV w4.heap p := hF4.obj ht hDp
  have hb4 := hF4.obj hb hDb
  have hz4 := hf4.size
  refine Sl.nil ?_
  refine At.weak [(0, _), (1, _), (2, _), (3, _), (6, _), (7, _), (8, _)] ⟨rfl, rfl, rfl, rfl, rfl, rfl, rfl, trivial⟩ ?_
  refine At.go ?_
  refine Sc.cut (β := Unit) (fun _u => [(2, .pointer (some ⟨pw, 0, none⟩))]) (fun _u w => WrL D3 w.heap pw 0 (frS x mark) ∧ Foot D W w) ?_ ?_
  ·
    refine Sc.seq ?_
    refine Sc.region ?_
    refine Sl.calm (Cm.move rfl) rfl ?_
    refine Sl.calm (Cm.len sl23 rfl) rfl ?_
    refine Sl.fork (Cm.gtr rfl rfl) rfl (fun h18 => ?_) (fun h18 => ?_)
    ·
      refine Sl.nil ?_
      refine At.weak [(0, _), (1, _), (2, _), (3, _), (6, _), (7, _), (8, _), (18, _)] ⟨rfl, rfl, rfl, rfl, rfl, rfl, rfl, rfl, trivial⟩ ?_
      refine At.go ?_
      refine Sc.cond_t rfl ?_
      refine Sc.seq ?_
      refine Sc.region ?_
      refine Sl.calm (Cm.ld sca32 rfl (cellF0 hb4 rfl)) rfl ?_
      refine Sl.calm (Cm.move rfl) rfl ?_
      refine Sl.call fn38 rfl (sum_ok p xo xc x w4 ht4 hv4) rfl ?_
      rintro _ wq ⟨rfl, hwq⟩
      subst wq
      refine Sl.calm (Cm.convI_in (n := ((sumS x : Nat) : Int)) is26 ty3 rfl (wrap64_id (by omega))) rfl ?_
      refine Sl.call fn37 rfl (num_ok D3 pw 0 (hdB (x.length + mark)) (sumS x : Nat) 4 w4 hP4 (fun k hk => hD3a k (by omega)) (by rw [hdB_len]; decide)) rfl ?_
      rintro _ w5 ⟨hP5, hf5⟩
      obtain ⟨s1, s2⟩ := put_stage (E := 0) (hdB (x.length + mark)) hs rfl
      rw [s1, s2] at hP5
      have hz5 := hf5.size
      have hF5 : Foot D W w5 := hF4.trans (hf5.mono hD3b)
      have hv5 := hv.keep hF5 (fun a ha h => hDx _ ⟨a, ha, rfl⟩ h)
      refine Sl.nil ?_
      refine At.weak [(0, _), (1, _), (2, _), (3, _), (6, _), (7, _), (8, _), (18, _)] ⟨rfl, rfl, rfl, rfl, rfl, rfl, rfl, rfl, trivial⟩ ?_
      refine At.go ?_
      refine Sc.region ?_
      refine Sl.calm (Cm.move rfl) rfl ?_
      refine Sl.call fn36 rfl (wbytes_ok D3 pw 0 _ xo xc x w5 hP5 (fun k hk => hD3a k (by omega)) hv5 (by simp only [List.length_append, hdB_len, le_length]; omega) (by omega)) rfl ?_
      rintro _ w6 ⟨hP6, hf6⟩
      rw [putX_z] at hP6
      have hF6 : Foot D W w6 := hF5.trans (hf6.mono hD3b)
      refine Sl.nil ?_
      exact At.cut () ⟨rfl, trivial⟩ ⟨by unfold frS; rw [if_neg (by omega), ← List.append_assoc]; exact hP6, hF6⟩
    ·
      refine Sl.nil ?_
      refine At.weak [(0, _), (1, _), (2, _), (3, _), (6, _), (7, _), (8, _), (18, _)] ⟨rfl, rfl, rfl, rfl, rfl, rfl, rfl, rfl, trivial⟩ ?_
      refine At.go ?_
      refine Sc.cond_f rfl ?_
      refine Sc.skip ?_
      exact At.cut () ⟨rfl, trivial⟩ ⟨by unfold frS; rw [if_pos (by omega), List.append_nil]; exact hP4, hF4⟩
  ·
    rintro _ w7 ⟨hP7, hF7⟩
    refine Sc.seq ?_
    refine Sc.region ?_
    refine Sl.call fn39 rfl (wdone_ok D3 pw 0 (frS x mark) w7 hP7 (by rw [frS_len]; unfold lenF; split <;> omega)) rfl ?_
    rintro _ w8 ⟨ao8, c8, rfl, ho8, hfr8, hf8⟩
    rw [doneX_z] at ho8 ⊢
    refine Sl.calm (Cm.field fld80_0 rfl) rfl ?_
    refine Sl.call fn40 rfl (err_ok D3 pw 0 _ w8 (hP7.grow hf8)) rfl ?_
    rintro _ wq ⟨rfl, hwq⟩
    subst wq
    refine Sl.calm (Cm.assign rfl) rfl ?_
    refine Sl.calm (Cm.assign rfl) rfl ?_
    refine Sl.nil ?_
    refine At.weak [(2, _), (6, _), (7, _)] ⟨rfl, rfl, rfl, trivial⟩ ?_
    refine At.go ?_
    refine Sc.ret ?_
    refine At.ret2 rfl rfl rfl ?_
    exact ⟨_, rfl, ao8, c8, rfl, ho8, hfr8.mono hF7.size, hF7.trans hf8.any⟩

set_option maxHeartbeats 2000000 in
theorem fput_ok (p : Nat) (ao : Option Addr) (c : Nat) (b : List UInt8) (W : World) (ht : TbV W.heap p) (hv : Vw b8 W.heap ao c b) :
    Calls Tryd.prog 24 [.pointer (some ⟨p, 0, none⟩), .slice ao b.length c].toArray W (Ret (PutP W (putS b))) := by
  refine calls_of_sc 45 [(0, _), (1, _)] Tryd.func24 rfl rfl rfl (enter_slots ⟨rfl, rfl, trivial⟩) ?_
  refine Sc.seq ?_
  refine Sc.region ?_
  refine Sl.box rfl rfl ?_
  intro w1 hg1 hs1 hf1
  have hg1 : w1.heap[W.heap.size]? = some (.cells [.pointer (some ⟨p, 0, none⟩)].toArray 32 (0, 0)) := hg1
  refine Sl.calm (Cm.assign rfl) rfl ?_
  refine Sl.calm (Cm.assign rfl) rfl ?_
  refine Sl.nil ?_
  refine At.go ?_
  refine Sc.seq ?_
  refine Sc.seq ?_
  refine Sc.region ?_
  refine Sl.calm (Cm.move rfl) rfl ?_
  refine Sl.calm (Cm.len sl23 rfl) rfl ?_
  refine Sl.fork (Cm.gtr rfl rfl) rfl (fun h12 => ?_) (fun h12 => ?_)
  ·
    have e : putS b = ([], 3) := by unfold putS; rw [if_pos (by omega)]
    refine Sl.nil ?_
    refine At.weak [(0, _), (1, _), (2, _), (4, _), (5, _), (12, _)] ⟨rfl, rfl, rfl, rfl, rfl, rfl, trivial⟩ ?_
    refine At.go ?_
    refine Sc.cond_t rfl ?_
    refine Sc.seq ?_
    refine Sc.region ?_
    refine Sl.calm (Cm.assign rfl) rfl ?_
    refine Sl.calm (Cm.assign rfl) rfl ?_
    refine Sl.nil ?_
    refine At.go ?_
    refine Sc.ret ?_
    refine At.then_ret ?_
    refine At.ret2 rfl rfl rfl ?_
    first
      | (rw [e]; exact ⟨_, rfl, none, 0, rfl, Own.nil, Fr.none, hf1⟩)
      | (rw [e]; exact ⟨_, rfl, ao9, c9, rfl, ho9, hfr9.mono hF2.size, hF2.trans_to hf9 (fun k hk => .inr (by omega))⟩)
      | (rw [e]; exact ⟨_, rfl, ao9, c9, rfl, ho9, hfr9.mono hF3.size, hF3.trans_to hf9 (fun k hk => .inr (by have := hk.1; omega))⟩)
  ·
    refine Sl.nil ?_
    refine At.weak [(0, _), (1, _), (2, _), (4, _), (5, _), (12, _)] ⟨rfl, rfl, rfl, rfl, rfl, rfl, trivial⟩ ?_
    refine At.go ?_
    refine Sc.cond_f rfl ?_
    refine Sc.skip ?_
    refine At.go ?_
    refine Sc.seq ?_
    refine Sc.region ?_
    refine Sl.allocC zc80 rfl ?_
    intro w2 hg2 hs2 hf2
    have hF2 := hf1.trans hf2
    have hP2 : WrL (fun k => k = w1.heap.size ∨ w2.heap.size ≤ k) w2.heap w1.heap.size 0 [] := WrO.zeroL hg2 (.inl rfl)
    have hb2 := hf2.obj hg1 id
    have ht2 : TbV w2.heap p := hF2.obj ht id
    have hplt := (Array.getElem?_eq_some_iff.1 ht).1
    refine Sl.nil ?_
    refine At.go ?_
    refine Sc.seq ?_
    refine Sc.region ?_
    refine Sl.calm (Cm.makeFunc rfl) rfl ?_
    refine Sl.calm (Cm.assign rfl) rfl ?_
    refine Sl.nil ?_
    refine At.weak [(0, _), (1, _), (2, _), (4, _), (5, _), (6, _), (7, _), (12, _)] ⟨rfl, rfl, rfl, rfl, rfl, rfl, rfl, rfl, trivial⟩ ?_
    refine At.go ?_
    refine Sc.seq ?_
    refine Sc.seq ?_
    refine Sc.region ?_
    refine Sl.calm (Cm.move rfl) rfl ?_
    refine Sl.calm (Cm.len sl23 rfl) rfl ?_
    refine Sl.fork (Cm.eql rfl rfl) rfl (fun h16 => ?_) (fun h16 => ?_)
    ·
      have e : putS b = (frS [] 0, 0) := by unfold putS; rw [if_neg (by omega), if_pos (by omega)]
      refine Sl.nil ?_
      refine At.weak [(0, _), (1, _), (2, _), (4, _), (5, _), (6, _), (7, _), (12, _), (16, _)] ⟨rfl, rfl, rfl, rfl, rfl, rfl, rfl, rfl, rfl, trivial⟩ ?_
      refine At.go ?_
      refine Sc.cond_t rfl ?_
      refine Sc.seq ?_
      refine Sc.region ?_
      refine Sl.calm (Cm.move rfl) rfl ?_
      refine Sl.callC fn34 rfl rfl (payload_ok (fun k => k = w1.heap.size ∨ w2.heap.size ≤ k) w1.heap.size W.heap.size p none 0 [] 0 w2 hP2 (fun k hk => .inr hk) hb2 ht2 (Vw.nil 0 (Nat.zero_le _)) (by omega) (by omega) (fun k ⟨a, ha, _⟩ => by cases ha) (by simp) (by decide)) rfl ?_
      intro v9 w9 hR9
      obtain ⟨ao9, c9, rfl, ho9, hfr9, hf9⟩ := hR9
      refine Sl.calm (Cm.extract rfl rfl) rfl ?_
      refine Sl.calm (Cm.extract rfl rfl) rfl ?_
      refine Sl.calm (Cm.assign rfl) rfl ?_
      refine Sl.calm (Cm.assign rfl) rfl ?_
      refine Sl.nil ?_
      refine At.weak [(0, _), (1, _), (2, _), (4, _), (5, _), (6, _), (7, _), (12, _), (16, _)] ⟨rfl, rfl, rfl, rfl, rfl, rfl, rfl, rfl, rfl, trivial⟩ ?_
      refine At.go ?_
      refine Sc.ret ?_
      refine At.then_ret ?_
      refine At.ret2 rfl rfl rfl ?_
      first
        | (rw [e]; exact ⟨_, rfl, none, 0, rfl, Own.nil, Fr.none, hf1⟩)
        | (rw [e]; exact ⟨_, rfl, ao9, c9, rfl, ho9, hfr9.mono hF2.size, hF2.trans_to hf9 (fun k hk => .inr (by omega))⟩)
        | (rw [e]; exact ⟨_, rfl, ao9, c9, rfl, ho9, hfr9.mono hF3.size, hF3.trans_to hf9 (fun k hk => .inr (by have := hk.1; omega))⟩)
    ·
      have hltA := vw_lt hv (show 0 < b.length by omega)
      refine Sl.nil ?_
      refine At.weak [(0, _), (1, _), (2, _), (4, _), (5, _), (6, _), (7, _), (12, _), (16, _)] ⟨rfl, rfl, rfl, rfl, rfl, rfl, rfl, rfl, rfl, trivial⟩ ?_
      refine At.go ?_
      refine Sc.cond_f rfl ?_
      refine Sc.skip ?_
      refine At.go ?_
      refine Sc.seq ?_
      refine Sc.seq ?_
      refine Sc.region ?_
      refine Sl.calm (Cm.move rfl) rfl ?_
      refine Sl.call fn41 rfl (pack_ok ao c b w2 (hv.grow hF2)) rfl ?_
      rw [pkR_fit (by omega)]
      intro _ w3 hP
      have hP : PutE _ (pkS b) 0 _ w3 := hP
      obtain ⟨o3, c3, rfl, ho3, hfr3, hf3⟩ := hP
      have hP3 := hP2.shrink hf3
      have hb3 := hf3.obj hb2 id
      have ht3 : TbV w3.heap p := hf3.obj ht2 id
      have hF3 := hF2.trans hf3
      have hz3 := hf3.size
      refine Sl.calm (Cm.move rfl) rfl ?_
      refine Sl.calm (Cm.extract rfl rfl) rfl ?_
      refine Sl.calm (Cm.extract rfl rfl) rfl ?_
      refine Sl.calm (Cm.assign rfl) rfl ?_
      refine Sl.calm (Cm.assign rfl) rfl ?_
      refine Sl.nil ?_
      refine At.weak [(0, _), (1, _), (2, _), (4, _), (5, _), (6, _), (7, _), (8, _), (9, _), (12, _), (16, _)] ⟨rfl, rfl, rfl, rfl, rfl, rfl, rfl, rfl, rfl, rfl, rfl, trivial⟩ ?_
      refine At.go ?_
      refine Sc.seq ?_
      refine Sc.region ?_
      refine Sl.calm (Cm.move rfl) rfl ?_
      refine Sl.calm (Cm.yes (Cm.eql rfl rfl) rfl) rfl ?_
      refine Sl.calm (Cm.move rfl) rfl ?_
      refine Sl.want rfl rfl (Cm.move rfl) rfl ?_
      refine Sl.want rfl rfl (Cm.len sl23 rfl) rfl ?_
      refine Sl.want rfl rfl (Cm.move rfl) rfl ?_
      refine Sl.want rfl rfl (Cm.len sl23 rfl) rfl ?_
      refine Sl.forkWant rfl rfl (Cm.lss rfl rfl) rfl (fun h33 => ?_) (fun h33 => ?_)
      ·
        have e : putS b = (frS (pkS b) 0, 0) := by unfold putS; rw [if_neg (by omega), if_neg (by omega), if_pos (by omega)]
        refine Sl.calm (Cm.pick_t rfl rfl) rfl ?_
        refine Sl.nil ?_
        refine At.weak [(0, _), (1, _), (2, _), (4, _), (5, _), (6, _), (7, _), (8, _), (9, _), (12, _), (16, _), (34, _)] ⟨rfl, rfl, rfl, rfl, rfl, rfl, rfl, rfl, rfl, rfl, rfl, rfl, trivial⟩ ?_
        refine At.go ?_
        refine Sc.cond_t rfl ?_
        refine Sc.seq ?_
        refine Sc.region ?_
        refine Sl.calm (Cm.move rfl) rfl ?_
        refine Sl.calm (Cm.move rfl) rfl ?_
        refine Sl.callC fn34 rfl rfl (payload_ok _ w1.heap.size W.heap.size p o3 c3 (pkS b) 0 w3 hP3 (fun k hk => ⟨.inr (by omega), .inr hk⟩) hb3 ht3 ho3.vw (by omega) (by omega) (fun k ⟨a, ha, hk⟩ h => by have := hfr3 a ha; have := ho3.lt a ha; omega) (by omega) (by decide)) rfl ?_
        intro v9 w9 hR9
        obtain ⟨ao9, c9, rfl, ho9, hfr9, hf9⟩ := hR9
        refine Sl.calm (Cm.extract rfl rfl) rfl ?_
        refine Sl.calm (Cm.extract rfl rfl) rfl ?_
        refine Sl.calm (Cm.assign rfl) rfl ?_
        refine Sl.calm (Cm.assign rfl) rfl ?_
        refine Sl.nil ?_
        refine At.weak [(0, _), (1, _), (2, _), (4, _), (5, _), (6, _), (7, _), (8, _), (9, _), (12, _), (16, _), (34, _)] ⟨rfl, rfl, rfl, rfl, rfl, rfl, rfl, rfl, rfl, rfl, rfl, rfl, trivial⟩ ?_
        refine At.go ?_
        refine Sc.ret ?_
        refine At.then_ret ?_
        refine At.ret2 rfl rfl rfl ?_
        first
          | (rw [e]; exact ⟨_, rfl, none, 0, rfl, Own.nil, Fr.none, hf1⟩)
          | (rw [e]; exact ⟨_, rfl, ao9, c9, rfl, ho9, hfr9.mono hF2.size, hF2.trans_to hf9 (fun k hk => .inr (by omega))⟩)
          | (rw [e]; exact ⟨_, rfl, ao9, c9, rfl, ho9, hfr9.mono hF3.size, hF3.trans_to hf9 (fun k hk => .inr (by have := hk.1; omega))⟩)
      ·
        have e : putS b = (frS b 32768, 0) := by unfold putS; rw [if_neg (by omega), if_neg (by omega), if_neg (by omega)]
        refine Sl.calm (Cm.pick_t rfl rfl) rfl ?_
        refine Sl.nil ?_
        refine At.weak [(0, _), (1, _), (2, _), (4, _), (5, _), (6, _), (7, _), (8, _), (9, _), (12, _), (16, _), (34, _)] ⟨rfl, rfl, rfl, rfl, rfl, rfl, rfl, rfl, rfl, rfl, rfl, rfl, trivial⟩ ?_
        refine At.go ?_
        refine Sc.cond_f rfl ?_
        refine Sc.skip ?_
        refine At.go ?_
        refine Sc.seq ?_
        refine Sc.region ?_
        refine Sl.calm (Cm.move rfl) rfl ?_
        refine Sl.calm (Cm.move rfl) rfl ?_
        refine Sl.callC fn34 rfl rfl (payload_ok _ w1.heap.size W.heap.size p ao c b 32768 w3 hP3 (fun k hk => ⟨.inr (by omega), .inr hk⟩) hb3 ht3 (hv.grow hF3) (by omega) (by omega) (fun k hk h => by have := hltA k hk; omega) (by omega) (by decide)) rfl ?_
        intro v9 w9 hR9
        obtain ⟨ao9, c9, rfl, ho9, hfr9, hf9⟩ := hR9
        refine Sl.calm (Cm.extract rfl rfl) rfl ?_
        refine Sl.calm (Cm.extract rfl rfl) rfl ?_
        refine Sl.calm (Cm.assign rfl) rfl ?_
        refine Sl.calm (Cm.assign rfl) rfl ?_
        refine Sl.nil ?_
        refine At.weak [(0, _), (1, _), (2, _), (4, _), (5, _), (6, _), (7, _), (8, _), (9, _), (12, _), (16, _), (34, _)] ⟨rfl, rfl, rfl, rfl, rfl, rfl, rfl, rfl, rfl, rfl, rfl, rfl, trivial⟩ ?_
        refine At.go ?_
        refine Sc.ret ?_
        refine At.ret2 rfl rfl rfl ?_
        first
          | (rw [e]; exact ⟨_, rfl, none, 0, rfl, Own.nil, Fr.none, hf1⟩)
          | (rw [e]; exact ⟨_, rfl, ao9, c9, rfl, ho9, hfr9.mono hF2.size, hF2.trans_to hf9 (fun k hk => .inr (by omega))⟩)
          | (rw [e]; exact ⟨_, rfl, ao9, c9, rfl, ho9, hfr9.mono hF3.size, hF3.trans_to hf9 (fun k hk => .inr (by have := hk.1; omega))⟩)
end Go.Proofs.YtpnfjfbfgaiolaaDoor
