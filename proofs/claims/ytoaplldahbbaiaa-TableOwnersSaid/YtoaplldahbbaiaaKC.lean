/- frame: the plain law. No condition. -/
import Derived.Test.YtoaplldahbbaiaaCck
import Derived.Test.YtoaplldahbbaiaaKB
import Derived.Test.YtoaplldahbbaiaaCrk
namespace Go.Proofs.Ytoaplldahbbaiaa
open Go Go.RowKit
set_option linter.unusedVariables false

def hdN (n : Nat) : List Nat := [n % 256, n / 256 % 256, 255 ^^^ ((n % 256) ^^^ (n / 256 % 256))]
def hdB (n : Nat) : List UInt8 := (hdN n).map UInt8.ofNat
theorem hdB_len (n : Nat) : (hdB n).length = 3 := rfl
theorem hdN_lt {n x : Nat} (h : x ∈ hdN n) : x < 256 := by
  simp only [hdN, List.mem_cons, List.not_mem_nil, or_false] at h
  rcases h with rfl | rfl | rfl
  · omega
  · omega
  · exact xor_lt8 (by decide) (xor_lt8 (by omega) (by omega))
def frS (x : List UInt8) (mark : Nat) : List UInt8 := hdB (x.length + mark) ++ (if x.length = 0 then [] else le (sumS x : Nat) 4 ++ x)
def putS (b : List UInt8) : List UInt8 × Int :=
  if 128 < b.length then ([], 3) else if b.length = 0 then (frS [] 0, 0) else if (pkS b).length < b.length then (frS (pkS b) 0, 0) else (frS b 32768, 0)
def cutP (r : List UInt8) : Option (List UInt8 × Nat × Bool) :=
  if r.length < 3 then none else
  if r.take 3 ≠ hdB ((r.getD 0 0).toNat + 256 * (r.getD 1 0).toNat) then none else
  if 128 < ((r.getD 0 0).toNat + 256 * (r.getD 1 0).toNat) % 32768 ∨ (((r.getD 0 0).toNat + 256 * (r.getD 1 0).toNat) % 32768 = 0 ∧ 32768 ≤ (r.getD 0 0).toNat + 256 * (r.getD 1 0).toNat) then none else
  if ((r.getD 0 0).toNat + 256 * (r.getD 1 0).toNat) % 32768 = 0 then some ([], 0, false) else
  if r.length < 7 + ((r.getD 0 0).toNat + 256 * (r.getD 1 0).toNat) % 32768 then none else
  some ((r.drop 7).take (((r.getD 0 0).toNat + 256 * (r.getD 1 0).toNat) % 32768), valB ((r.drop 3).take 4), decide (32768 ≤ (r.getD 0 0).toNat + 256 * (r.getD 1 0).toNat))
def cutS (im : List UInt8) (a : Int) : Option (List UInt8 × Nat × Bool) := if a < 0 ∨ (im.length : Int) < a then none else cutP (im.drop a.toNat)
def lenF (x : List UInt8) : Nat := if x.length = 0 then 3 else 7 + x.length
def takeC (c : Option (List UInt8 × Nat × Bool)) : List UInt8 × Nat × Int := match c with
  | none => ([], 0, 2)
  | some (x, s, st) => if x.length = 0 then ([], 3, 0) else if sumS x ≠ s then ([], 0, 2) else if st then (x, lenF x, 0) else
    if (up 128 x []).2 ≠ 0 ∨ (up 128 x []).1.length = 0 then ([], 0, 2) else ((up 128 x []).1, lenF x, 0)
/-- a frame that is taken: its bytes, the place behind it, the error -/
def takeS (im : List UInt8) (a : Int) : List UInt8 × Int × Int := ((takeC (cutS im a)).1, if (takeC (cutS im a)).2.2 = 0 then a + (takeC (cutS im a)).2.1 else 0, (takeC (cutS im a)).2.2)
def skipS (im : List UInt8) (a : Int) : Int × Int := match cutS im a with
  | none => (0, 2)
  | some (x, _, _) => (a + lenF x, 0)

theorem pkS_ne {b : List UInt8} (h : 0 < b.length) : 0 < (pkS b).length := by
  apply Classical.byContradiction
  intro hn
  have e : pkS b = [] := List.eq_nil_of_length_eq_zero (by omega)
  have := unpack_pack b
  rw [e] at this
  unfold upS at this
  rw [if_neg (by omega), up_nil] at this
  simp only [Prod.mk.injEq, and_true] at this
  rw [← this] at h; cases h
theorem frS_len (x : List UInt8) (mark : Nat) : (frS x mark).length = lenF x := by
  unfold frS lenF
  rw [List.length_append, hdB_len]
  split
  · rfl
  · rw [List.length_append, le_length]; omega
theorem hd_get0 (n : Nat) : ((hdB n).getD 0 0).toNat = n % 256 := by simp [hdB, hdN]
theorem hd_get1 (n : Nat) : ((hdB n).getD 1 0).toNat = n / 256 % 256 := by simp [hdB, hdN]
theorem cut_frame (x rest : List UInt8) (mark : Nat) (hx : x.length ≤ 128) (hm : mark = 0 ∨ mark = 32768 ∧ 0 < x.length) : cutP (frS x mark ++ rest) = some (x, if x.length = 0 then 0 else sumS x, decide (mark = 32768)) := by
  have hlen := frS_len x mark
  have e0 : ((frS x mark ++ rest).getD 0 0).toNat + 256 * ((frS x mark ++ rest).getD 1 0).toNat = x.length + mark := by
    have h0 : (frS x mark ++ rest).getD 0 0 = (hdB (x.length + mark)).getD 0 0 := rfl
    have h1 : (frS x mark ++ rest).getD 1 0 = (hdB (x.length + mark)).getD 1 0 := rfl
    rw [h0, h1, hd_get0, hd_get1]; omega
  have e3 : (frS x mark ++ rest).take 3 = hdB (x.length + mark) := rfl
  unfold cutP
  rw [e0, e3, if_neg (by rw [List.length_append, hlen]; unfold lenF; split <;> omega), if_neg (fun h => h rfl)]
  have hmod : (x.length + mark) % 32768 = x.length := by omega
  rw [hmod]
  by_cases h0 : x.length = 0
  · have hx0 : x = [] := List.eq_nil_of_length_eq_zero h0
    rw [if_neg (by omega), if_pos h0, if_pos h0, hx0]
    have : ¬ mark = 32768 := by omega
    rw [decide_eq_false this]
  · rw [if_neg (by omega), if_neg h0, if_neg h0, if_neg (by rw [List.length_append, hlen]; unfold lenF; rw [if_neg h0]; omega)]
    have hf : frS x mark ++ rest = hdB (x.length + mark) ++ (le (sumS x : Nat) 4 ++ (x ++ rest)) := by unfold frS; rw [if_neg h0]; simp
    have d3 : (frS x mark ++ rest).drop 3 = le (sumS x : Nat) 4 ++ (x ++ rest) := by rw [hf, List.drop_left' (hdB_len _)]
    have d7 : (frS x mark ++ rest).drop 7 = x ++ rest := by rw [show 7 = 3 + 4 from rfl, ← List.drop_drop, d3, List.drop_left' (le_length _ _)]
    rw [d3, d7, List.take_left' rfl, List.take_left' (le_length _ _)]
    have hs := sumS_lt x
    have hv := valB_le 4 (sumS x : Nat) (by omega) (by omega)
    rw [show valB (le ((sumS x : Nat) : Int) 4) = sumS x by omega]
    have hd : decide (32768 ≤ x.length + mark) = decide (mark = 32768) := by
      by_cases hm2 : mark = 32768
      · rw [decide_eq_true hm2, decide_eq_true (by omega)]
      · rw [decide_eq_false hm2, decide_eq_false (by omega)]
    rw [hd]
theorem take_frame {b : List UInt8} (h : b.length ≤ 128) (rest : List UInt8) : takeC (cutP ((putS b).1 ++ rest)) = (b, (putS b).1.length, 0) ∧ (putS b).2 = 0 ∧ (putS b).1.length = lenF (match cutP ((putS b).1 ++ rest) with | none => [] | some (x, _, _) => x) := by
  unfold putS
  rw [if_neg (by omega)]
  by_cases h0 : b.length = 0
  · have hb : b = [] := List.eq_nil_of_length_eq_zero h0
    rw [if_pos h0]
    simp only
    rw [cut_frame [] rest 0 (by simp) (.inl rfl), hb]
    exact ⟨rfl, trivial, rfl⟩
  · rw [if_neg h0]
    by_cases hp : (pkS b).length < b.length
    · rw [if_pos hp]
      have hp0 := pkS_ne (b := b) (by omega)
      simp only
      rw [cut_frame (pkS b) rest 0 (by omega) (.inl rfl), frS_len]
      have hu := (En.pkS b).yes [] [] 128 (by simp; omega)
      simp only [List.nil_append, List.append_nil, up_nil] at hu
      refine ⟨?_, trivial, rfl⟩
      unfold takeC
      simp only
      rw [if_neg (by omega), if_neg (show ¬ (pkS b).length = 0 by omega), if_neg (fun hh => hh rfl), if_neg (by simp), hu, if_neg (by rintro (hh | hh); exact hh rfl; exact h0 hh)]
    · rw [if_neg hp]
      simp only
      rw [cut_frame b rest 32768 h (.inr ⟨rfl, by omega⟩), frS_len]
      refine ⟨?_, trivial, rfl⟩
      unfold takeC
      simp only
      rw [if_neg h0, if_neg h0, if_neg (fun hh => hh rfl), if_pos (by simp)]
theorem putS_len {b : List UInt8} (h : b.length ≤ 128) : (putS b).1.length ≤ b.length + 7 ∧ 3 ≤ (putS b).1.length := by
  unfold putS
  rw [if_neg (by omega)]
  split
  · simp only [frS_len, lenF]; simp
  · split
    · simp only [frS_len, lenF]; split <;> omega
    · simp only [frS_len, lenF]; split <;> omega
end Go.Proofs.Ytoaplldahbbaiaa
/- frame: Put, the program's. No condition beyond the bounds that each states. -/
namespace Go.Proofs.Ytoaplldahbbaiaa
open Go Go.RowKit
set_option linter.unusedVariables false

def hdV (n : Nat) : List Value := [.int .u8 ((n % 256 : Nat) : Int), .int .u8 ((n / 256 % 256 : Nat) : Int), .int .u8 ((255 ^^^ ((n % 256) ^^^ (n / 256 % 256)) : Nat) : Int)]
theorem hdV_one (n : Nat) : ∀ v ∈ hdV n, v.oneCell' = true := by simp [hdV, Value.oneCell']
theorem hdV_eq (n : Nat) : hdV n = (hdB n).map b8 := by
  have h := fun x (hx : x ∈ hdN n) => hdN_lt hx
  simp only [hdN, List.mem_cons, List.not_mem_nil, or_false, forall_eq_or_imp, forall_eq] at h
  obtain ⟨h1, h2, h3⟩ := h
  simp only [hdV, hdB, hdN, List.map_cons, List.map_nil, b8, UInt8.toNat_ofNat']
  rw [Nat.mod_eq_of_lt h1, Nat.mod_eq_of_lt h2, Nat.mod_eq_of_lt h3]
theorem arrF : ArrT Try.prog 149 5 3 1 := ⟨by kernel_rfl, by kernel_rfl⟩
theorem hv_div (n : Nat) : ((n : Nat) : Int) / 2 ^ (8 : Int).toNat = ((n / 256 : Nat) : Int) := rfl

set_option maxHeartbeats 1000000 in
theorem head_ok (n : Nat) (W : World) (hn : n < 65536) : Calls Try.prog 98 [.int .i64 n].toArray W (Ret fun v w' => v = .agg (hdV n).toArray ∧ Foot nob W w') := by
  refine calls_of_sc 18 [(0, _)] Try.func98 rfl rfl rfl (enter_slots ⟨rfl, trivial⟩) ?_
  refine Sc.seq ?_
  refine Sc.region ?_
  refine Sl.allocC zc149 rfl ?_
  intro w1 hg1 hs1 hf1
  have hg1 : w1.heap[W.heap.size]? = some (.cells [.int .u8 0, .int .u8 0, .int .u8 0].toArray 149 (0, 0)) := hg1
  refine Sl.nil ?_
  refine At.go ?_
  refine Sc.seq ?_
  refine Sc.region ?_
  refine Sl.calm (Cm.move rfl) rfl ?_
  refine Sl.calm (Cm.convI_in (n := ((n % 256 : Nat) : Int)) is3 ty5 rfl (wrap8m n)) rfl ?_
  refine Sl.calm (Cm.move rfl) rfl ?_
  refine Sl.calm (Cm.ofEq (u := .int .i64 ((n / 256 : Nat) : Int)) (Cm.shr rfl rfl (by omega)) (by rw [hv_div])) rfl ?_
  refine Sl.calm (Cm.convI_in (n := ((n / 256 % 256 : Nat) : Int)) is3 ty5 rfl (wrap8m _)) rfl ?_
  refine Sl.calm (Cm.buildArr (cs := [.int .u8 ((n % 256 : Nat) : Int), .int .u8 ((n / 256 % 256 : Nat) : Int), .int .u8 0].toArray) arrF zc149 rfl (by kernel_rfl)) rfl ?_
  refine Sl.allocC zc149 rfl ?_
  intro w2 hg2 hs2 hf2
  have hg12 := hf2.obj hg1 id
  obtain ⟨q, hq⟩ : ∃ q, q = w1.heap.size := ⟨_, rfl⟩
  rw [← hq] at hg2 ⊢
  refine Sl.storeAll (vs := [.int .u8 ((n % 256 : Nat) : Int), .int .u8 ((n / 256 % 256 : Nat) : Int), .int .u8 0]) agg149 rfl rfl (by simp [Value.oneCell']) hg2 rfl ?_
  intro w3 hg3 hs3 hf3
  have hg13 := hf3.obj hg12 (by omega)
  refine Sl.nil ?_
  refine At.weak [(0, _), (2, _), (3, _)] ⟨rfl, rfl, rfl, trivial⟩ ?_
  refine At.go ?_
  refine Sc.seq ?_
  refine Sc.region ?_
  refine Sl.calm (Cm.ofEq (u := .pointer (some ⟨q, 0, none⟩)) (Cm.indexArr arrF rfl rfl (by omega)) (by rw [Addr.add_lit]; rfl)) rfl ?_
  refine Sl.calm (Cm.ld sca5 rfl (cellF0 hg3 rfl)) rfl ?_
  refine Sl.calm (Cm.ofEq (u := .pointer (some ⟨q, 1, none⟩)) (Cm.indexArr arrF rfl rfl (by omega)) (by rw [Addr.add_lit]; rfl)) rfl ?_
  refine Sl.calm (Cm.ld sca5 rfl (cellF0 hg3 rfl)) rfl ?_
  refine Sl.calm (Cm.xor8 rfl rfl (by omega) (by omega)) rfl ?_
  refine Sl.calm (Cm.not8 rfl (xor_lt8 (by omega) (by omega))) rfl ?_
  refine Sl.calm (Cm.ofEq (u := .pointer (some ⟨q, 2, none⟩)) (Cm.indexArr arrF rfl rfl (by omega)) (by rw [Addr.add_lit]; rfl)) rfl ?_
  refine Sl.store sca5 rfl rfl rfl hg3 rfl ?_
  intro w4 hg4 hs4 hf4
  have hg4 : w4.heap[q]? = some (.cells (hdV n).toArray 149 (0, 0)) := hg4
  have hg14 := hf4.obj hg13 (by omega)
  refine Sl.nil ?_
  refine At.weak [(0, _), (2, _), (3, _)] ⟨rfl, rfl, rfl, trivial⟩ ?_
  refine At.go ?_
  refine Sc.seq ?_
  refine Sc.region ?_
  refine Sl.calm (Cm.ldM (cs := hdV n) agg149 rfl (fun j v hj => cellF hg4 hj)) rfl ?_
  refine Sl.storeAll (vs := hdV n) agg149 rfl rfl (by exact hdV_one n) hg14 rfl ?_
  intro w5 hg5 hs5 hf5
  refine Sl.nil ?_
  refine At.weak [(0, _), (2, _), (3, _)] ⟨rfl, rfl, rfl, trivial⟩ ?_
  refine At.go ?_
  refine Sc.ret ?_
  refine At.retC1 (cs := hdV n) rfl agg149 rfl (fun j v hj => cellF hg5 hj) ?_
  exact ⟨_, rfl, rfl, ((((hf1.trans hf2).trans_to hf3 (fun k hk => .inr (by have h : k = q := hk; omega))).trans_to hf4 (fun k hk => .inr (by have h : k = q := hk; omega)))).trans_to hf5 (fun k hk => .inr (by have h : k = W.heap.size := hk; omega))⟩
theorem hd_vw {H : Array Obj} {q n : Nat} {T : TypeId} (h : H[q]? = some (.cells (hdV n).toArray T (0, 0))) : Vw b8 H (some ⟨q, 0, none⟩) 3 (hdB n) := by
  refine ⟨Nat.le_refl _, by unfold maxLen; decide, fun _ => by simp, fun i x hx => ?_⟩
  have e1 : adr (some (⟨q, 0, none⟩ : Addr)) i = ⟨q, i, none⟩ := by
    show (⟨q, 0, none⟩ : Addr).add _ = _
    rw [Addr.add_lit, Nat.zero_add]
  rw [e1]
  refine cellF0 h ?_
  rw [hdV_eq, List.getElem?_map, hx]; rfl
theorem numX_fit {x : Nat} (h : x < 4294967296) : ¬ badN x 4 := by
  unfold badN
  have h2 : ((x : Int) / 2 ^ (8 * (4 : Int)).toNat) = 0 := by
    show (x : Int) / 4294967296 = 0
    omega
  omega
theorem put_stage {E : Int} (xs : List UInt8) {x : Nat} (h : x < 4294967296) (hE : E = 0) : numE E x 4 = 0 ∧ numX E xs x 4 = xs ++ le x 4 := by
  have h1 : numE E x 4 = 0 := by rw [numE_of_good (numX_fit h), hE]
  exact ⟨h1, numX_good h1⟩
theorem putX_z (xs ys : List UInt8) : putX 0 xs ys = xs ++ ys := by unfold putX; rw [if_pos rfl]
theorem doneX_z (xs : List UInt8) : doneX 0 xs = xs := by unfold doneX; rw [if_neg (by decide)]

set_option maxHeartbeats 2000000 in
theorem payload_ok (D : Nat → Prop) (pw tb p : Nat) (xo : Option Addr) (xc : Nat) (x : List UInt8) (mark : Nat) (W : World) (hP : WrL D W.heap pw 0 []) (hD : ∀ k, W.heap.size ≤ k → D k) (hb : W.heap[tb]? = some (.cells [.pointer (some ⟨p, 0, none⟩)].toArray 46 (0, 0))) (ht : TbV W.heap p)
    (hv : Vw b8 W.heap xo xc x) (hDb : ¬ D tb) (hDp : ¬ D p) (hDx : ∀ k, blk xo k → ¬ D k) (hx : x.length ≤ 128) (hm : mark ≤ 32768) :
    Calls Try.prog 97 [.slice xo x.length xc, .int .i64 mark, .pointer (some ⟨pw, 0, none⟩), .pointer (some ⟨tb, 0, none⟩)].toArray W
      (Ret fun v w' => ∃ ao c, v = .tuple #[.slice ao (frS x mark).length c, .int .i64 0] ∧ Own b8 5 w'.heap ao c (frS x mark) ∧ Fr W.heap.size ao ∧ Foot D W w') := by
  have hs := sumS_lt x
  refine calls_of_sc 29 [(0, _), (1, _), (2, _), (3, _)] Try.func97 rfl rfl rfl (enter_slots ⟨rfl, rfl, rfl, rfl, trivial⟩) ?_
  refine Sc.seq ?_
  refine Sc.region ?_
  refine Sl.calm (Cm.assign rfl) rfl ?_
  refine Sl.calm (Cm.assign rfl) rfl ?_
  refine Sl.nil ?_
  refine At.go ?_
  refine Sc.seq ?_
  refine Sc.region ?_
  refine Sl.calm (Cm.move rfl) rfl ?_
  refine Sl.calm (Cm.len sl25 rfl) rfl ?_
  refine Sl.calm (Cm.move rfl) rfl ?_
  refine Sl.calm (Cm.add64 rfl rfl (by omega)) rfl ?_
  rw [show ((x.length : Int) + mark) = ((x.length + mark : Nat) : Int) by omega]
  refine Sl.call fn98 rfl (head_ok (x.length + mark) W (by omega)) rfl ?_
  rintro _ w1 ⟨rfl, hf1⟩
  refine Sl.allocC zc149 rfl ?_
  intro w2 hg2 hs2 hf2
  refine Sl.storeAll (vs := hdV (x.length + mark)) agg149 rfl rfl (by exact hdV_one _) hg2 rfl ?_
  intro w3 hg3 hs3 hf3
  have hF3 : Foot nob W w3 := (hf1.trans hf2).trans_to hf3 (fun k hk => .inr (by have h : k = w1.heap.size := hk; have := hf1.size; omega))
  have hz3 := hF3.size
  have hz1 := hf1.size
  have hP3 := hP.shrink hF3
  have hvh := hd_vw hg3
  obtain ⟨D3, hD3⟩ : ∃ D3 : Nat → Prop, D3 = fun k => D k ∧ (k < W.heap.size ∨ w3.heap.size ≤ k) := ⟨_, rfl⟩
  have hD3a : ∀ k, w3.heap.size ≤ k → D3 k := fun k hk => by rw [hD3]; exact ⟨hD k (by omega), .inr hk⟩
  have hD3b : ∀ k, D3 k → D k := fun k hk => by rw [hD3] at hk; exact hk.1
  have hD3c : ¬ D3 w1.heap.size := fun h => by rw [hD3] at h; have := h.2; omega
  rw [← hD3] at hP3
  refine Sl.nil ?_
  refine At.weak [(0, _), (1, _), (2, _), (3, _), (6, _), (7, _), (8, _)] ⟨rfl, rfl, rfl, rfl, rfl, rfl, rfl, trivial⟩ ?_
  refine At.go ?_
  refine Sc.seq ?_
  refine Sc.region ?_
  refine Sl.calm (Cm.sliceArr arrF rfl) rfl ?_
  refine Sl.call fn73 rfl (wbytes_ok D3 pw 0 [] (some ⟨w1.heap.size, 0, none⟩) 3 (hdB (x.length + mark)) w3 hP3 hD3a hvh (by simp) (by simp [hdB_len])) rfl ?_
  rintro _ w4 ⟨hP4, hf4⟩
  rw [putX_z, List.nil_append] at hP4
  have hF4 : Foot D W w4 := hF3.any.trans (hf4.mono hD3b)
  have hv4 := hv.keep hF4 (fun a ha h => hDx _ ⟨a, ha, rfl⟩ h)
  have ht4 : TbV w4.heap p := hF4.obj ht hDp
  have hb4 := hF4.obj hb hDb
  have hz4 := hf4.size
  refine Sl.nil ?_
  refine At.weak [(0, _), (1, _), (2, _), (3, _), (6, _), (7, _), (8, _)] ⟨rfl, rfl, rfl, rfl, rfl, rfl, rfl, trivial⟩ ?_
  refine At.go ?_
  refine Sc.cut (β := Unit) (fun _u => [(2, .pointer (some ⟨pw, 0, none⟩))]) (fun _u w => WrL D3 w.heap pw 0 (frS x mark) ∧ Foot D W w) ?_ ?_
  ·
    refine Sc.seq ?_
    refine Sc.region ?_
    refine Sl.calm (Cm.move rfl) rfl ?_
    refine Sl.calm (Cm.len sl25 rfl) rfl ?_
    refine Sl.fork (Cm.gtr rfl rfl) rfl (fun h18 => ?_) (fun h18 => ?_)
    ·
      refine Sl.nil ?_
      refine At.weak [(0, _), (1, _), (2, _), (3, _), (6, _), (7, _), (8, _), (18, _)] ⟨rfl, rfl, rfl, rfl, rfl, rfl, rfl, rfl, trivial⟩ ?_
      refine At.go ?_
      refine Sc.cond_t rfl ?_
      refine Sc.seq ?_
      refine Sc.region ?_
      refine Sl.calm (Cm.ld sca46 rfl (cellF0 hb4 rfl)) rfl ?_
      refine Sl.calm (Cm.move rfl) rfl ?_
      refine Sl.call fn99 rfl (sum_ok p xo xc x w4 ht4 hv4) rfl ?_
      rintro _ wq ⟨rfl, hwq⟩
      subst wq
      refine Sl.calm (Cm.convI_in (n := ((sumS x : Nat) : Int)) is40 ty3 rfl (wrap64_id (by omega))) rfl ?_
      refine Sl.call fn43 rfl (num_ok D3 pw 0 (hdB (x.length + mark)) (sumS x : Nat) 4 w4 hP4 (fun k hk => hD3a k (by omega)) (by rw [hdB_len]; decide)) rfl ?_
      rintro _ w5 ⟨hP5, hf5⟩
      obtain ⟨s1, s2⟩ := put_stage (E := 0) (hdB (x.length + mark)) hs rfl
      rw [s1, s2] at hP5
      have hz5 := hf5.size
      have hF5 : Foot D W w5 := hF4.trans (hf5.mono hD3b)
      have hv5 := hv.keep hF5 (fun a ha h => hDx _ ⟨a, ha, rfl⟩ h)
      refine Sl.nil ?_
      refine At.weak [(0, _), (1, _), (2, _), (3, _), (6, _), (7, _), (8, _), (18, _)] ⟨rfl, rfl, rfl, rfl, rfl, rfl, rfl, rfl, trivial⟩ ?_
      refine At.go ?_
      refine Sc.region ?_
      refine Sl.calm (Cm.move rfl) rfl ?_
      refine Sl.call fn73 rfl (wbytes_ok D3 pw 0 _ xo xc x w5 hP5 (fun k hk => hD3a k (by omega)) hv5 (by simp only [List.length_append, hdB_len, le_length]; omega) (by omega)) rfl ?_
      rintro _ w6 ⟨hP6, hf6⟩
      rw [putX_z] at hP6
      have hF6 : Foot D W w6 := hF5.trans (hf6.mono hD3b)
      refine Sl.nil ?_
      exact At.cut () ⟨rfl, trivial⟩ ⟨by unfold frS; rw [if_neg (by omega), ← List.append_assoc]; exact hP6, hF6⟩
    ·
      refine Sl.nil ?_
      refine At.weak [(0, _), (1, _), (2, _), (3, _), (6, _), (7, _), (8, _), (18, _)] ⟨rfl, rfl, rfl, rfl, rfl, rfl, rfl, rfl, trivial⟩ ?_
      refine At.go ?_
      refine Sc.cond_f rfl ?_
      refine Sc.skip ?_
      exact At.cut () ⟨rfl, trivial⟩ ⟨by unfold frS; rw [if_pos (by omega), List.append_nil]; exact hP4, hF4⟩
  ·
    rintro _ w7 ⟨hP7, hF7⟩
    refine Sc.seq ?_
    refine Sc.region ?_
    refine Sl.call fn44 rfl (wdone_ok D3 pw 0 (frS x mark) w7 hP7 (by rw [frS_len]; unfold lenF; split <;> omega)) rfl ?_
    rintro _ w8 ⟨ao8, c8, rfl, ho8, hfr8, hf8⟩
    rw [doneX_z] at ho8 ⊢
    refine Sl.calm (Cm.field fld87_0 rfl) rfl ?_
    refine Sl.call fn45 rfl (err_ok D3 pw 0 _ w8 (hP7.grow hf8)) rfl ?_
    rintro _ wq ⟨rfl, hwq⟩
    subst wq
    refine Sl.calm (Cm.assign rfl) rfl ?_
    refine Sl.calm (Cm.assign rfl) rfl ?_
    refine Sl.nil ?_
    refine At.weak [(2, _), (6, _), (7, _)] ⟨rfl, rfl, rfl, trivial⟩ ?_
    refine At.go ?_
    refine Sc.ret ?_
    refine At.ret2 rfl rfl rfl ?_
    exact ⟨_, rfl, ao8, c8, rfl, ho8, hfr8.mono hF7.size, hF7.trans hf8.any⟩

set_option maxHeartbeats 2000000 in
theorem fput_ok (p : Nat) (ao : Option Addr) (c : Nat) (b : List UInt8) (W : World) (ht : TbV W.heap p) (hv : Vw b8 W.heap ao c b) :
    Calls Try.prog 70 [.pointer (some ⟨p, 0, none⟩), .slice ao b.length c].toArray W (Ret (PutP W (putS b))) := by
  refine calls_of_sc 45 [(0, _), (1, _)] Try.func70 rfl rfl rfl (enter_slots ⟨rfl, rfl, trivial⟩) ?_
  refine Sc.seq ?_
  refine Sc.region ?_
  refine Sl.box rfl rfl ?_
  intro w1 hg1 hs1 hf1
  have hg1 : w1.heap[W.heap.size]? = some (.cells [.pointer (some ⟨p, 0, none⟩)].toArray 46 (0, 0)) := hg1
  refine Sl.calm (Cm.assign rfl) rfl ?_
  refine Sl.calm (Cm.assign rfl) rfl ?_
  refine Sl.nil ?_
  refine At.go ?_
  refine Sc.seq ?_
  refine Sc.seq ?_
  refine Sc.region ?_
  refine Sl.calm (Cm.move rfl) rfl ?_
  refine Sl.calm (Cm.len sl25 rfl) rfl ?_
  refine Sl.fork (Cm.gtr rfl rfl) rfl (fun h12 => ?_) (fun h12 => ?_)
  ·
    have e : putS b = ([], 3) := by unfold putS; rw [if_pos (by omega)]
    refine Sl.nil ?_
    refine At.weak [(0, _), (1, _), (2, _), (4, _), (5, _), (12, _)] ⟨rfl, rfl, rfl, rfl, rfl, rfl, trivial⟩ ?_
    refine At.go ?_
    refine Sc.cond_t rfl ?_
    refine Sc.seq ?_
    refine Sc.region ?_
    refine Sl.calm (Cm.assign rfl) rfl ?_
    refine Sl.calm (Cm.assign rfl) rfl ?_
    refine Sl.nil ?_
    refine At.go ?_
    refine Sc.ret ?_
    refine At.then_ret ?_
    refine At.ret2 rfl rfl rfl ?_
    first
      | (rw [e]; exact ⟨_, rfl, none, 0, rfl, Own.nil, Fr.none, hf1⟩)
      | (rw [e]; exact ⟨_, rfl, ao9, c9, rfl, ho9, hfr9.mono hF2.size, hF2.trans_to hf9 (fun k hk => .inr (by omega))⟩)
      | (rw [e]; exact ⟨_, rfl, ao9, c9, rfl, ho9, hfr9.mono hF3.size, hF3.trans_to hf9 (fun k hk => .inr (by have := hk.1; omega))⟩)
  ·
    refine Sl.nil ?_
    refine At.weak [(0, _), (1, _), (2, _), (4, _), (5, _), (12, _)] ⟨rfl, rfl, rfl, rfl, rfl, rfl, trivial⟩ ?_
    refine At.go ?_
    refine Sc.cond_f rfl ?_
    refine Sc.skip ?_
    refine At.go ?_
    refine Sc.seq ?_
    refine Sc.region ?_
    refine Sl.allocC zc87 rfl ?_
    intro w2 hg2 hs2 hf2
    have hF2 := hf1.trans hf2
    have hP2 : WrL (fun k => k = w1.heap.size ∨ w2.heap.size ≤ k) w2.heap w1.heap.size 0 [] := WrO.zeroL hg2 (.inl rfl)
    have hb2 := hf2.obj hg1 id
    have ht2 : TbV w2.heap p := hF2.obj ht id
    have hplt := (Array.getElem?_eq_some_iff.1 ht).1
    refine Sl.nil ?_
    refine At.go ?_
    refine Sc.seq ?_
    refine Sc.region ?_
    refine Sl.calm (Cm.makeFunc rfl) rfl ?_
    refine Sl.calm (Cm.assign rfl) rfl ?_
    refine Sl.nil ?_
    refine At.weak [(0, _), (1, _), (2, _), (4, _), (5, _), (6, _), (7, _), (12, _)] ⟨rfl, rfl, rfl, rfl, rfl, rfl, rfl, rfl, trivial⟩ ?_
    refine At.go ?_
    refine Sc.seq ?_
    refine Sc.seq ?_
    refine Sc.region ?_
    refine Sl.calm (Cm.move rfl) rfl ?_
    refine Sl.calm (Cm.len sl25 rfl) rfl ?_
    refine Sl.fork (Cm.eql rfl rfl) rfl (fun h16 => ?_) (fun h16 => ?_)
    ·
      have e : putS b = (frS [] 0, 0) := by unfold putS; rw [if_neg (by omega), if_pos (by omega)]
      refine Sl.nil ?_
      refine At.weak [(0, _), (1, _), (2, _), (4, _), (5, _), (6, _), (7, _), (12, _), (16, _)] ⟨rfl, rfl, rfl, rfl, rfl, rfl, rfl, rfl, rfl, trivial⟩ ?_
      refine At.go ?_
      refine Sc.cond_t rfl ?_
      refine Sc.seq ?_
      refine Sc.region ?_
      refine Sl.calm (Cm.move rfl) rfl ?_
      refine Sl.callC fn97 rfl rfl (payload_ok (fun k => k = w1.heap.size ∨ w2.heap.size ≤ k) w1.heap.size W.heap.size p none 0 [] 0 w2 hP2 (fun k hk => .inr hk) hb2 ht2 (Vw.nil 0 (Nat.zero_le _)) (by omega) (by omega) (fun k ⟨a, ha, _⟩ => by cases ha) (by simp) (by decide)) rfl ?_
      intro v9 w9 hR9
      obtain ⟨ao9, c9, rfl, ho9, hfr9, hf9⟩ := hR9
      refine Sl.calm (Cm.extract rfl rfl) rfl ?_
      refine Sl.calm (Cm.extract rfl rfl) rfl ?_
      refine Sl.calm (Cm.assign rfl) rfl ?_
      refine Sl.calm (Cm.assign rfl) rfl ?_
      refine Sl.nil ?_
      refine At.weak [(0, _), (1, _), (2, _), (4, _), (5, _), (6, _), (7, _), (12, _), (16, _)] ⟨rfl, rfl, rfl, rfl, rfl, rfl, rfl, rfl, rfl, trivial⟩ ?_
      refine At.go ?_
      refine Sc.ret ?_
      refine At.then_ret ?_
      refine At.ret2 rfl rfl rfl ?_
      first
        | (rw [e]; exact ⟨_, rfl, none, 0, rfl, Own.nil, Fr.none, hf1⟩)
        | (rw [e]; exact ⟨_, rfl, ao9, c9, rfl, ho9, hfr9.mono hF2.size, hF2.trans_to hf9 (fun k hk => .inr (by omega))⟩)
        | (rw [e]; exact ⟨_, rfl, ao9, c9, rfl, ho9, hfr9.mono hF3.size, hF3.trans_to hf9 (fun k hk => .inr (by have := hk.1; omega))⟩)
    ·
      have hltA := vw_lt hv (show 0 < b.length by omega)
      refine Sl.nil ?_
      refine At.weak [(0, _), (1, _), (2, _), (4, _), (5, _), (6, _), (7, _), (12, _), (16, _)] ⟨rfl, rfl, rfl, rfl, rfl, rfl, rfl, rfl, rfl, trivial⟩ ?_
      refine At.go ?_
      refine Sc.cond_f rfl ?_
      refine Sc.skip ?_
      refine At.go ?_
      refine Sc.seq ?_
      refine Sc.seq ?_
      refine Sc.region ?_
      refine Sl.calm (Cm.move rfl) rfl ?_
      refine Sl.call fn100 rfl (pack_ok ao c b w2 (hv.grow hF2)) rfl ?_
      rw [pkR_fit (by omega)]
      intro _ w3 hP
      have hP : PutE _ (pkS b) 0 _ w3 := hP
      obtain ⟨o3, c3, rfl, ho3, hfr3, hf3⟩ := hP
      have hP3 := hP2.shrink hf3
      have hb3 := hf3.obj hb2 id
      have ht3 : TbV w3.heap p := hf3.obj ht2 id
      have hF3 := hF2.trans hf3
      have hz3 := hf3.size
      refine Sl.calm (Cm.move rfl) rfl ?_
      refine Sl.calm (Cm.extract rfl rfl) rfl ?_
      refine Sl.calm (Cm.extract rfl rfl) rfl ?_
      refine Sl.calm (Cm.assign rfl) rfl ?_
      refine Sl.calm (Cm.assign rfl) rfl ?_
      refine Sl.nil ?_
      refine At.weak [(0, _), (1, _), (2, _), (4, _), (5, _), (6, _), (7, _), (8, _), (9, _), (12, _), (16, _)] ⟨rfl, rfl, rfl, rfl, rfl, rfl, rfl, rfl, rfl, rfl, rfl, trivial⟩ ?_
      refine At.go ?_
      refine Sc.seq ?_
      refine Sc.region ?_
      refine Sl.calm (Cm.move rfl) rfl ?_
      refine Sl.calm (Cm.yes (Cm.eql rfl rfl) rfl) rfl ?_
      refine Sl.calm (Cm.move rfl) rfl ?_
      refine Sl.want rfl rfl (Cm.move rfl) rfl ?_
      refine Sl.want rfl rfl (Cm.len sl25 rfl) rfl ?_
      refine Sl.want rfl rfl (Cm.move rfl) rfl ?_
      refine Sl.want rfl rfl (Cm.len sl25 rfl) rfl ?_
      refine Sl.forkWant rfl rfl (Cm.lss rfl rfl) rfl (fun h33 => ?_) (fun h33 => ?_)
      ·
        have e : putS b = (frS (pkS b) 0, 0) := by unfold putS; rw [if_neg (by omega), if_neg (by omega), if_pos (by omega)]
        refine Sl.calm (Cm.pick_t rfl rfl) rfl ?_
        refine Sl.nil ?_
        refine At.weak [(0, _), (1, _), (2, _), (4, _), (5, _), (6, _), (7, _), (8, _), (9, _), (12, _), (16, _), (34, _)] ⟨rfl, rfl, rfl, rfl, rfl, rfl, rfl, rfl, rfl, rfl, rfl, rfl, trivial⟩ ?_
        refine At.go ?_
        refine Sc.cond_t rfl ?_
        refine Sc.seq ?_
        refine Sc.region ?_
        refine Sl.calm (Cm.move rfl) rfl ?_
        refine Sl.calm (Cm.move rfl) rfl ?_
        refine Sl.callC fn97 rfl rfl (payload_ok _ w1.heap.size W.heap.size p o3 c3 (pkS b) 0 w3 hP3 (fun k hk => ⟨.inr (by omega), .inr hk⟩) hb3 ht3 ho3.vw (by omega) (by omega) (fun k ⟨a, ha, hk⟩ h => by have := hfr3 a ha; have := ho3.lt a ha; omega) (by omega) (by decide)) rfl ?_
        intro v9 w9 hR9
        obtain ⟨ao9, c9, rfl, ho9, hfr9, hf9⟩ := hR9
        refine Sl.calm (Cm.extract rfl rfl) rfl ?_
        refine Sl.calm (Cm.extract rfl rfl) rfl ?_
        refine Sl.calm (Cm.assign rfl) rfl ?_
        refine Sl.calm (Cm.assign rfl) rfl ?_
        refine Sl.nil ?_
        refine At.weak [(0, _), (1, _), (2, _), (4, _), (5, _), (6, _), (7, _), (8, _), (9, _), (12, _), (16, _), (34, _)] ⟨rfl, rfl, rfl, rfl, rfl, rfl, rfl, rfl, rfl, rfl, rfl, rfl, trivial⟩ ?_
        refine At.go ?_
        refine Sc.ret ?_
        refine At.then_ret ?_
        refine At.ret2 rfl rfl rfl ?_
        first
          | (rw [e]; exact ⟨_, rfl, none, 0, rfl, Own.nil, Fr.none, hf1⟩)
          | (rw [e]; exact ⟨_, rfl, ao9, c9, rfl, ho9, hfr9.mono hF2.size, hF2.trans_to hf9 (fun k hk => .inr (by omega))⟩)
          | (rw [e]; exact ⟨_, rfl, ao9, c9, rfl, ho9, hfr9.mono hF3.size, hF3.trans_to hf9 (fun k hk => .inr (by have := hk.1; omega))⟩)
      ·
        have e : putS b = (frS b 32768, 0) := by unfold putS; rw [if_neg (by omega), if_neg (by omega), if_neg (by omega)]
        refine Sl.calm (Cm.pick_t rfl rfl) rfl ?_
        refine Sl.nil ?_
        refine At.weak [(0, _), (1, _), (2, _), (4, _), (5, _), (6, _), (7, _), (8, _), (9, _), (12, _), (16, _), (34, _)] ⟨rfl, rfl, rfl, rfl, rfl, rfl, rfl, rfl, rfl, rfl, rfl, rfl, trivial⟩ ?_
        refine At.go ?_
        refine Sc.cond_f rfl ?_
        refine Sc.skip ?_
        refine At.go ?_
        refine Sc.seq ?_
        refine Sc.region ?_
        refine Sl.calm (Cm.move rfl) rfl ?_
        refine Sl.calm (Cm.move rfl) rfl ?_
        refine Sl.callC fn97 rfl rfl (payload_ok _ w1.heap.size W.heap.size p ao c b 32768 w3 hP3 (fun k hk => ⟨.inr (by omega), .inr hk⟩) hb3 ht3 (hv.grow hF3) (by omega) (by omega) (fun k hk h => by have := hltA k hk; omega) (by omega) (by decide)) rfl ?_
        intro v9 w9 hR9
        obtain ⟨ao9, c9, rfl, ho9, hfr9, hf9⟩ := hR9
        refine Sl.calm (Cm.extract rfl rfl) rfl ?_
        refine Sl.calm (Cm.extract rfl rfl) rfl ?_
        refine Sl.calm (Cm.assign rfl) rfl ?_
        refine Sl.calm (Cm.assign rfl) rfl ?_
        refine Sl.nil ?_
        refine At.weak [(0, _), (1, _), (2, _), (4, _), (5, _), (6, _), (7, _), (8, _), (9, _), (12, _), (16, _), (34, _)] ⟨rfl, rfl, rfl, rfl, rfl, rfl, rfl, rfl, rfl, rfl, rfl, rfl, trivial⟩ ?_
        refine At.go ?_
        refine Sc.ret ?_
        refine At.ret2 rfl rfl rfl ?_
        first
          | (rw [e]; exact ⟨_, rfl, none, 0, rfl, Own.nil, Fr.none, hf1⟩)
          | (rw [e]; exact ⟨_, rfl, ao9, c9, rfl, ho9, hfr9.mono hF2.size, hF2.trans_to hf9 (fun k hk => .inr (by omega))⟩)
          | (rw [e]; exact ⟨_, rfl, ao9, c9, rfl, ho9, hfr9.mono hF3.size, hF3.trans_to hf9 (fun k hk => .inr (by have := hk.1; omega))⟩)
end Go.Proofs.Ytoaplldahbbaiaa
/- frame: what is read: the program's. No condition beyond the bounds that each states. -/
namespace Go.Proofs.Ytoaplldahbbaiaa
open Go Go.RowKit
set_option linter.unusedVariables false

theorem rerr_ok {D : Nat → Prop} (p : Nat) (E : Int) (ys : List UInt8) (W : World) (hP : RdL D W.heap p E ys) :
    Calls Try.prog 45 [.pointer (some ⟨p, 0, none⟩)].toArray W (Ret fun v w' => v = .int .i64 E ∧ w' = W) := by
  obtain ⟨ao, c, hobj, hv, hap⟩ := hP
  refine calls_of_sc 7 [(0, _)] Try.func45 rfl rfl rfl (enter_slots ⟨rfl, trivial⟩) ?_
  refine Sc.seq ?_
  refine Sc.region ?_
  refine Sl.calm (Cm.assign rfl) rfl ?_
  refine Sl.nil ?_
  refine At.go ?_
  refine Sc.seq ?_
  refine Sc.region ?_
  refine Sl.calm (Cm.move rfl) rfl ?_
  refine Sl.calm (Cm.nilCheck rfl) rfl ?_
  refine Sl.calm (Cm.field fld85_0 rfl) rfl ?_
  refine Sl.calm (Cm.ld sca26 rfl (cellF hobj rfl)) rfl ?_
  refine Sl.calm (Cm.assign rfl) rfl ?_
  refine Sl.nil ?_
  refine At.weak [(0, _), (2, _)] ⟨rfl, rfl, trivial⟩ ?_
  refine At.go ?_
  refine Sc.ret ?_
  refine At.ret1 rfl rfl ?_
  exact ⟨_, rfl, rfl, rfl⟩
/-- a cuts cells -/
def ctC (po : Option Addr) (n pc : Nat) (s : Nat) (st : Bool) (nx : Int) : List Value := [.slice po n pc, .int .u32 (s : Int), .bool st, .int .i64 nx]
theorem ctC_one (po : Option Addr) (n pc : Nat) (s : Nat) (st : Bool) (nx : Int) : ∀ v ∈ ctC po n pc s st nx, v.oneCell' = true := by simp [ctC, Value.oneCell']
def FnP (W : World) (im : List UInt8) (a : Int) : Value → World → Prop := fun v w' => Foot nob W w' ∧ match cutS im a with
  | none => v = .tuple #[.agg (ctC none 0 0 0 false 0).toArray, .int .i64 2]
  | some (x, s, st) => ∃ po pc, v = .tuple #[.agg (ctC po x.length pc s st (a + lenF x)).toArray, .int .i64 0] ∧ Own b8 5 w'.heap po pc x ∧ Fr W.heap.size po
theorem fn_none {W w' : World} {im : List UInt8} {a : Int} (h : cutS im a = none) (hf : Foot nob W w') : FnP W im a (.tuple #[.agg (ctC none 0 0 0 false 0).toArray, .int .i64 2]) w' := by
  unfold FnP; rw [h]; exact ⟨hf, rfl⟩
theorem or_byte {a b : Nat} (h : a < 256) : a ||| b * 256 = a + 256 * b := by
  have := Nat.two_pow_add_eq_or_of_lt (i := 8) h b
  rw [show (2 : Nat) ^ 8 = 256 from rfl] at this
  rw [Nat.or_comm, Nat.mul_comm b, ← this]; omega
theorem bit15 {n : Nat} (h : n < 65536) : n &&& 32768 = if 32768 ≤ n then 32768 else 0 := by
  apply Nat.eq_of_testBit_eq
  intro i
  rw [Nat.testBit_and, show (32768 : Nat) = 2 ^ 15 from rfl, Nat.testBit_two_pow]
  by_cases hi : 15 = i
  · subst hi
    rw [Nat.testBit_eq_decide_div_mod_eq]
    by_cases hn : 2 ^ 15 ≤ n
    · rw [if_pos hn, decide_eq_true (by omega)]; rfl
    · rw [if_neg hn, decide_eq_false (by omega)]; rfl
  · rw [decide_eq_false hi, Bool.and_false]
    split
    · rw [Nat.testBit_two_pow, decide_eq_false hi]
    · simp
theorem two_cut {r : List UInt8} {m : Nat} (h3 : 3 ≤ r.length) : (cutE (cutE 0 (r.drop 3) 4) (cutR 0 (r.drop 3) 4) m ≠ 0 ↔ r.length < 7 + m) ∧
    (¬ r.length < 7 + m → cutB 0 (r.drop 3) 4 = (r.drop 3).take 4 ∧ cutB (cutE 0 (r.drop 3) 4) (cutR 0 (r.drop 3) 4) m = (r.drop 7).take m) := by
  have hl : (r.drop 3).length = r.length - 3 := List.length_drop ..
  by_cases h7 : r.length < 7
  · have e : cutE 0 (r.drop 3) 4 = 2 := by rw [cutE_short (by omega) (by omega)]; rfl
    rw [e]
    refine ⟨⟨fun _ => by omega, fun _ => by rw [cutE_same (by decide)]; decide⟩, fun h => by omega⟩
  · have e : cutE 0 (r.drop 3) 4 = 0 := cutE_good (by omega) (by omega)
    obtain ⟨e1, e2⟩ := cutB_good e
    have e3 : (r.drop 3).drop (Int.toNat 4) = r.drop 7 := by rw [List.drop_drop]; rfl
    rw [e, e1, e2, e3]
    have hl7 : (r.drop 7).length = r.length - 7 := List.length_drop ..
    by_cases hm : r.length < 7 + m
    · refine ⟨⟨fun _ => hm, fun _ => by rw [cutE_short (by omega) (by omega)]; decide⟩, fun h => absurd hm h⟩
    · have e4 : cutE 0 (r.drop 7) m = 0 := cutE_good (by omega) (by omega)
      refine ⟨⟨fun h => absurd e4 h, fun h => absurd h hm⟩, fun _ => ⟨rfl, ?_⟩⟩
      rw [(cutB_good e4).1]; rfl
theorem hdEq (n : Nat) (l : List UInt8) : (.agg (hdV n).toArray : Value) = .agg ((hdB n).map b8).toArray := by rw [hdV_eq]
theorem cells_of {H : Array Obj} {ad : Addr} {cap : Nat} {l : List UInt8} (h : Vw b8 H (some ad) cap l) : ∀ j v, (l.map b8)[j]? = some v → cellH H (ad.add j) = some v := by
  intro j v hj
  rw [List.getElem?_map, Option.map_eq_some_iff] at hj
  obtain ⟨x, hx, rfl⟩ := hj
  exact h.get j x hx

set_option maxHeartbeats 2000000 in
theorem find_ok (io : Option Addr) (ic : Nat) (im : List UInt8) (a : Int) (W : World) (hv : Vw b8 W.heap io ic im) (hb : im.length ≤ 1099511627776) (ha : a ≤ 9223372036854775807) :
    Calls Try.prog 112 [.slice io im.length ic, .int .i64 a].toArray W (Ret (FnP W im a)) := by
  have hle := hv.le
  refine calls_of_sc 94 [(0, _), (1, _)] Try.func112 rfl rfl rfl (enter_slots ⟨rfl, rfl, trivial⟩) ?_
  refine Sc.seq ?_
  refine Sc.region ?_
  refine Sl.allocC zc168 rfl ?_
  intro w1 hg1 hs1 hf1
  have hg1 : w1.heap[W.heap.size]? = some (.cells (ctC none 0 0 0 false 0).toArray 168 (0, 0)) := hg1
  refine Sl.calm (Cm.assign rfl) rfl ?_
  refine Sl.nil ?_
  refine At.go ?_
  refine Sc.seq ?_
  refine Sc.seq ?_
  refine Sc.region ?_
  refine Sl.calm (Cm.move rfl) rfl ?_
  refine Sl.fork (Cm.lss rfl rfl) rfl (fun h12 => ?_) (fun h12 => ?_)
  ·
    have hno : cutS im a = none := by unfold cutS; rw [if_pos (by omega)]
    have hf9 : Foot nob w1 w1 := Foot.refl _ _
    refine Sl.calm (Cm.move rfl) rfl ?_
    refine Sl.skip rfl rfl rfl rfl ?_
    refine Sl.skip rfl rfl rfl rfl ?_
    refine Sl.skip rfl rfl rfl rfl ?_
    refine Sl.skip rfl rfl rfl rfl ?_
    refine Sl.calm (Cm.pick_t rfl rfl) rfl ?_
    refine Sl.nil ?_
    refine At.weak [(0, _), (1, _), (4, _), (5, _), (18, _)] ⟨rfl, rfl, rfl, rfl, rfl, trivial⟩ ?_
    refine At.go ?_
    refine Sc.cond_t rfl ?_
    refine Sc.seq ?_
    refine Sc.region ?_
    refine Sl.calm (Cm.build (cs := (ctC none 0 0 0 false 0).toArray) plc168 zc168 rfl (by kernel_rfl)) rfl ?_
    refine Sl.storeAll (vs := ctC none 0 0 0 false 0) agg168 rfl rfl (by exact ctC_one _ _ _ _ _ _) (hf9.obj hg1 id) rfl ?_
    intro w20 hg20 hs20 hf20
    refine Sl.calm (Cm.assign rfl) rfl ?_
    refine Sl.nil ?_
    refine At.weak [(0, _), (1, _), (4, _), (5, _), (18, _)] ⟨rfl, rfl, rfl, rfl, rfl, trivial⟩ ?_
    refine At.go ?_
    refine Sc.ret ?_
    refine At.then_ret ?_
    refine At.retC (cs := ctC none 0 0 0 false 0) rfl agg168 rfl rfl (fun j v hj => cellF hg20 hj) ?_
    exact ⟨_, rfl, fn_none hno ((hf1.trans hf9).trans_to hf20 (fun k hk => .inr (by have h : k = W.heap.size := hk; omega)))⟩
  ·
    refine Sl.calm (Cm.move rfl) rfl ?_
    refine Sl.want rfl rfl (Cm.move rfl) rfl ?_
    refine Sl.want rfl rfl (Cm.move rfl) rfl ?_
    refine Sl.want rfl rfl (Cm.len sl25 rfl) rfl ?_
    refine Sl.forkWant rfl rfl (Cm.gtr rfl rfl) rfl (fun h17 => ?_) (fun h17 => ?_)
    ·
      have hno : cutS im a = none := by unfold cutS; rw [if_pos (by omega)]
      have hf9 : Foot nob w1 w1 := Foot.refl _ _
      refine Sl.calm (Cm.pick_f rfl rfl) rfl ?_
      refine Sl.nil ?_
      refine At.weak [(0, _), (1, _), (4, _), (5, _), (18, _)] ⟨rfl, rfl, rfl, rfl, rfl, trivial⟩ ?_
      refine At.go ?_
      refine Sc.cond_t rfl ?_
      refine Sc.seq ?_
      refine Sc.region ?_
      refine Sl.calm (Cm.build (cs := (ctC none 0 0 0 false 0).toArray) plc168 zc168 rfl (by kernel_rfl)) rfl ?_
      refine Sl.storeAll (vs := ctC none 0 0 0 false 0) agg168 rfl rfl (by exact ctC_one _ _ _ _ _ _) (hf9.obj hg1 id) rfl ?_
      intro w20 hg20 hs20 hf20
      refine Sl.calm (Cm.assign rfl) rfl ?_
      refine Sl.nil ?_
      refine At.weak [(0, _), (1, _), (4, _), (5, _), (18, _)] ⟨rfl, rfl, rfl, rfl, rfl, trivial⟩ ?_
      refine At.go ?_
      refine Sc.ret ?_
      refine At.then_ret ?_
      refine At.retC (cs := ctC none 0 0 0 false 0) rfl agg168 rfl rfl (fun j v hj => cellF hg20 hj) ?_
      exact ⟨_, rfl, fn_none hno ((hf1.trans hf9).trans_to hf20 (fun k hk => .inr (by have h : k = W.heap.size := hk; omega)))⟩
    ·
      obtain ⟨q, rfl⟩ : ∃ q : Nat, a = q := ⟨a.toNat, by omega⟩
      have hcs : cutS im (q : Int) = cutP (im.drop q) := by unfold cutS; rw [if_neg (by omega)]; rfl
      obtain ⟨r, hr⟩ : ∃ r, r = im.drop q := ⟨_, rfl⟩
      have hrl : r.length = im.length - q := by rw [hr, List.length_drop]
      have hvr : Vw b8 W.heap (cutAo io ic q 1) (ic - q) r := by have := hv.cut (l := q) (h := im.length) (m := ic) (by omega) (Nat.le_refl _) hle (Nat.le_refl _); rw [List.take_of_length_le (by simp)] at this; rw [hr]; exact this
      rw [← hr] at hcs
      refine Sl.calm (Cm.pick_f rfl rfl) rfl ?_
      refine Sl.nil ?_
      refine At.weak [(0, _), (1, _), (4, _), (5, _), (18, _)] ⟨rfl, rfl, rfl, rfl, rfl, trivial⟩ ?_
      refine At.go ?_
      refine Sc.cond_f rfl ?_
      refine Sc.skip ?_
      refine At.go ?_
      refine Sc.seq ?_
      refine Sc.region ?_
      refine Sl.calm (Cm.move rfl) rfl ?_
      refine Sl.calm (Cm.move rfl) rfl ?_
      refine Sl.calm (Cm.ofEq (u := .slice (cutAo io ic q 1) r.length (ic - q)) (Cm.sliceL sl25 rfl rfl (by omega)) (by rw [hrl]; rfl)) rfl ?_
      refine Sl.call fn54 rfl (rdnew_ok (cutAo io ic q 1) (ic - q) r w1 (hvr.grow hf1) (by omega)) rfl ?_
      rintro _ w2 ⟨p, rfl, hp1, hP2, hf2⟩
      have hlp := hP2.lt
      have hg2 := hf2.obj hg1 id
      refine Sl.calm (Cm.assign rfl) rfl ?_
      refine Sl.nil ?_
      refine At.weak [(0, _), (1, _), (4, _), (5, _), (6, _), (18, _)] ⟨rfl, rfl, rfl, rfl, rfl, rfl, trivial⟩ ?_
      refine At.go ?_
      refine Sc.seq ?_
      refine Sc.region ?_
      refine Sl.calm (Cm.move rfl) rfl ?_
      refine Sl.call fn86 rfl (rbyt_ok p 0 r 3 w2 hP2 (by omega)) rfl ?_
      rintro _ w3 ⟨h3, hc3, rfl, ho3, hfr3, hP3, hf3⟩
      have hg3 := hf3.obj hg2 (by omega)
      have hz3 := hf3.size
      have hz2 := hf2.size
      have hF3 : Foot nob w1 w3 := hf2.trans_to hf3 (fun k hk => .inr (by have h : k = p := hk; omega))
      refine Sl.calm (Cm.assign rfl) rfl ?_
      refine Sl.nil ?_
      refine At.weak [(0, _), (1, _), (4, _), (5, _), (6, _), (7, _), (18, _)] ⟨rfl, rfl, rfl, rfl, rfl, rfl, rfl, trivial⟩ ?_
      refine At.go ?_
      refine Sc.seq ?_
      refine Sc.seq ?_
      refine Sc.region ?_
      refine Sl.calm (Cm.move rfl) rfl ?_
      refine Sl.calm (Cm.nilCheck rfl) rfl ?_
      refine Sl.calm (Cm.field fld138_0 rfl) rfl ?_
      refine Sl.call fn45 rfl (rerr_ok p _ _ w3 hP3) rfl ?_
      rintro _ wq ⟨rfl, hwq⟩
      subst wq
      refine Sl.fork (Cm.neq rfl rfl) rfl (fun h30 => ?_) (fun h30 => ?_)
      ·
        have hsh : r.length < 3 := Classical.byContradiction fun h => h30 (cutE_good (by omega) (by omega))
        have hno : cutS im (q : Int) = none := by rw [hcs]; unfold cutP; rw [if_pos hsh]
        have hf9 := hF3
        refine Sl.nil ?_
        refine At.weak [(0, _), (1, _), (4, _), (5, _), (6, _), (7, _), (18, _), (30, _)] ⟨rfl, rfl, rfl, rfl, rfl, rfl, rfl, rfl, trivial⟩ ?_
        refine At.go ?_
        refine Sc.cond_t rfl ?_
        refine Sc.seq ?_
        refine Sc.region ?_
        refine Sl.calm (Cm.build (cs := (ctC none 0 0 0 false 0).toArray) plc168 zc168 rfl (by kernel_rfl)) rfl ?_
        refine Sl.storeAll (vs := ctC none 0 0 0 false 0) agg168 rfl rfl (by exact ctC_one _ _ _ _ _ _) (hf9.obj hg1 id) rfl ?_
        intro w20 hg20 hs20 hf20
        refine Sl.calm (Cm.assign rfl) rfl ?_
        refine Sl.nil ?_
        refine At.weak [(0, _), (1, _), (4, _), (5, _), (6, _), (7, _), (18, _), (30, _)] ⟨rfl, rfl, rfl, rfl, rfl, rfl, rfl, rfl, trivial⟩ ?_
        refine At.go ?_
        refine Sc.ret ?_
        refine At.then_ret ?_
        refine At.retC (cs := ctC none 0 0 0 false 0) rfl agg168 rfl rfl (fun j v hj => cellF hg20 hj) ?_
        exact ⟨_, rfl, fn_none hno ((hf1.trans hf9).trans_to hf20 (fun k hk => .inr (by have h : k = W.heap.size := hk; omega)))⟩
      ·
        have hE3 : cutE 0 r 3 = 0 := Decidable.not_not.1 h30
        obtain ⟨z1, z2, z3⟩ := cutE_zero hE3
        have z3r : 3 ≤ r.length := by omega
        obtain ⟨cb, cr⟩ := cutB_good hE3
        rw [cb] at ho3
        rw [hE3, cr] at hP3
        have hl3 : (r.take (Int.toNat 3)).length = 3 := by rw [List.length_take]; omega
        rw [cb]
        obtain ⟨B, hB⟩ : ∃ B, B = r.take (Int.toNat 3) := ⟨_, rfl⟩
        rw [← hB] at ho3 hl3 ⊢
        have hg0 : B.getD 0 0 = r.getD 0 0 := by rw [hB, List.getD, List.getD, List.getElem?_take]; rfl
        have hg1b : B.getD 1 0 = r.getD 1 0 := by rw [hB, List.getD, List.getD, List.getElem?_take]; rfl
        obtain ⟨b0, hb0⟩ : ∃ x, x = (r.getD 0 0).toNat := ⟨_, rfl⟩
        obtain ⟨b1, hb1⟩ : ∃ x, x = (r.getD 1 0).toNat := ⟨_, rfl⟩
        have hb0l : b0 < 256 := by have := (r.getD 0 0).toNat_lt; omega
        have hb1l : b1 < 256 := by have := (r.getD 1 0).toNat_lt; omega
        have hcp : cutP r = _ := rfl
        conv at hcp => rhs; unfold cutP
        rw [← hb0, ← hb1, if_neg (show ¬ r.length < 3 by omega), show r.take 3 = B from hB.symm] at hcp
        obtain ⟨n, hn⟩ : ∃ n, n = b0 + 256 * b1 := ⟨_, rfl⟩
        rw [← hn] at hcp
        have hnl : n < 65536 := by omega
        obtain ⟨a3, ha3⟩ : ∃ x, h3 = some x := Option.ne_none_iff_exists'.1 (ho3.vw.non (by omega))
        subst ha3
        refine Sl.nil ?_
        refine At.weak [(0, _), (1, _), (4, _), (5, _), (6, _), (7, _), (18, _), (30, _)] ⟨rfl, rfl, rfl, rfl, rfl, rfl, rfl, rfl, trivial⟩ ?_
        refine At.go ?_
        refine Sc.cond_f rfl ?_
        refine Sc.skip ?_
        refine At.go ?_
        refine Sc.seq ?_
        refine Sc.quiet 11 [0, 1, 2, 3, 4, 5, 6, 7, 8, 9, 10] mixed (by kernel_rfl) ?_
        refine Sx.calm rfl rfl (Cm.move rfl) rfl ?_
        refine Sx.calm rfl rfl (Cm.indexAddr1 sl25 rfl rfl ho3.vw.non (by omega)) rfl ?_
        refine Sx.calm rfl rfl (Cm.ld sca5 rfl (ho3.vw.gz 0 0 rfl (by omega))) rfl ?_
        refine Sx.calm rfl rfl (Cm.convI_in (n := (b0 : Int)) is5 ty3 rfl (by rw [hg0, ← hb0]; exact wrap64_id (by omega))) rfl ?_
        refine Sx.calm rfl rfl (Cm.move rfl) rfl ?_
        refine Sx.calm rfl rfl (Cm.indexAddr1 sl25 rfl rfl ho3.vw.non (by omega)) rfl ?_
        refine Sx.calm rfl rfl (Cm.ld sca5 rfl (ho3.vw.gz 0 1 rfl (by omega))) rfl ?_
        refine Sx.calm rfl rfl (Cm.convI_in (n := (b1 : Int)) is5 ty3 rfl (by rw [hg1b, ← hb1]; exact wrap64_id (by omega))) rfl ?_
        refine Sx.calm rfl rfl (Cm.ofEq (u := .int .i64 ((b1 * 256 : Nat) : Int)) (Cm.shl64 rfl rfl (by omega) (by show _ ≤ (b1 : Int) * 256 ∧ (b1 : Int) * 256 ≤ _; omega)) (by show Value.int .i64 ((b1 : Int) * 256) = _; simp)) rfl ?_
        refine Sx.calm rfl rfl (Cm.ofEq (u := .int .i64 ((n : Nat) : Int)) (Cm.orN rfl rfl (by omega) (by omega)) (by rw [or_byte hb0l, hn])) rfl ?_
        refine Sx.calm rfl rfl (Cm.assign rfl) rfl ?_
        refine Sx.nil ?_
        refine At.weak [(0, _), (1, _), (4, _), (5, _), (6, _), (7, _), (8, _), (18, _), (30, _)] ⟨rfl, rfl, rfl, rfl, rfl, rfl, rfl, rfl, rfl, trivial⟩ ?_
        refine At.go ?_
        refine Sc.seq ?_
        refine Sc.draw 7 (fun H => Vw b8 H (some a3) hc3 B) [1] [0, 2, 3, 4, 1, 5, 6] mixed (by kernel_rfl) (ho3.vw) ?_
        refine Sx.calm rfl rfl (Cm.move rfl) rfl ?_
        refine Sx.calm rfl rfl (Cm.move rfl) rfl ?_
        refine Sx.calm rfl rfl (Cm.arrPtr0 Try.underlying149 rfl (by omega)) rfl ?_
        refine Sx.calm rfl rfl (Cm.loadM (cs := B.map b8) (by rw [List.length_map, hl3]; exact agg149) rfl (fun H hH => cells_of hH)) rfl ?_
        refine Sx.eff rfl rfl (Sl.call fn98 rfl (head_ok n _ hnl) rfl ?_)
        rintro _ w4 ⟨rfl, hf4⟩
        have hf4 := hf4.undraw.undraw
        refine Sx.on (by exact ho3.vw.grow hf4) ?_
        refine Sx.calm rfl rfl (Cm.eqlArrB Try.underlying149 (by kernel_rfl) Try.underlying5 (by kernel_rfl) (by kernel_rfl) (by rw [← hdV_eq]; rfl) rfl (hdB_len n) hl3) rfl ?_
        refine Sx.calm rfl rfl (Cm.assign rfl) rfl ?_
        refine Sx.nil ?_
        refine At.weak [(0, _), (1, _), (4, _), (5, _), (6, _), (7, _), (8, _), (9, _), (18, _), (30, _)] ⟨rfl, rfl, rfl, rfl, rfl, rfl, rfl, rfl, rfl, rfl, trivial⟩ ?_
        refine At.go ?_
        refine Sc.seq ?_
        refine Sc.region ?_
        refine Sl.calm (Cm.move rfl) rfl ?_
        refine Sl.calm (Cm.ofEq (u := .int .i64 ((if 32768 ≤ n then 32768 else 0 : Nat) : Int)) (Cm.andN (b := 32768) rfl rfl (by omega) (by decide)) (by rw [bit15 hnl])) rfl ?_
        refine Sl.calm (Cm.ofEq (u := .bool (decide (32768 ≤ n))) (Cm.neq rfl rfl) (by congr 1; by_cases h : 32768 ≤ n <;> simp [h])) rfl ?_
        refine Sl.calm (Cm.move rfl) rfl ?_
        refine Sl.calm (Cm.add64 rfl rfl (by omega)) rfl ?_
        refine Sl.calm (Cm.build (cs := (ctC none 0 0 0 (decide (32768 ≤ n)) ((q : Int) + 3)).toArray) plc168 zc168 rfl (by kernel_rfl)) rfl ?_
        refine Sl.allocC zc168 rfl ?_
        intro w5 hg5 hs5 hf5
        refine Sl.storeAll (vs := ctC none 0 0 0 (decide (32768 ≤ n)) ((q : Int) + 3)) agg168 rfl rfl (by exact ctC_one _ _ _ _ _ _) hg5 rfl ?_
        intro w6 hg6 hs6 hf6
        obtain ⟨c, hc⟩ : ∃ c, c = w4.heap.size := ⟨_, rfl⟩
        rw [← hc] at hg6 ⊢
        have hz4 := hf4.size
        have hF36 : Foot nob w3 w6 := (hf4.trans hf5).trans_to hf6 (fun k hk => .inr (by have h : k = w4.heap.size := hk; omega))
        have hP6 := hP3.grow hF36
        have hF6 := hF3.trans hF36
        have hz6 := hF6.size
        obtain ⟨m, hm⟩ : ∃ m, m = n % 32768 := ⟨_, rfl⟩
        rw [← hm] at hcp
        refine Sl.nil ?_
        refine At.weak [(0, _), (1, _), (4, _), (5, _), (6, _), (7, _), (8, _), (9, _), (10, _), (18, _), (30, _)] ⟨rfl, rfl, rfl, rfl, rfl, rfl, rfl, rfl, rfl, rfl, rfl, trivial⟩ ?_
        refine At.go ?_
        refine Sc.seq ?_
        refine Sc.region ?_
        refine Sl.calm (Cm.move rfl) rfl ?_
        refine Sl.calm (Cm.ofEq (u := .int .i64 (m : Nat)) (Cm.andNot15 rfl rfl hnl) (by rw [hm])) rfl ?_
        refine Sl.calm (Cm.assign rfl) rfl ?_
        refine Sl.nil ?_
        refine At.weak [(0, _), (1, _), (4, _), (5, _), (6, _), (7, _), (8, _), (9, _), (10, _), (18, _), (30, _)] ⟨rfl, rfl, rfl, rfl, rfl, rfl, rfl, rfl, rfl, rfl, rfl, trivial⟩ ?_
        refine At.go ?_
        refine Sc.seq ?_
        refine Sc.seq ?_
        refine Sc.region ?_
        refine Sl.calm (Cm.move rfl) rfl ?_
        refine Sl.fork (Cm.notB rfl) rfl (fun h57 => ?_) (fun h57 => ?_)
        ·
          have hne : B ≠ hdB n := fun h => by rw [h] at h57; simp at h57
          have hno : cutS im (q : Int) = none := by rw [hcs, hcp, if_pos hne]
          have hf9 := hF6
          refine Sl.calm (Cm.move rfl) rfl ?_
          refine Sl.skip rfl rfl rfl rfl ?_
          refine Sl.skip rfl rfl rfl rfl ?_
          refine Sl.calm (Cm.pick_t rfl rfl) rfl ?_
          refine Sl.calm (Cm.move rfl) rfl ?_
          refine Sl.skip rfl rfl rfl rfl ?_
          refine Sl.skip rfl rfl rfl rfl ?_
          refine Sl.skip rfl rfl rfl rfl ?_
          refine Sl.skip rfl rfl rfl rfl ?_
          refine Sl.skip rfl rfl rfl rfl ?_
          refine Sl.skip rfl rfl rfl rfl ?_
          refine Sl.calm (Cm.pick_t rfl rfl) rfl ?_
          refine Sl.nil ?_
          refine At.weak [(0, _), (1, _), (4, _), (5, _), (6, _), (7, _), (8, _), (9, _), (10, _), (18, _), (30, _), (69, _)] ⟨rfl, rfl, rfl, rfl, rfl, rfl, rfl, rfl, rfl, rfl, rfl, rfl, trivial⟩ ?_
          refine At.go ?_
          refine Sc.cond_t rfl ?_
          refine Sc.seq ?_
          refine Sc.region ?_
          refine Sl.calm (Cm.build (cs := (ctC none 0 0 0 false 0).toArray) plc168 zc168 rfl (by kernel_rfl)) rfl ?_
          refine Sl.storeAll (vs := ctC none 0 0 0 false 0) agg168 rfl rfl (by exact ctC_one _ _ _ _ _ _) (hf9.obj hg1 id) rfl ?_
          intro w20 hg20 hs20 hf20
          refine Sl.calm (Cm.assign rfl) rfl ?_
          refine Sl.nil ?_
          refine At.weak [(0, _), (1, _), (4, _), (5, _), (6, _), (7, _), (8, _), (9, _), (10, _), (18, _), (30, _), (69, _)] ⟨rfl, rfl, rfl, rfl, rfl, rfl, rfl, rfl, rfl, rfl, rfl, rfl, trivial⟩ ?_
          refine At.go ?_
          refine Sc.ret ?_
          refine At.then_ret ?_
          refine At.retC (cs := ctC none 0 0 0 false 0) rfl agg168 rfl rfl (fun j v hj => cellF hg20 hj) ?_
          exact ⟨_, rfl, fn_none hno ((hf1.trans hf9).trans_to hf20 (fun k hk => .inr (by have h : k = W.heap.size := hk; omega)))⟩
        ·
          have heq : B = hdB n := Classical.byContradiction fun h => h57 (decide_eq_false (fun e => h e.symm))
          rw [if_neg (fun h => h heq)] at hcp
          refine Sl.calm (Cm.move rfl) rfl ?_
          refine Sl.want rfl rfl (Cm.move rfl) rfl ?_
          refine Sl.forkWant rfl rfl (Cm.gtr rfl rfl) rfl (fun h60 => ?_) (fun h60 => ?_)
          ·
            have hno : cutS im (q : Int) = none := by rw [hcs, hcp, if_pos (by omega)]
            have hf9 := hF6
            refine Sl.calm (Cm.pick_f rfl rfl) rfl ?_
            refine Sl.calm (Cm.move rfl) rfl ?_
            refine Sl.skip rfl rfl rfl rfl ?_
            refine Sl.skip rfl rfl rfl rfl ?_
            refine Sl.skip rfl rfl rfl rfl ?_
            refine Sl.skip rfl rfl rfl rfl ?_
            refine Sl.skip rfl rfl rfl rfl ?_
            refine Sl.skip rfl rfl rfl rfl ?_
            refine Sl.calm (Cm.pick_t rfl rfl) rfl ?_
            refine Sl.nil ?_
            refine At.weak [(0, _), (1, _), (4, _), (5, _), (6, _), (7, _), (8, _), (9, _), (10, _), (18, _), (30, _), (69, _)] ⟨rfl, rfl, rfl, rfl, rfl, rfl, rfl, rfl, rfl, rfl, rfl, rfl, trivial⟩ ?_
            refine At.go ?_
            refine Sc.cond_t rfl ?_
            refine Sc.seq ?_
            refine Sc.region ?_
            refine Sl.calm (Cm.build (cs := (ctC none 0 0 0 false 0).toArray) plc168 zc168 rfl (by kernel_rfl)) rfl ?_
            refine Sl.storeAll (vs := ctC none 0 0 0 false 0) agg168 rfl rfl (by exact ctC_one _ _ _ _ _ _) (hf9.obj hg1 id) rfl ?_
            intro w20 hg20 hs20 hf20
            refine Sl.calm (Cm.assign rfl) rfl ?_
            refine Sl.nil ?_
            refine At.weak [(0, _), (1, _), (4, _), (5, _), (6, _), (7, _), (8, _), (9, _), (10, _), (18, _), (30, _), (69, _)] ⟨rfl, rfl, rfl, rfl, rfl, rfl, rfl, rfl, rfl, rfl, rfl, rfl, trivial⟩ ?_
            refine At.go ?_
            refine Sc.ret ?_
            refine At.then_ret ?_
            refine At.retC (cs := ctC none 0 0 0 false 0) rfl agg168 rfl rfl (fun j v hj => cellF hg20 hj) ?_
            exact ⟨_, rfl, fn_none hno ((hf1.trans hf9).trans_to hf20 (fun k hk => .inr (by have h : k = W.heap.size := hk; omega)))⟩
          ·
            refine Sl.calm (Cm.pick_f rfl rfl) rfl ?_
            refine Sl.calm (Cm.move rfl) rfl ?_
            refine Sl.want rfl rfl (Cm.move rfl) rfl ?_
            refine Sl.forkWant rfl rfl (Cm.eql rfl rfl) rfl (fun h64 => ?_) (fun h64 => ?_)
            ·
              refine Sl.want rfl rfl (Cm.move rfl) rfl ?_
              refine Sl.want rfl rfl (Cm.field fld168_2 rfl) rfl ?_
              refine Sl.forkWant rfl rfl (Cm.ofBool (Cm.ld sca4 rfl (cellF hg6 rfl))) rfl (fun h67 => ?_) (fun h67 => ?_)
              ·
                have h67 : 32768 ≤ n := of_decide_eq_true h67
                have hno : cutS im (q : Int) = none := by rw [hcs, hcp, if_pos (by omega)]
                have hf9 := hF6
                refine Sl.want rfl rfl (Cm.pick_t rfl rfl) rfl ?_
                refine Sl.calm (Cm.pick_f rfl rfl) rfl ?_
                refine Sl.nil ?_
                refine At.weak [(0, _), (1, _), (4, _), (5, _), (6, _), (7, _), (8, _), (9, _), (10, _), (18, _), (30, _), (69, _)] ⟨rfl, rfl, rfl, rfl, rfl, rfl, rfl, rfl, rfl, rfl, rfl, rfl, trivial⟩ ?_
                refine At.go ?_
                refine Sc.cond_t rfl ?_
                refine Sc.seq ?_
                refine Sc.region ?_
                refine Sl.calm (Cm.build (cs := (ctC none 0 0 0 false 0).toArray) plc168 zc168 rfl (by kernel_rfl)) rfl ?_
                refine Sl.storeAll (vs := ctC none 0 0 0 false 0) agg168 rfl rfl (by exact ctC_one _ _ _ _ _ _) (hf9.obj hg1 id) rfl ?_
                intro w20 hg20 hs20 hf20
                refine Sl.calm (Cm.assign rfl) rfl ?_
                refine Sl.nil ?_
                refine At.weak [(0, _), (1, _), (4, _), (5, _), (6, _), (7, _), (8, _), (9, _), (10, _), (18, _), (30, _), (69, _)] ⟨rfl, rfl, rfl, rfl, rfl, rfl, rfl, rfl, rfl, rfl, rfl, rfl, trivial⟩ ?_
                refine At.go ?_
                refine Sc.ret ?_
                refine At.then_ret ?_
                refine At.retC (cs := ctC none 0 0 0 false 0) rfl agg168 rfl rfl (fun j v hj => cellF hg20 hj) ?_
                exact ⟨_, rfl, fn_none hno ((hf1.trans hf9).trans_to hf20 (fun k hk => .inr (by have h : k = W.heap.size := hk; omega)))⟩
              ·
                have h67 : ¬ 32768 ≤ n := fun h => h67 (decide_eq_true h)
                refine Sl.want rfl rfl (Cm.pick_t rfl rfl) rfl ?_
                refine Sl.calm (Cm.pick_f rfl rfl) rfl ?_
                refine Sl.nil ?_
                refine At.weak [(0, _), (1, _), (4, _), (5, _), (6, _), (7, _), (8, _), (9, _), (10, _), (18, _), (30, _), (69, _)] ⟨rfl, rfl, rfl, rfl, rfl, rfl, rfl, rfl, rfl, rfl, rfl, rfl, trivial⟩ ?_
                refine At.go ?_
                refine Sc.cond_f rfl ?_
                refine Sc.skip ?_
                refine At.go ?_
                refine Sc.seq ?_
                refine Sc.seq ?_
                refine Sc.region ?_
                refine Sl.calm (Cm.move rfl) rfl ?_
                refine Sl.fork (Cm.gtr rfl rfl) rfl (fun h72 => ?_) (fun h72 => ?_)
                ·
                  rw [if_neg (by omega), if_neg (by omega)] at hcp
                  obtain ⟨tc1, tc2⟩ := two_cut (r := r) (m := m) z3r
                  refine Sl.nil ?_
                  refine At.weak [(0, _), (1, _), (4, _), (5, _), (6, _), (7, _), (8, _), (9, _), (10, _), (18, _), (30, _), (69, _), (72, _)] ⟨rfl, rfl, rfl, rfl, rfl, rfl, rfl, rfl, rfl, rfl, rfl, rfl, rfl, trivial⟩ ?_
                  refine At.go ?_
                  refine Sc.cond_t rfl ?_
                  refine Sc.seq ?_
                  refine Sc.region ?_
                  refine Sl.calm (Cm.move rfl) rfl ?_
                  refine Sl.call fn55 rfl (rdnum_ok p 0 (r.drop 3) 4 w6 hP6 (by rw [List.length_drop]; omega)) rfl ?_
                  rintro _ w7 ⟨rfl, hP7, hf7⟩
                  rw [numE1_good (by decide) (by decide)] at hP7 ⊢
                  have hg7 := hf7.obj hg6 (by omega)
                  have hz7 := hf7.size
                  have hR7 := cutR_len 0 (r.drop 3) 4
                  rw [List.length_drop] at hR7
                  have hvs := valB_small (bs := cutB 0 (r.drop 3) 4) (cutB_len _ _ _)
                  refine Sl.calm (Cm.convI_in (n := ((valB (cutB 0 (r.drop 3) 4) : Nat) : Int)) is3 ty40 rfl (wrapU32 hvs)) rfl ?_
                  refine Sl.calm (Cm.field fld168_1 rfl) rfl ?_
                  refine Sl.store sca40 rfl rfl rfl hg7 rfl ?_
                  intro w8 hg8 hs8 hf8
                  have hP8 := hP7.keep hf8 (fun k hk h => by have h : k = c := h; omega)
                  refine Sl.nil ?_
                  refine At.weak [(0, _), (1, _), (4, _), (5, _), (6, _), (7, _), (8, _), (9, _), (10, _), (18, _), (30, _), (69, _), (72, _)] ⟨rfl, rfl, rfl, rfl, rfl, rfl, rfl, rfl, rfl, rfl, rfl, rfl, rfl, trivial⟩ ?_
                  refine At.go ?_
                  refine Sc.seq ?_
                  refine Sc.region ?_
                  refine Sl.calm (Cm.move rfl) rfl ?_
                  refine Sl.calm (Cm.move rfl) rfl ?_
                  refine Sl.call fn86 rfl (rbyt_ok p _ _ m w8 hP8 (by omega)) rfl ?_
                  rintro _ w9 ⟨x9, xc9, rfl, ho9, hfr9, hP9, hf9a⟩
                  have hg9 := hf9a.obj hg8 (fun h => by have h : c = p := h; omega)
                  have hz9 := hf9a.size
                  refine Sl.calm (Cm.field fld168_0 rfl) rfl ?_
                  refine Sl.store sca25 rfl rfl rfl hg9 rfl ?_
                  intro w10 hg10 hs10 hf10
                  have hP10 := hP9.keep hf10 (fun k hk h => by have h : k = c := h; omega)
                  have ho10 := ho9.keep hf10 (fun a ha h => by have := hfr9 a ha; have h : a.block = c := h; omega)
                  refine Sl.nil ?_
                  refine At.weak [(0, _), (1, _), (4, _), (5, _), (6, _), (7, _), (8, _), (9, _), (10, _), (18, _), (30, _), (69, _), (72, _)] ⟨rfl, rfl, rfl, rfl, rfl, rfl, rfl, rfl, rfl, rfl, rfl, rfl, rfl, trivial⟩ ?_
                  refine At.go ?_
                  refine Sc.region ?_
                  refine Sl.calm (Cm.field fld168_3 rfl) rfl ?_
                  refine Sl.calm (Cm.ld sca3 rfl (cellF hg10 rfl)) rfl ?_
                  refine Sl.calm (Cm.move rfl) rfl ?_
                  refine Sl.calm (Cm.add64 rfl rfl (by omega)) rfl ?_
                  refine Sl.calm (Cm.add64 rfl rfl (by omega)) rfl ?_
                  refine Sl.calm (Cm.field fld168_3 rfl) rfl ?_
                  refine Sl.store sca3 rfl rfl rfl hg10 rfl ?_
                  intro w11 hg11 hs11 hf11
                  have hP11 := hP10.keep hf11 (fun k hk h => by have h : k = c := h; omega)
                  have ho11 := ho10.keep hf11 (fun a ha h => by have := hfr9 a ha; have h : a.block = c := h; omega)
                  have hF11 : Foot nob w1 w11 := ((((hF6.trans_to hf7 (fun k hk => .inr (by have h : k = p := hk; omega))).trans_to hf8 (fun k hk => .inr (by have h : k = c := hk; omega))).trans_to hf9a (fun k hk => .inr (by have h : k = p := hk; omega))).trans_to hf10 (fun k hk => .inr (by have h : k = c := hk; omega))).trans_to hf11 (fun k hk => .inr (by have h : k = c := hk; omega))
                  refine Sl.nil ?_
                  refine At.weak [(0, _), (1, _), (4, _), (5, _), (6, _), (7, _), (8, _), (9, _), (10, _), (18, _), (30, _), (69, _), (72, _)] ⟨rfl, rfl, rfl, rfl, rfl, rfl, rfl, rfl, rfl, rfl, rfl, rfl, rfl, trivial⟩ ?_
                  refine At.go ?_
                  refine Sc.seq ?_
                  refine Sc.seq ?_
                  refine Sc.region ?_
                  refine Sl.calm (Cm.move rfl) rfl ?_
                  refine Sl.calm (Cm.nilCheck rfl) rfl ?_
                  refine Sl.calm (Cm.field fld138_0 rfl) rfl ?_
                  refine Sl.call fn45 rfl (rerr_ok p _ _ w11 hP11) rfl ?_
                  rintro _ wq ⟨rfl, hwq⟩
                  subst wq
                  refine Sl.fork (Cm.neq rfl rfl) rfl (fun h91 => ?_) (fun h91 => ?_)
                  ·
                    have hsh := tc1.1 h91
                    rw [if_pos hsh] at hcp
                    have hno : cutS im (q : Int) = none := by rw [hcs, hcp]
                    have hf9 := hF11
                    refine Sl.nil ?_
                    refine At.weak [(0, _), (1, _), (4, _), (5, _), (6, _), (7, _), (8, _), (9, _), (10, _), (18, _), (30, _), (69, _), (72, _), (91, _)] ⟨rfl, rfl, rfl, rfl, rfl, rfl, rfl, rfl, rfl, rfl, rfl, rfl, rfl, rfl, trivial⟩ ?_
                    refine At.go ?_
                    refine Sc.cond_t rfl ?_
                    refine Sc.seq ?_
                    refine Sc.region ?_
                    refine Sl.calm (Cm.build (cs := (ctC none 0 0 0 false 0).toArray) plc168 zc168 rfl (by kernel_rfl)) rfl ?_
                    refine Sl.storeAll (vs := ctC none 0 0 0 false 0) agg168 rfl rfl (by exact ctC_one _ _ _ _ _ _) (hf9.obj hg1 id) rfl ?_
                    intro w20 hg20 hs20 hf20
                    refine Sl.calm (Cm.assign rfl) rfl ?_
                    refine Sl.nil ?_
                    refine At.weak [(0, _), (1, _), (4, _), (5, _), (6, _), (7, _), (8, _), (9, _), (10, _), (18, _), (30, _), (69, _), (72, _), (91, _)] ⟨rfl, rfl, rfl, rfl, rfl, rfl, rfl, rfl, rfl, rfl, rfl, rfl, rfl, rfl, trivial⟩ ?_
                    refine At.go ?_
                    refine Sc.ret ?_
                    refine At.then_ret ?_
                    refine At.retC (cs := ctC none 0 0 0 false 0) rfl agg168 rfl rfl (fun j v hj => cellF hg20 hj) ?_
                    exact ⟨_, rfl, fn_none hno ((hf1.trans hf9).trans_to hf20 (fun k hk => .inr (by have h : k = W.heap.size := hk; omega)))⟩
                  ·
                    have hsh : ¬ r.length < 7 + m := fun h => h91 (tc1.2 h)
                    rw [if_neg hsh] at hcp
                    obtain ⟨c1, c2⟩ := tc2 hsh
                    rw [c1, c2] at hg11
                    rw [c2] at ho11
                    have hxl : ((r.drop 7).take m).length = m := by rw [List.length_take, List.length_drop]; omega
                    refine Sl.nil ?_
                    refine At.weak [(0, _), (1, _), (4, _), (5, _), (6, _), (7, _), (8, _), (9, _), (10, _), (18, _), (30, _), (69, _), (72, _), (91, _)] ⟨rfl, rfl, rfl, rfl, rfl, rfl, rfl, rfl, rfl, rfl, rfl, rfl, rfl, rfl, trivial⟩ ?_
                    refine At.go ?_
                    refine Sc.cond_f rfl ?_
                    refine Sc.skip ?_
                    refine At.go ?_
                    refine Sc.seq ?_
                    refine Sc.region ?_
                    refine Sl.calm (Cm.ldM (cs := ctC x9 ((r.drop 7).take m).length xc9 (valB ((r.drop 3).take 4)) (decide (32768 ≤ n)) ((q : Int) + 3 + (4 + m))) agg168 rfl (fun j v hj => cellF hg11 hj)) rfl ?_
                    refine Sl.storeAll (vs := ctC x9 ((r.drop 7).take m).length xc9 (valB ((r.drop 3).take 4)) (decide (32768 ≤ n)) ((q : Int) + 3 + (4 + m))) agg168 rfl rfl (by exact ctC_one _ _ _ _ _ _) (hF11.obj hg1 id) rfl ?_
                    intro w20 hg20 hs20 hf20
                    refine Sl.calm (Cm.assign rfl) rfl ?_
                    refine Sl.nil ?_
                    refine At.weak [(0, _), (1, _), (4, _), (5, _), (6, _), (7, _), (8, _), (9, _), (10, _), (18, _), (30, _), (69, _), (72, _), (91, _)] ⟨rfl, rfl, rfl, rfl, rfl, rfl, rfl, rfl, rfl, rfl, rfl, rfl, rfl, rfl, trivial⟩ ?_
                    refine At.go ?_
                    refine Sc.ret ?_
                    refine At.retC (cs := ctC x9 ((r.drop 7).take m).length xc9 (valB ((r.drop 3).take 4)) (decide (32768 ≤ n)) ((q : Int) + 3 + (4 + m))) rfl agg168 rfl rfl (fun j v hj => cellF hg20 hj) ?_
                    refine ⟨_, rfl, (hf1.trans hF11).trans_to hf20 (fun k hk => .inr (by have h : k = W.heap.size := hk; omega)), ?_⟩
                    rw [hcs, hcp]
                    refine ⟨x9, xc9, ?_, ho11.keep hf20 (fun a ha h => by have := hfr9 a ha; have h : a.block = W.heap.size := h; omega), fun a ha => by have := hfr9 a ha; omega⟩
                    rw [show (q : Int) + lenF ((r.drop 7).take m) = (q : Int) + 3 + (4 + m) by unfold lenF; rw [hxl, if_neg (by omega)]; omega]
                ·
                  rw [if_neg (by omega), if_pos (by omega)] at hcp
                  refine Sl.nil ?_
                  refine At.weak [(0, _), (1, _), (4, _), (5, _), (6, _), (7, _), (8, _), (9, _), (10, _), (18, _), (30, _), (69, _), (72, _)] ⟨rfl, rfl, rfl, rfl, rfl, rfl, rfl, rfl, rfl, rfl, rfl, rfl, rfl, trivial⟩ ?_
                  refine At.go ?_
                  refine Sc.cond_f rfl ?_
                  refine Sc.skip ?_
                  refine At.go ?_
                  refine Sc.seq ?_
                  refine Sc.seq ?_
                  refine Sc.region ?_
                  refine Sl.calm (Cm.move rfl) rfl ?_
                  refine Sl.calm (Cm.nilCheck rfl) rfl ?_
                  refine Sl.calm (Cm.field fld138_0 rfl) rfl ?_
                  refine Sl.call fn45 rfl (rerr_ok p _ _ w6 hP6) rfl ?_
                  rintro _ wq ⟨rfl, hwq⟩
                  subst wq
                  refine Sl.calm (Cm.no (Cm.neq rfl rfl) (fun h => h rfl)) rfl ?_
                  refine Sl.nil ?_
                  refine At.weak [(0, _), (1, _), (4, _), (5, _), (6, _), (7, _), (8, _), (9, _), (10, _), (18, _), (30, _), (69, _), (72, _), (91, _)] ⟨rfl, rfl, rfl, rfl, rfl, rfl, rfl, rfl, rfl, rfl, rfl, rfl, rfl, rfl, trivial⟩ ?_
                  refine At.go ?_
                  refine Sc.cond_f rfl ?_
                  refine Sc.skip ?_
                  refine At.go ?_
                  refine Sc.seq ?_
                  refine Sc.region ?_
                  refine Sl.calm (Cm.ldM (cs := ctC none 0 0 0 (decide (32768 ≤ n)) ((q : Int) + 3)) agg168 rfl (fun j v hj => cellF hg6 hj)) rfl ?_
                  refine Sl.storeAll (vs := ctC none 0 0 0 (decide (32768 ≤ n)) ((q : Int) + 3)) agg168 rfl rfl (by exact ctC_one _ _ _ _ _ _) (hF6.obj hg1 id) rfl ?_
                  intro w20 hg20 hs20 hf20
                  refine Sl.calm (Cm.assign rfl) rfl ?_
                  refine Sl.nil ?_
                  refine At.weak [(0, _), (1, _), (4, _), (5, _), (6, _), (7, _), (8, _), (9, _), (10, _), (18, _), (30, _), (69, _), (72, _), (91, _)] ⟨rfl, rfl, rfl, rfl, rfl, rfl, rfl, rfl, rfl, rfl, rfl, rfl, rfl, rfl, trivial⟩ ?_
                  refine At.go ?_
                  refine Sc.ret ?_
                  refine At.retC (cs := ctC none 0 0 0 (decide (32768 ≤ n)) ((q : Int) + 3)) rfl agg168 rfl rfl (fun j v hj => cellF hg20 hj) ?_
                  have hmz : decide (32768 ≤ n) = false := decide_eq_false (by omega)
                  refine ⟨_, rfl, (hf1.trans hF6).trans_to hf20 (fun k hk => .inr (by have h : k = W.heap.size := hk; omega)), ?_⟩
                  rw [hcs, hcp, hmz]
                  exact ⟨none, 0, rfl, Own.nil, Fr.none⟩
            ·
              refine Sl.want rfl rfl (Cm.move rfl) rfl ?_
              refine Sl.skip rfl rfl rfl rfl ?_
              refine Sl.skip rfl rfl rfl rfl ?_
              refine Sl.want rfl rfl (Cm.pick_f rfl rfl) rfl ?_
              refine Sl.calm (Cm.pick_f rfl rfl) rfl ?_
              refine Sl.nil ?_
              refine At.weak [(0, _), (1, _), (4, _), (5, _), (6, _), (7, _), (8, _), (9, _), (10, _), (18, _), (30, _), (69, _)] ⟨rfl, rfl, rfl, rfl, rfl, rfl, rfl, rfl, rfl, rfl, rfl, rfl, trivial⟩ ?_
              refine At.go ?_
              refine Sc.cond_f rfl ?_
              refine Sc.skip ?_
              refine At.go ?_
              refine Sc.seq ?_
              refine Sc.seq ?_
              refine Sc.region ?_
              refine Sl.calm (Cm.move rfl) rfl ?_
              refine Sl.fork (Cm.gtr rfl rfl) rfl (fun h72 => ?_) (fun h72 => ?_)
              ·
                rw [if_neg (by omega), if_neg (by omega)] at hcp
                obtain ⟨tc1, tc2⟩ := two_cut (r := r) (m := m) z3r
                refine Sl.nil ?_
                refine At.weak [(0, _), (1, _), (4, _), (5, _), (6, _), (7, _), (8, _), (9, _), (10, _), (18, _), (30, _), (69, _), (72, _)] ⟨rfl, rfl, rfl, rfl, rfl, rfl, rfl, rfl, rfl, rfl, rfl, rfl, rfl, trivial⟩ ?_
                refine At.go ?_
                refine Sc.cond_t rfl ?_
                refine Sc.seq ?_
                refine Sc.region ?_
                refine Sl.calm (Cm.move rfl) rfl ?_
                refine Sl.call fn55 rfl (rdnum_ok p 0 (r.drop 3) 4 w6 hP6 (by rw [List.length_drop]; omega)) rfl ?_
                rintro _ w7 ⟨rfl, hP7, hf7⟩
                rw [numE1_good (by decide) (by decide)] at hP7 ⊢
                have hg7 := hf7.obj hg6 (by omega)
                have hz7 := hf7.size
                have hR7 := cutR_len 0 (r.drop 3) 4
                rw [List.length_drop] at hR7
                have hvs := valB_small (bs := cutB 0 (r.drop 3) 4) (cutB_len _ _ _)
                refine Sl.calm (Cm.convI_in (n := ((valB (cutB 0 (r.drop 3) 4) : Nat) : Int)) is3 ty40 rfl (wrapU32 hvs)) rfl ?_
                refine Sl.calm (Cm.field fld168_1 rfl) rfl ?_
                refine Sl.store sca40 rfl rfl rfl hg7 rfl ?_
                intro w8 hg8 hs8 hf8
                have hP8 := hP7.keep hf8 (fun k hk h => by have h : k = c := h; omega)
                refine Sl.nil ?_
                refine At.weak [(0, _), (1, _), (4, _), (5, _), (6, _), (7, _), (8, _), (9, _), (10, _), (18, _), (30, _), (69, _), (72, _)] ⟨rfl, rfl, rfl, rfl, rfl, rfl, rfl, rfl, rfl, rfl, rfl, rfl, rfl, trivial⟩ ?_
                refine At.go ?_
                refine Sc.seq ?_
                refine Sc.region ?_
                refine Sl.calm (Cm.move rfl) rfl ?_
                refine Sl.calm (Cm.move rfl) rfl ?_
                refine Sl.call fn86 rfl (rbyt_ok p _ _ m w8 hP8 (by omega)) rfl ?_
                rintro _ w9 ⟨x9, xc9, rfl, ho9, hfr9, hP9, hf9a⟩
                have hg9 := hf9a.obj hg8 (fun h => by have h : c = p := h; omega)
                have hz9 := hf9a.size
                refine Sl.calm (Cm.field fld168_0 rfl) rfl ?_
                refine Sl.store sca25 rfl rfl rfl hg9 rfl ?_
                intro w10 hg10 hs10 hf10
                have hP10 := hP9.keep hf10 (fun k hk h => by have h : k = c := h; omega)
                have ho10 := ho9.keep hf10 (fun a ha h => by have := hfr9 a ha; have h : a.block = c := h; omega)
                refine Sl.nil ?_
                refine At.weak [(0, _), (1, _), (4, _), (5, _), (6, _), (7, _), (8, _), (9, _), (10, _), (18, _), (30, _), (69, _), (72, _)] ⟨rfl, rfl, rfl, rfl, rfl, rfl, rfl, rfl, rfl, rfl, rfl, rfl, rfl, trivial⟩ ?_
                refine At.go ?_
                refine Sc.region ?_
                refine Sl.calm (Cm.field fld168_3 rfl) rfl ?_
                refine Sl.calm (Cm.ld sca3 rfl (cellF hg10 rfl)) rfl ?_
                refine Sl.calm (Cm.move rfl) rfl ?_
                refine Sl.calm (Cm.add64 rfl rfl (by omega)) rfl ?_
                refine Sl.calm (Cm.add64 rfl rfl (by omega)) rfl ?_
                refine Sl.calm (Cm.field fld168_3 rfl) rfl ?_
                refine Sl.store sca3 rfl rfl rfl hg10 rfl ?_
                intro w11 hg11 hs11 hf11
                have hP11 := hP10.keep hf11 (fun k hk h => by have h : k = c := h; omega)
                have ho11 := ho10.keep hf11 (fun a ha h => by have := hfr9 a ha; have h : a.block = c := h; omega)
                have hF11 : Foot nob w1 w11 := ((((hF6.trans_to hf7 (fun k hk => .inr (by have h : k = p := hk; omega))).trans_to hf8 (fun k hk => .inr (by have h : k = c := hk; omega))).trans_to hf9a (fun k hk => .inr (by have h : k = p := hk; omega))).trans_to hf10 (fun k hk => .inr (by have h : k = c := hk; omega))).trans_to hf11 (fun k hk => .inr (by have h : k = c := hk; omega))
                refine Sl.nil ?_
                refine At.weak [(0, _), (1, _), (4, _), (5, _), (6, _), (7, _), (8, _), (9, _), (10, _), (18, _), (30, _), (69, _), (72, _)] ⟨rfl, rfl, rfl, rfl, rfl, rfl, rfl, rfl, rfl, rfl, rfl, rfl, rfl, trivial⟩ ?_
                refine At.go ?_
                refine Sc.seq ?_
                refine Sc.seq ?_
                refine Sc.region ?_
                refine Sl.calm (Cm.move rfl) rfl ?_
                refine Sl.calm (Cm.nilCheck rfl) rfl ?_
                refine Sl.calm (Cm.field fld138_0 rfl) rfl ?_
                refine Sl.call fn45 rfl (rerr_ok p _ _ w11 hP11) rfl ?_
                rintro _ wq ⟨rfl, hwq⟩
                subst wq
                refine Sl.fork (Cm.neq rfl rfl) rfl (fun h91 => ?_) (fun h91 => ?_)
                ·
                  have hsh := tc1.1 h91
                  rw [if_pos hsh] at hcp
                  have hno : cutS im (q : Int) = none := by rw [hcs, hcp]
                  have hf9 := hF11
                  refine Sl.nil ?_
                  refine At.weak [(0, _), (1, _), (4, _), (5, _), (6, _), (7, _), (8, _), (9, _), (10, _), (18, _), (30, _), (69, _), (72, _), (91, _)] ⟨rfl, rfl, rfl, rfl, rfl, rfl, rfl, rfl, rfl, rfl, rfl, rfl, rfl, rfl, trivial⟩ ?_
                  refine At.go ?_
                  refine Sc.cond_t rfl ?_
                  refine Sc.seq ?_
                  refine Sc.region ?_
                  refine Sl.calm (Cm.build (cs := (ctC none 0 0 0 false 0).toArray) plc168 zc168 rfl (by kernel_rfl)) rfl ?_
                  refine Sl.storeAll (vs := ctC none 0 0 0 false 0) agg168 rfl rfl (by exact ctC_one _ _ _ _ _ _) (hf9.obj hg1 id) rfl ?_
                  intro w20 hg20 hs20 hf20
                  refine Sl.calm (Cm.assign rfl) rfl ?_
                  refine Sl.nil ?_
                  refine At.weak [(0, _), (1, _), (4, _), (5, _), (6, _), (7, _), (8, _), (9, _), (10, _), (18, _), (30, _), (69, _), (72, _), (91, _)] ⟨rfl, rfl, rfl, rfl, rfl, rfl, rfl, rfl, rfl, rfl, rfl, rfl, rfl, rfl, trivial⟩ ?_
                  refine At.go ?_
                  refine Sc.ret ?_
                  refine At.then_ret ?_
                  refine At.retC (cs := ctC none 0 0 0 false 0) rfl agg168 rfl rfl (fun j v hj => cellF hg20 hj) ?_
                  exact ⟨_, rfl, fn_none hno ((hf1.trans hf9).trans_to hf20 (fun k hk => .inr (by have h : k = W.heap.size := hk; omega)))⟩
                ·
                  have hsh : ¬ r.length < 7 + m := fun h => h91 (tc1.2 h)
                  rw [if_neg hsh] at hcp
                  obtain ⟨c1, c2⟩ := tc2 hsh
                  rw [c1, c2] at hg11
                  rw [c2] at ho11
                  have hxl : ((r.drop 7).take m).length = m := by rw [List.length_take, List.length_drop]; omega
                  refine Sl.nil ?_
                  refine At.weak [(0, _), (1, _), (4, _), (5, _), (6, _), (7, _), (8, _), (9, _), (10, _), (18, _), (30, _), (69, _), (72, _), (91, _)] ⟨rfl, rfl, rfl, rfl, rfl, rfl, rfl, rfl, rfl, rfl, rfl, rfl, rfl, rfl, trivial⟩ ?_
                  refine At.go ?_
                  refine Sc.cond_f rfl ?_
                  refine Sc.skip ?_
                  refine At.go ?_
                  refine Sc.seq ?_
                  refine Sc.region ?_
                  refine Sl.calm (Cm.ldM (cs := ctC x9 ((r.drop 7).take m).length xc9 (valB ((r.drop 3).take 4)) (decide (32768 ≤ n)) ((q : Int) + 3 + (4 + m))) agg168 rfl (fun j v hj => cellF hg11 hj)) rfl ?_
                  refine Sl.storeAll (vs := ctC x9 ((r.drop 7).take m).length xc9 (valB ((r.drop 3).take 4)) (decide (32768 ≤ n)) ((q : Int) + 3 + (4 + m))) agg168 rfl rfl (by exact ctC_one _ _ _ _ _ _) (hF11.obj hg1 id) rfl ?_
                  intro w20 hg20 hs20 hf20
                  refine Sl.calm (Cm.assign rfl) rfl ?_
                  refine Sl.nil ?_
                  refine At.weak [(0, _), (1, _), (4, _), (5, _), (6, _), (7, _), (8, _), (9, _), (10, _), (18, _), (30, _), (69, _), (72, _), (91, _)] ⟨rfl, rfl, rfl, rfl, rfl, rfl, rfl, rfl, rfl, rfl, rfl, rfl, rfl, rfl, trivial⟩ ?_
                  refine At.go ?_
                  refine Sc.ret ?_
                  refine At.retC (cs := ctC x9 ((r.drop 7).take m).length xc9 (valB ((r.drop 3).take 4)) (decide (32768 ≤ n)) ((q : Int) + 3 + (4 + m))) rfl agg168 rfl rfl (fun j v hj => cellF hg20 hj) ?_
                  refine ⟨_, rfl, (hf1.trans hF11).trans_to hf20 (fun k hk => .inr (by have h : k = W.heap.size := hk; omega)), ?_⟩
                  rw [hcs, hcp]
                  refine ⟨x9, xc9, ?_, ho11.keep hf20 (fun a ha h => by have := hfr9 a ha; have h : a.block = W.heap.size := h; omega), fun a ha => by have := hfr9 a ha; omega⟩
                  rw [show (q : Int) + lenF ((r.drop 7).take m) = (q : Int) + 3 + (4 + m) by unfold lenF; rw [hxl, if_neg (by omega)]; omega]
              ·
                rw [if_neg (by omega), if_pos (by omega)] at hcp
                refine Sl.nil ?_
                refine At.weak [(0, _), (1, _), (4, _), (5, _), (6, _), (7, _), (8, _), (9, _), (10, _), (18, _), (30, _), (69, _), (72, _)] ⟨rfl, rfl, rfl, rfl, rfl, rfl, rfl, rfl, rfl, rfl, rfl, rfl, rfl, trivial⟩ ?_
                refine At.go ?_
                refine Sc.cond_f rfl ?_
                refine Sc.skip ?_
                refine At.go ?_
                refine Sc.seq ?_
                refine Sc.seq ?_
                refine Sc.region ?_
                refine Sl.calm (Cm.move rfl) rfl ?_
                refine Sl.calm (Cm.nilCheck rfl) rfl ?_
                refine Sl.calm (Cm.field fld138_0 rfl) rfl ?_
                refine Sl.call fn45 rfl (rerr_ok p _ _ w6 hP6) rfl ?_
                rintro _ wq ⟨rfl, hwq⟩
                subst wq
                refine Sl.calm (Cm.no (Cm.neq rfl rfl) (fun h => h rfl)) rfl ?_
                refine Sl.nil ?_
                refine At.weak [(0, _), (1, _), (4, _), (5, _), (6, _), (7, _), (8, _), (9, _), (10, _), (18, _), (30, _), (69, _), (72, _), (91, _)] ⟨rfl, rfl, rfl, rfl, rfl, rfl, rfl, rfl, rfl, rfl, rfl, rfl, rfl, rfl, trivial⟩ ?_
                refine At.go ?_
                refine Sc.cond_f rfl ?_
                refine Sc.skip ?_
                refine At.go ?_
                refine Sc.seq ?_
                refine Sc.region ?_
                refine Sl.calm (Cm.ldM (cs := ctC none 0 0 0 (decide (32768 ≤ n)) ((q : Int) + 3)) agg168 rfl (fun j v hj => cellF hg6 hj)) rfl ?_
                refine Sl.storeAll (vs := ctC none 0 0 0 (decide (32768 ≤ n)) ((q : Int) + 3)) agg168 rfl rfl (by exact ctC_one _ _ _ _ _ _) (hF6.obj hg1 id) rfl ?_
                intro w20 hg20 hs20 hf20
                refine Sl.calm (Cm.assign rfl) rfl ?_
                refine Sl.nil ?_
                refine At.weak [(0, _), (1, _), (4, _), (5, _), (6, _), (7, _), (8, _), (9, _), (10, _), (18, _), (30, _), (69, _), (72, _), (91, _)] ⟨rfl, rfl, rfl, rfl, rfl, rfl, rfl, rfl, rfl, rfl, rfl, rfl, rfl, rfl, trivial⟩ ?_
                refine At.go ?_
                refine Sc.ret ?_
                refine At.retC (cs := ctC none 0 0 0 (decide (32768 ≤ n)) ((q : Int) + 3)) rfl agg168 rfl rfl (fun j v hj => cellF hg20 hj) ?_
                have hmz : decide (32768 ≤ n) = false := decide_eq_false (by omega)
                refine ⟨_, rfl, (hf1.trans hF6).trans_to hf20 (fun k hk => .inr (by have h : k = W.heap.size := hk; omega)), ?_⟩
                rw [hcs, hcp, hmz]
                exact ⟨none, 0, rfl, Own.nil, Fr.none⟩
end Go.Proofs.Ytoaplldahbbaiaa
/- frame: Take, Skip: the program's. No condition beyond the bounds that each states. -/
namespace Go.Proofs.Ytoaplldahbbaiaa
open Go Go.RowKit
set_option linter.unusedVariables false

theorem fnP_any {W w' : World} {im : List UInt8} {a : Int} {v : Value} (h : FnP W im a v w') : ∃ po pc x s st nx e, v = .tuple #[.agg (ctC po x.length pc s st nx).toArray, .int .i64 e] ∧ Own b8 5 w'.heap po pc x ∧ Fr W.heap.size po ∧ Foot nob W w' ∧
    (e ≠ 0 → e = 2 ∧ nx = 0 ∧ cutS im a = none) ∧ (e = 0 → cutS im a = some (x, s, st) ∧ nx = a + lenF x) := by
  obtain ⟨hf, h⟩ := h
  split at h
  · rename_i hc
    exact ⟨none, 0, [], 0, false, 0, 2, h, Own.nil, Fr.none, hf, fun _ => ⟨rfl, rfl, hc⟩, fun h => by cases h⟩
  · rename_i x s st hc
    obtain ⟨po, pc, h1, h2, h3⟩ := h
    exact ⟨po, pc, x, s, st, _, 0, h1, h2, h3, hf, fun h => absurd rfl h, fun _ => ⟨hc, rfl⟩⟩
def TkFP (W : World) (r : List UInt8 × Int × Int) : Value → World → Prop := fun v w' => ∃ o c, v = .tuple #[.slice o r.1.length c, .int .i64 r.2.1, .int .i64 r.2.2] ∧ Own b8 5 w'.heap o c r.1 ∧ Fr W.heap.size o ∧ Foot nob W w'
theorem takeS_none {im : List UInt8} {a : Int} (h : cutS im a = none) : takeS im a = ([], 0, 2) := by unfold takeS takeC; rw [h]; rfl
section
variable {im : List UInt8} {a : Int} {x : List UInt8} {s : Nat} {st : Bool} (h : cutS im a = some (x, s, st))
include h
theorem takeS_empty (h0 : x.length = 0) : takeS im a = ([], a + lenF x, 0) := by
  unfold takeS takeC
  rw [h]
  simp only
  rw [if_pos h0]
  simp [lenF, h0]
theorem takeS_sum (h0 : ¬ x.length = 0) (h1 : sumS x ≠ s) : takeS im a = ([], 0, 2) := by
  unfold takeS takeC
  rw [h]
  simp only
  rw [if_neg h0, if_pos h1]; rfl
theorem takeS_stored (h0 : ¬ x.length = 0) (h1 : ¬ sumS x ≠ s) (h2 : st = true) : takeS im a = (x, a + lenF x, 0) := by
  unfold takeS takeC
  rw [h]
  simp only
  rw [if_neg h0, if_neg h1, if_pos h2]; rfl
theorem takeS_bad (h0 : ¬ x.length = 0) (h1 : ¬ sumS x ≠ s) (h2 : ¬ st = true) (h3 : (up 128 x []).2 ≠ 0 ∨ (up 128 x []).1.length = 0) : takeS im a = ([], 0, 2) := by
  unfold takeS takeC
  rw [h]
  simp only
  rw [if_neg h0, if_neg h1, if_neg h2, if_pos h3]; rfl
theorem takeS_lz (h0 : ¬ x.length = 0) (h1 : ¬ sumS x ≠ s) (h2 : ¬ st = true) (h3 : ¬ ((up 128 x []).2 ≠ 0 ∨ (up 128 x []).1.length = 0)) : takeS im a = ((up 128 x []).1, a + lenF x, 0) := by
  unfold takeS takeC
  rw [h]
  simp only
  rw [if_neg h0, if_neg h1, if_neg h2, if_neg h3]; rfl
end
theorem upS_128 (x : List UInt8) : upS x 128 = up 128 x [] := by unfold upS; rw [if_neg (by decide)]
theorem cutP_len {r x : List UInt8} {s : Nat} {st : Bool} (h : cutP r = some (x, s, st)) : x.length ≤ 128 ∧ s < 4294967296 := by
  unfold cutP at h
  split at h
  · cases h
  · split at h
    · cases h
    · split at h
      · cases h
      · split at h
        · cases h; simp
        · split at h
          · cases h
          · cases h
            exact ⟨by rw [List.length_take]; omega, valB_small (by rw [List.length_take]; omega)⟩
theorem cutS_len {im : List UInt8} {a : Int} {x : List UInt8} {s : Nat} {st : Bool} (h : cutS im a = some (x, s, st)) : x.length ≤ 128 ∧ s < 4294967296 := by
  unfold cutS at h
  split at h
  · cases h
  · exact cutP_len h

set_option maxHeartbeats 2000000 in
theorem ftake_ok (p : Nat) (io : Option Addr) (ic : Nat) (im : List UInt8) (a : Int) (W : World) (ht : TbV W.heap p) (hv : Vw b8 W.heap io ic im) (hb : im.length ≤ 1099511627776) (ha : a ≤ 9223372036854775807) :
    Calls Try.prog 103 [.pointer (some ⟨p, 0, none⟩), .slice io im.length ic, .int .i64 a].toArray W (Ret (TkFP W (takeS im a))) := by
  refine calls_of_sc 58 [(0, _), (1, _), (2, _)] Try.func103 rfl rfl rfl (enter_slots ⟨rfl, rfl, rfl, trivial⟩) ?_
  refine Sc.seq ?_
  refine Sc.region ?_
  refine Sl.calm (Cm.assign rfl) rfl ?_
  refine Sl.calm (Cm.assign rfl) rfl ?_
  refine Sl.calm (Cm.assign rfl) rfl ?_
  refine Sl.nil ?_
  refine At.go ?_
  refine Sc.seq ?_
  refine Sc.region ?_
  refine Sl.calm (Cm.move rfl) rfl ?_
  refine Sl.calm (Cm.move rfl) rfl ?_
  refine Sl.call fn112 rfl (find_ok io ic im a W hv hb ha) rfl ?_
  intro _ w1 hR
  obtain ⟨po, pc, x, s, st, nx, e, rfl, ho1, hfr1, hf1, hE0, hE1⟩ := fnP_any hR
  refine Sl.calm (Cm.move rfl) rfl ?_
  refine Sl.calm (Cm.extract rfl rfl) rfl ?_
  refine Sl.calm (Cm.extract rfl rfl) rfl ?_
  refine Sl.allocC zc168 rfl ?_
  intro w2 hg2 hs2 hf2
  refine Sl.storeAll (vs := ctC po x.length pc s st nx) agg168 rfl rfl (by exact ctC_one _ _ _ _ _ _) hg2 rfl ?_
  intro w3 hg3 hs3 hf3
  obtain ⟨q, hq⟩ : ∃ q, q = w1.heap.size := ⟨_, rfl⟩
  rw [← hq] at hg3 ⊢
  have hz1 := hf1.size
  have hF3 : Foot nob W w3 := (hf1.trans hf2).trans_to hf3 (fun k hk => .inr (by have h : k = w1.heap.size := hk; omega))
  have ho3 := (ho1.grow hf2).keep hf3 (fun b hb h => by have := ho1.lt b hb; have h : b.block = w1.heap.size := h; omega)
  have ht3 : TbV w3.heap p := hF3.obj ht id
  refine Sl.calm (Cm.assign rfl) rfl ?_
  refine Sl.nil ?_
  refine At.weak [(0, _), (1, _), (2, _), (6, _), (7, _), (8, _), (9, _)] ⟨rfl, rfl, rfl, rfl, rfl, rfl, rfl, trivial⟩ ?_
  refine At.go ?_
  refine Sc.seq ?_
  refine Sc.block ?_
  refine Sc.seq ?_
  refine Sc.region ?_
  refine Sl.calm (Cm.move rfl) rfl ?_
  refine Sl.fork (Cm.neq rfl rfl) rfl (fun h18 => ?_) (fun h18 => ?_)
  ·
    obtain ⟨he2, hnx, hcs⟩ := hE0 h18
    have hT := takeS_none hcs
    refine Sl.calm (Cm.assign rfl) rfl ?_
    refine Sl.nil ?_
    refine At.weak [(0, _), (1, _), (2, _), (6, _), (7, _), (8, _), (9, _), (16, _)] ⟨rfl, rfl, rfl, rfl, rfl, rfl, rfl, rfl, trivial⟩ ?_
    refine At.go ?_
    refine Sc.cond_t rfl ?_
    refine Sc.seq ?_
    refine Sc.region ?_
    refine Sl.calm (Cm.move rfl) rfl ?_
    refine Sl.calm (Cm.assign rfl) rfl ?_
    refine Sl.calm (Cm.assign rfl) rfl ?_
    refine Sl.calm (Cm.assign rfl) rfl ?_
    refine Sl.nil ?_
    refine At.weak [(0, _), (1, _), (2, _), (6, _), (7, _), (8, _), (9, _), (16, _)] ⟨rfl, rfl, rfl, rfl, rfl, rfl, rfl, rfl, trivial⟩ ?_
    refine At.go ?_
    refine Sc.ret ?_
    refine At.block_ret ?_
    refine At.then_ret ?_
    refine At.ret3 rfl rfl rfl rfl ?_
    rw [hT]
    first
      | exact ⟨_, rfl, none, 0, by rw [he2]; rfl, Own.nil, Fr.none, hF3⟩
      | exact ⟨_, rfl, none, 0, by rw [hnx]; rfl, Own.nil, Fr.none, hF3⟩
      | exact ⟨_, rfl, none, 0, by rw [hnx]; rfl, Own.nil, Fr.none, hF3.draws 1⟩
      | exact ⟨_, rfl, none, 0, rfl, Own.nil, Fr.none, hF3.draws 1⟩
      | exact ⟨_, rfl, po, pc, by rw [hnx], ho3, hfr1, (hF3.draws 1).draws 1⟩
      | exact ⟨_, rfl, none, 0, rfl, Own.nil, Fr.none, hF3.trans hf5⟩
      | exact ⟨_, rfl, o5, c5, by rw [hnx], ho5, fun b hb => Nat.le_trans hF3.size (hfr5 b hb), (hF3.trans hf5).draws 1⟩
  ·
    have he : e = 0 := Decidable.not_not.1 h18
    obtain ⟨hcs, hnx⟩ := hE1 he
    obtain ⟨hxl, hsl⟩ := cutS_len hcs
    refine Sl.calm (Cm.assign rfl) rfl ?_
    refine Sl.nil ?_
    refine At.weak [(0, _), (1, _), (2, _), (6, _), (7, _), (8, _), (9, _), (16, _)] ⟨rfl, rfl, rfl, rfl, rfl, rfl, rfl, rfl, trivial⟩ ?_
    refine At.go ?_
    refine Sc.cond_f rfl ?_
    refine Sc.seq ?_
    refine Sc.region ?_
    refine Sl.calm (Cm.field fld168_0 rfl) rfl ?_
    refine Sl.calm (Cm.ld sca25 rfl (cellF hg3 rfl)) rfl ?_
    refine Sl.calm (Cm.len sl25 rfl) rfl ?_
    refine Sl.fork (Cm.eql rfl rfl) rfl (fun h24 => ?_) (fun h24 => ?_)
    ·
      have hT := takeS_empty hcs (by omega)
      have hx0 : x = [] := List.eq_nil_of_length_eq_zero (by omega)
      refine Sl.calm (Cm.assign rfl) rfl ?_
      refine Sl.nil ?_
      refine At.weak [(0, _), (1, _), (2, _), (6, _), (7, _), (8, _), (9, _), (16, _), (20, _)] ⟨rfl, rfl, rfl, rfl, rfl, rfl, rfl, rfl, rfl, trivial⟩ ?_
      refine At.go ?_
      refine Sc.cond_t rfl ?_
      refine Sc.seq ?_
      refine Sc.quiet 5 [0, 1, 2, 3, 4] mixed (by kernel_rfl) ?_
      refine Sx.calm rfl rfl (Cm.field fld168_3 rfl) rfl ?_
      refine Sx.calm rfl rfl (Cm.ld sca3 rfl (cellF hg3 rfl)) rfl ?_
      refine Sx.calm rfl rfl (Cm.assign rfl) rfl ?_
      refine Sx.calm rfl rfl (Cm.assign rfl) rfl ?_
      refine Sx.calm rfl rfl (Cm.assign rfl) rfl ?_
      refine Sx.nil ?_
      refine At.weak [(0, _), (1, _), (2, _), (6, _), (7, _), (8, _), (9, _), (16, _), (20, _)] ⟨rfl, rfl, rfl, rfl, rfl, rfl, rfl, rfl, rfl, trivial⟩ ?_
      refine At.go ?_
      refine Sc.ret ?_
      refine At.block_ret ?_
      refine At.then_ret ?_
      refine At.ret3 rfl rfl rfl rfl ?_
      rw [hT]
      first
        | exact ⟨_, rfl, none, 0, by rw [he2]; rfl, Own.nil, Fr.none, hF3⟩
        | exact ⟨_, rfl, none, 0, by rw [hnx]; rfl, Own.nil, Fr.none, hF3⟩
        | exact ⟨_, rfl, none, 0, by rw [hnx]; rfl, Own.nil, Fr.none, hF3.draws 1⟩
        | exact ⟨_, rfl, none, 0, rfl, Own.nil, Fr.none, hF3.draws 1⟩
        | exact ⟨_, rfl, po, pc, by rw [hnx], ho3, hfr1, (hF3.draws 1).draws 1⟩
        | exact ⟨_, rfl, none, 0, rfl, Own.nil, Fr.none, hF3.trans hf5⟩
        | exact ⟨_, rfl, o5, c5, by rw [hnx], ho5, fun b hb => Nat.le_trans hF3.size (hfr5 b hb), (hF3.trans hf5).draws 1⟩
    ·
      have hx0 : ¬ x.length = 0 := by omega
      refine Sl.calm (Cm.assign rfl) rfl ?_
      refine Sl.nil ?_
      refine At.weak [(0, _), (1, _), (2, _), (6, _), (7, _), (8, _), (9, _), (16, _), (20, _)] ⟨rfl, rfl, rfl, rfl, rfl, rfl, rfl, rfl, rfl, trivial⟩ ?_
      refine At.go ?_
      refine Sc.cond_f rfl ?_
      refine Sc.seq ?_
      refine Sc.draw 8 (fun H => H[q]? = some (.cells (ctC po x.length pc s st nx).toArray 168 (0, 0))) [3] [0, 1, 2, 4, 5, 3, 6, 7] mixed (by kernel_rfl) (hg3) ?_
      refine Sx.calm rfl rfl (Cm.move rfl) rfl ?_
      refine Sx.calm rfl rfl (Cm.field fld168_0 rfl) rfl ?_
      refine Sx.calm rfl rfl (Cm.load sca25 rfl (fun H hH => cellF hH rfl)) rfl ?_
      refine Sx.calm rfl rfl (Cm.field fld168_1 rfl) rfl ?_
      refine Sx.calm rfl rfl (Cm.load sca40 rfl (fun H hH => cellF hH rfl)) rfl ?_
      refine Sx.eff rfl rfl (Sl.call fn99 rfl (sum_ok p po pc x _ ht3 ho3.vw) rfl ?_)
      rintro _ wq ⟨rfl, hwq⟩
      subst wq
      refine Sx.on (by exact hg3) ?_
      refine Sx.fork rfl rfl (Cm.neq rfl rfl) rfl (fun h34 => ?_) (fun h34 => ?_)
      ·
        have hT := takeS_sum hcs hx0 (fun h => h34 (by rw [h]))
        refine Sx.calm rfl rfl (Cm.assign rfl) rfl ?_
        refine Sx.nil ?_
        refine At.weak [(0, _), (1, _), (2, _), (6, _), (7, _), (8, _), (9, _), (16, _), (20, _), (27, _)] ⟨rfl, rfl, rfl, rfl, rfl, rfl, rfl, rfl, rfl, rfl, trivial⟩ ?_
        refine At.go ?_
        refine Sc.cond_t rfl ?_
        refine Sc.seq ?_
        refine Sc.region ?_
        refine Sl.calm (Cm.assign rfl) rfl ?_
        refine Sl.calm (Cm.assign rfl) rfl ?_
        refine Sl.calm (Cm.assign rfl) rfl ?_
        refine Sl.nil ?_
        refine At.go ?_
        refine Sc.ret ?_
        refine At.block_ret ?_
        refine At.then_ret ?_
        refine At.ret3 rfl rfl rfl rfl ?_
        rw [hT]
        first
          | exact ⟨_, rfl, none, 0, by rw [he2]; rfl, Own.nil, Fr.none, hF3⟩
          | exact ⟨_, rfl, none, 0, by rw [hnx]; rfl, Own.nil, Fr.none, hF3⟩
          | exact ⟨_, rfl, none, 0, by rw [hnx]; rfl, Own.nil, Fr.none, hF3.draws 1⟩
          | exact ⟨_, rfl, none, 0, rfl, Own.nil, Fr.none, hF3.draws 1⟩
          | exact ⟨_, rfl, po, pc, by rw [hnx], ho3, hfr1, (hF3.draws 1).draws 1⟩
          | exact ⟨_, rfl, none, 0, rfl, Own.nil, Fr.none, hF3.trans hf5⟩
          | exact ⟨_, rfl, o5, c5, by rw [hnx], ho5, fun b hb => Nat.le_trans hF3.size (hfr5 b hb), (hF3.trans hf5).draws 1⟩
      ·
        have hsum : ¬ sumS x ≠ s := fun h => h34 (fun h2 => h (by omega))
        refine Sx.calm rfl rfl (Cm.assign rfl) rfl ?_
        refine Sx.nil ?_
        refine At.weak [(0, _), (1, _), (2, _), (6, _), (7, _), (8, _), (9, _), (16, _), (20, _), (27, _)] ⟨rfl, rfl, rfl, rfl, rfl, rfl, rfl, rfl, rfl, rfl, trivial⟩ ?_
        refine At.go ?_
        refine Sc.cond_f rfl ?_
        refine Sc.seq ?_
        refine Sc.region ?_
        refine Sl.calm (Cm.field fld168_2 rfl) rfl ?_
        refine Sl.fork (Cm.ofBool (Cm.ld sca4 rfl (cellF hg3 rfl))) rfl (fun h37 => ?_) (fun h37 => ?_)
        ·
          have hT := takeS_stored hcs hx0 hsum h37
          refine Sl.calm (Cm.assign rfl) rfl ?_
          refine Sl.nil ?_
          refine At.weak [(0, _), (1, _), (2, _), (6, _), (7, _), (8, _), (9, _), (16, _), (20, _), (27, _), (35, _)] ⟨rfl, rfl, rfl, rfl, rfl, rfl, rfl, rfl, rfl, rfl, rfl, trivial⟩ ?_
          refine At.go ?_
          refine Sc.cond_t rfl ?_
          refine Sc.seq ?_
          refine Sc.quiet 7 [0, 1, 2, 3, 4, 5, 6] mixed (by kernel_rfl) ?_
          refine Sx.calm rfl rfl (Cm.field fld168_0 rfl) rfl ?_
          refine Sx.calm rfl rfl (Cm.ld sca25 rfl (cellF hg3 rfl)) rfl ?_
          refine Sx.calm rfl rfl (Cm.field fld168_3 rfl) rfl ?_
          refine Sx.calm rfl rfl (Cm.ld sca3 rfl (cellF hg3 rfl)) rfl ?_
          refine Sx.calm rfl rfl (Cm.assign rfl) rfl ?_
          refine Sx.calm rfl rfl (Cm.assign rfl) rfl ?_
          refine Sx.calm rfl rfl (Cm.assign rfl) rfl ?_
          refine Sx.nil ?_
          refine At.weak [(0, _), (1, _), (2, _), (6, _), (7, _), (8, _), (9, _), (16, _), (20, _), (27, _), (35, _)] ⟨rfl, rfl, rfl, rfl, rfl, rfl, rfl, rfl, rfl, rfl, rfl, trivial⟩ ?_
          refine At.go ?_
          refine Sc.ret ?_
          refine At.block_ret ?_
          refine At.then_ret ?_
          refine At.ret3 rfl rfl rfl rfl ?_
          rw [hT]
          first
            | exact ⟨_, rfl, none, 0, by rw [he2]; rfl, Own.nil, Fr.none, hF3⟩
            | exact ⟨_, rfl, none, 0, by rw [hnx]; rfl, Own.nil, Fr.none, hF3⟩
            | exact ⟨_, rfl, none, 0, by rw [hnx]; rfl, Own.nil, Fr.none, hF3.draws 1⟩
            | exact ⟨_, rfl, none, 0, rfl, Own.nil, Fr.none, hF3.draws 1⟩
            | exact ⟨_, rfl, po, pc, by rw [hnx], ho3, hfr1, (hF3.draws 1).draws 1⟩
            | exact ⟨_, rfl, none, 0, rfl, Own.nil, Fr.none, hF3.trans hf5⟩
            | exact ⟨_, rfl, o5, c5, by rw [hnx], ho5, fun b hb => Nat.le_trans hF3.size (hfr5 b hb), (hF3.trans hf5).draws 1⟩
        ·
          refine Sl.calm (Cm.assign rfl) rfl ?_
          refine Sl.nil ?_
          refine At.weak [(0, _), (1, _), (2, _), (6, _), (7, _), (8, _), (9, _), (16, _), (20, _), (27, _), (35, _)] ⟨rfl, rfl, rfl, rfl, rfl, rfl, rfl, rfl, rfl, rfl, rfl, trivial⟩ ?_
          refine At.go ?_
          refine Sc.cond_f rfl ?_
          refine Sc.skip ?_
          refine At.block_normal ?_
          refine At.go ?_
          refine Sc.seq ?_
          refine Sc.region ?_
          refine Sl.calm (Cm.field fld168_0 rfl) rfl ?_
          refine Sl.calm (Cm.ld sca25 rfl (cellF hg3 rfl)) rfl ?_
          refine Sl.call fn113 rfl (unpack_ok po pc x 128 _ ho3.vw (by omega) (by decide)) rfl ?_
          rw [upS_128]
          rintro _ w5 ⟨o5, c5, rfl, ho5, hfr5, hf5⟩
          have hf5 := hf5.undraw
          have hg5 := hf5.obj hg3 id
          refine Sl.calm (Cm.move rfl) rfl ?_
          refine Sl.calm (Cm.extract rfl rfl) rfl ?_
          refine Sl.calm (Cm.extract rfl rfl) rfl ?_
          refine Sl.calm (Cm.assign rfl) rfl ?_
          refine Sl.calm (Cm.assign rfl) rfl ?_
          refine Sl.nil ?_
          refine At.weak [(0, _), (1, _), (2, _), (6, _), (7, _), (8, _), (9, _), (16, _), (20, _), (27, _), (35, _)] ⟨rfl, rfl, rfl, rfl, rfl, rfl, rfl, rfl, rfl, rfl, rfl, trivial⟩ ?_
          refine At.go ?_
          refine Sc.seq ?_
          refine Sc.seq ?_
          refine Sc.region ?_
          refine Sl.calm (Cm.move rfl) rfl ?_
          refine Sl.fork (Cm.neq rfl rfl) rfl (fun h49 => ?_) (fun h49 => ?_)
          ·
            have hT := takeS_bad hcs hx0 hsum h37 (.inl h49)
            refine Sl.calm (Cm.move rfl) rfl ?_
            refine Sl.skip rfl rfl rfl rfl ?_
            refine Sl.skip rfl rfl rfl rfl ?_
            refine Sl.skip rfl rfl rfl rfl ?_
            refine Sl.calm (Cm.pick_t rfl rfl) rfl ?_
            refine Sl.nil ?_
            refine At.weak [(0, _), (1, _), (2, _), (6, _), (7, _), (8, _), (9, _), (16, _), (20, _), (27, _), (35, _), (54, _)] ⟨rfl, rfl, rfl, rfl, rfl, rfl, rfl, rfl, rfl, rfl, rfl, rfl, trivial⟩ ?_
            refine At.go ?_
            refine Sc.cond_t rfl ?_
            refine Sc.seq ?_
            refine Sc.region ?_
            refine Sl.calm (Cm.assign rfl) rfl ?_
            refine Sl.calm (Cm.assign rfl) rfl ?_
            refine Sl.calm (Cm.assign rfl) rfl ?_
            refine Sl.nil ?_
            refine At.go ?_
            refine Sc.ret ?_
            refine At.then_ret ?_
            refine At.ret3 rfl rfl rfl rfl ?_
            rw [hT]
            first
              | exact ⟨_, rfl, none, 0, by rw [he2]; rfl, Own.nil, Fr.none, hF3⟩
              | exact ⟨_, rfl, none, 0, by rw [hnx]; rfl, Own.nil, Fr.none, hF3⟩
              | exact ⟨_, rfl, none, 0, by rw [hnx]; rfl, Own.nil, Fr.none, hF3.draws 1⟩
              | exact ⟨_, rfl, none, 0, rfl, Own.nil, Fr.none, hF3.draws 1⟩
              | exact ⟨_, rfl, po, pc, by rw [hnx], ho3, hfr1, (hF3.draws 1).draws 1⟩
              | exact ⟨_, rfl, none, 0, rfl, Own.nil, Fr.none, hF3.trans hf5⟩
              | exact ⟨_, rfl, o5, c5, by rw [hnx], ho5, fun b hb => Nat.le_trans hF3.size (hfr5 b hb), (hF3.trans hf5).draws 1⟩
          ·
            have hu0 : (up 128 x []).2 = 0 := Decidable.not_not.1 h49
            refine Sl.calm (Cm.move rfl) rfl ?_
            refine Sl.want rfl rfl (Cm.move rfl) rfl ?_
            refine Sl.want rfl rfl (Cm.len sl25 rfl) rfl ?_
            refine Sl.forkWant rfl rfl (Cm.eql rfl rfl) rfl (fun h53 => ?_) (fun h53 => ?_)
            ·
              have hT := takeS_bad hcs hx0 hsum h37 (.inr (by omega))
              refine Sl.calm (Cm.pick_f rfl rfl) rfl ?_
              refine Sl.nil ?_
              refine At.weak [(0, _), (1, _), (2, _), (6, _), (7, _), (8, _), (9, _), (16, _), (20, _), (27, _), (35, _), (54, _)] ⟨rfl, rfl, rfl, rfl, rfl, rfl, rfl, rfl, rfl, rfl, rfl, rfl, trivial⟩ ?_
              refine At.go ?_
              refine Sc.cond_t rfl ?_
              refine Sc.seq ?_
              refine Sc.region ?_
              refine Sl.calm (Cm.assign rfl) rfl ?_
              refine Sl.calm (Cm.assign rfl) rfl ?_
              refine Sl.calm (Cm.assign rfl) rfl ?_
              refine Sl.nil ?_
              refine At.go ?_
              refine Sc.ret ?_
              refine At.then_ret ?_
              refine At.ret3 rfl rfl rfl rfl ?_
              rw [hT]
              first
                | exact ⟨_, rfl, none, 0, by rw [he2]; rfl, Own.nil, Fr.none, hF3⟩
                | exact ⟨_, rfl, none, 0, by rw [hnx]; rfl, Own.nil, Fr.none, hF3⟩
                | exact ⟨_, rfl, none, 0, by rw [hnx]; rfl, Own.nil, Fr.none, hF3.draws 1⟩
                | exact ⟨_, rfl, none, 0, rfl, Own.nil, Fr.none, hF3.draws 1⟩
                | exact ⟨_, rfl, po, pc, by rw [hnx], ho3, hfr1, (hF3.draws 1).draws 1⟩
                | exact ⟨_, rfl, none, 0, rfl, Own.nil, Fr.none, hF3.trans hf5⟩
                | exact ⟨_, rfl, o5, c5, by rw [hnx], ho5, fun b hb => Nat.le_trans hF3.size (hfr5 b hb), (hF3.trans hf5).draws 1⟩
            ·
              have hT := takeS_lz hcs hx0 hsum h37 (by rintro (h | h); exact h hu0; omega)
              refine Sl.calm (Cm.pick_f rfl rfl) rfl ?_
              refine Sl.nil ?_
              refine At.weak [(0, _), (1, _), (2, _), (6, _), (7, _), (8, _), (9, _), (16, _), (20, _), (27, _), (35, _), (54, _)] ⟨rfl, rfl, rfl, rfl, rfl, rfl, rfl, rfl, rfl, rfl, rfl, rfl, trivial⟩ ?_
              refine At.go ?_
              refine Sc.cond_f rfl ?_
              refine Sc.skip ?_
              refine At.go ?_
              refine Sc.seq ?_
              refine Sc.quiet 6 [0, 1, 2, 3, 4, 5] mixed (by kernel_rfl) ?_
              refine Sx.calm rfl rfl (Cm.move rfl) rfl ?_
              refine Sx.calm rfl rfl (Cm.field fld168_3 rfl) rfl ?_
              refine Sx.calm rfl rfl (Cm.ld sca3 rfl (cellF hg5 rfl)) rfl ?_
              refine Sx.calm rfl rfl (Cm.assign rfl) rfl ?_
              refine Sx.calm rfl rfl (Cm.assign rfl) rfl ?_
              refine Sx.calm rfl rfl (Cm.assign rfl) rfl ?_
              refine Sx.nil ?_
              refine At.weak [(0, _), (1, _), (2, _), (6, _), (7, _), (8, _), (9, _), (16, _), (20, _), (27, _), (35, _), (54, _)] ⟨rfl, rfl, rfl, rfl, rfl, rfl, rfl, rfl, rfl, rfl, rfl, rfl, trivial⟩ ?_
              refine At.go ?_
              refine Sc.ret ?_
              refine At.ret3 rfl rfl rfl rfl ?_
              rw [hT]
              first
                | exact ⟨_, rfl, none, 0, by rw [he2]; rfl, Own.nil, Fr.none, hF3⟩
                | exact ⟨_, rfl, none, 0, by rw [hnx]; rfl, Own.nil, Fr.none, hF3⟩
                | exact ⟨_, rfl, none, 0, by rw [hnx]; rfl, Own.nil, Fr.none, hF3.draws 1⟩
                | exact ⟨_, rfl, none, 0, rfl, Own.nil, Fr.none, hF3.draws 1⟩
                | exact ⟨_, rfl, po, pc, by rw [hnx], ho3, hfr1, (hF3.draws 1).draws 1⟩
                | exact ⟨_, rfl, none, 0, rfl, Own.nil, Fr.none, hF3.trans hf5⟩
                | exact ⟨_, rfl, o5, c5, by rw [hnx], ho5, fun b hb => Nat.le_trans hF3.size (hfr5 b hb), (hF3.trans hf5).draws 1⟩
theorem skipS_none {im : List UInt8} {a : Int} (h : cutS im a = none) : skipS im a = (0, 2) := by unfold skipS; rw [h]
theorem skipS_some {im : List UInt8} {a : Int} {x : List UInt8} {s : Nat} {st : Bool} (h : cutS im a = some (x, s, st)) : skipS im a = (a + lenF x, 0) := by unfold skipS; rw [h]
end Go.Proofs.Ytoaplldahbbaiaa
/- frame: the reference's. No condition beyond the bounds that each states. -/
namespace Go.Proofs.Ytoaplldahbbaiaa
open Go Go.RowKit
set_option linter.unusedVariables false

theorem comp8 : ∀ x, x < 256 → 255 - x = 255 ^^^ x := by decide +kernel
theorem sub8 {x : Nat} (h : x < 256) : IntKind.u8.wrap (255 - (x : Int)) = ((255 ^^^ x : Nat) : Int) := by
  rw [← comp8 x h, show (255 : Int) - (x : Int) = ((255 - x : Nat) : Int) by omega, wrapU8 (by omega)]
theorem rhead_ok (n : Nat) (W : World) (hn : n < 65536) : Calls Try.prog 129 [.int .i64 n].toArray W (Ret fun v w' => ∃ o c, v = .slice o (hdB n).length c ∧ Own b8 5 w'.heap o c (hdB n) ∧ Fr W.heap.size o ∧ Foot nob W w') := by
  refine calls_of_sc 17 [(0, _)] Try.func129 rfl rfl rfl (enter_slots ⟨rfl, trivial⟩) ?_
  refine Sc.seq ?_
  refine Sc.region ?_
  refine Sl.calm (Cm.assign rfl) rfl ?_
  refine Sl.nil ?_
  refine At.go ?_
  refine Sc.seq ?_
  refine Sc.region ?_
  refine Sl.calm (Cm.move rfl) rfl ?_
  refine Sl.calm (Cm.convI_in (n := ((n % 256 : Nat) : Int)) is3 ty5 rfl (wrap8m n)) rfl ?_
  refine Sl.calm (Cm.assign rfl) rfl ?_
  refine Sl.nil ?_
  refine At.weak [(0, _), (2, _), (3, _)] ⟨rfl, rfl, rfl, trivial⟩ ?_
  refine At.go ?_
  refine Sc.seq ?_
  refine Sc.region ?_
  refine Sl.calm (Cm.move rfl) rfl ?_
  refine Sl.calm (Cm.ofEq (u := .int .i64 ((n / 256 : Nat) : Int)) (Cm.shr rfl rfl (by omega)) (by rw [hv_div])) rfl ?_
  refine Sl.calm (Cm.convI_in (n := ((n / 256 % 256 : Nat) : Int)) is3 ty5 rfl (wrap8m _)) rfl ?_
  refine Sl.calm (Cm.assign rfl) rfl ?_
  refine Sl.nil ?_
  refine At.weak [(0, _), (2, _), (3, _), (4, _)] ⟨rfl, rfl, rfl, rfl, trivial⟩ ?_
  refine At.go ?_
  refine Sc.seq ?_
  refine Sc.region ?_
  refine Sl.calm (Cm.move rfl) rfl ?_
  refine Sl.calm (Cm.move rfl) rfl ?_
  refine Sl.calm (Cm.move rfl) rfl ?_
  refine Sl.calm (Cm.move rfl) rfl ?_
  refine Sl.calm (Cm.xor8 rfl rfl (by omega) (by omega)) rfl ?_
  refine Sl.calm (Cm.ofEq (u := .int .u8 ((255 ^^^ ((n % 256) ^^^ (n / 256 % 256)) : Nat) : Int)) (Cm.subW rfl rfl) (by rw [sub8 (xor_lt8 (by omega) (by omega))])) rfl ?_
  refine Sl.litG sl25 (cs := (hdV n).toArray) zc5 rfl rfl rfl (by kernel_rfl) rfl ?_
  intro w1 hg1 hs1 hf1
  rw [hdV_eq] at hg1
  refine Sl.calm (Cm.assign rfl) rfl ?_
  refine Sl.nil ?_
  refine At.weak [(0, _), (2, _), (3, _), (4, _)] ⟨rfl, rfl, rfl, rfl, trivial⟩ ?_
  refine At.go ?_
  refine Sc.ret ?_
  refine At.ret1 rfl rfl ?_
  exact ⟨_, rfl, _, 3, rfl, own_new (xs := hdB n) hg1 (by rw [hdB_len]; unfold maxLen; decide), fr_at _, hf1⟩

def RcP (W : World) (im : List UInt8) (a : Int) : Value → World → Prop := fun v w' => ∃ o c x s st nx e, v = .tuple #[.slice o x.length c, .int .i64 ((s : Nat) : Int), .bool st, .int .i64 nx, .int .i64 e] ∧ Own b8 5 w'.heap o c x ∧ Fr W.heap.size o ∧ Foot nob W w' ∧
    (e ≠ 0 → e = 2 ∧ nx = 0 ∧ cutS im a = none) ∧ (e = 0 → cutS im a = some (x, s, st) ∧ nx = a + lenF x)
theorem rc_none {W w' : World} {im : List UInt8} {a : Int} (h : cutS im a = none) (hf : Foot nob W w') : RcP W im a (.tuple #[.slice none 0 0, .int .i64 0, .bool false, .int .i64 0, .int .i64 2]) w' :=
  ⟨none, 0, [], 0, false, 0, 2, rfl, Own.nil, Fr.none, hf, fun _ => ⟨rfl, rfl, h⟩, fun h => by cases h⟩

set_option maxHeartbeats 2000000 in
theorem rcut_ok (io : Option Addr) (ic : Nat) (im : List UInt8) (a : Int) (W : World) (hv : Vw b8 W.heap io ic im) (hb : im.length ≤ 1099511627776) (ha : a ≤ 9223372036854775807) :
    Calls Try.prog 114 [.slice io im.length ic, .int .i64 a].toArray W (Ret (RcP W im a)) := by
  have hle := hv.le
  refine calls_of_sc 77 [(0, _), (1, _)] Try.func114 rfl rfl rfl (enter_slots ⟨rfl, rfl, trivial⟩) ?_
  refine Sc.seq ?_
  refine Sc.region ?_
  refine Sl.calm (Cm.assign rfl) rfl ?_
  refine Sl.calm (Cm.assign rfl) rfl ?_
  refine Sl.calm (Cm.assign rfl) rfl ?_
  refine Sl.calm (Cm.assign rfl) rfl ?_
  refine Sl.calm (Cm.assign rfl) rfl ?_
  refine Sl.nil ?_
  refine At.go ?_
  refine Sc.seq ?_
  refine Sc.seq ?_
  refine Sc.region ?_
  refine Sl.calm (Cm.move rfl) rfl ?_
  refine Sl.fork (Cm.lss rfl rfl) rfl (fun h16 => ?_) (fun h16 => ?_)
  ·
    have hno : cutS im a = none := by unfold cutS; rw [if_pos (by omega)]
    have hf9 : Foot nob W W := Foot.refl _ _
    refine Sl.calm (Cm.move rfl) rfl ?_
    refine Sl.skip rfl rfl rfl rfl ?_
    refine Sl.skip rfl rfl rfl rfl ?_
    refine Sl.skip rfl rfl rfl rfl ?_
    refine Sl.skip rfl rfl rfl rfl ?_
    refine Sl.calm (Cm.pick_t rfl rfl) rfl ?_
    refine Sl.nil ?_
    refine At.weak [(0, _), (1, _), (4, _), (5, _), (6, _), (7, _), (8, _), (22, _)] ⟨rfl, rfl, rfl, rfl, rfl, rfl, rfl, rfl, trivial⟩ ?_
    refine At.go ?_
    refine Sc.cond_t rfl ?_
    refine Sc.seq ?_
    refine Sc.region ?_
    refine Sl.calm (Cm.assign rfl) rfl ?_
    refine Sl.calm (Cm.assign rfl) rfl ?_
    refine Sl.calm (Cm.assign rfl) rfl ?_
    refine Sl.calm (Cm.assign rfl) rfl ?_
    refine Sl.calm (Cm.assign rfl) rfl ?_
    refine Sl.nil ?_
    refine At.go ?_
    refine Sc.ret ?_
    refine At.then_ret ?_
    refine At.ret5 rfl rfl rfl rfl rfl rfl ?_
    first
      | exact ⟨_, rfl, rc_none hno hf9⟩
      | exact ⟨_, rfl, none, 0, [], 0, false, _, 0, rfl, Own.nil, Fr.none, hF4, fun h => absurd rfl h, fun _ => ⟨by rw [hcs, hcp], rfl⟩⟩
      | (refine ⟨_, rfl, x9, xc9, (r.drop 7).take m, valB ((r.drop 3).take 4), decide (32768 ≤ n), _, 0, ?_, ho9, fun b hb => by have := hfr9 b hb; omega, hF9, fun h => absurd rfl h, fun _ => ⟨by rw [hcs, hcp], rfl⟩⟩
         rw [show (q : Int) + lenF ((r.drop 7).take m) = (q : Int) + 7 + m by unfold lenF; rw [hxl, if_neg (by omega)]; omega, show decide ((32768 : Int) ≤ n) = decide (32768 ≤ n) by congr 1; simp; omega])
  ·
    refine Sl.calm (Cm.move rfl) rfl ?_
    refine Sl.want rfl rfl (Cm.move rfl) rfl ?_
    refine Sl.want rfl rfl (Cm.move rfl) rfl ?_
    refine Sl.want rfl rfl (Cm.len sl25 rfl) rfl ?_
    refine Sl.forkWant rfl rfl (Cm.gtr rfl rfl) rfl (fun h21 => ?_) (fun h21 => ?_)
    ·
      have hno : cutS im a = none := by unfold cutS; rw [if_pos (by omega)]
      have hf9 : Foot nob W W := Foot.refl _ _
      refine Sl.calm (Cm.pick_f rfl rfl) rfl ?_
      refine Sl.nil ?_
      refine At.weak [(0, _), (1, _), (4, _), (5, _), (6, _), (7, _), (8, _), (22, _)] ⟨rfl, rfl, rfl, rfl, rfl, rfl, rfl, rfl, trivial⟩ ?_
      refine At.go ?_
      refine Sc.cond_t rfl ?_
      refine Sc.seq ?_
      refine Sc.region ?_
      refine Sl.calm (Cm.assign rfl) rfl ?_
      refine Sl.calm (Cm.assign rfl) rfl ?_
      refine Sl.calm (Cm.assign rfl) rfl ?_
      refine Sl.calm (Cm.assign rfl) rfl ?_
      refine Sl.calm (Cm.assign rfl) rfl ?_
      refine Sl.nil ?_
      refine At.go ?_
      refine Sc.ret ?_
      refine At.then_ret ?_
      refine At.ret5 rfl rfl rfl rfl rfl rfl ?_
      first
        | exact ⟨_, rfl, rc_none hno hf9⟩
        | exact ⟨_, rfl, none, 0, [], 0, false, _, 0, rfl, Own.nil, Fr.none, hF4, fun h => absurd rfl h, fun _ => ⟨by rw [hcs, hcp], rfl⟩⟩
        | (refine ⟨_, rfl, x9, xc9, (r.drop 7).take m, valB ((r.drop 3).take 4), decide (32768 ≤ n), _, 0, ?_, ho9, fun b hb => by have := hfr9 b hb; omega, hF9, fun h => absurd rfl h, fun _ => ⟨by rw [hcs, hcp], rfl⟩⟩
           rw [show (q : Int) + lenF ((r.drop 7).take m) = (q : Int) + 7 + m by unfold lenF; rw [hxl, if_neg (by omega)]; omega, show decide ((32768 : Int) ≤ n) = decide (32768 ≤ n) by congr 1; simp; omega])
    ·
      obtain ⟨q, rfl⟩ : ∃ q : Nat, a = q := ⟨a.toNat, by omega⟩
      have hcs : cutS im (q : Int) = cutP (im.drop q) := by unfold cutS; rw [if_neg (by omega)]; rfl
      obtain ⟨r, hr⟩ : ∃ r, r = im.drop q := ⟨_, rfl⟩
      have hrl : r.length = im.length - q := by rw [hr, List.length_drop]
      have hvr : Vw b8 W.heap (cutAo io ic q 1) (ic - q) r := by have := hv.cut (l := q) (h := im.length) (m := ic) (by omega) (Nat.le_refl _) hle (Nat.le_refl _); rw [List.take_of_length_le (by simp)] at this; rw [hr]; exact this
      rw [← hr] at hcs
      refine Sl.calm (Cm.pick_f rfl rfl) rfl ?_
      refine Sl.nil ?_
      refine At.weak [(0, _), (1, _), (4, _), (5, _), (6, _), (7, _), (8, _), (22, _)] ⟨rfl, rfl, rfl, rfl, rfl, rfl, rfl, rfl, trivial⟩ ?_
      refine At.go ?_
      refine Sc.cond_f rfl ?_
      refine Sc.skip ?_
      refine At.go ?_
      refine Sc.seq ?_
      refine Sc.region ?_
      refine Sl.calm (Cm.move rfl) rfl ?_
      refine Sl.calm (Cm.move rfl) rfl ?_
      refine Sl.calm (Cm.ofEq (u := .slice (cutAo io ic q 1) r.length (ic - q)) (Cm.sliceL sl25 rfl rfl (by omega)) (by rw [hrl]; rfl)) rfl ?_
      refine Sl.calm (Cm.build (cs := #[.slice (cutAo io ic q 1) r.length (ic - q), .int .i64 0]) plc106 zc106 rfl (by kernel_rfl)) rfl ?_
      refine Sl.allocC zc106 rfl ?_
      intro w1 hg1 hs1 hf1
      refine Sl.storeAll (vs := [.slice (cutAo io ic q 1) r.length (ic - q), .int .i64 0]) agg106 rfl rfl (by simp [Value.oneCell']) hg1 rfl ?_
      intro w2 hg2 hs2 hf2
      obtain ⟨p, hp⟩ : ∃ p, p = W.heap.size := ⟨_, rfl⟩
      have hF2 : Foot nob W w2 := hf1.trans_to hf2 (fun k hk => .inr (by have h : k = W.heap.size := hk; omega))
      rw [← hp] at hg2 ⊢
      have hP2 : RdR (fun k => k = p ∨ blk (cutAo io ic q 1) k) w2.heap p 0 r := ⟨cutAo io ic q 1, ic - q, hg2, hvr.grow hF2, .inl rfl, fun h0 => ⟨fun h => by have := vw_lt hvr h0 _ h; omega, fun k hk => .inr hk⟩⟩
      have hz2 := hF2.size
      have hlp := hP2.lt
      refine Sl.nil ?_
      refine At.weak [(0, _), (1, _), (4, _), (5, _), (6, _), (7, _), (8, _), (9, _), (22, _)] ⟨rfl, rfl, rfl, rfl, rfl, rfl, rfl, rfl, rfl, trivial⟩ ?_
      refine At.go ?_
      refine Sc.seq ?_
      refine Sc.region ?_
      refine Sl.call fn88 rfl (rrbyt_ok p 0 r 3 w2 hP2 (by omega)) rfl ?_
      rintro _ w3 ⟨h3, hc3, rfl, ho3, hfr3, hP3, hf3⟩
      have hz3 := hf3.size
      have hF3 : Foot nob W w3 := hF2.trans_to hf3 (fun k hk => .inr (by have h : k = p := hk; omega))
      refine Sl.calm (Cm.assign rfl) rfl ?_
      refine Sl.nil ?_
      refine At.weak [(0, _), (1, _), (4, _), (5, _), (6, _), (7, _), (8, _), (9, _), (10, _), (22, _)] ⟨rfl, rfl, rfl, rfl, rfl, rfl, rfl, rfl, rfl, rfl, trivial⟩ ?_
      refine At.go ?_
      refine Sc.seq ?_
      refine Sc.seq ?_
      refine Sc.region ?_
      refine Sl.calm (Cm.field fld106_1 rfl) rfl ?_
      have hP3o := hP3
      obtain ⟨ra, rc, hobj3, hrv3, hrap3⟩ := hP3o
      refine Sl.calm (Cm.ld sca26 rfl (cellF hobj3 rfl)) rfl ?_
      refine Sl.fork (Cm.neq rfl rfl) rfl (fun h30 => ?_) (fun h30 => ?_)
      ·
        have hsh : r.length < 3 := Classical.byContradiction fun h => h30 (cutE_good (by omega) (by omega))
        have hno : cutS im (q : Int) = none := by rw [hcs]; unfold cutP; rw [if_pos hsh]
        have hf9 := hF3
        refine Sl.nil ?_
        refine At.weak [(0, _), (1, _), (4, _), (5, _), (6, _), (7, _), (8, _), (9, _), (10, _), (22, _), (30, _)] ⟨rfl, rfl, rfl, rfl, rfl, rfl, rfl, rfl, rfl, rfl, rfl, trivial⟩ ?_
        refine At.go ?_
        refine Sc.cond_t rfl ?_
        refine Sc.seq ?_
        refine Sc.region ?_
        refine Sl.calm (Cm.assign rfl) rfl ?_
        refine Sl.calm (Cm.assign rfl) rfl ?_
        refine Sl.calm (Cm.assign rfl) rfl ?_
        refine Sl.calm (Cm.assign rfl) rfl ?_
        refine Sl.calm (Cm.assign rfl) rfl ?_
        refine Sl.nil ?_
        refine At.go ?_
        refine Sc.ret ?_
        refine At.then_ret ?_
        refine At.ret5 rfl rfl rfl rfl rfl rfl ?_
        first
          | exact ⟨_, rfl, rc_none hno hf9⟩
          | exact ⟨_, rfl, none, 0, [], 0, false, _, 0, rfl, Own.nil, Fr.none, hF4, fun h => absurd rfl h, fun _ => ⟨by rw [hcs, hcp], rfl⟩⟩
          | (refine ⟨_, rfl, x9, xc9, (r.drop 7).take m, valB ((r.drop 3).take 4), decide (32768 ≤ n), _, 0, ?_, ho9, fun b hb => by have := hfr9 b hb; omega, hF9, fun h => absurd rfl h, fun _ => ⟨by rw [hcs, hcp], rfl⟩⟩
             rw [show (q : Int) + lenF ((r.drop 7).take m) = (q : Int) + 7 + m by unfold lenF; rw [hxl, if_neg (by omega)]; omega, show decide ((32768 : Int) ≤ n) = decide (32768 ≤ n) by congr 1; simp; omega])
      ·
        have hE3 : cutE 0 r 3 = 0 := Decidable.not_not.1 h30
        obtain ⟨z1, z2, z3⟩ := cutE_zero hE3
        have z3r : 3 ≤ r.length := by omega
        obtain ⟨cb, cr⟩ := cutB_good hE3
        rw [cb] at ho3
        rw [hE3, cr] at hP3
        have hl3 : (r.take (Int.toNat 3)).length = 3 := by rw [List.length_take]; omega
        rw [cb]
        obtain ⟨B, hB⟩ : ∃ B, B = r.take (Int.toNat 3) := ⟨_, rfl⟩
        rw [← hB] at ho3 hl3 ⊢
        have hg0 : B.getD 0 0 = r.getD 0 0 := by rw [hB, List.getD, List.getD, List.getElem?_take]; rfl
        have hg1b : B.getD 1 0 = r.getD 1 0 := by rw [hB, List.getD, List.getD, List.getElem?_take]; rfl
        obtain ⟨b0, hb0⟩ : ∃ x, x = (r.getD 0 0).toNat := ⟨_, rfl⟩
        obtain ⟨b1, hb1⟩ : ∃ x, x = (r.getD 1 0).toNat := ⟨_, rfl⟩
        have hb0l : b0 < 256 := by have := (r.getD 0 0).toNat_lt; omega
        have hb1l : b1 < 256 := by have := (r.getD 1 0).toNat_lt; omega
        have hcp : cutP r = _ := rfl
        conv at hcp => rhs; unfold cutP
        rw [← hb0, ← hb1, if_neg (show ¬ r.length < 3 by omega), show r.take 3 = B from hB.symm] at hcp
        obtain ⟨n, hn⟩ : ∃ n, n = b0 + 256 * b1 := ⟨_, rfl⟩
        rw [← hn] at hcp
        have hnl : n < 65536 := by omega
        refine Sl.nil ?_
        refine At.weak [(0, _), (1, _), (4, _), (5, _), (6, _), (7, _), (8, _), (9, _), (10, _), (22, _), (30, _)] ⟨rfl, rfl, rfl, rfl, rfl, rfl, rfl, rfl, rfl, rfl, rfl, trivial⟩ ?_
        refine At.go ?_
        refine Sc.cond_f rfl ?_
        refine Sc.skip ?_
        refine At.go ?_
        refine Sc.seq ?_
        refine Sc.quiet 11 [0, 1, 2, 3, 4, 5, 6, 7, 8, 9, 10] mixed (by kernel_rfl) ?_
        refine Sx.calm rfl rfl (Cm.move rfl) rfl ?_
        refine Sx.calm rfl rfl (Cm.indexAddr1 sl25 rfl rfl ho3.vw.non (by omega)) rfl ?_
        refine Sx.calm rfl rfl (Cm.ld sca5 rfl (ho3.vw.gz 0 0 rfl (by omega))) rfl ?_
        refine Sx.calm rfl rfl (Cm.convI_in (n := (b0 : Int)) is5 ty3 rfl (by rw [hg0, ← hb0]; exact wrap64_id (by omega))) rfl ?_
        refine Sx.calm rfl rfl (Cm.move rfl) rfl ?_
        refine Sx.calm rfl rfl (Cm.indexAddr1 sl25 rfl rfl ho3.vw.non (by omega)) rfl ?_
        refine Sx.calm rfl rfl (Cm.ld sca5 rfl (ho3.vw.gz 0 1 rfl (by omega))) rfl ?_
        refine Sx.calm rfl rfl (Cm.convI_in (n := (b1 : Int)) is5 ty3 rfl (by rw [hg1b, ← hb1]; exact wrap64_id (by omega))) rfl ?_
        refine Sx.calm rfl rfl (Cm.mul64 rfl rfl (by omega)) rfl ?_
        refine Sx.calm rfl rfl (Cm.ofEq (u := .int .i64 ((n : Nat) : Int)) (Cm.add64 rfl rfl (by omega)) (by congr 1; omega)) rfl ?_
        refine Sx.calm rfl rfl (Cm.assign rfl) rfl ?_
        refine Sx.nil ?_
        refine At.weak [(0, _), (1, _), (4, _), (5, _), (6, _), (7, _), (8, _), (9, _), (10, _), (11, _), (22, _), (30, _)] ⟨rfl, rfl, rfl, rfl, rfl, rfl, rfl, rfl, rfl, rfl, rfl, rfl, trivial⟩ ?_
        refine At.go ?_
        refine Sc.seq ?_
        refine Sc.seq ?_
        refine Sc.draw 6 (fun H => Own b8 5 H h3 hc3 B) [1, 2] [0, 3, 4, 1, 2, 5] mixed (by kernel_rfl) (ho3) ?_
        refine Sx.calm rfl rfl (Cm.move rfl) rfl ?_
        refine Sx.calm rfl rfl (Cm.move rfl) rfl ?_
        refine Sx.calm rfl rfl (Cm.str sl25 ty5 ty9 rfl (fun H hH => hH.vw)) rfl ?_
        refine Sx.eff rfl rfl (Sl.call fn129 rfl (rhead_ok n _ hnl) rfl ?_)
        rintro _ w4 ⟨o4, c4, rfl, ho4, hfr4, hf4⟩
        have hf4 := hf4.undraw.undraw
        refine Sx.on (by exact ho3.grow hf4) ?_
        refine Sx.eff rfl rfl (Sl.calm (Cm.strIn sl25 ty5 ty9 rfl ho4.vw) rfl ?_)
        refine Sx.on (by exact ho3.grow hf4) ?_
        refine Sx.fork rfl rfl (Cm.neqBs rfl rfl) rfl (fun h46 => ?_) (fun h46 => ?_)
        ·
          have hno : cutS im (q : Int) = none := by rw [hcs, hcp, if_pos (fun h => h46 h.symm)]
          have hf9 := (hF3.trans hf4).draws 0
          refine Sx.nil ?_
          refine At.weak [(0, _), (1, _), (4, _), (5, _), (6, _), (7, _), (8, _), (9, _), (10, _), (11, _), (22, _), (30, _), (46, _)] ⟨rfl, rfl, rfl, rfl, rfl, rfl, rfl, rfl, rfl, rfl, rfl, rfl, rfl, trivial⟩ ?_
          refine At.go ?_
          refine Sc.cond_t rfl ?_
          refine Sc.seq ?_
          refine Sc.region ?_
          refine Sl.calm (Cm.assign rfl) rfl ?_
          refine Sl.calm (Cm.assign rfl) rfl ?_
          refine Sl.calm (Cm.assign rfl) rfl ?_
          refine Sl.calm (Cm.assign rfl) rfl ?_
          refine Sl.calm (Cm.assign rfl) rfl ?_
          refine Sl.nil ?_
          refine At.go ?_
          refine Sc.ret ?_
          refine At.then_ret ?_
          refine At.ret5 rfl rfl rfl rfl rfl rfl ?_
          first
            | exact ⟨_, rfl, rc_none hno hf9⟩
            | exact ⟨_, rfl, none, 0, [], 0, false, _, 0, rfl, Own.nil, Fr.none, hF4, fun h => absurd rfl h, fun _ => ⟨by rw [hcs, hcp], rfl⟩⟩
            | (refine ⟨_, rfl, x9, xc9, (r.drop 7).take m, valB ((r.drop 3).take 4), decide (32768 ≤ n), _, 0, ?_, ho9, fun b hb => by have := hfr9 b hb; omega, hF9, fun h => absurd rfl h, fun _ => ⟨by rw [hcs, hcp], rfl⟩⟩
               rw [show (q : Int) + lenF ((r.drop 7).take m) = (q : Int) + 7 + m by unfold lenF; rw [hxl, if_neg (by omega)]; omega, show decide ((32768 : Int) ≤ n) = decide (32768 ≤ n) by congr 1; simp; omega])
        ·
          have heq : B = hdB n := (Decidable.not_not.1 h46).symm
          rw [if_neg (fun h => h heq)] at hcp
          have hF4 := hF3.trans hf4
          have hP4 := hP3.grow hf4
          have hz4 := hf4.size
          obtain ⟨m, hm⟩ : ∃ m, m = n % 32768 := ⟨_, rfl⟩
          rw [← hm] at hcp
          refine Sx.nil ?_
          refine At.weak [(0, _), (1, _), (4, _), (5, _), (6, _), (7, _), (8, _), (9, _), (10, _), (11, _), (22, _), (30, _), (46, _)] ⟨rfl, rfl, rfl, rfl, rfl, rfl, rfl, rfl, rfl, rfl, rfl, rfl, rfl, trivial⟩ ?_
          refine At.go ?_
          refine Sc.cond_f rfl ?_
          refine Sc.skip ?_
          refine At.go ?_
          refine Sc.seq ?_
          refine Sc.region ?_
          refine Sl.calm (Cm.move rfl) rfl ?_
          refine Sl.calm (Cm.geq rfl rfl) rfl ?_
          refine Sl.calm (Cm.assign rfl) rfl ?_
          refine Sl.nil ?_
          refine At.weak [(0, _), (1, _), (4, _), (5, _), (6, _), (7, _), (8, _), (9, _), (10, _), (11, _), (12, _), (22, _), (30, _), (46, _)] ⟨rfl, rfl, rfl, rfl, rfl, rfl, rfl, rfl, rfl, rfl, rfl, rfl, rfl, rfl, trivial⟩ ?_
          refine At.go ?_
          refine Sc.seq ?_
          refine Sc.region ?_
          refine Sl.calm (Cm.move rfl) rfl ?_
          refine Sl.calm (Cm.ofEq (u := .int .i64 (m : Nat)) (Cm.rem64 rfl rfl (by omega) (by decide)) (by rw [hm]; rfl)) rfl ?_
          refine Sl.calm (Cm.assign rfl) rfl ?_
          refine Sl.nil ?_
          refine At.weak [(0, _), (1, _), (4, _), (5, _), (6, _), (7, _), (8, _), (9, _), (10, _), (11, _), (12, _), (22, _), (30, _), (46, _)] ⟨rfl, rfl, rfl, rfl, rfl, rfl, rfl, rfl, rfl, rfl, rfl, rfl, rfl, rfl, trivial⟩ ?_
          refine At.go ?_
          refine Sc.seq ?_
          refine Sc.seq ?_
          refine Sc.region ?_
          refine Sl.calm (Cm.move rfl) rfl ?_
          refine Sl.fork (Cm.gtr rfl rfl) rfl (fun h52 => ?_) (fun h52 => ?_)
          ·
            have hno : cutS im (q : Int) = none := by rw [hcs, hcp, if_pos (by omega)]
            have hf9 := hF4
            refine Sl.calm (Cm.move rfl) rfl ?_
            refine Sl.skip rfl rfl rfl rfl ?_
            refine Sl.skip rfl rfl rfl rfl ?_
            refine Sl.skip rfl rfl rfl rfl ?_
            refine Sl.skip rfl rfl rfl rfl ?_
            refine Sl.skip rfl rfl rfl rfl ?_
            refine Sl.calm (Cm.pick_t rfl rfl) rfl ?_
            refine Sl.nil ?_
            refine At.weak [(0, _), (1, _), (4, _), (5, _), (6, _), (7, _), (8, _), (9, _), (10, _), (11, _), (12, _), (22, _), (30, _), (46, _), (59, _)] ⟨rfl, rfl, rfl, rfl, rfl, rfl, rfl, rfl, rfl, rfl, rfl, rfl, rfl, rfl, rfl, trivial⟩ ?_
            refine At.go ?_
            refine Sc.cond_t rfl ?_
            refine Sc.seq ?_
            refine Sc.region ?_
            refine Sl.calm (Cm.assign rfl) rfl ?_
            refine Sl.calm (Cm.assign rfl) rfl ?_
            refine Sl.calm (Cm.assign rfl) rfl ?_
            refine Sl.calm (Cm.assign rfl) rfl ?_
            refine Sl.calm (Cm.assign rfl) rfl ?_
            refine Sl.nil ?_
            refine At.go ?_
            refine Sc.ret ?_
            refine At.then_ret ?_
            refine At.ret5 rfl rfl rfl rfl rfl rfl ?_
            first
              | exact ⟨_, rfl, rc_none hno hf9⟩
              | exact ⟨_, rfl, none, 0, [], 0, false, _, 0, rfl, Own.nil, Fr.none, hF4, fun h => absurd rfl h, fun _ => ⟨by rw [hcs, hcp], rfl⟩⟩
              | (refine ⟨_, rfl, x9, xc9, (r.drop 7).take m, valB ((r.drop 3).take 4), decide (32768 ≤ n), _, 0, ?_, ho9, fun b hb => by have := hfr9 b hb; omega, hF9, fun h => absurd rfl h, fun _ => ⟨by rw [hcs, hcp], rfl⟩⟩
                 rw [show (q : Int) + lenF ((r.drop 7).take m) = (q : Int) + 7 + m by unfold lenF; rw [hxl, if_neg (by omega)]; omega, show decide ((32768 : Int) ≤ n) = decide (32768 ≤ n) by congr 1; simp; omega])
          ·
            refine Sl.calm (Cm.move rfl) rfl ?_
            refine Sl.want rfl rfl (Cm.move rfl) rfl ?_
            refine Sl.forkWant rfl rfl (Cm.eql rfl rfl) rfl (fun h55 => ?_) (fun h55 => ?_)
            ·
              refine Sl.want rfl rfl (Cm.move rfl) rfl ?_
              refine Sl.forkWant rfl rfl (Cm.ofBool (Cm.move rfl)) rfl (fun h57 => ?_) (fun h57 => ?_)
              ·
                have h57 := of_decide_eq_true h57
                have hno : cutS im (q : Int) = none := by rw [hcs, hcp, if_pos (by omega)]
                have hf9 := hF4
                refine Sl.want rfl rfl (Cm.pick_t rfl rfl) rfl ?_
                refine Sl.calm (Cm.pick_f rfl rfl) rfl ?_
                refine Sl.nil ?_
                refine At.weak [(0, _), (1, _), (4, _), (5, _), (6, _), (7, _), (8, _), (9, _), (10, _), (11, _), (12, _), (22, _), (30, _), (46, _), (59, _)] ⟨rfl, rfl, rfl, rfl, rfl, rfl, rfl, rfl, rfl, rfl, rfl, rfl, rfl, rfl, rfl, trivial⟩ ?_
                refine At.go ?_
                refine Sc.cond_t rfl ?_
                refine Sc.seq ?_
                refine Sc.region ?_
                refine Sl.calm (Cm.assign rfl) rfl ?_
                refine Sl.calm (Cm.assign rfl) rfl ?_
                refine Sl.calm (Cm.assign rfl) rfl ?_
                refine Sl.calm (Cm.assign rfl) rfl ?_
                refine Sl.calm (Cm.assign rfl) rfl ?_
                refine Sl.nil ?_
                refine At.go ?_
                refine Sc.ret ?_
                refine At.then_ret ?_
                refine At.ret5 rfl rfl rfl rfl rfl rfl ?_
                first
                  | exact ⟨_, rfl, rc_none hno hf9⟩
                  | exact ⟨_, rfl, none, 0, [], 0, false, _, 0, rfl, Own.nil, Fr.none, hF4, fun h => absurd rfl h, fun _ => ⟨by rw [hcs, hcp], rfl⟩⟩
                  | (refine ⟨_, rfl, x9, xc9, (r.drop 7).take m, valB ((r.drop 3).take 4), decide (32768 ≤ n), _, 0, ?_, ho9, fun b hb => by have := hfr9 b hb; omega, hF9, fun h => absurd rfl h, fun _ => ⟨by rw [hcs, hcp], rfl⟩⟩
                     rw [show (q : Int) + lenF ((r.drop 7).take m) = (q : Int) + 7 + m by unfold lenF; rw [hxl, if_neg (by omega)]; omega, show decide ((32768 : Int) ≤ n) = decide (32768 ≤ n) by congr 1; simp; omega])
              ·
                have h57 : ¬ (32768 : Int) ≤ n := fun h => h57 (decide_eq_true h)
                refine Sl.want rfl rfl (Cm.pick_t rfl rfl) rfl ?_
                refine Sl.calm (Cm.pick_f rfl rfl) rfl ?_
                refine Sl.nil ?_
                refine At.weak [(0, _), (1, _), (4, _), (5, _), (6, _), (7, _), (8, _), (9, _), (10, _), (11, _), (12, _), (22, _), (30, _), (46, _), (59, _)] ⟨rfl, rfl, rfl, rfl, rfl, rfl, rfl, rfl, rfl, rfl, rfl, rfl, rfl, rfl, rfl, trivial⟩ ?_
                refine At.go ?_
                refine Sc.cond_f rfl ?_
                refine Sc.skip ?_
                refine At.go ?_
                refine Sc.seq ?_
                refine Sc.seq ?_
                refine Sc.region ?_
                refine Sl.calm (Cm.move rfl) rfl ?_
                refine Sl.fork (Cm.eql rfl rfl) rfl (fun h61 => ?_) (fun h61 => ?_)
                ·
                  rw [if_neg (by omega), if_pos (by omega)] at hcp
                  refine Sl.nil ?_
                  refine At.weak [(0, _), (1, _), (4, _), (5, _), (6, _), (7, _), (8, _), (9, _), (10, _), (11, _), (12, _), (22, _), (30, _), (46, _), (59, _), (61, _)] ⟨rfl, rfl, rfl, rfl, rfl, rfl, rfl, rfl, rfl, rfl, rfl, rfl, rfl, rfl, rfl, rfl, trivial⟩ ?_
                  refine At.go ?_
                  refine Sc.cond_t rfl ?_
                  refine Sc.seq ?_
                  refine Sc.region ?_
                  refine Sl.calm (Cm.move rfl) rfl ?_
                  refine Sl.calm (Cm.add64 rfl rfl (by omega)) rfl ?_
                  refine Sl.calm (Cm.assign rfl) rfl ?_
                  refine Sl.calm (Cm.assign rfl) rfl ?_
                  refine Sl.calm (Cm.assign rfl) rfl ?_
                  refine Sl.calm (Cm.assign rfl) rfl ?_
                  refine Sl.calm (Cm.assign rfl) rfl ?_
                  refine Sl.nil ?_
                  refine At.weak [(0, _), (1, _), (4, _), (5, _), (6, _), (7, _), (8, _), (9, _), (10, _), (11, _), (12, _), (22, _), (30, _), (46, _), (59, _), (61, _)] ⟨rfl, rfl, rfl, rfl, rfl, rfl, rfl, rfl, rfl, rfl, rfl, rfl, rfl, rfl, rfl, rfl, trivial⟩ ?_
                  refine At.go ?_
                  refine Sc.ret ?_
                  refine At.then_ret ?_
                  refine At.ret5 rfl rfl rfl rfl rfl rfl ?_
                  first
                    | exact ⟨_, rfl, rc_none hno hf9⟩
                    | exact ⟨_, rfl, none, 0, [], 0, false, _, 0, rfl, Own.nil, Fr.none, hF4, fun h => absurd rfl h, fun _ => ⟨by rw [hcs, hcp], rfl⟩⟩
                    | (refine ⟨_, rfl, x9, xc9, (r.drop 7).take m, valB ((r.drop 3).take 4), decide (32768 ≤ n), _, 0, ?_, ho9, fun b hb => by have := hfr9 b hb; omega, hF9, fun h => absurd rfl h, fun _ => ⟨by rw [hcs, hcp], rfl⟩⟩
                       rw [show (q : Int) + lenF ((r.drop 7).take m) = (q : Int) + 7 + m by unfold lenF; rw [hxl, if_neg (by omega)]; omega, show decide ((32768 : Int) ≤ n) = decide (32768 ≤ n) by congr 1; simp; omega])
                ·
                  rw [if_neg (by omega), if_neg (by omega)] at hcp
                  obtain ⟨tc1, tc2⟩ := two_cut (r := r) (m := m) z3r
                  refine Sl.nil ?_
                  refine At.weak [(0, _), (1, _), (4, _), (5, _), (6, _), (7, _), (8, _), (9, _), (10, _), (11, _), (12, _), (22, _), (30, _), (46, _), (59, _), (61, _)] ⟨rfl, rfl, rfl, rfl, rfl, rfl, rfl, rfl, rfl, rfl, rfl, rfl, rfl, rfl, rfl, rfl, trivial⟩ ?_
                  refine At.go ?_
                  refine Sc.cond_f rfl ?_
                  refine Sc.skip ?_
                  refine At.go ?_
                  refine Sc.seq ?_
                  refine Sc.region ?_
                  refine Sl.call fn58 rfl (rrdnum_ok p 0 (r.drop 3) 4 w4 hP4 (by rw [List.length_drop]; omega)) rfl ?_
                  rintro _ w7 ⟨rfl, hP7, hf7⟩
                  rw [numE1_good (by decide) (by decide)] at hP7 ⊢
                  have hz7 := hf7.size
                  have hR7 := cutR_len 0 (r.drop 3) 4
                  rw [List.length_drop] at hR7
                  refine Sl.calm (Cm.assign rfl) rfl ?_
                  refine Sl.nil ?_
                  refine At.weak [(0, _), (1, _), (4, _), (5, _), (6, _), (7, _), (8, _), (9, _), (10, _), (11, _), (12, _), (13, _), (22, _), (30, _), (46, _), (59, _), (61, _)] ⟨rfl, rfl, rfl, rfl, rfl, rfl, rfl, rfl, rfl, rfl, rfl, rfl, rfl, rfl, rfl, rfl, rfl, trivial⟩ ?_
                  refine At.go ?_
                  refine Sc.seq ?_
                  refine Sc.region ?_
                  refine Sl.calm (Cm.move rfl) rfl ?_
                  refine Sl.call fn88 rfl (rrbyt_ok p _ _ m w7 hP7 (by omega)) rfl ?_
                  rintro _ w9 ⟨x9, xc9, rfl, ho9, hfr9, hP9, hf9a⟩
                  have hF9 : Foot nob W w9 := (hF4.trans_to hf7 (fun k hk => .inr (by have h : k = p := hk; omega))).trans_to hf9a (fun k hk => .inr (by have h : k = p := hk; omega))
                  refine Sl.calm (Cm.assign rfl) rfl ?_
                  refine Sl.nil ?_
                  refine At.weak [(0, _), (1, _), (4, _), (5, _), (6, _), (7, _), (8, _), (9, _), (10, _), (11, _), (12, _), (13, _), (14, _), (22, _), (30, _), (46, _), (59, _), (61, _)] ⟨rfl, rfl, rfl, rfl, rfl, rfl, rfl, rfl, rfl, rfl, rfl, rfl, rfl, rfl, rfl, rfl, rfl, rfl, trivial⟩ ?_
                  refine At.go ?_
                  refine Sc.seq ?_
                  refine Sc.seq ?_
                  refine Sc.region ?_
                  refine Sl.calm (Cm.field fld106_1 rfl) rfl ?_
                  have hP9o := hP9
                  obtain ⟨ra9, rc9, hobj9, hrv9, hrap9⟩ := hP9o
                  refine Sl.calm (Cm.ld sca26 rfl (cellF hobj9 rfl)) rfl ?_
                  refine Sl.fork (Cm.neq rfl rfl) rfl (fun h69 => ?_) (fun h69 => ?_)
                  ·
                    have hsh := tc1.1 h69
                    rw [if_pos hsh] at hcp
                    have hno : cutS im (q : Int) = none := by rw [hcs, hcp]
                    have hf9 := hF9
                    refine Sl.nil ?_
                    refine At.weak [(0, _), (1, _), (4, _), (5, _), (6, _), (7, _), (8, _), (9, _), (10, _), (11, _), (12, _), (13, _), (14, _), (22, _), (30, _), (46, _), (59, _), (61, _), (69, _)] ⟨rfl, rfl, rfl, rfl, rfl, rfl, rfl, rfl, rfl, rfl, rfl, rfl, rfl, rfl, rfl, rfl, rfl, rfl, rfl, trivial⟩ ?_
                    refine At.go ?_
                    refine Sc.cond_t rfl ?_
                    refine Sc.seq ?_
                    refine Sc.region ?_
                    refine Sl.calm (Cm.assign rfl) rfl ?_
                    refine Sl.calm (Cm.assign rfl) rfl ?_
                    refine Sl.calm (Cm.assign rfl) rfl ?_
                    refine Sl.calm (Cm.assign rfl) rfl ?_
                    refine Sl.calm (Cm.assign rfl) rfl ?_
                    refine Sl.nil ?_
                    refine At.go ?_
                    refine Sc.ret ?_
                    refine At.then_ret ?_
                    refine At.ret5 rfl rfl rfl rfl rfl rfl ?_
                    first
                      | exact ⟨_, rfl, rc_none hno hf9⟩
                      | exact ⟨_, rfl, none, 0, [], 0, false, _, 0, rfl, Own.nil, Fr.none, hF4, fun h => absurd rfl h, fun _ => ⟨by rw [hcs, hcp], rfl⟩⟩
                      | (refine ⟨_, rfl, x9, xc9, (r.drop 7).take m, valB ((r.drop 3).take 4), decide (32768 ≤ n), _, 0, ?_, ho9, fun b hb => by have := hfr9 b hb; omega, hF9, fun h => absurd rfl h, fun _ => ⟨by rw [hcs, hcp], rfl⟩⟩
                         rw [show (q : Int) + lenF ((r.drop 7).take m) = (q : Int) + 7 + m by unfold lenF; rw [hxl, if_neg (by omega)]; omega, show decide ((32768 : Int) ≤ n) = decide (32768 ≤ n) by congr 1; simp; omega])
                  ·
                    have hsh : ¬ r.length < 7 + m := fun h => h69 (tc1.2 h)
                    rw [if_neg hsh] at hcp
                    obtain ⟨c1, c2⟩ := tc2 hsh
                    rw [c2] at ho9
                    rw [c1, c2]
                    have hxl : ((r.drop 7).take m).length = m := by rw [List.length_take, List.length_drop]; omega
                    refine Sl.nil ?_
                    refine At.weak [(0, _), (1, _), (4, _), (5, _), (6, _), (7, _), (8, _), (9, _), (10, _), (11, _), (12, _), (13, _), (14, _), (22, _), (30, _), (46, _), (59, _), (61, _), (69, _)] ⟨rfl, rfl, rfl, rfl, rfl, rfl, rfl, rfl, rfl, rfl, rfl, rfl, rfl, rfl, rfl, rfl, rfl, rfl, rfl, trivial⟩ ?_
                    refine At.go ?_
                    refine Sc.cond_f rfl ?_
                    refine Sc.skip ?_
                    refine At.go ?_
                    refine Sc.seq ?_
                    refine Sc.region ?_
                    refine Sl.calm (Cm.move rfl) rfl ?_
                    refine Sl.calm (Cm.move rfl) rfl ?_
                    refine Sl.calm (Cm.move rfl) rfl ?_
                    refine Sl.calm (Cm.move rfl) rfl ?_
                    refine Sl.calm (Cm.add64 rfl rfl (by omega)) rfl ?_
                    refine Sl.calm (Cm.move rfl) rfl ?_
                    refine Sl.calm (Cm.add64 rfl rfl (by omega)) rfl ?_
                    refine Sl.calm (Cm.assign rfl) rfl ?_
                    refine Sl.calm (Cm.assign rfl) rfl ?_
                    refine Sl.calm (Cm.assign rfl) rfl ?_
                    refine Sl.calm (Cm.assign rfl) rfl ?_
                    refine Sl.calm (Cm.assign rfl) rfl ?_
                    refine Sl.nil ?_
                    refine At.weak [(0, _), (1, _), (4, _), (5, _), (6, _), (7, _), (8, _), (9, _), (10, _), (11, _), (12, _), (13, _), (14, _), (22, _), (30, _), (46, _), (59, _), (61, _), (69, _)] ⟨rfl, rfl, rfl, rfl, rfl, rfl, rfl, rfl, rfl, rfl, rfl, rfl, rfl, rfl, rfl, rfl, rfl, rfl, rfl, trivial⟩ ?_
                    refine At.go ?_
                    refine Sc.ret ?_
                    refine At.ret5 rfl rfl rfl rfl rfl rfl ?_
                    first
                      | exact ⟨_, rfl, rc_none hno hf9⟩
                      | exact ⟨_, rfl, none, 0, [], 0, false, _, 0, rfl, Own.nil, Fr.none, hF4, fun h => absurd rfl h, fun _ => ⟨by rw [hcs, hcp], rfl⟩⟩
                      | (refine ⟨_, rfl, x9, xc9, (r.drop 7).take m, valB ((r.drop 3).take 4), decide (32768 ≤ n), _, 0, ?_, ho9, fun b hb => by have := hfr9 b hb; omega, hF9, fun h => absurd rfl h, fun _ => ⟨by rw [hcs, hcp], rfl⟩⟩
                         rw [show (q : Int) + lenF ((r.drop 7).take m) = (q : Int) + 7 + m by unfold lenF; rw [hxl, if_neg (by omega)]; omega, show decide ((32768 : Int) ≤ n) = decide (32768 ≤ n) by congr 1; simp; omega])
            ·
              refine Sl.want rfl rfl (Cm.move rfl) rfl ?_
              refine Sl.skip rfl rfl rfl rfl ?_
              refine Sl.want rfl rfl (Cm.pick_f rfl rfl) rfl ?_
              refine Sl.calm (Cm.pick_f rfl rfl) rfl ?_
              refine Sl.nil ?_
              refine At.weak [(0, _), (1, _), (4, _), (5, _), (6, _), (7, _), (8, _), (9, _), (10, _), (11, _), (12, _), (22, _), (30, _), (46, _), (59, _)] ⟨rfl, rfl, rfl, rfl, rfl, rfl, rfl, rfl, rfl, rfl, rfl, rfl, rfl, rfl, rfl, trivial⟩ ?_
              refine At.go ?_
              refine Sc.cond_f rfl ?_
              refine Sc.skip ?_
              refine At.go ?_
              refine Sc.seq ?_
              refine Sc.seq ?_
              refine Sc.region ?_
              refine Sl.calm (Cm.move rfl) rfl ?_
              refine Sl.fork (Cm.eql rfl rfl) rfl (fun h61 => ?_) (fun h61 => ?_)
              ·
                rw [if_neg (by omega), if_pos (by omega)] at hcp
                refine Sl.nil ?_
                refine At.weak [(0, _), (1, _), (4, _), (5, _), (6, _), (7, _), (8, _), (9, _), (10, _), (11, _), (12, _), (22, _), (30, _), (46, _), (59, _), (61, _)] ⟨rfl, rfl, rfl, rfl, rfl, rfl, rfl, rfl, rfl, rfl, rfl, rfl, rfl, rfl, rfl, rfl, trivial⟩ ?_
                refine At.go ?_
                refine Sc.cond_t rfl ?_
                refine Sc.seq ?_
                refine Sc.region ?_
                refine Sl.calm (Cm.move rfl) rfl ?_
                refine Sl.calm (Cm.add64 rfl rfl (by omega)) rfl ?_
                refine Sl.calm (Cm.assign rfl) rfl ?_
                refine Sl.calm (Cm.assign rfl) rfl ?_
                refine Sl.calm (Cm.assign rfl) rfl ?_
                refine Sl.calm (Cm.assign rfl) rfl ?_
                refine Sl.calm (Cm.assign rfl) rfl ?_
                refine Sl.nil ?_
                refine At.weak [(0, _), (1, _), (4, _), (5, _), (6, _), (7, _), (8, _), (9, _), (10, _), (11, _), (12, _), (22, _), (30, _), (46, _), (59, _), (61, _)] ⟨rfl, rfl, rfl, rfl, rfl, rfl, rfl, rfl, rfl, rfl, rfl, rfl, rfl, rfl, rfl, rfl, trivial⟩ ?_
                refine At.go ?_
                refine Sc.ret ?_
                refine At.then_ret ?_
                refine At.ret5 rfl rfl rfl rfl rfl rfl ?_
                first
                  | exact ⟨_, rfl, rc_none hno hf9⟩
                  | exact ⟨_, rfl, none, 0, [], 0, false, _, 0, rfl, Own.nil, Fr.none, hF4, fun h => absurd rfl h, fun _ => ⟨by rw [hcs, hcp], rfl⟩⟩
                  | (refine ⟨_, rfl, x9, xc9, (r.drop 7).take m, valB ((r.drop 3).take 4), decide (32768 ≤ n), _, 0, ?_, ho9, fun b hb => by have := hfr9 b hb; omega, hF9, fun h => absurd rfl h, fun _ => ⟨by rw [hcs, hcp], rfl⟩⟩
                     rw [show (q : Int) + lenF ((r.drop 7).take m) = (q : Int) + 7 + m by unfold lenF; rw [hxl, if_neg (by omega)]; omega, show decide ((32768 : Int) ≤ n) = decide (32768 ≤ n) by congr 1; simp; omega])
              ·
                rw [if_neg (by omega), if_neg (by omega)] at hcp
                obtain ⟨tc1, tc2⟩ := two_cut (r := r) (m := m) z3r
                refine Sl.nil ?_
                refine At.weak [(0, _), (1, _), (4, _), (5, _), (6, _), (7, _), (8, _), (9, _), (10, _), (11, _), (12, _), (22, _), (30, _), (46, _), (59, _), (61, _)] ⟨rfl, rfl, rfl, rfl, rfl, rfl, rfl, rfl, rfl, rfl, rfl, rfl, rfl, rfl, rfl, rfl, trivial⟩ ?_
                refine At.go ?_
                refine Sc.cond_f rfl ?_
                refine Sc.skip ?_
                refine At.go ?_
                refine Sc.seq ?_
                refine Sc.region ?_
                refine Sl.call fn58 rfl (rrdnum_ok p 0 (r.drop 3) 4 w4 hP4 (by rw [List.length_drop]; omega)) rfl ?_
                rintro _ w7 ⟨rfl, hP7, hf7⟩
                rw [numE1_good (by decide) (by decide)] at hP7 ⊢
                have hz7 := hf7.size
                have hR7 := cutR_len 0 (r.drop 3) 4
                rw [List.length_drop] at hR7
                refine Sl.calm (Cm.assign rfl) rfl ?_
                refine Sl.nil ?_
                refine At.weak [(0, _), (1, _), (4, _), (5, _), (6, _), (7, _), (8, _), (9, _), (10, _), (11, _), (12, _), (13, _), (22, _), (30, _), (46, _), (59, _), (61, _)] ⟨rfl, rfl, rfl, rfl, rfl, rfl, rfl, rfl, rfl, rfl, rfl, rfl, rfl, rfl, rfl, rfl, rfl, trivial⟩ ?_
                refine At.go ?_
                refine Sc.seq ?_
                refine Sc.region ?_
                refine Sl.calm (Cm.move rfl) rfl ?_
                refine Sl.call fn88 rfl (rrbyt_ok p _ _ m w7 hP7 (by omega)) rfl ?_
                rintro _ w9 ⟨x9, xc9, rfl, ho9, hfr9, hP9, hf9a⟩
                have hF9 : Foot nob W w9 := (hF4.trans_to hf7 (fun k hk => .inr (by have h : k = p := hk; omega))).trans_to hf9a (fun k hk => .inr (by have h : k = p := hk; omega))
                refine Sl.calm (Cm.assign rfl) rfl ?_
                refine Sl.nil ?_
                refine At.weak [(0, _), (1, _), (4, _), (5, _), (6, _), (7, _), (8, _), (9, _), (10, _), (11, _), (12, _), (13, _), (14, _), (22, _), (30, _), (46, _), (59, _), (61, _)] ⟨rfl, rfl, rfl, rfl, rfl, rfl, rfl, rfl, rfl, rfl, rfl, rfl, rfl, rfl, rfl, rfl, rfl, rfl, trivial⟩ ?_
                refine At.go ?_
                refine Sc.seq ?_
                refine Sc.seq ?_
                refine Sc.region ?_
                refine Sl.calm (Cm.field fld106_1 rfl) rfl ?_
                have hP9o := hP9
                obtain ⟨ra9, rc9, hobj9, hrv9, hrap9⟩ := hP9o
                refine Sl.calm (Cm.ld sca26 rfl (cellF hobj9 rfl)) rfl ?_
                refine Sl.fork (Cm.neq rfl rfl) rfl (fun h69 => ?_) (fun h69 => ?_)
                ·
                  have hsh := tc1.1 h69
                  rw [if_pos hsh] at hcp
                  have hno : cutS im (q : Int) = none := by rw [hcs, hcp]
                  have hf9 := hF9
                  refine Sl.nil ?_
                  refine At.weak [(0, _), (1, _), (4, _), (5, _), (6, _), (7, _), (8, _), (9, _), (10, _), (11, _), (12, _), (13, _), (14, _), (22, _), (30, _), (46, _), (59, _), (61, _), (69, _)] ⟨rfl, rfl, rfl, rfl, rfl, rfl, rfl, rfl, rfl, rfl, rfl, rfl, rfl, rfl, rfl, rfl, rfl, rfl, rfl, trivial⟩ ?_
                  refine At.go ?_
                  refine Sc.cond_t rfl ?_
                  refine Sc.seq ?_
                  refine Sc.region ?_
                  refine Sl.calm (Cm.assign rfl) rfl ?_
                  refine Sl.calm (Cm.assign rfl) rfl ?_
                  refine Sl.calm (Cm.assign rfl) rfl ?_
                  refine Sl.calm (Cm.assign rfl) rfl ?_
                  refine Sl.calm (Cm.assign rfl) rfl ?_
                  refine Sl.nil ?_
                  refine At.go ?_
                  refine Sc.ret ?_
                  refine At.then_ret ?_
                  refine At.ret5 rfl rfl rfl rfl rfl rfl ?_
                  first
                    | exact ⟨_, rfl, rc_none hno hf9⟩
                    | exact ⟨_, rfl, none, 0, [], 0, false, _, 0, rfl, Own.nil, Fr.none, hF4, fun h => absurd rfl h, fun _ => ⟨by rw [hcs, hcp], rfl⟩⟩
                    | (refine ⟨_, rfl, x9, xc9, (r.drop 7).take m, valB ((r.drop 3).take 4), decide (32768 ≤ n), _, 0, ?_, ho9, fun b hb => by have := hfr9 b hb; omega, hF9, fun h => absurd rfl h, fun _ => ⟨by rw [hcs, hcp], rfl⟩⟩
                       rw [show (q : Int) + lenF ((r.drop 7).take m) = (q : Int) + 7 + m by unfold lenF; rw [hxl, if_neg (by omega)]; omega, show decide ((32768 : Int) ≤ n) = decide (32768 ≤ n) by congr 1; simp; omega])
                ·
                  have hsh : ¬ r.length < 7 + m := fun h => h69 (tc1.2 h)
                  rw [if_neg hsh] at hcp
                  obtain ⟨c1, c2⟩ := tc2 hsh
                  rw [c2] at ho9
                  rw [c1, c2]
                  have hxl : ((r.drop 7).take m).length = m := by rw [List.length_take, List.length_drop]; omega
                  refine Sl.nil ?_
                  refine At.weak [(0, _), (1, _), (4, _), (5, _), (6, _), (7, _), (8, _), (9, _), (10, _), (11, _), (12, _), (13, _), (14, _), (22, _), (30, _), (46, _), (59, _), (61, _), (69, _)] ⟨rfl, rfl, rfl, rfl, rfl, rfl, rfl, rfl, rfl, rfl, rfl, rfl, rfl, rfl, rfl, rfl, rfl, rfl, rfl, trivial⟩ ?_
                  refine At.go ?_
                  refine Sc.cond_f rfl ?_
                  refine Sc.skip ?_
                  refine At.go ?_
                  refine Sc.seq ?_
                  refine Sc.region ?_
                  refine Sl.calm (Cm.move rfl) rfl ?_
                  refine Sl.calm (Cm.move rfl) rfl ?_
                  refine Sl.calm (Cm.move rfl) rfl ?_
                  refine Sl.calm (Cm.move rfl) rfl ?_
                  refine Sl.calm (Cm.add64 rfl rfl (by omega)) rfl ?_
                  refine Sl.calm (Cm.move rfl) rfl ?_
                  refine Sl.calm (Cm.add64 rfl rfl (by omega)) rfl ?_
                  refine Sl.calm (Cm.assign rfl) rfl ?_
                  refine Sl.calm (Cm.assign rfl) rfl ?_
                  refine Sl.calm (Cm.assign rfl) rfl ?_
                  refine Sl.calm (Cm.assign rfl) rfl ?_
                  refine Sl.calm (Cm.assign rfl) rfl ?_
                  refine Sl.nil ?_
                  refine At.weak [(0, _), (1, _), (4, _), (5, _), (6, _), (7, _), (8, _), (9, _), (10, _), (11, _), (12, _), (13, _), (14, _), (22, _), (30, _), (46, _), (59, _), (61, _), (69, _)] ⟨rfl, rfl, rfl, rfl, rfl, rfl, rfl, rfl, rfl, rfl, rfl, rfl, rfl, rfl, rfl, rfl, rfl, rfl, rfl, trivial⟩ ?_
                  refine At.go ?_
                  refine Sc.ret ?_
                  refine At.ret5 rfl rfl rfl rfl rfl rfl ?_
                  first
                    | exact ⟨_, rfl, rc_none hno hf9⟩
                    | exact ⟨_, rfl, none, 0, [], 0, false, _, 0, rfl, Own.nil, Fr.none, hF4, fun h => absurd rfl h, fun _ => ⟨by rw [hcs, hcp], rfl⟩⟩
                    | (refine ⟨_, rfl, x9, xc9, (r.drop 7).take m, valB ((r.drop 3).take 4), decide (32768 ≤ n), _, 0, ?_, ho9, fun b hb => by have := hfr9 b hb; omega, hF9, fun h => absurd rfl h, fun _ => ⟨by rw [hcs, hcp], rfl⟩⟩
                       rw [show (q : Int) + lenF ((r.drop 7).take m) = (q : Int) + 7 + m by unfold lenF; rw [hxl, if_neg (by omega)]; omega, show decide ((32768 : Int) ≤ n) = decide (32768 ≤ n) by congr 1; simp; omega])
end Go.Proofs.Ytoaplldahbbaiaa
/- frame: the reference's Take and Skip; the laws' head; the laws. No condition beyond the bounds that each states. -/
namespace Go.Proofs.Ytoaplldahbbaiaa
open Go Go.RowKit
set_option linter.unusedVariables false

set_option maxHeartbeats 2000000 in
theorem rftake_ok (io : Option Addr) (ic : Nat) (im : List UInt8) (a : Int) (W : World) (hv : Vw b8 W.heap io ic im) (hb : im.length ≤ 1099511627776) (ha : a ≤ 9223372036854775807) :
    Calls Try.prog 104 [.slice io im.length ic, .int .i64 a].toArray W (Ret (TkFP W (takeS im a))) := by
  refine calls_of_sc 53 [(0, _), (1, _)] Try.func104 rfl rfl rfl (enter_slots ⟨rfl, rfl, trivial⟩) ?_
  refine Sc.seq ?_
  refine Sc.region ?_
  refine Sl.calm (Cm.assign rfl) rfl ?_
  refine Sl.calm (Cm.assign rfl) rfl ?_
  refine Sl.calm (Cm.assign rfl) rfl ?_
  refine Sl.nil ?_
  refine At.go ?_
  refine Sc.seq ?_
  refine Sc.region ?_
  refine Sl.calm (Cm.move rfl) rfl ?_
  refine Sl.calm (Cm.move rfl) rfl ?_
  refine Sl.call fn114 rfl (rcut_ok io ic im a W hv hb ha) rfl ?_
  rintro _ w1 ⟨po, pc, x, s, st, nx, e, rfl, ho1, hfr1, hf1, hE0, hE1⟩
  refine Sl.calm (Cm.move rfl) rfl ?_
  refine Sl.calm (Cm.extract rfl rfl) rfl ?_
  refine Sl.calm (Cm.extract rfl rfl) rfl ?_
  refine Sl.calm (Cm.extract rfl rfl) rfl ?_
  refine Sl.calm (Cm.extract rfl rfl) rfl ?_
  refine Sl.calm (Cm.extract rfl rfl) rfl ?_
  refine Sl.calm (Cm.assign rfl) rfl ?_
  refine Sl.calm (Cm.assign rfl) rfl ?_
  refine Sl.calm (Cm.assign rfl) rfl ?_
  refine Sl.calm (Cm.assign rfl) rfl ?_
  refine Sl.calm (Cm.assign rfl) rfl ?_
  refine Sl.nil ?_
  refine At.weak [(0, _), (1, _), (4, _), (5, _), (6, _), (7, _), (8, _), (9, _), (10, _), (11, _)] ⟨rfl, rfl, rfl, rfl, rfl, rfl, rfl, rfl, rfl, rfl, trivial⟩ ?_
  refine At.go ?_
  refine Sc.seq ?_
  refine Sc.seq ?_
  refine Sc.region ?_
  refine Sl.calm (Cm.move rfl) rfl ?_
  refine Sl.fork (Cm.neq rfl rfl) rfl (fun h23 => ?_) (fun h23 => ?_)
  ·
    obtain ⟨he2, hnx, hcs⟩ := hE0 h23
    have hT := takeS_none hcs
    refine Sl.calm (Cm.move rfl) rfl ?_
    refine Sl.skip rfl rfl rfl rfl ?_
    refine Sl.skip rfl rfl rfl rfl ?_
    refine Sl.skip rfl rfl rfl rfl ?_
    refine Sl.calm (Cm.pick_t rfl rfl) rfl ?_
    refine Sl.nil ?_
    refine At.weak [(0, _), (1, _), (4, _), (5, _), (6, _), (7, _), (8, _), (9, _), (10, _), (11, _), (28, _)] ⟨rfl, rfl, rfl, rfl, rfl, rfl, rfl, rfl, rfl, rfl, rfl, trivial⟩ ?_
    refine At.go ?_
    refine Sc.cond_t rfl ?_
    refine Sc.seq ?_
    refine Sc.region ?_
    refine Sl.calm (Cm.move rfl) rfl ?_
    refine Sl.calm (Cm.move rfl) rfl ?_
    refine Sl.calm (Cm.assign rfl) rfl ?_
    refine Sl.calm (Cm.assign rfl) rfl ?_
    refine Sl.calm (Cm.assign rfl) rfl ?_
    refine Sl.nil ?_
    refine At.weak [(0, _), (1, _), (4, _), (5, _), (6, _), (7, _), (8, _), (9, _), (10, _), (11, _), (28, _)] ⟨rfl, rfl, rfl, rfl, rfl, rfl, rfl, rfl, rfl, rfl, rfl, trivial⟩ ?_
    refine At.go ?_
    refine Sc.ret ?_
    refine At.then_ret ?_
    refine At.ret3 rfl rfl rfl rfl ?_
    rw [hT]
    first
      | exact ⟨_, rfl, none, 0, by rw [he2, hnx]; rfl, Own.nil, Fr.none, hf1⟩
      | exact ⟨_, rfl, none, 0, by rw [hnx, he]; rfl, Own.nil, Fr.none, hf1⟩
      | exact ⟨_, rfl, none, 0, rfl, Own.nil, Fr.none, hf1⟩
      | exact ⟨_, rfl, po, pc, by rw [hnx], ho1, hfr1, hf1⟩
      | exact ⟨_, rfl, none, 0, rfl, Own.nil, Fr.none, hf1.trans hf5⟩
      | exact ⟨_, rfl, o5, c5, by rw [hnx], ho5, fun b hb => Nat.le_trans hf1.size (hfr5 b hb), hf1.trans hf5⟩
  ·
    have he : e = 0 := Decidable.not_not.1 h23
    obtain ⟨hcs, hnx⟩ := hE1 he
    obtain ⟨hxl, hsl⟩ := cutS_len hcs
    refine Sl.calm (Cm.move rfl) rfl ?_
    refine Sl.want rfl rfl (Cm.move rfl) rfl ?_
    refine Sl.want rfl rfl (Cm.len sl25 rfl) rfl ?_
    refine Sl.forkWant rfl rfl (Cm.eql rfl rfl) rfl (fun h27 => ?_) (fun h27 => ?_)
    ·
      have hT := takeS_empty hcs (by omega)
      refine Sl.calm (Cm.pick_f rfl rfl) rfl ?_
      refine Sl.nil ?_
      refine At.weak [(0, _), (1, _), (4, _), (5, _), (6, _), (7, _), (8, _), (9, _), (10, _), (11, _), (28, _)] ⟨rfl, rfl, rfl, rfl, rfl, rfl, rfl, rfl, rfl, rfl, rfl, trivial⟩ ?_
      refine At.go ?_
      refine Sc.cond_t rfl ?_
      refine Sc.seq ?_
      refine Sc.region ?_
      refine Sl.calm (Cm.move rfl) rfl ?_
      refine Sl.calm (Cm.move rfl) rfl ?_
      refine Sl.calm (Cm.assign rfl) rfl ?_
      refine Sl.calm (Cm.assign rfl) rfl ?_
      refine Sl.calm (Cm.assign rfl) rfl ?_
      refine Sl.nil ?_
      refine At.weak [(0, _), (1, _), (4, _), (5, _), (6, _), (7, _), (8, _), (9, _), (10, _), (11, _), (28, _)] ⟨rfl, rfl, rfl, rfl, rfl, rfl, rfl, rfl, rfl, rfl, rfl, trivial⟩ ?_
      refine At.go ?_
      refine Sc.ret ?_
      refine At.then_ret ?_
      refine At.ret3 rfl rfl rfl rfl ?_
      rw [hT]
      first
        | exact ⟨_, rfl, none, 0, by rw [he2, hnx]; rfl, Own.nil, Fr.none, hf1⟩
        | exact ⟨_, rfl, none, 0, by rw [hnx, he]; rfl, Own.nil, Fr.none, hf1⟩
        | exact ⟨_, rfl, none, 0, rfl, Own.nil, Fr.none, hf1⟩
        | exact ⟨_, rfl, po, pc, by rw [hnx], ho1, hfr1, hf1⟩
        | exact ⟨_, rfl, none, 0, rfl, Own.nil, Fr.none, hf1.trans hf5⟩
        | exact ⟨_, rfl, o5, c5, by rw [hnx], ho5, fun b hb => Nat.le_trans hf1.size (hfr5 b hb), hf1.trans hf5⟩
    ·
      have hx0 : ¬ x.length = 0 := by omega
      refine Sl.calm (Cm.pick_f rfl rfl) rfl ?_
      refine Sl.nil ?_
      refine At.weak [(0, _), (1, _), (4, _), (5, _), (6, _), (7, _), (8, _), (9, _), (10, _), (11, _), (28, _)] ⟨rfl, rfl, rfl, rfl, rfl, rfl, rfl, rfl, rfl, rfl, rfl, trivial⟩ ?_
      refine At.go ?_
      refine Sc.cond_f rfl ?_
      refine Sc.skip ?_
      refine At.go ?_
      refine Sc.seq ?_
      refine Sc.seq ?_
      refine Sc.region ?_
      refine Sl.calm (Cm.move rfl) rfl ?_
      refine Sl.calm (Cm.move rfl) rfl ?_
      have hsx := sumS_lt x
      refine Sl.call fn115 rfl (rsum_ok po pc x w1 ho1.vw) rfl ?_
      rintro _ wq ⟨rfl, hwq⟩
      subst wq
      refine Sl.calm (Cm.convI_in (n := ((sumS x : Nat) : Int)) is40 ty3 rfl (wrap64_id (by omega))) rfl ?_
      refine Sl.fork (Cm.neq rfl rfl) rfl (fun h35 => ?_) (fun h35 => ?_)
      ·
        have hT := takeS_sum hcs hx0 (fun h => h35 (by rw [h]))
        refine Sl.nil ?_
        refine At.weak [(0, _), (1, _), (4, _), (5, _), (6, _), (7, _), (8, _), (9, _), (10, _), (11, _), (28, _), (35, _)] ⟨rfl, rfl, rfl, rfl, rfl, rfl, rfl, rfl, rfl, rfl, rfl, rfl, trivial⟩ ?_
        refine At.go ?_
        refine Sc.cond_t rfl ?_
        refine Sc.seq ?_
        refine Sc.region ?_
        refine Sl.calm (Cm.assign rfl) rfl ?_
        refine Sl.calm (Cm.assign rfl) rfl ?_
        refine Sl.calm (Cm.assign rfl) rfl ?_
        refine Sl.nil ?_
        refine At.go ?_
        refine Sc.ret ?_
        refine At.then_ret ?_
        refine At.ret3 rfl rfl rfl rfl ?_
        rw [hT]
        first
          | exact ⟨_, rfl, none, 0, by rw [he2, hnx]; rfl, Own.nil, Fr.none, hf1⟩
          | exact ⟨_, rfl, none, 0, by rw [hnx, he]; rfl, Own.nil, Fr.none, hf1⟩
          | exact ⟨_, rfl, none, 0, rfl, Own.nil, Fr.none, hf1⟩
          | exact ⟨_, rfl, po, pc, by rw [hnx], ho1, hfr1, hf1⟩
          | exact ⟨_, rfl, none, 0, rfl, Own.nil, Fr.none, hf1.trans hf5⟩
          | exact ⟨_, rfl, o5, c5, by rw [hnx], ho5, fun b hb => Nat.le_trans hf1.size (hfr5 b hb), hf1.trans hf5⟩
      ·
        have hsum : ¬ sumS x ≠ s := fun h => h35 (fun h2 => h (by omega))
        refine Sl.nil ?_
        refine At.weak [(0, _), (1, _), (4, _), (5, _), (6, _), (7, _), (8, _), (9, _), (10, _), (11, _), (28, _), (35, _)] ⟨rfl, rfl, rfl, rfl, rfl, rfl, rfl, rfl, rfl, rfl, rfl, rfl, trivial⟩ ?_
        refine At.go ?_
        refine Sc.cond_f rfl ?_
        refine Sc.skip ?_
        refine At.go ?_
        refine Sc.seq ?_
        refine Sc.seq ?_
        refine Sc.region ?_
        refine Sl.fork (Cm.ofBool (Cm.move rfl)) rfl (fun h36 => ?_) (fun h36 => ?_)
        ·
          have hT := takeS_stored hcs hx0 hsum h36
          refine Sl.nil ?_
          refine At.go ?_
          refine Sc.cond_t rfl ?_
          refine Sc.seq ?_
          refine Sc.region ?_
          refine Sl.calm (Cm.move rfl) rfl ?_
          refine Sl.calm (Cm.move rfl) rfl ?_
          refine Sl.calm (Cm.assign rfl) rfl ?_
          refine Sl.calm (Cm.assign rfl) rfl ?_
          refine Sl.calm (Cm.assign rfl) rfl ?_
          refine Sl.nil ?_
          refine At.weak [(0, _), (1, _), (4, _), (5, _), (6, _), (7, _), (8, _), (9, _), (10, _), (11, _), (28, _), (35, _), (36, _)] ⟨rfl, rfl, rfl, rfl, rfl, rfl, rfl, rfl, rfl, rfl, rfl, rfl, rfl, trivial⟩ ?_
          refine At.go ?_
          refine Sc.ret ?_
          refine At.then_ret ?_
          refine At.ret3 rfl rfl rfl rfl ?_
          rw [hT]
          first
            | exact ⟨_, rfl, none, 0, by rw [he2, hnx]; rfl, Own.nil, Fr.none, hf1⟩
            | exact ⟨_, rfl, none, 0, by rw [hnx, he]; rfl, Own.nil, Fr.none, hf1⟩
            | exact ⟨_, rfl, none, 0, rfl, Own.nil, Fr.none, hf1⟩
            | exact ⟨_, rfl, po, pc, by rw [hnx], ho1, hfr1, hf1⟩
            | exact ⟨_, rfl, none, 0, rfl, Own.nil, Fr.none, hf1.trans hf5⟩
            | exact ⟨_, rfl, o5, c5, by rw [hnx], ho5, fun b hb => Nat.le_trans hf1.size (hfr5 b hb), hf1.trans hf5⟩
        ·
          refine Sl.nil ?_
          refine At.go ?_
          refine Sc.cond_f rfl ?_
          refine Sc.skip ?_
          refine At.go ?_
          refine Sc.seq ?_
          refine Sc.region ?_
          refine Sl.calm (Cm.move rfl) rfl ?_
          refine Sl.call fn116 rfl (runpack_ok po pc x 128 w1 ho1.vw (by omega) (by decide)) rfl ?_
          rw [upS_128]
          rintro _ w5 ⟨o5, c5, rfl, ho5, hfr5, hf5⟩
          refine Sl.calm (Cm.move rfl) rfl ?_
          refine Sl.calm (Cm.extract rfl rfl) rfl ?_
          refine Sl.calm (Cm.extract rfl rfl) rfl ?_
          refine Sl.calm (Cm.assign rfl) rfl ?_
          refine Sl.calm (Cm.assign rfl) rfl ?_
          refine Sl.nil ?_
          refine At.weak [(0, _), (1, _), (4, _), (5, _), (6, _), (7, _), (8, _), (9, _), (10, _), (11, _), (12, _), (28, _), (35, _), (36, _)] ⟨rfl, rfl, rfl, rfl, rfl, rfl, rfl, rfl, rfl, rfl, rfl, rfl, rfl, rfl, trivial⟩ ?_
          refine At.go ?_
          refine Sc.seq ?_
          refine Sc.seq ?_
          refine Sc.region ?_
          refine Sl.calm (Cm.move rfl) rfl ?_
          refine Sl.fork (Cm.neq rfl rfl) rfl (fun h45 => ?_) (fun h45 => ?_)
          ·
            have hT := takeS_bad hcs hx0 hsum h36 (.inl h45)
            refine Sl.calm (Cm.move rfl) rfl ?_
            refine Sl.skip rfl rfl rfl rfl ?_
            refine Sl.skip rfl rfl rfl rfl ?_
            refine Sl.skip rfl rfl rfl rfl ?_
            refine Sl.calm (Cm.pick_t rfl rfl) rfl ?_
            refine Sl.nil ?_
            refine At.weak [(0, _), (1, _), (4, _), (5, _), (6, _), (7, _), (8, _), (9, _), (10, _), (11, _), (12, _), (28, _), (35, _), (36, _), (50, _)] ⟨rfl, rfl, rfl, rfl, rfl, rfl, rfl, rfl, rfl, rfl, rfl, rfl, rfl, rfl, rfl, trivial⟩ ?_
            refine At.go ?_
            refine Sc.cond_t rfl ?_
            refine Sc.seq ?_
            refine Sc.region ?_
            refine Sl.calm (Cm.assign rfl) rfl ?_
            refine Sl.calm (Cm.assign rfl) rfl ?_
            refine Sl.calm (Cm.assign rfl) rfl ?_
            refine Sl.nil ?_
            refine At.go ?_
            refine Sc.ret ?_
            refine At.then_ret ?_
            refine At.ret3 rfl rfl rfl rfl ?_
            rw [hT]
            first
              | exact ⟨_, rfl, none, 0, by rw [he2, hnx]; rfl, Own.nil, Fr.none, hf1⟩
              | exact ⟨_, rfl, none, 0, by rw [hnx, he]; rfl, Own.nil, Fr.none, hf1⟩
              | exact ⟨_, rfl, none, 0, rfl, Own.nil, Fr.none, hf1⟩
              | exact ⟨_, rfl, po, pc, by rw [hnx], ho1, hfr1, hf1⟩
              | exact ⟨_, rfl, none, 0, rfl, Own.nil, Fr.none, hf1.trans hf5⟩
              | exact ⟨_, rfl, o5, c5, by rw [hnx], ho5, fun b hb => Nat.le_trans hf1.size (hfr5 b hb), hf1.trans hf5⟩
          ·
            have hu0 : (up 128 x []).2 = 0 := Decidable.not_not.1 h45
            refine Sl.calm (Cm.move rfl) rfl ?_
            refine Sl.want rfl rfl (Cm.move rfl) rfl ?_
            refine Sl.want rfl rfl (Cm.len sl25 rfl) rfl ?_
            refine Sl.forkWant rfl rfl (Cm.eql rfl rfl) rfl (fun h49 => ?_) (fun h49 => ?_)
            ·
              have hT := takeS_bad hcs hx0 hsum h36 (.inr (by omega))
              refine Sl.calm (Cm.pick_f rfl rfl) rfl ?_
              refine Sl.nil ?_
              refine At.weak [(0, _), (1, _), (4, _), (5, _), (6, _), (7, _), (8, _), (9, _), (10, _), (11, _), (12, _), (28, _), (35, _), (36, _), (50, _)] ⟨rfl, rfl, rfl, rfl, rfl, rfl, rfl, rfl, rfl, rfl, rfl, rfl, rfl, rfl, rfl, trivial⟩ ?_
              refine At.go ?_
              refine Sc.cond_t rfl ?_
              refine Sc.seq ?_
              refine Sc.region ?_
              refine Sl.calm (Cm.assign rfl) rfl ?_
              refine Sl.calm (Cm.assign rfl) rfl ?_
              refine Sl.calm (Cm.assign rfl) rfl ?_
              refine Sl.nil ?_
              refine At.go ?_
              refine Sc.ret ?_
              refine At.then_ret ?_
              refine At.ret3 rfl rfl rfl rfl ?_
              rw [hT]
              first
                | exact ⟨_, rfl, none, 0, by rw [he2, hnx]; rfl, Own.nil, Fr.none, hf1⟩
                | exact ⟨_, rfl, none, 0, by rw [hnx, he]; rfl, Own.nil, Fr.none, hf1⟩
                | exact ⟨_, rfl, none, 0, rfl, Own.nil, Fr.none, hf1⟩
                | exact ⟨_, rfl, po, pc, by rw [hnx], ho1, hfr1, hf1⟩
                | exact ⟨_, rfl, none, 0, rfl, Own.nil, Fr.none, hf1.trans hf5⟩
                | exact ⟨_, rfl, o5, c5, by rw [hnx], ho5, fun b hb => Nat.le_trans hf1.size (hfr5 b hb), hf1.trans hf5⟩
            ·
              have hT := takeS_lz hcs hx0 hsum h36 (by rintro (h | h); exact h hu0; omega)
              refine Sl.calm (Cm.pick_f rfl rfl) rfl ?_
              refine Sl.nil ?_
              refine At.weak [(0, _), (1, _), (4, _), (5, _), (6, _), (7, _), (8, _), (9, _), (10, _), (11, _), (12, _), (28, _), (35, _), (36, _), (50, _)] ⟨rfl, rfl, rfl, rfl, rfl, rfl, rfl, rfl, rfl, rfl, rfl, rfl, rfl, rfl, rfl, trivial⟩ ?_
              refine At.go ?_
              refine Sc.cond_f rfl ?_
              refine Sc.skip ?_
              refine At.go ?_
              refine Sc.seq ?_
              refine Sc.region ?_
              refine Sl.calm (Cm.move rfl) rfl ?_
              refine Sl.calm (Cm.move rfl) rfl ?_
              refine Sl.calm (Cm.assign rfl) rfl ?_
              refine Sl.calm (Cm.assign rfl) rfl ?_
              refine Sl.calm (Cm.assign rfl) rfl ?_
              refine Sl.nil ?_
              refine At.weak [(0, _), (1, _), (4, _), (5, _), (6, _), (7, _), (8, _), (9, _), (10, _), (11, _), (12, _), (28, _), (35, _), (36, _), (50, _)] ⟨rfl, rfl, rfl, rfl, rfl, rfl, rfl, rfl, rfl, rfl, rfl, rfl, rfl, rfl, rfl, trivial⟩ ?_
              refine At.go ?_
              refine Sc.ret ?_
              refine At.ret3 rfl rfl rfl rfl ?_
              rw [hT]
              first
                | exact ⟨_, rfl, none, 0, by rw [he2, hnx]; rfl, Own.nil, Fr.none, hf1⟩
                | exact ⟨_, rfl, none, 0, by rw [hnx, he]; rfl, Own.nil, Fr.none, hf1⟩
                | exact ⟨_, rfl, none, 0, rfl, Own.nil, Fr.none, hf1⟩
                | exact ⟨_, rfl, po, pc, by rw [hnx], ho1, hfr1, hf1⟩
                | exact ⟨_, rfl, none, 0, rfl, Own.nil, Fr.none, hf1.trans hf5⟩
                | exact ⟨_, rfl, o5, c5, by rw [hnx], ho5, fun b hb => Nat.le_trans hf1.size (hfr5 b hb), hf1.trans hf5⟩
theorem rn_sh {out l : List UInt8} (h0 : 0 < l.length) (h : l.length ≤ 128) : rn out l = out ++ UInt8.ofNat (l.length - 1) :: l := by
  rw [rn_step h0, show min l.length 128 = l.length by omega, List.take_of_length_le (Nat.le_refl _), List.drop_of_length_le (Nat.le_refl _), rn_nil]
def exF : List UInt8 := [2, 128, 125, 109, 72, 131, 158, 97, 98]
theorem ex_put0 : putS [] = ([0, 0, 255], 0) := by decide +kernel
theorem ex_put2 : putS [97, 98] = (exF, 0) := by
  have hp : pkS [97, 98] = [1, 97, 98] := by
    unfold pkS
    rw [pk_one (by decide) (by decide +kernel), pk_one (by decide) (by decide +kernel), pk_end (by decide), rn_sh (by decide) (by decide)]
    rfl
  unfold putS
  rw [if_neg (by decide), if_neg (by decide), hp, if_neg (by decide)]
  decide +kernel
theorem takeS_put {b : List UInt8} (h : b.length ≤ 128) (pre rest : List UInt8) : takeS (pre ++ ((putS b).1 ++ rest)) pre.length = (b, (pre.length : Int) + (putS b).1.length, 0) ∧ skipS (pre ++ ((putS b).1 ++ rest)) pre.length = ((pre.length : Int) + (putS b).1.length, 0) := by
  obtain ⟨h1, _, h3⟩ := take_frame h rest
  have hc : cutS (pre ++ ((putS b).1 ++ rest)) (pre.length : Int) = cutP ((putS b).1 ++ rest) := by
    unfold cutS
    rw [if_neg (by rw [List.length_append]; omega), show ((pre.length : Nat) : Int).toNat = pre.length from rfl, List.drop_left' rfl]
  refine ⟨?_, ?_⟩
  · unfold takeS
    rw [hc, h1]; rfl
  · unfold skipS
    rw [hc]
    split at h3
    · rename_i hn
      rw [hn] at h1
      unfold takeC at h1
      simp only [Prod.mk.injEq] at h1
      omega
    · rename_i x s st hn
      simp only [h3]
theorem ex_take : takeS exF 0 = ([97, 98], 9, 0) := by have := (takeS_put (b := [97, 98]) (by decide) [] []).1; rw [ex_put2] at this; exact this
theorem ex_cut : cutS exF 1 = none := by decide +kernel
theorem ex_none4 : takeS exF 1 = ([], 0, 2) := takeS_none ex_cut

end Go.Proofs.Ytoaplldahbbaiaa
/- frame: how long what is taken is at most. No condition. -/
namespace Go.Proofs.Ytoaplldahbbaiaa
open Go Go.RowKit
set_option linter.unusedVariables false

def bd (z : Int) : Prop := -9223372036854775808 ≤ z ∧ z ≤ 9223372036854775807
theorem up_len (most : Int) : ∀ (k : Nat) (b out : List UInt8), b.length = k → (out.length : Int) ≤ most → ((up most b out).1.length : Int) ≤ most := by
  intro k
  induction k using Nat.strongRecOn with
  | ind k ih =>
    intro b out hk ho
    by_cases h0 : 0 < b.length
    · have hm : (0 : Int) ≤ most := by omega
      obtain ⟨t, ht⟩ : ∃ t, t = (b.getD 0 0).toNat := ⟨_, rfl⟩
      have ht2 := (b.getD 0 0).toNat_lt
      by_cases h : t < 128
      · rw [up_small h0 ht h]
        split
        · simpa using hm
        · split
          · simpa using hm
          · refine ih _ ?_ (b.drop (t + 2)) _ rfl ?_
            · rw [List.length_drop]; omega
            · rw [List.length_append, List.length_take, List.length_drop]; omega
      · rw [up_great h0 ht rfl h]
        split
        · simpa using hm
        · split
          · simpa using hm
          · split
            · simpa using hm
            · refine ih _ ?_ (b.drop 2) _ rfl ?_
              · rw [List.length_drop]; omega
              · rw [cp_len]; omega
    · have : b = [] := List.eq_nil_of_length_eq_zero (by omega)
      subst this
      rw [up_nil]; exact ho
theorem takeS_len (im : List UInt8) (a : Int) : (takeS im a).1.length ≤ 128 := by
  unfold takeS takeC
  simp only
  split
  · simp
  · rename_i x s st h
    have h1 := (cutS_len h).1
    have h2 := up_len 128 _ x [] rfl (by simp)
    split
    · simp
    · split
      · simp
      · split
        · exact h1
        · split
          · simp
          · simp only; omega
end Go.Proofs.Ytoaplldahbbaiaa
