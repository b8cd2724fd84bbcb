/- table: the law on what was put and is taken. No condition beyond the bounds that each states. -/
import Derived.Test.YtoaplldahbbaiaaTyAk
import Derived.Test.YtoaplldahbbaiaaTyPk
import Derived.Test.YtoaplldahbbaiaaRfsk
namespace Go.Proofs.Ytoaplldahbbaiaa
open Go Go.RowKit
set_option linter.unusedVariables false

def a16 (a : Int) : Nat := (BitVec.ofInt 64 a &&& BitVec.ofInt 64 65535).toNat
theorem a16_le (a : Int) : a16 a ≤ 65535 := by
  unfold a16
  rw [BitVec.toNat_and]
  exact Nat.le_trans Nat.and_le_right (by decide)
section
variable {P : Program} {N : Nt} {l : SF} {ty : TypeId} {pos : String} {aft : Array Edge} {CH : Array Obj → Prop} {x y : Operand} {t t' : TypeId} {g : Option (Nat × Bool)} {dd : Option Nat}
theorem Cm.and16 {a : Int} (hx : evL l x = some (.int .i64 a)) (hy : evL l y = some (.int .i64 65535)) : Cm P N CH l ⟨dd, .binOp .and t x y t', ty, pos, aft, g⟩ (.int .i64 (a16 a : Nat)) := fun c w hc _ => by
  have hb := a16_le a
  have h3 : (Op.intBits .and .i64 a 65535).run P w = .ok (.int .i64 (a16 a : Nat)) w := by
    show (pure (Value.int .i64 (IntKind.i64.wrap ((BitVec.ofInt 64 a &&& BitVec.ofInt 64 65535).toNat : Int))) : Sem Value).run P w = _
    have e : (BitVec.ofInt 64 a &&& BitVec.ofInt 64 65535).toNat = a16 a := rfl
    rw [e, wrap64_id (by omega)]; rfl
  simp [execOp, hc.ev hx, hc.ev hy, binOp, eqGuard]
  rw [h3]; rfl
end
def n16 (L : List Int) : List Int := L.map fun z => ((a16 z : Nat) : Int)
theorem n16_in (L : List Int) : in16 (n16 L) := fun x hx => by
  obtain ⟨z, _, rfl⟩ := List.mem_map.1 hx
  have := a16_le z; omega
theorem n16_len (L : List Int) : (n16 L).length = L.length := List.length_map _
theorem n16_snoc (L : List Int) (i : Nat) (h : i < L.length) : n16 (L.take (i + 1)) = n16 (L.take i) ++ [((a16 (L.getD i 0) : Nat) : Int)] := by
  unfold n16; rw [take_snocI 0 h, List.map_append]; rfl

/-- rows of attributes, by their headers -/
def XrV (H : Array Obj) (hs : List Hd) (XS : List (List Xa)) : Prop := hs.length = XS.length ∧ ∀ (i : Nat) (h : Hd) (X : List Xa), hs[i]? = some h → XS[i]? = some X → h.n = X.length ∧ XaV H h.a h.c X
theorem XrV.grow {w w' : World} {hs : List Hd} {XS : List (List Xa)} (h : XrV w.heap hs XS) (f : Foot nob w w') : XrV w'.heap hs XS := ⟨h.1, fun i y X hy hX => ⟨(h.2 i y X hy hX).1, (h.2 i y X hy hX).2.grow f⟩⟩
theorem XrV.at {H : Array Obj} {hs : List Hd} {XS : List (List Xa)} (h : XrV H hs XS) {i : Nat} (hi : i < XS.length) : ∃ x : Hd, hs[i]? = some x ∧ x.n = (XS.getD i []).length ∧ XaV H x.a x.c (XS.getD i []) := by
  have hi2 : i < hs.length := by rw [h.1]; exact hi
  refine ⟨hs[i], List.getElem?_eq_getElem hi2, ?_⟩
  have := h.2 i hs[i] XS[i] (List.getElem?_eq_getElem hi2) (List.getElem?_eq_getElem hi)
  simpa [List.getD, hi] using this
theorem XrV.nil {H : Array Obj} : XrV H [] [] := ⟨rfl, by simp⟩
theorem XrV.snoc {H : Array Obj} {hs : List Hd} {XS : List (List Xa)} (h : XrV H hs XS) {x : Hd} {X : List Xa} (h1 : x.n = X.length) (h2 : XaV H x.a x.c X) : XrV H (hs ++ [x]) (XS ++ [X]) := by
  refine ⟨by simp [h.1], fun i y Y hy hY => ?_⟩
  by_cases hi : i < hs.length
  · rw [List.getElem?_append_left hi] at hy
    rw [List.getElem?_append_left (by rw [← h.1]; exact hi)] at hY
    exact h.2 i y Y hy hY
  · have hi' : i = hs.length := by
      have := (List.getElem?_eq_some_iff.1 hy).1; simp at this; omega
    subst hi'
    simp at hy
    rw [h.1] at hY; simp at hY
    subst hy; subst hY
    exact ⟨h1, h2⟩
def okX (X : List Xa) : Prop := mayX X ∧ 0 < X.length
instance (X : List Xa) : Decidable (okX X) := by unfold okX; exact inferInstance
def keepX (XS : List (List Xa)) : List (List Xa) := XS.filter fun X => decide (okX X)
def rowX (XS : List (List Xa)) : List (List UInt8) := (keepX XS).map encXs
theorem keepX_yes {XS : List (List Xa)} {i : Nat} (h : i < XS.length) (hm : okX (XS.getD i [])) : keepX (XS.take (i + 1)) = keepX (XS.take i) ++ [XS.getD i []] := by
  rw [take_snocI [] h]; unfold keepX; rw [List.filter_append, List.filter_cons_of_pos (by simpa using hm)]; rfl
theorem keepX_no {XS : List (List Xa)} {i : Nat} (h : i < XS.length) (hm : ¬ okX (XS.getD i [])) : keepX (XS.take (i + 1)) = keepX (XS.take i) := by
  rw [take_snocI [] h]; unfold keepX; rw [List.filter_append, List.filter_cons_of_neg (by simpa using hm)]; simp
theorem rowX_yes {XS : List (List Xa)} {i : Nat} (h : i < XS.length) (hm : okX (XS.getD i [])) : rowX (XS.take (i + 1)) = rowX (XS.take i) ++ [encXs (XS.getD i [])] := by
  unfold rowX; rw [keepX_yes h hm, List.map_append]; rfl
theorem rowX_no {XS : List (List Xa)} {i : Nat} (h : i < XS.length) (hm : ¬ okX (XS.getD i [])) : rowX (XS.take (i + 1)) = rowX (XS.take i) := by unfold rowX; rw [keepX_no h hm]
theorem keepX_at {XS : List (List Xa)} {i : Nat} (h : i < (keepX XS).length) : okX ((keepX XS).getD i []) := by
  have : (keepX XS).getD i [] ∈ keepX XS := by rw [List.getD, List.getElem?_eq_getElem h]; exact List.getElem_mem _
  have := (List.mem_filter.1 this).2
  simpa using this
theorem rowX_len (XS : List (List Xa)) : (rowX XS).length = (keepX XS).length := List.length_map _
theorem keepX_le (XS : List (List Xa)) : (keepX XS).length ≤ XS.length := List.length_filter_le _ _
theorem encXs_len {X : List Xa} (h : mayX X) : 1 ≤ (encXs X).length ∧ (encXs X).length ≤ 2401 := by
  have h1 := xSt_cat h _ (Nat.le_refl _)
  have h2 := (xSt_good h _ (Nat.le_refl _)).2
  have h8 := h.2
  rw [h1, List.take_length] at h2
  refine ⟨by simp [encXs], ?_⟩
  have h2 : (encXs X).length ≤ 1 + 300 * X.length := h2
  omega
theorem rowX_flat : ∀ (K : List (List Xa)), (∀ x ∈ K, mayX x) → (K.map encXs).flatten.length ≤ 2401 * K.length
  | [], _ => Nat.le_refl _
  | x :: r, h => by
    have h1 := (encXs_len (h x (by simp))).2
    have h2 := rowX_flat r (fun y hy => h y (by simp [hy]))
    simp only [List.map_cons, List.flatten_cons, List.length_append, List.length_cons]; omega
theorem rowX_b (XS : List (List Xa)) : (rowX XS).flatten.length ≤ 2401 * XS.length := by
  have h1 := rowX_flat (keepX XS) (fun x hx => by have := (List.mem_filter.1 hx).2; exact (show okX x by simpa using this).1)
  have h2 := keepX_le XS
  have h3 : 2401 * (keepX XS).length ≤ 2401 * XS.length := Nat.mul_le_mul_left _ h2
  exact Nat.le_trans h1 h3
set_option maxHeartbeats 8000000 in
theorem tableBack_ok (lo : Option Addr) (lc : Nat) (L : List Int) (xo : Option Addr) (xc : Nat) (hs : List Hd) (XS : List (List Xa)) (W : World) (hl0 : Vw i64 W.heap lo lc L) (hx0 : Vw hd W.heap xo xc hs) (hX0 : XrV W.heap hs XS) :
    Calls Try.prog 12 [.slice lo L.length lc, .slice xo hs.length xc].toArray W (Ret fun v w' => v = .bool true ∧ Foot nob W w') := by
  have hll := hl0.len63
  have hxl := hx0.len63
  have hhl := hX0.1
  refine calls_of_sc 203 [(0, _), (1, _)] Try.func12 rfl rfl rfl (enter_slots ⟨rfl, rfl, trivial⟩) ?_
  refine Sc.seq ?_
  refine Sc.region ?_
  refine Sl.calm (Cm.assign rfl) rfl ?_
  refine Sl.nil ?_
  refine At.go ?_
  refine Sc.seq ?_
  refine Sc.region ?_
  refine Sl.call fn14 rfl (shown11_ok W) rfl ?_
  rintro _ w1 ⟨rfl, hf1⟩
  refine Sl.calm (Cm.assign rfl) rfl ?_
  refine Sl.nil ?_
  refine At.weak [(0, _), (1, _), (4, _), (5, _)] ⟨rfl, rfl, rfl, rfl, trivial⟩ ?_
  refine At.go ?_
  refine Sc.seq ?_
  refine Sc.region ?_
  refine Sl.call fn27 rfl (crcnew_ok w1) rfl ?_
  rintro _ w3 ⟨rfl, hf3⟩
  refine Sl.allocC zc42 rfl ?_
  intro w4 hg4 hs4 hf4
  refine Sl.storeAll (vs := tab) aggTab rfl rfl tab_one hg4 (by rw [tab_len, List.length_replicate]) ?_
  intro w5 hg5 hs5 hf5
  obtain ⟨p, hp⟩ : ∃ p, p = w3.heap.size := ⟨_, rfl⟩
  have hF5 : Foot nob W w5 := ((hf1.trans hf3).trans hf4).trans_to hf5 (fun k hk => .inr (by have h : k = w3.heap.size := hk; have := (hf1.trans hf3).size; omega))
  rw [← hp] at hg5 ⊢
  have ht5 : TbV w5.heap p := hg5
  have hpl := (Array.getElem?_eq_some_iff.1 ht5).1
  refine Sl.nil ?_
  refine At.weak [(0, _), (1, _), (4, _), (5, _), (6, _)] ⟨rfl, rfl, rfl, rfl, rfl, trivial⟩ ?_
  refine At.go ?_
  refine Sc.seq ?_
  refine Sc.region ?_
  refine Sl.call fn39 rfl (mnewT_ok p w5 ht5) rfl ?_
  rintro _ w6 ⟨rfl, hM6, hf6⟩
  obtain ⟨g, hg⟩ : ∃ g, g = w5.heap.size := ⟨_, rfl⟩
  rw [← hg]
  rw [← hg] at hM6
  have hz6 := hf6.size
  refine Sl.calm (Cm.assign rfl) rfl ?_
  refine Sl.nil ?_
  refine At.weak [(0, _), (1, _), (4, _), (5, _), (6, _), (7, _)] ⟨rfl, rfl, rfl, rfl, rfl, rfl, trivial⟩ ?_
  refine At.go ?_
  refine Sc.seq ?_
  refine Sc.region ?_
  refine Sl.call fn39 rfl (mnewT_ok p w6 (hf6.obj ht5 id)) rfl ?_
  rintro _ w7 ⟨rfl, hV7, hf7⟩
  obtain ⟨g2, hg2⟩ : ∃ g, g = w6.heap.size := ⟨_, rfl⟩
  rw [← hg2]
  rw [← hg2] at hV7
  have hz7 := hf7.size
  have hM7 := hM6.grow hf7
  have hF57 := hf6.trans hf7
  refine Sl.calm (Cm.assign rfl) rfl ?_
  refine Sl.nil ?_
  refine At.weak [(0, _), (1, _), (4, _), (5, _), (6, _), (7, _), (8, _)] ⟨rfl, rfl, rfl, rfl, rfl, rfl, rfl, trivial⟩ ?_
  refine At.go ?_
  refine Sc.seq ?_
  refine Sc.seq ?_
  refine Sc.region ?_
  refine Sl.calm (Cm.move rfl) rfl ?_
  refine Sl.calm (Cm.not rfl) rfl ?_
  refine Sl.calm (Cm.move rfl) rfl ?_
  refine Sl.want rfl rfl (Cm.move rfl) rfl ?_
  refine Sl.want rfl rfl (Cm.eqlPtrNil ptr74 rfl rfl) rfl ?_
  refine Sl.calm (Cm.pick_f rfl rfl) rfl ?_
  refine Sl.calm (Cm.move rfl) rfl ?_
  refine Sl.want rfl rfl (Cm.move rfl) rfl ?_
  refine Sl.want rfl rfl (Cm.eqlPtrNil ptr74 rfl rfl) rfl ?_
  refine Sl.calm (Cm.pick_f rfl rfl) rfl ?_
  refine Sl.nil ?_
  refine At.weak [(0, _), (1, _), (4, _), (5, _), (6, _), (7, _), (8, _), (46, _)] ⟨rfl, rfl, rfl, rfl, rfl, rfl, rfl, rfl, trivial⟩ ?_
  refine At.go ?_
  refine Sc.cond_f rfl ?_
  refine Sc.skip ?_
  refine At.go ?_
  refine Sc.seq ?_
  refine Sc.region ?_
  refine Sl.lit0 i64 sl22 rfl ?_
  intro w8 ho8 hs8 hf8
  refine Sl.calm (Cm.assign rfl) rfl ?_
  refine Sl.nil ?_
  refine At.weak [(0, _), (1, _), (4, _), (5, _), (6, _), (7, _), (8, _), (9, _), (46, _)] ⟨rfl, rfl, rfl, rfl, rfl, rfl, rfl, rfl, rfl, trivial⟩ ?_
  refine At.go ?_
  refine Sc.seq ?_
  refine Sc.seq ?_
  refine Sc.region ?_
  refine Sl.calm (Cm.assign rfl) rfl ?_
  refine Sl.nil ?_
  refine At.go ?_
  refine Sc.block ?_
  refine Sc.loop (β := Nat × (Option Addr × Nat)) (fun ⟨i, ⟨oo, oc⟩⟩ => [(0, .slice lo L.length lc), (1, .slice xo hs.length xc), (6, .pointer (some ⟨p, 0, none⟩)), (7, .pointer (some ⟨g, 0, none⟩)), (8, .pointer (some ⟨g2, 0, none⟩)), (9, .slice oo (n16 (L.take i)).length oc), (10, .int .i64 i)]) (fun ⟨i, ⟨oo, oc⟩⟩ w => i ≤ 200 ∧ Own i64 3 w.heap oo oc (n16 (L.take i)) ∧ (∀ a, oo = some a → w7.heap.size ≤ a.block) ∧ Foot nob w7 w) (fun ⟨i, ⟨oo, oc⟩⟩ => 200 - i) ⟨0, ⟨some ⟨w7.heap.size, 0, none⟩, 0⟩⟩ ⟨rfl, rfl, rfl, rfl, rfl, rfl, rfl, trivial⟩ ⟨Nat.zero_le _, ho8, (fun a ha => by cases ha; exact Nat.le_refl _), hf8⟩ ?_
  rintro ⟨i, ⟨oo, oc⟩⟩ w ⟨hi, hoo, hioo, hFw⟩
  refine Sc.seq ?_
  refine Sc.seq ?_
  refine Sc.region ?_
  refine Sl.calm (Cm.move rfl) rfl ?_
  refine Sl.calm (Cm.move rfl) rfl ?_
  refine Sl.calm (Cm.len sl22 rfl) rfl ?_
  refine Sl.fork (Cm.lss rfl rfl) rfl (fun h51 => ?_) (fun h51 => ?_)
  ·
    have hiL : i < L.length := by omega
    have hlw := hl0.grow ((hF5.trans hF57).trans hFw)
    have hsn := n16_snoc L i hiL
    have hnl := n16_len (L.take i)
    rw [List.length_take] at hnl
    refine Sl.calm (Cm.move rfl) rfl ?_
    refine Sl.want rfl rfl (Cm.move rfl) rfl ?_
    refine Sl.forkWant rfl rfl (Cm.lss rfl rfl) rfl (fun h54 => ?_) (fun h54 => ?_)
    ·
      refine Sl.calm (Cm.pick_t rfl rfl) rfl ?_
      refine Sl.nil ?_
      refine At.weak [(0, _), (1, _), (6, _), (7, _), (8, _), (9, _), (10, _), (55, _)] ⟨rfl, rfl, rfl, rfl, rfl, rfl, rfl, rfl, trivial⟩ ?_
      refine At.go ?_
      refine Sc.cond_t rfl ?_
      refine Sc.skip ?_
      refine At.go ?_
      refine Sc.seq ?_
      refine Sc.block ?_
      refine Sc.region ?_
      refine Sl.calm (Cm.move rfl) rfl ?_
      refine Sl.calm (Cm.move rfl) rfl ?_
      refine Sl.calm (Cm.move rfl) rfl ?_
      refine Sl.calm (Cm.indexAddr1 sl22 rfl rfl hlw.non (by omega)) rfl ?_
      refine Sl.calm (Cm.ld sca3 rfl (hlw.gz 0 i rfl hiL)) rfl ?_
      refine Sl.calm (Cm.and16 rfl rfl) rfl ?_
      refine Sl.lit1 (enc := i64) (u := ((a16 (L.getD i 0) : Nat) : Int)) sl22 (i64_oneT _) rfl rfl ?_
      intro wl hol hsl hfl
      refine Sl.append i64_oneT sl22 rfl rfl (hoo.grow hfl) hol.vw (by simp only [List.length_singleton]; omega) (by simp only [List.length_singleton]; unfold maxLen; omega) rfl ?_
      intro o9 c9 w9 ho9 hf9 hr9 hn9
      rw [← hsn] at ho9 ⊢
      have hF9 : Foot nob w7 w9 := (hFw.trans hfl).trans_to hf9 (fun k ⟨a, ha, e⟩ => .inr (by have := hioo a ha; omega))
      refine Sl.calm (Cm.assign rfl) rfl ?_
      refine Sl.nil ?_
      refine At.block_normal ?_
      refine At.weak [(0, _), (1, _), (6, _), (7, _), (8, _), (9, _), (10, _), (55, _)] ⟨rfl, rfl, rfl, rfl, rfl, rfl, rfl, rfl, trivial⟩ ?_
      refine At.go ?_
      refine Sc.region ?_
      refine Sl.calm (Cm.move rfl) rfl ?_
      refine Sl.calm (Cm.add64 rfl rfl (by omega)) rfl ?_
      refine Sl.calm (Cm.assign rfl) rfl ?_
      refine Sl.nil ?_
      exact At.again ⟨i + 1, ⟨o9, c9⟩⟩ ⟨rfl, rfl, rfl, rfl, rfl, rfl, rfl, trivial⟩ ⟨by omega, ho9, (fun a ha => by rcases hr9 a ha with h | h; exact hioo a h; have := hFw.size; have := hfl.size; omega), hF9⟩ (by show 200 - (i + 1) < 200 - i; omega)
    ·
      refine Sl.calm (Cm.pick_t rfl rfl) rfl ?_
      refine Sl.nil ?_
      refine At.weak [(0, _), (1, _), (6, _), (7, _), (8, _), (9, _), (10, _), (55, _)] ⟨rfl, rfl, rfl, rfl, rfl, rfl, rfl, rfl, trivial⟩ ?_
      refine At.go ?_
      refine Sc.cond_f rfl ?_
      refine Sc.exit ?_
      refine At.then_exit ?_
      refine At.then_exit ?_
      refine At.block_hit ?_
      refine At.go ?_
      refine Sc.seq ?_
      refine Sc.region ?_
      refine Sl.calm (Cm.move rfl) rfl ?_
      obtain ⟨NL, hNL⟩ : ∃ NL, NL = n16 (L.take i) := ⟨_, rfl⟩
      have h16 : in16 NL := by rw [hNL]; exact n16_in _
      have hnl : NL.length ≤ 200 := by rw [hNL, n16_len, List.length_take]; omega
      rw [← hNL] at hoo ⊢
      have hM := hM7.grow hFw
      have hV := hV7.grow hFw
      have hzw := hFw.size
      have hel := encN_len NL
      have hFW := (hF5.trans hF57).trans hFw
      have hoolt := hoo.lt
      refine Sl.call fn15 rfl (putNums_ok oo oc NL 2 w hoo.vw (by omega)) rfl ?_
      rw [putNums_enc h16]
      rintro _ w10 ⟨o10, c10, rfl, ho10, hfr10, hf10⟩
      have hz10 := hf10.size
      refine Sl.calm (Cm.move rfl) rfl ?_
      refine Sl.calm (Cm.extract rfl rfl) rfl ?_
      refine Sl.calm (Cm.extract rfl rfl) rfl ?_
      refine Sl.calm (Cm.assign rfl) rfl ?_
      refine Sl.calm (Cm.assign rfl) rfl ?_
      refine Sl.nil ?_
      refine At.weak [(0, _), (1, _), (6, _), (7, _), (8, _), (9, _), (10, _), (11, _), (12, _), (55, _)] ⟨rfl, rfl, rfl, rfl, rfl, rfl, rfl, rfl, rfl, rfl, trivial⟩ ?_
      refine At.go ?_
      refine Sc.seq ?_
      refine Sc.region ?_
      refine Sl.calm (Cm.move rfl) rfl ?_
      refine Sl.calm (Cm.move rfl) rfl ?_
      refine Sl.call fn40 rfl (maddT_ok (fun k => g ≤ k ∧ k < w6.heap.size) g p [] o10 c10 (encN NL) w10 (hM.grow hf10) ho10.vw (by simp only [List.length_nil]; omega)) rfl ?_
      rintro _ w11 ⟨rfl, hM11, hF11⟩
      rw [List.nil_append] at hM11
      have hz11 := hF11.size
      have hV11 := (hV.grow hf10).keep hF11 (fun k h1 h2 => by have := h1.1; have := h2.2; omega) (fun h => by have := h.1; omega)
      have hoo11 := (hoo.grow hf10).keep hF11 (fun a ha e => by have := hioo a ha; have := e.2; omega)
      have hF511 : Foot nob w5 w11 := (hF57.trans (hFw.trans hf10)).trans_to hF11 (fun k hk => .inr (by have := hk.1; omega))
      refine Sl.nil ?_
      refine At.weak [(0, _), (1, _), (6, _), (7, _), (8, _), (9, _), (10, _), (11, _), (12, _), (55, _)] ⟨rfl, rfl, rfl, rfl, rfl, rfl, rfl, rfl, rfl, rfl, trivial⟩ ?_
      refine At.go ?_
      refine Sc.seq ?_
      refine Sc.region ?_
      refine Sl.lit0 i64 sl22 rfl ?_
      intro w12 ho12 hs12 hf12
      refine Sl.calm (Cm.assign rfl) rfl ?_
      refine Sl.nil ?_
      refine At.weak [(0, _), (1, _), (6, _), (7, _), (8, _), (9, _), (10, _), (11, _), (12, _), (13, _), (55, _)] ⟨rfl, rfl, rfl, rfl, rfl, rfl, rfl, rfl, rfl, rfl, rfl, trivial⟩ ?_
      refine At.go ?_
      refine Sc.seq ?_
      refine Sc.region ?_
      refine Sl.lit0 hd sl73 rfl ?_
      intro w13 ho13 hs13 hf13
      have hf1113 := hf12.trans hf13
      have hM13 := hM11.grow hf1113
      have hV13 := hV11.grow hf1113
      have hoo13 := hoo11.grow hf1113
      have ho12b := ho12.grow hf13
      have hz13 := hf1113.size
      have hF513 := hF511.trans hf1113
      obtain ⟨qr, hqr⟩ : ∃ qr, qr = w11.heap.size := ⟨_, rfl⟩
      obtain ⟨qi, hqi⟩ : ∃ qi, qi = w12.heap.size := ⟨_, rfl⟩
      rw [← hqr] at ho12b ⊢
      rw [← hqi] at ho13 ⊢
      obtain ⟨E, hE⟩ : ∃ E : Nat → Prop, E = Nx (fun k => g ≤ k ∧ k < w6.heap.size) w10 w11 := ⟨_, rfl⟩
      rw [← hE] at hM13
      have hEb : ∀ k, E k → w5.heap.size ≤ k ∧ k < w11.heap.size ∧ ¬ (g2 ≤ k ∧ k < w7.heap.size) := fun k hk => by
        rw [hE] at hk
        rcases hk with h | h
        · have h1 := h.1; have h2 := h.2; exact ⟨by omega, by omega, by omega⟩
        · have h1 := h.1; have h2 := h.2; exact ⟨by omega, by omega, by omega⟩
      refine Sl.calm (Cm.assign rfl) rfl ?_
      refine Sl.nil ?_
      refine At.weak [(0, _), (1, _), (6, _), (7, _), (8, _), (9, _), (10, _), (11, _), (12, _), (13, _), (14, _), (55, _)] ⟨rfl, rfl, rfl, rfl, rfl, rfl, rfl, rfl, rfl, rfl, rfl, rfl, trivial⟩ ?_
      refine At.go ?_
      refine Sc.seq ?_
      refine Sc.seq ?_
      refine Sc.region ?_
      refine Sl.calm (Cm.assign rfl) rfl ?_
      refine Sl.nil ?_
      refine At.go ?_
      refine Sc.block ?_
      refine Sc.loop (β := (Nat × (Nat → Prop) × List Hd) × ((Option Addr × Nat) × (Option Addr × Nat))) (fun ⟨⟨j, A, ins⟩, ⟨⟨rr, cr⟩, ⟨oi, ci⟩⟩⟩ => [(1, .slice xo hs.length xc), (6, .pointer (some ⟨p, 0, none⟩)), (7, .pointer (some ⟨g, 0, none⟩)), (8, .pointer (some ⟨g2, 0, none⟩)), (9, .slice oo NL.length oc), (12, .int .i64 0), (13, .slice rr (refsA (rowX (XS.take j))).length cr), (14, .slice oi ins.length ci), (15, .int .i64 j)]) (fun ⟨⟨j, A, ins⟩, ⟨⟨rr, cr⟩, ⟨oi, ci⟩⟩⟩ u => j ≤ 12 ∧ j ≤ XS.length ∧ MwO A u.heap g2 p (cutW [] (rowX (XS.take j)).flatten).1 (cutW [] (rowX (XS.take j)).flatten).2 ∧ (∀ k, A k → (w5.heap.size ≤ k ∧ k < u.heap.size) ∧ ¬ E k ∧ ¬ blk oo k) ∧ MwO E u.heap g p (cutW [] (encN NL)).1 (cutW [] (encN NL)).2 ∧ Own i64 3 u.heap oo oc NL ∧ Own i64 3 u.heap rr cr (refsA (rowX (XS.take j))) ∧ Own hd 23 u.heap oi ci ins ∧ XrV W.heap ins (keepX (XS.take j)) ∧ Fr w11.heap.size rr ∧ Fr w11.heap.size oi ∧ (∀ k, blk rr k → ¬ A k) ∧ (∀ k, blk oi k → ¬ A k) ∧ Ap rr oi ∧ w11.heap.size ≤ u.heap.size ∧ Foot nob w5 u) (fun ⟨⟨j, A, ins⟩, ⟨⟨rr, cr⟩, ⟨oi, ci⟩⟩⟩ => 12 - j) ⟨⟨0, fun k => g2 ≤ k ∧ k < w7.heap.size, []⟩, ⟨⟨some ⟨qr, 0, none⟩, 0⟩, ⟨some ⟨qi, 0, none⟩, 0⟩⟩⟩ ⟨rfl, rfl, rfl, rfl, rfl, rfl, rfl, rfl, rfl, trivial⟩ ⟨Nat.zero_le _, Nat.zero_le _, by simpa [rowX, keepX] using hV13, (fun k hk => ⟨⟨by have := hk.1; omega, by have := hk.2; omega⟩, fun h => (hEb k h).2.2 hk, fun ⟨a, ha, e⟩ => by have := hioo a ha; have := hk.2; omega⟩), hM13, hoo13, by simpa [rowX, keepX, refsA] using ho12b, ho13, by simpa [keepX] using XrV.nil, (fun a ha => by cases ha; show w11.heap.size ≤ qr; omega), (fun a ha => by cases ha; show w11.heap.size ≤ qi; have := hf12.size; omega), (fun k ⟨a, ha, e⟩ h => by cases ha; have e : qr = k := e; have := h.2; omega), (fun k ⟨a, ha, e⟩ h => by cases ha; have e : qi = k := e; have := h.2; have := hf12.size; omega), (fun a z ha hz e => by cases ha; cases hz; have e : qr = qi := e; omega), hz13, hF513⟩ ?_
      rintro ⟨⟨j, A, ins⟩, ⟨⟨rr, cr⟩, ⟨oi, ci⟩⟩⟩ u ⟨hj, hjX0, hVu, hA, hMu, hoou, hru, hoiu, hXi, hfr, hfi, har, hai, hap, hzu, hFu⟩
      refine Sc.seq ?_
      refine Sc.seq ?_
      refine Sc.region ?_
      refine Sl.calm (Cm.move rfl) rfl ?_
      refine Sl.calm (Cm.move rfl) rfl ?_
      refine Sl.calm (Cm.len sl73 rfl) rfl ?_
      refine Sl.fork (Cm.lss rfl rfl) rfl (fun h79 => ?_) (fun h79 => ?_)
      ·
        have hjX : j < XS.length := by omega
        have hFWu := hF5.trans hFu
        have hxw := hx0.grow hFWu
        have hXw := hX0.grow hFWu
        obtain ⟨⟨ya, yn, yc⟩, hy, hyn, hyv⟩ := hXw.at hjX
        obtain rfl : yn = (XS.getD j []).length := hyn
        obtain ⟨X, hX⟩ : ∃ X, X = XS.getD j [] := ⟨_, rfl⟩
        rw [← hX] at hy hyv
        have hyc : cellH u.heap (adr xo (j : Int).toNat) = some (.slice ya X.length yc) := by rw [Int.toNat_natCast]; exact hxw.get j _ hy
        refine Sl.calm (Cm.move rfl) rfl ?_
        refine Sl.want rfl rfl (Cm.move rfl) rfl ?_
        refine Sl.forkWant rfl rfl (Cm.lss rfl rfl) rfl (fun h82 => ?_) (fun h82 => ?_)
        ·
          refine Sl.calm (Cm.pick_t rfl rfl) rfl ?_
          refine Sl.nil ?_
          refine At.weak [(1, _), (6, _), (7, _), (8, _), (9, _), (12, _), (13, _), (14, _), (15, _), (83, _)] ⟨rfl, rfl, rfl, rfl, rfl, rfl, rfl, rfl, rfl, rfl, trivial⟩ ?_
          refine At.go ?_
          refine Sc.cond_t rfl ?_
          refine Sc.skip ?_
          refine At.go ?_
          refine Sc.seq ?_
          refine Sc.block ?_
          refine Sc.seq ?_
          refine Sc.region ?_
          refine Sl.calm (Cm.move rfl) rfl ?_
          refine Sl.calm (Cm.move rfl) rfl ?_
          refine Sl.calm (Cm.indexAddr1 sl73 rfl rfl hxw.non (by omega)) rfl ?_
          refine Sl.calm (Cm.ld sca23 rfl hyc) rfl ?_
          refine Sl.call fn17 rfl (putX_ok ya yc X u hyv) rfl ?_
          rintro _ u1 ⟨o14, c14, rfl, ho14, hfr14, huf1⟩
          have hzu1 := huf1.size
          have hVu1 := hVu.grow huf1
          have hFu1 := hFu.trans huf1
          have hMu1 := hMu.grow huf1
          have hoou1 := hoou.grow huf1
          have hru1 := hru.grow huf1
          have hoiu1 := hoiu.grow huf1
          refine Sl.calm (Cm.move rfl) rfl ?_
          refine Sl.calm (Cm.extract rfl rfl) rfl ?_
          refine Sl.calm (Cm.extract rfl rfl) rfl ?_
          refine Sl.calm (Cm.assign rfl) rfl ?_
          refine Sl.calm (Cm.assign rfl) rfl ?_
          refine Sl.nil ?_
          refine At.weak [(1, _), (6, _), (7, _), (8, _), (9, _), (12, _), (13, _), (14, _), (15, _), (16, _), (17, _), (83, _)] ⟨rfl, rfl, rfl, rfl, rfl, rfl, rfl, rfl, rfl, rfl, rfl, rfl, trivial⟩ ?_
          refine At.go ?_
          refine Sc.seq ?_
          refine Sc.region ?_
          refine Sl.calm (Cm.move rfl) rfl ?_
          refine Sl.fork (Cm.eql rfl rfl) rfl (fun h95 => ?_) (fun h95 => ?_)
          ·
            obtain ⟨hm, h0⟩ := putXs_ok0.1 h95
            have hmX : okX (XS.getD j []) := by rw [← hX]; exact ⟨hm, h0⟩
            have eK := keepX_yes hjX hmX
            have eM := rowX_yes hjX hmX
            rw [← hX] at eK eM
            rw [putXs_enc hm h0] at ho14
            have hel2 := encXs_len hm
            have hKb := keepX_le (XS.take j)
            have hMb := rowX_b (XS.take j)
            rw [List.length_take] at hKb hMb
            have hil := hXi.1
            refine Sl.nil ?_
            refine At.weak [(1, _), (6, _), (7, _), (8, _), (9, _), (12, _), (13, _), (14, _), (15, _), (16, _), (17, _), (83, _), (95, _)] ⟨rfl, rfl, rfl, rfl, rfl, rfl, rfl, rfl, rfl, rfl, rfl, rfl, rfl, trivial⟩ ?_
            refine At.go ?_
            refine Sc.cond_t rfl ?_
            refine Sc.seq ?_
            refine Sc.region ?_
            refine Sl.calm (Cm.move rfl) rfl ?_
            refine Sl.calm (Cm.move rfl) rfl ?_
            refine Sl.calm (Cm.move rfl) rfl ?_
            refine Sl.call fn40 rfl (by rw [putXs_enc hm h0]; exact maddT_ok A g2 p (rowX (XS.take j)).flatten o14 c14 (encXs X) u1 hVu1 ho14.vw (by omega)) rfl ?_
            rintro _ u2 ⟨rfl, hVu2, hFu2⟩
            have hzu2 := hFu2.size
            have e2 : (rowX (XS.take j)).flatten ++ encXs X = (rowX (XS.take (j + 1))).flatten := by rw [eM, List.flatten_append]; simp
            rw [e2] at hVu2
            have hru2 := hru1.keep hFu2 (fun a ha e => har _ ⟨a, ha, rfl⟩ e)
            have hoiu2 := hoiu1.keep hFu2 (fun a ha e => hai _ ⟨a, ha, rfl⟩ e)
            have hMu2 := hMu1.keep hFu2 (fun k h1 h2 => (hA k h2).2.1 h1) (fun h => by have := (hA p h).1.1; omega)
            have hoou2 := hoou1.keep hFu2 (fun a ha e => (hA _ e).2.2 ⟨a, ha, rfl⟩)
            have hFu02 : Foot nob w5 u2 := hFu1.trans_to hFu2 (fun k hk => .inr (hA k hk).1.1)
            have hlr := hru.lt
            have hli := hoiu.lt
            refine Sl.lit1 (enc := i64) (u := ((refT (rowX (XS.take j)).flatten (rowX (XS.take j)).flatten.length : Nat) : Int)) sl22 (i64_oneT _) rfl rfl ?_
            intro u3 hol3 hsl3 huf3
            refine Sl.append i64_oneT sl22 rfl rfl (hru2.grow huf3) hol3.vw (by rw [refsA_len, rowX_len]; simp only [List.length_singleton]; omega) (by rw [refsA_len, rowX_len]; simp only [List.length_singleton]; unfold maxLen; omega) rfl ?_
            intro rr4 cr4 u4 hru4 huf4 hrr4 hnr4
            rw [← refsA_snoc, ← eM] at hru4 ⊢
            have hzu3 := huf3.size
            have hzu4 := huf4.size
            have hfx : ∀ k, k < w11.heap.size → ¬ blk rr k := fun k hk ⟨a, ha, e⟩ => by have := hfr a ha; omega
            have hoiu4 := (hoiu2.grow huf3).keep huf4 (fun a ha ⟨z, hz, e⟩ => hap z a hz ha e)
            have hMu4 := (hMu2.grow huf3).keep huf4 (fun k h1 h2 => hfx k (hEb k h1).2.1 h2) (hfx p (by omega))
            have hoou4 := (hoou2.grow huf3).keep huf4 (fun a ha e => hfx _ (by have := hoolt a ha; omega) e)
            have hVu4 := (hVu2.grow huf3).keep huf4 (fun k h1 ⟨a, ha, e⟩ => by rcases h1 with h | h; exact har k ⟨a, ha, e⟩ h; have := hlr a ha; have := h.1; omega) (hfx p (by omega))
            have hFu04 : Foot nob w5 u4 := (hFu02.trans huf3).trans_to huf4 (fun k ⟨a, ha, e⟩ => .inr (by have := hfr a ha; omega))
            have hyc4 : cellH u4.heap (adr xo (j : Int).toNat) = some (.slice ya X.length yc) := by rw [Int.toNat_natCast]; exact (hx0.grow (hF5.trans hFu04)).get j _ hy
            have hxw4 := hx0.grow (hF5.trans hFu04)
            have hlr4 := hru4.lt
            refine Sl.calm (Cm.assign rfl) rfl ?_
            refine Sl.nil ?_
            refine At.weak [(1, _), (6, _), (7, _), (8, _), (9, _), (12, _), (13, _), (14, _), (15, _), (16, _), (17, _), (83, _), (95, _)] ⟨rfl, rfl, rfl, rfl, rfl, rfl, rfl, rfl, rfl, rfl, rfl, rfl, rfl, trivial⟩ ?_
            refine At.go ?_
            refine Sc.region ?_
            refine Sl.calm (Cm.move rfl) rfl ?_
            refine Sl.calm (Cm.move rfl) rfl ?_
            refine Sl.calm (Cm.move rfl) rfl ?_
            refine Sl.calm (Cm.indexAddr1 sl73 rfl rfl hxw4.non (by omega)) rfl ?_
            refine Sl.calm (Cm.ld sca23 rfl hyc4) rfl ?_
            refine Sl.lit1 (enc := hd) (u := (⟨ya, X.length, yc⟩ : Hd)) sl73 rfl rfl rfl ?_
            intro u5 hol5 hsl5 huf5
            refine Sl.append hd_one sl73 rfl rfl (hoiu4.grow huf5) hol5.vw (by simp only [List.length_singleton]; omega) (by simp only [List.length_singleton]; unfold maxLen; omega) rfl ?_
            intro oi6 ci6 u6 hoi6 huf6 hri6 hni6
            have hzu5 := huf5.size
            have hzu6 := huf6.size
            have hfy : ∀ k, k < w11.heap.size → ¬ blk oi k := fun k hk ⟨a, ha, e⟩ => by have := hfi a ha; omega
            have hru6 := (hru4.grow huf5).keep huf6 (fun a ha ⟨z, hz, e⟩ => by rcases hrr4 a ha with h | h; exact hap a z h hz e.symm; have := hli z hz; omega)
            have hMu6 := (hMu4.grow huf5).keep huf6 (fun k h1 h2 => hfy k (hEb k h1).2.1 h2) (hfy p (by omega))
            have hoou6 := (hoou4.grow huf5).keep huf6 (fun a ha e => hfy _ (by have := hoolt a ha; omega) e)
            have hVu6 := (hVu4.grow huf5).keep huf6 (fun k h1 ⟨a, ha, e⟩ => by rcases h1 with h | h; exact hai k ⟨a, ha, e⟩ h; have := hli a ha; have := h.1; omega) (hfy p (by omega))
            have hFu06 : Foot nob w5 u6 := (hFu04.trans huf5).trans_to huf6 (fun k ⟨a, ha, e⟩ => .inr (by have := hfi a ha; omega))
            obtain ⟨⟨za, zn, zc⟩, hz, hzn, hzv⟩ := hX0.at hjX
            have hzy : (⟨za, zn, zc⟩ : Hd) = ⟨ya, X.length, yc⟩ := Option.some.inj (hz.symm.trans hy)
            cases hzy
            refine Sl.calm (Cm.assign rfl) rfl ?_
            refine Sl.nil ?_
            refine At.block_normal ?_
            refine At.weak [(1, _), (6, _), (7, _), (8, _), (9, _), (12, _), (13, _), (14, _), (15, _), (16, _), (17, _), (83, _), (95, _)] ⟨rfl, rfl, rfl, rfl, rfl, rfl, rfl, rfl, rfl, rfl, rfl, rfl, rfl, trivial⟩ ?_
            refine At.go ?_
            refine Sc.region ?_
            refine Sl.calm (Cm.move rfl) rfl ?_
            refine Sl.calm (Cm.add64 rfl rfl (by omega)) rfl ?_
            refine Sl.calm (Cm.assign rfl) rfl ?_
            refine Sl.nil ?_
            exact At.again ⟨⟨j + 1, Nx A u1 u2, ins ++ [⟨ya, X.length, yc⟩]⟩, ⟨⟨rr4, cr4⟩, ⟨oi6, ci6⟩⟩⟩ ⟨rfl, rfl, rfl, rfl, rfl, rfl, rfl, rfl, rfl, trivial⟩ ⟨by omega, by omega, hVu6, (fun k hk => by rcases hk with h | h; have h1 := hA k h; exact ⟨⟨h1.1.1, by omega⟩, h1.2⟩; have h1 := h.1; have h2 := h.2; exact ⟨⟨by omega, by omega⟩, fun h => by have := (hEb k h).2.1; omega, fun ⟨a, ha, e⟩ => by have := hoolt a ha; omega⟩), hMu6, hoou6, hru6, hoi6, by rw [eK]; exact hXi.snoc rfl (by rw [hX]; exact hzv), (fun a ha => by rcases hrr4 a ha with h | h; exact hfr a h; omega), (fun a ha => by rcases hri6 a ha with h | h; exact hfi a h; omega), (fun k ⟨a, ha, e⟩ hk => by rcases hrr4 a ha with h | h; rcases hk with h2 | h2; exact har k ⟨a, h, e⟩ h2; have := hlr a h; have := h2.1; omega; rcases hk with h2 | h2; have := (hA k h2).1.2; omega; have := h2.2; omega), (fun k ⟨a, ha, e⟩ hk => by rcases hri6 a ha with h | h; rcases hk with h2 | h2; exact hai k ⟨a, h, e⟩ h2; have := hli a h; have := h2.1; omega; rcases hk with h2 | h2; have := (hA k h2).1.2; omega; have := h2.2; omega), (fun a z ha hz e => by rcases hri6 z hz with h | h; rcases hrr4 a ha with h2 | h2; exact hap a z h2 h e; have := hli z h; omega; have := hlr4 a ha; omega), by omega, hFu06⟩ (by show 12 - (j + 1) < 12 - j; omega)
          ·
            have hm : ¬ okX (XS.getD j []) := by rw [← hX]; exact fun h => h95 (putXs_ok0.2 h)
            have eK := keepX_no hjX hm
            have eM := rowX_no hjX hm
            refine Sl.nil ?_
            refine At.weak [(1, _), (6, _), (7, _), (8, _), (9, _), (12, _), (13, _), (14, _), (15, _), (16, _), (17, _), (83, _), (95, _)] ⟨rfl, rfl, rfl, rfl, rfl, rfl, rfl, rfl, rfl, rfl, rfl, rfl, rfl, trivial⟩ ?_
            refine At.go ?_
            refine Sc.cond_f rfl ?_
            refine Sc.skip ?_
            refine At.block_normal ?_
            refine At.go ?_
            refine Sc.region ?_
            refine Sl.calm (Cm.move rfl) rfl ?_
            refine Sl.calm (Cm.add64 rfl rfl (by omega)) rfl ?_
            refine Sl.calm (Cm.assign rfl) rfl ?_
            refine Sl.nil ?_
            exact At.again ⟨⟨j + 1, A, ins⟩, ⟨⟨rr, cr⟩, ⟨oi, ci⟩⟩⟩ ⟨rfl, rfl, rfl, rfl, rfl, rfl, by rw [eM]; rfl, rfl, rfl, trivial⟩ ⟨by omega, by omega, by rw [eM]; exact hVu1, (fun k hk => by have h1 := hA k hk; exact ⟨⟨h1.1.1, by omega⟩, h1.2⟩), hMu1, hoou1, by rw [eM]; exact hru1, hoiu1, by rw [eK]; exact hXi, hfr, hfi, har, hai, hap, by omega, hFu1⟩ (by show 12 - (j + 1) < 12 - j; omega)
        ·
          refine Sl.calm (Cm.pick_t rfl rfl) rfl ?_
          refine Sl.nil ?_
          refine At.weak [(1, _), (6, _), (7, _), (8, _), (9, _), (12, _), (13, _), (14, _), (15, _), (83, _)] ⟨rfl, rfl, rfl, rfl, rfl, rfl, rfl, rfl, rfl, rfl, trivial⟩ ?_
          refine At.go ?_
          refine Sc.cond_f rfl ?_
          refine Sc.exit ?_
          refine At.then_exit ?_
          refine At.then_exit ?_
          refine At.block_hit ?_
          refine At.go ?_
          refine Sc.seq ?_
          refine Sc.region ?_
          refine Sl.calm (Cm.move rfl) rfl ?_
          obtain ⟨K, hK⟩ : ∃ K, K = keepX (XS.take j) := ⟨_, rfl⟩
          obtain ⟨M, hMe⟩ : ∃ M, M = rowX (XS.take j) := ⟨_, rfl⟩
          have hMK : M = K.map encXs := by rw [hMe, hK]; rfl
          have hKm : ∀ q, q < K.length → okX (K.getD q []) := fun q hq => by rw [hK] at hq ⊢; exact keepX_at hq
          have hMb := rowX_b (XS.take j)
          rw [List.length_take] at hMb
          rw [← hMe] at hVu hru hMb
          rw [← hK] at hXi
          obtain ⟨T, hT⟩ : ∃ T, T = M.flatten := ⟨_, rfl⟩
          rw [← hT] at hVu hMb
          have hKl : K.length ≤ 12 := by rw [hK]; have := keepX_le (XS.take j); rw [List.length_take] at this; omega
          have hMl : M.length = K.length := by rw [hMK, List.length_map]
          have hil := hXi.1
          have hFWu := hF5.trans hFu
          refine Sl.call fn41 rfl (mdoneT_ok E g p (encN NL) u hMu (by omega)) rfl ?_
          rintro _ v1 ⟨o18, c18, rfl, ho18, hfr18, hvf1⟩
          obtain ⟨im1, him1⟩ : ∃ im1, im1 = frW (encN NL) (nF (encN NL)) := ⟨_, rfl⟩
          have himl1 := frW_le (encN NL) (nF (encN NL))
          have hnF1 : nF (encN NL) ≤ 10 := by unfold nF; omega
          rw [← him1] at ho18 himl1 ⊢
          refine Sl.calm (Cm.assign rfl) rfl ?_
          refine Sl.nil ?_
          refine At.weak [(1, _), (6, _), (7, _), (8, _), (9, _), (12, _), (13, _), (14, _), (15, _), (18, _), (83, _)] ⟨rfl, rfl, rfl, rfl, rfl, rfl, rfl, rfl, rfl, rfl, rfl, trivial⟩ ?_
          refine At.go ?_
          refine Sc.seq ?_
          refine Sc.region ?_
          refine Sl.calm (Cm.move rfl) rfl ?_
          refine Sl.call fn41 rfl (mdoneT_ok A g2 p T v1 (hVu.grow hvf1) (by omega)) rfl ?_
          rintro _ v2 ⟨o19, c19, rfl, ho19, hfr19, hvf2⟩
          obtain ⟨im2, him2⟩ : ∃ im2, im2 = frW T (nF T) := ⟨_, rfl⟩
          have himl2 := frW_le T (nF T)
          have hnF2 : nF T ≤ 1000 := by unfold nF; omega
          rw [← him2] at ho19 himl2 ⊢
          have hFu2 := (hFu.trans hvf1).trans hvf2
          have hvz1 := hvf1.size
          have hvz2 := hvf2.size
          have hvf02 := hvf1.trans hvf2
          have hoo2 := hoou.grow hvf02
          have hru2 := hru.grow hvf02
          have hoi2 := hoiu.grow hvf02
          refine Sl.calm (Cm.assign rfl) rfl ?_
          refine Sl.nil ?_
          refine At.weak [(1, _), (6, _), (7, _), (8, _), (9, _), (12, _), (13, _), (14, _), (15, _), (18, _), (19, _), (83, _)] ⟨rfl, rfl, rfl, rfl, rfl, rfl, rfl, rfl, rfl, rfl, rfl, rfl, trivial⟩ ?_
          refine At.go ?_
          refine Sc.seq ?_
          refine Sc.region ?_
          refine Sl.calm (Cm.move rfl) rfl ?_
          refine Sl.calm (Cm.move rfl) rfl ?_
          refine Sl.calm (Cm.len sl25 rfl) rfl ?_
          refine Sl.call fn28 rfl (mopenA_ok p o18 c18 im1 0 im1.length v2 (hFu2.obj ht5 id) (ho18.grow hvf2).vw (by omega)) rfl ?_
          rintro _ v3 ⟨h1, rfl, hh1, hR1, hvf3⟩
          have hvz3 := hvf3.size
          refine Sl.calm (Cm.assign rfl) rfl ?_
          refine Sl.nil ?_
          refine At.weak [(1, _), (6, _), (7, _), (8, _), (9, _), (12, _), (13, _), (14, _), (15, _), (18, _), (19, _), (20, _), (83, _)] ⟨rfl, rfl, rfl, rfl, rfl, rfl, rfl, rfl, rfl, rfl, rfl, rfl, rfl, trivial⟩ ?_
          refine At.go ?_
          refine Sc.seq ?_
          refine Sc.region ?_
          refine Sl.calm (Cm.move rfl) rfl ?_
          refine Sl.calm (Cm.move rfl) rfl ?_
          refine Sl.calm (Cm.len sl25 rfl) rfl ?_
          refine Sl.call fn28 rfl (mopenA_ok p o19 c19 im2 0 im2.length v3 ((hFu2.trans hvf3).obj ht5 id) (ho19.grow hvf3).vw (by omega)) rfl ?_
          rintro _ v4 ⟨h2, rfl, hh2, hR2, hvf4⟩
          have hvz4 := hvf4.size
          have hR14 := hR1.grow hvf4
          have htn := tn_same h16
          have htm := tn_more h16
          rw [← him1] at htn htm
          have hz5u := hFu2.size
          refine Sl.calm (Cm.assign rfl) rfl ?_
          refine Sl.nil ?_
          refine At.weak [(1, _), (6, _), (7, _), (8, _), (9, _), (12, _), (13, _), (14, _), (15, _), (18, _), (19, _), (20, _), (21, _), (83, _)] ⟨rfl, rfl, rfl, rfl, rfl, rfl, rfl, rfl, rfl, rfl, rfl, rfl, rfl, rfl, trivial⟩ ?_
          refine At.go ?_
          refine Sc.seq ?_
          refine Sc.seq ?_
          refine Sc.region ?_
          refine Sl.calm (Cm.move rfl) rfl ?_
          refine Sl.calm (Cm.no (Cm.neq rfl rfl) (fun h => h rfl)) rfl ?_
          refine Sl.calm (Cm.move rfl) rfl ?_
          refine Sl.want rfl rfl (Cm.move rfl) rfl ?_
          refine Sl.want rfl rfl (Cm.eqlPtrNil ptr44 rfl rfl) rfl ?_
          refine Sl.calm (Cm.pick_f rfl rfl) rfl ?_
          refine Sl.calm (Cm.move rfl) rfl ?_
          refine Sl.want rfl rfl (Cm.move rfl) rfl ?_
          refine Sl.want rfl rfl (Cm.eqlPtrNil ptr44 rfl rfl) rfl ?_
          refine Sl.calm (Cm.pick_f rfl rfl) rfl ?_
          refine Sl.nil ?_
          refine At.weak [(1, _), (6, _), (7, _), (8, _), (9, _), (12, _), (13, _), (14, _), (15, _), (18, _), (19, _), (20, _), (21, _), (83, _), (130, _)] ⟨rfl, rfl, rfl, rfl, rfl, rfl, rfl, rfl, rfl, rfl, rfl, rfl, rfl, rfl, rfl, trivial⟩ ?_
          refine At.go ?_
          refine Sc.cond_f rfl ?_
          refine Sc.skip ?_
          refine At.go ?_
          refine Sc.seq ?_
          refine Sc.region ?_
          refine Sl.calm (Cm.move rfl) rfl ?_
          refine Sl.calm (Cm.move rfl) rfl ?_
          refine Sl.calm (Cm.len sl22 rfl) rfl ?_
          refine Sl.call fn29 rfl (tnums_ok (fun k => v2.heap.size ≤ k ∧ k < v3.heap.size) h1 p im1 0 im1.length NL.length 2 v4 hR14 (fun k hk => by have := hk.2; omega) (by omega) (by omega)) rfl ?_
          rw [htn]
          rintro _ v5 ⟨o22, c22, rfl, ho22, hfr22, hR15, hvF5⟩
          have hvz5 := hvF5.size
          have hR25 := hR2.keep hvF5 (fun k k1 k2 => by have := k1.1; have := k2.2; omega) (fun k2 => by have := k2.1; omega)
          have hF25 : Foot nob v2 v5 := (hvf3.trans hvf4).trans_to hvF5 (fun k hk => .inr hk.1)
          have hl22 := ho22.lt
          have hB1 : ∀ k, (Nx (fun k => v2.heap.size ≤ k ∧ k < v3.heap.size) v4 v5 k ∧ ¬ blk o22 k) → v2.heap.size ≤ k ∧ k < v5.heap.size ∧ ¬ (v3.heap.size ≤ k ∧ k < v4.heap.size) ∧ ¬ blk o22 k := fun k hk => by rcases hk.1 with h | h; have k1 := h.1; have k2 := h.2; exact ⟨by omega, by omega, by omega, hk.2⟩; have k1 := h.1; have k2 := h.2; exact ⟨by omega, by omega, by omega, hk.2⟩
          refine Sl.calm (Cm.move rfl) rfl ?_
          refine Sl.calm (Cm.extract rfl rfl) rfl ?_
          refine Sl.calm (Cm.extract rfl rfl) rfl ?_
          refine Sl.calm (Cm.assign rfl) rfl ?_
          refine Sl.calm (Cm.assign rfl) rfl ?_
          refine Sl.nil ?_
          refine At.weak [(1, _), (6, _), (7, _), (8, _), (9, _), (12, _), (13, _), (14, _), (15, _), (18, _), (19, _), (20, _), (21, _), (22, _), (23, _), (83, _), (130, _)] ⟨rfl, rfl, rfl, rfl, rfl, rfl, rfl, rfl, rfl, rfl, rfl, rfl, rfl, rfl, rfl, rfl, rfl, trivial⟩ ?_
          refine At.go ?_
          refine Sc.seq ?_
          refine Sc.region ?_
          refine Sl.calm (Cm.move rfl) rfl ?_
          refine Sl.calm (Cm.move rfl) rfl ?_
          refine Sl.calm (Cm.len sl22 rfl) rfl ?_
          refine Sl.calm (Cm.add64 rfl rfl (by omega)) rfl ?_
          refine Sl.call fn29 rfl (tnums_ok _ h1 p im1 0 im1.length (NL.length + 1) 2 v5 hR15 (fun k hk => (hB1 k hk).2.1) (by omega) (by omega)) rfl ?_
          rw [htm]
          rintro _ v6 ⟨o24, c24, rfl, ho24, hfr24, hR16, hvF6⟩
          have hvz6 := hvF6.size
          have hR26 := hR25.keep hvF6 (fun k k1 k2 => (hB1 k k2).2.2.1 k1) (fun k2 => by have := (hB1 p k2).1; omega)
          have hF26 : Foot nob v2 v6 := hF25.trans_to hvF6 (fun k hk => .inr (hB1 k hk).1)
          have ho22b := ho22.keep hvF6 (fun a ha e => (hB1 _ e).2.2.2 ⟨a, ha, rfl⟩)
          have hB2 : ∀ k, (Nx (fun k => Nx (fun k => v2.heap.size ≤ k ∧ k < v3.heap.size) v4 v5 k ∧ ¬ blk o22 k) v5 v6 k ∧ ¬ blk o24 k) → v2.heap.size ≤ k ∧ k < v6.heap.size ∧ ¬ (v3.heap.size ≤ k ∧ k < v4.heap.size) ∧ ¬ blk o22 k := fun k hk => by rcases hk.1 with h | h; have k1 := hB1 k h; exact ⟨k1.1, by omega, k1.2.2.1, k1.2.2.2⟩; have k1 := h.1; have k2 := h.2; exact ⟨by omega, by omega, by omega, fun ⟨a, ha, e⟩ => by have := hl22 a ha; omega⟩
          refine Sl.calm (Cm.move rfl) rfl ?_
          refine Sl.calm (Cm.extract rfl rfl) rfl ?_
          refine Sl.calm (Cm.extract rfl rfl) rfl ?_
          refine Sl.calm (Cm.assign rfl) rfl ?_
          refine Sl.calm (Cm.assign rfl) rfl ?_
          refine Sl.nil ?_
          refine At.weak [(1, _), (6, _), (7, _), (8, _), (9, _), (12, _), (13, _), (14, _), (15, _), (18, _), (19, _), (20, _), (21, _), (22, _), (23, _), (25, _), (83, _), (130, _)] ⟨rfl, rfl, rfl, rfl, rfl, rfl, rfl, rfl, rfl, rfl, rfl, rfl, rfl, rfl, rfl, rfl, rfl, rfl, trivial⟩ ?_
          refine At.go ?_
          refine Sc.seq ?_
          refine Sc.region ?_
          refine Sl.calm (Cm.move rfl) rfl ?_
          refine Sl.calm (Cm.move rfl) rfl ?_
          refine Sl.calm (Cm.len sl22 rfl) rfl ?_
          refine Sl.calm (Cm.sub64 rfl rfl (by omega)) rfl ?_
          refine Sl.call fn29 rfl (tnums_ok _ h1 p im1 0 im1.length (NL.length - 1) 2 v6 hR16 (fun k hk => (hB2 k hk).2.1) (by omega) (by omega)) rfl ?_
          rintro _ v7 ⟨o26, c26, rfl, ho26, hfr26, hR17, hvF7⟩
          have hvz7 := hvF7.size
          have hR27 := hR26.keep hvF7 (fun k k1 k2 => (hB2 k k2).2.2.1 k1) (fun k2 => by have := (hB2 p k2).1; omega)
          have hF27 : Foot nob v2 v7 := hF26.trans_to hvF7 (fun k hk => .inr (hB2 k hk).1)
          have ho22c := ho22b.keep hvF7 (fun a ha e => (hB2 _ e).2.2.2 ⟨a, ha, rfl⟩)
          refine Sl.calm (Cm.move rfl) rfl ?_
          refine Sl.calm (Cm.extract rfl rfl) rfl ?_
          refine Sl.calm (Cm.extract rfl rfl) rfl ?_
          refine Sl.calm (Cm.assign rfl) rfl ?_
          refine Sl.calm (Cm.assign rfl) rfl ?_
          refine Sl.nil ?_
          refine At.weak [(1, _), (6, _), (7, _), (8, _), (9, _), (12, _), (13, _), (14, _), (15, _), (18, _), (19, _), (20, _), (21, _), (22, _), (23, _), (25, _), (27, _), (83, _), (130, _)] ⟨rfl, rfl, rfl, rfl, rfl, rfl, rfl, rfl, rfl, rfl, rfl, rfl, rfl, rfl, rfl, rfl, rfl, rfl, rfl, trivial⟩ ?_
          refine At.go ?_
          refine Sc.seq ?_
          refine Sc.region ?_
          refine Sl.calm (Cm.move rfl) rfl ?_
          refine Sl.calm (Cm.move rfl) rfl ?_
          refine Sl.call fn33 rfl (same11_ok NL o22 oo c22 oc v7 ho22c.vw (hoo2.grow hF27).vw) rfl ?_
          rintro _ v8 ⟨rfl, hvf8⟩
          have hF28 := hF27.trans hvf8
          have hR28 := hR27.grow hvf8
          have hvz8 := hvf8.size
          refine Sl.calm (Cm.assign rfl) rfl ?_
          refine Sl.nil ?_
          refine At.weak [(1, _), (6, _), (7, _), (8, _), (9, _), (12, _), (13, _), (14, _), (15, _), (18, _), (19, _), (20, _), (21, _), (22, _), (23, _), (25, _), (27, _), (28, _), (83, _), (130, _)] ⟨rfl, rfl, rfl, rfl, rfl, rfl, rfl, rfl, rfl, rfl, rfl, rfl, rfl, rfl, rfl, rfl, rfl, rfl, rfl, rfl, trivial⟩ ?_
          refine At.go ?_
          refine Sc.seq ?_
          refine Sc.seq ?_
          refine Sc.region ?_
          refine Sl.calm (Cm.move rfl) rfl ?_
          refine Sl.calm (Cm.not rfl) rfl ?_
          refine Sl.calm (Cm.move rfl) rfl ?_
          refine Sl.want rfl rfl (Cm.move rfl) rfl ?_
          refine Sl.want rfl rfl (Cm.no (Cm.neq rfl rfl) (fun h => h rfl)) rfl ?_
          refine Sl.calm (Cm.pick_f rfl rfl) rfl ?_
          refine Sl.calm (Cm.move rfl) rfl ?_
          refine Sl.want rfl rfl (Cm.move rfl) rfl ?_
          refine Sl.want rfl rfl (Cm.no (Cm.neq rfl rfl) (fun h => h rfl)) rfl ?_
          refine Sl.calm (Cm.pick_f rfl rfl) rfl ?_
          refine Sl.calm (Cm.move rfl) rfl ?_
          refine Sl.want rfl rfl (Cm.move rfl) rfl ?_
          refine Sl.want rfl rfl (Cm.len sl22 rfl) rfl ?_
          refine Sl.forkWant rfl rfl (Cm.gtr rfl rfl) rfl (fun h170 => ?_) (fun h170 => ?_)
          ·
            refine Sl.want rfl rfl (Cm.move rfl) rfl ?_
            refine Sl.want rfl rfl (Cm.move rfl) rfl ?_
            refine Sl.want rfl rfl (Cm.no (Cm.neq rfl rfl) (by rw [him1, tn_less h16 (by omega)]; exact fun h => h rfl)) rfl ?_
            refine Sl.want rfl rfl (Cm.pick_t rfl rfl) rfl ?_
            refine Sl.calm (Cm.pick_f rfl rfl) rfl ?_
            refine Sl.nil ?_
            refine At.weak [(1, _), (6, _), (7, _), (8, _), (9, _), (12, _), (13, _), (14, _), (15, _), (18, _), (19, _), (20, _), (21, _), (22, _), (23, _), (25, _), (27, _), (28, _), (83, _), (130, _), (175, _)] ⟨rfl, rfl, rfl, rfl, rfl, rfl, rfl, rfl, rfl, rfl, rfl, rfl, rfl, rfl, rfl, rfl, rfl, rfl, rfl, rfl, rfl, trivial⟩ ?_
            refine At.go ?_
            refine Sc.cond_f rfl ?_
            refine Sc.skip ?_
            refine At.go ?_
            refine Sc.seq ?_
            refine Sc.seq ?_
            refine Sc.region ?_
            refine Sl.calm (Cm.assign rfl) rfl ?_
            refine Sl.nil ?_
            refine At.go ?_
            refine Sc.block ?_
            refine Sc.loop (β := Nat × (Nat → Prop)) (fun ⟨q, C⟩ => [(13, .slice rr (refsA M).length cr), (14, .slice oi ins.length ci), (21, .pointer (some ⟨h2, 0, none⟩)), (29, .int .i64 q)]) (fun ⟨q, C⟩ z => q ≤ K.length ∧ MrO C z.heap h2 p im2 0 im2.length ∧ (∀ k, C k → v2.heap.size ≤ k ∧ k < z.heap.size) ∧ Foot nob v2 z) (fun ⟨q, C⟩ => K.length - q) ⟨0, fun k => v3.heap.size ≤ k ∧ k < v4.heap.size⟩ ⟨(by rw [hMe]; rfl), rfl, rfl, rfl, trivial⟩ ⟨Nat.zero_le _, hR28, (fun k hk => ⟨by have := hk.1; omega, by have := hk.2; omega⟩), hF28⟩ ?_
            rintro ⟨q, C⟩ z ⟨hq, hRz, hC, hFz⟩
            have hzz := hFz.size
            refine Sc.seq ?_
            refine Sc.seq ?_
            refine Sc.region ?_
            refine Sl.calm (Cm.move rfl) rfl ?_
            refine Sl.calm (Cm.move rfl) rfl ?_
            refine Sl.calm (Cm.len sl73 rfl) rfl ?_
            refine Sl.fork (Cm.lss rfl rfl) rfl (fun h179 => ?_) (fun h179 => ?_)
            ·
              have hqK : q < K.length := by omega
              obtain ⟨X, hXe⟩ : ∃ X, X = K.getD q [] := ⟨_, rfl⟩
              have hok := hKm q hqK
              rw [← hXe] at hok
              have hqM : q < M.length := by omega
              have hMq : M.getD q [] = encXs X := by rw [hMK, hXe]; simp [List.getD, hqK]
              have hdr := drop_in (M := M) [] hqM
              rw [List.append_nil, ← hT, hMq] at hdr
              have hxs := xs_at hok.1 hok.2 hdr
              rw [← him2] at hxs
              have hrr := refT_in (M := M) [] q
              rw [List.append_nil, ← hT] at hrr
              have hruw := hru2.grow hFz
              have hrc : cellH z.heap (adr rr q) = some (.int .i64 (refT T (M.take q).flatten.length : Nat)) := by have := hruw.vw.gd 0 (i := q) (by rw [refsA_len]; omega); rwa [refsA_at hqM, hrr] at this
              have hoff : (M.take q).flatten.length ≤ T.length := by rw [hT]; exact flat_le M q
              have hrb := refT_b (T := T) (o := (M.take q).flatten.length) (by omega)
              refine Sl.nil ?_
              refine At.weak [(13, _), (14, _), (21, _), (29, _), (179, _)] ⟨rfl, rfl, rfl, rfl, rfl, trivial⟩ ?_
              refine At.go ?_
              refine Sc.cond_t rfl ?_
              refine Sc.skip ?_
              refine At.go ?_
              refine Sc.seq ?_
              refine Sc.block ?_
              refine Sc.seq ?_
              refine Sc.region ?_
              refine Sl.calm (Cm.move rfl) rfl ?_
              refine Sl.calm (Cm.move rfl) rfl ?_
              refine Sl.calm (Cm.move rfl) rfl ?_
              refine Sl.calm (Cm.indexAddr1 sl22 rfl rfl hruw.vw.non (by rw [refsA_len]; omega)) rfl ?_
              refine Sl.calm (Cm.ld sca3 rfl (by rw [Int.toNat_natCast]; exact hrc)) rfl ?_
              refine Sl.call fn31 rfl (txattrs_ok C h2 p im2 0 im2.length (refT T (M.take q).flatten.length : Nat) z hRz (fun k hk => (hC k hk).2) (by omega) ⟨by omega, by omega⟩) rfl ?_
              rw [hxs]
              rintro _ z1 ⟨o30, c30, rfl, hx30, hRz1, hFz1⟩
              have hzz1 := hFz1.size
              have hF2z1 : Foot nob v2 z1 := hFz.trans_to hFz1 (fun k hk => .inr (by have := (hC k hk).1; omega))
              have hoiz := hoi2.grow hF2z1
              have hXz := hXi.grow ((hFWu.trans hvf02).trans hF2z1)
              obtain ⟨⟨ea, en, ec⟩, hen, hel3, hev⟩ := hXz.at hqK
              rw [← hXe] at hel3 hev
              obtain rfl : en = X.length := hel3
              have hec : cellH z1.heap (adr oi (q : Int).toNat) = some (.slice ea X.length ec) := by rw [Int.toNat_natCast]; exact hoiz.vw.get q _ hen
              refine Sl.calm (Cm.move rfl) rfl ?_
              refine Sl.calm (Cm.extract rfl rfl) rfl ?_
              refine Sl.calm (Cm.extract rfl rfl) rfl ?_
              refine Sl.calm (Cm.assign rfl) rfl ?_
              refine Sl.calm (Cm.assign rfl) rfl ?_
              refine Sl.nil ?_
              refine At.weak [(13, _), (14, _), (21, _), (29, _), (30, _), (31, _), (179, _)] ⟨rfl, rfl, rfl, rfl, rfl, rfl, rfl, trivial⟩ ?_
              refine At.go ?_
              refine Sc.seq ?_
              refine Sc.region ?_
              refine Sl.calm (Cm.move rfl) rfl ?_
              refine Sl.calm (Cm.move rfl) rfl ?_
              refine Sl.calm (Cm.move rfl) rfl ?_
              refine Sl.calm (Cm.indexAddr1 sl73 rfl rfl hoiz.vw.non (by omega)) rfl ?_
              refine Sl.calm (Cm.ld sca23 rfl hec) rfl ?_
              refine Sl.call fn34 rfl (sameX_ok X o30 ea c30 ec z1 hx30 hev) rfl ?_
              rintro _ z2 ⟨rfl, hzf2⟩
              have hzz2 := hzf2.size
              refine Sl.calm (Cm.assign rfl) rfl ?_
              refine Sl.nil ?_
              refine At.weak [(13, _), (14, _), (21, _), (29, _), (30, _), (31, _), (32, _), (179, _)] ⟨rfl, rfl, rfl, rfl, rfl, rfl, rfl, rfl, trivial⟩ ?_
              refine At.go ?_
              refine Sc.seq ?_
              refine Sc.region ?_
              refine Sl.calm (Cm.move rfl) rfl ?_
              refine Sl.calm (Cm.not rfl) rfl ?_
              refine Sl.calm (Cm.move rfl) rfl ?_
              refine Sl.want rfl rfl (Cm.move rfl) rfl ?_
              refine Sl.want rfl rfl (Cm.no (Cm.neq rfl rfl) (fun h => h rfl)) rfl ?_
              refine Sl.calm (Cm.pick_f rfl rfl) rfl ?_
              refine Sl.nil ?_
              refine At.weak [(13, _), (14, _), (21, _), (29, _), (30, _), (31, _), (32, _), (179, _), (202, _)] ⟨rfl, rfl, rfl, rfl, rfl, rfl, rfl, rfl, rfl, trivial⟩ ?_
              refine At.go ?_
              refine Sc.cond_f rfl ?_
              refine Sc.skip ?_
              refine At.block_normal ?_
              refine At.go ?_
              refine Sc.region ?_
              refine Sl.calm (Cm.move rfl) rfl ?_
              refine Sl.calm (Cm.add64 rfl rfl (by omega)) rfl ?_
              refine Sl.calm (Cm.assign rfl) rfl ?_
              refine Sl.nil ?_
              exact At.again ⟨q + 1, Nx C z z1⟩ ⟨rfl, rfl, rfl, rfl, trivial⟩ ⟨by omega, hRz1.grow hzf2, (fun k hk => by rcases hk with h | h; have h1 := hC k h; exact ⟨h1.1, by omega⟩; have h1 := h.1; have h2 := h.2; exact ⟨by omega, by omega⟩), hF2z1.trans hzf2⟩ (by show K.length - (q + 1) < K.length - q; omega)
            ·
              refine Sl.nil ?_
              refine At.weak [(13, _), (14, _), (21, _), (29, _), (179, _)] ⟨rfl, rfl, rfl, rfl, rfl, trivial⟩ ?_
              refine At.go ?_
              refine Sc.cond_f rfl ?_
              refine Sc.exit ?_
              refine At.then_exit ?_
              refine At.then_exit ?_
              refine At.block_hit ?_
              refine At.go ?_
              refine Sc.seq ?_
              refine Sc.region ?_
              refine Sl.calm (Cm.assign rfl) rfl ?_
              refine Sl.nil ?_
              refine At.go ?_
              refine Sc.ret ?_
              refine At.ret1 rfl rfl ?_
              exact ⟨_, rfl, rfl, ((hF5.trans hFu).trans hvf02).trans hFz⟩
          ·
            refine Sl.want rfl rfl (Cm.move rfl) rfl ?_
            refine Sl.skip rfl rfl rfl rfl ?_
            refine Sl.skip rfl rfl rfl rfl ?_
            refine Sl.want rfl rfl (Cm.pick_f rfl rfl) rfl ?_
            refine Sl.calm (Cm.pick_f rfl rfl) rfl ?_
            refine Sl.nil ?_
            refine At.weak [(1, _), (6, _), (7, _), (8, _), (9, _), (12, _), (13, _), (14, _), (15, _), (18, _), (19, _), (20, _), (21, _), (22, _), (23, _), (25, _), (27, _), (28, _), (83, _), (130, _), (175, _)] ⟨rfl, rfl, rfl, rfl, rfl, rfl, rfl, rfl, rfl, rfl, rfl, rfl, rfl, rfl, rfl, rfl, rfl, rfl, rfl, rfl, rfl, trivial⟩ ?_
            refine At.go ?_
            refine Sc.cond_f rfl ?_
            refine Sc.skip ?_
            refine At.go ?_
            refine Sc.seq ?_
            refine Sc.seq ?_
            refine Sc.region ?_
            refine Sl.calm (Cm.assign rfl) rfl ?_
            refine Sl.nil ?_
            refine At.go ?_
            refine Sc.block ?_
            refine Sc.loop (β := Nat × (Nat → Prop)) (fun ⟨q, C⟩ => [(13, .slice rr (refsA M).length cr), (14, .slice oi ins.length ci), (21, .pointer (some ⟨h2, 0, none⟩)), (29, .int .i64 q)]) (fun ⟨q, C⟩ z => q ≤ K.length ∧ MrO C z.heap h2 p im2 0 im2.length ∧ (∀ k, C k → v2.heap.size ≤ k ∧ k < z.heap.size) ∧ Foot nob v2 z) (fun ⟨q, C⟩ => K.length - q) ⟨0, fun k => v3.heap.size ≤ k ∧ k < v4.heap.size⟩ ⟨(by rw [hMe]; rfl), rfl, rfl, rfl, trivial⟩ ⟨Nat.zero_le _, hR28, (fun k hk => ⟨by have := hk.1; omega, by have := hk.2; omega⟩), hF28⟩ ?_
            rintro ⟨q, C⟩ z ⟨hq, hRz, hC, hFz⟩
            have hzz := hFz.size
            refine Sc.seq ?_
            refine Sc.seq ?_
            refine Sc.region ?_
            refine Sl.calm (Cm.move rfl) rfl ?_
            refine Sl.calm (Cm.move rfl) rfl ?_
            refine Sl.calm (Cm.len sl73 rfl) rfl ?_
            refine Sl.fork (Cm.lss rfl rfl) rfl (fun h179 => ?_) (fun h179 => ?_)
            ·
              have hqK : q < K.length := by omega
              obtain ⟨X, hXe⟩ : ∃ X, X = K.getD q [] := ⟨_, rfl⟩
              have hok := hKm q hqK
              rw [← hXe] at hok
              have hqM : q < M.length := by omega
              have hMq : M.getD q [] = encXs X := by rw [hMK, hXe]; simp [List.getD, hqK]
              have hdr := drop_in (M := M) [] hqM
              rw [List.append_nil, ← hT, hMq] at hdr
              have hxs := xs_at hok.1 hok.2 hdr
              rw [← him2] at hxs
              have hrr := refT_in (M := M) [] q
              rw [List.append_nil, ← hT] at hrr
              have hruw := hru2.grow hFz
              have hrc : cellH z.heap (adr rr q) = some (.int .i64 (refT T (M.take q).flatten.length : Nat)) := by have := hruw.vw.gd 0 (i := q) (by rw [refsA_len]; omega); rwa [refsA_at hqM, hrr] at this
              have hoff : (M.take q).flatten.length ≤ T.length := by rw [hT]; exact flat_le M q
              have hrb := refT_b (T := T) (o := (M.take q).flatten.length) (by omega)
              refine Sl.nil ?_
              refine At.weak [(13, _), (14, _), (21, _), (29, _), (179, _)] ⟨rfl, rfl, rfl, rfl, rfl, trivial⟩ ?_
              refine At.go ?_
              refine Sc.cond_t rfl ?_
              refine Sc.skip ?_
              refine At.go ?_
              refine Sc.seq ?_
              refine Sc.block ?_
              refine Sc.seq ?_
              refine Sc.region ?_
              refine Sl.calm (Cm.move rfl) rfl ?_
              refine Sl.calm (Cm.move rfl) rfl ?_
              refine Sl.calm (Cm.move rfl) rfl ?_
              refine Sl.calm (Cm.indexAddr1 sl22 rfl rfl hruw.vw.non (by rw [refsA_len]; omega)) rfl ?_
              refine Sl.calm (Cm.ld sca3 rfl (by rw [Int.toNat_natCast]; exact hrc)) rfl ?_
              refine Sl.call fn31 rfl (txattrs_ok C h2 p im2 0 im2.length (refT T (M.take q).flatten.length : Nat) z hRz (fun k hk => (hC k hk).2) (by omega) ⟨by omega, by omega⟩) rfl ?_
              rw [hxs]
              rintro _ z1 ⟨o30, c30, rfl, hx30, hRz1, hFz1⟩
              have hzz1 := hFz1.size
              have hF2z1 : Foot nob v2 z1 := hFz.trans_to hFz1 (fun k hk => .inr (by have := (hC k hk).1; omega))
              have hoiz := hoi2.grow hF2z1
              have hXz := hXi.grow ((hFWu.trans hvf02).trans hF2z1)
              obtain ⟨⟨ea, en, ec⟩, hen, hel3, hev⟩ := hXz.at hqK
              rw [← hXe] at hel3 hev
              obtain rfl : en = X.length := hel3
              have hec : cellH z1.heap (adr oi (q : Int).toNat) = some (.slice ea X.length ec) := by rw [Int.toNat_natCast]; exact hoiz.vw.get q _ hen
              refine Sl.calm (Cm.move rfl) rfl ?_
              refine Sl.calm (Cm.extract rfl rfl) rfl ?_
              refine Sl.calm (Cm.extract rfl rfl) rfl ?_
              refine Sl.calm (Cm.assign rfl) rfl ?_
              refine Sl.calm (Cm.assign rfl) rfl ?_
              refine Sl.nil ?_
              refine At.weak [(13, _), (14, _), (21, _), (29, _), (30, _), (31, _), (179, _)] ⟨rfl, rfl, rfl, rfl, rfl, rfl, rfl, trivial⟩ ?_
              refine At.go ?_
              refine Sc.seq ?_
              refine Sc.region ?_
              refine Sl.calm (Cm.move rfl) rfl ?_
              refine Sl.calm (Cm.move rfl) rfl ?_
              refine Sl.calm (Cm.move rfl) rfl ?_
              refine Sl.calm (Cm.indexAddr1 sl73 rfl rfl hoiz.vw.non (by omega)) rfl ?_
              refine Sl.calm (Cm.ld sca23 rfl hec) rfl ?_
              refine Sl.call fn34 rfl (sameX_ok X o30 ea c30 ec z1 hx30 hev) rfl ?_
              rintro _ z2 ⟨rfl, hzf2⟩
              have hzz2 := hzf2.size
              refine Sl.calm (Cm.assign rfl) rfl ?_
              refine Sl.nil ?_
              refine At.weak [(13, _), (14, _), (21, _), (29, _), (30, _), (31, _), (32, _), (179, _)] ⟨rfl, rfl, rfl, rfl, rfl, rfl, rfl, rfl, trivial⟩ ?_
              refine At.go ?_
              refine Sc.seq ?_
              refine Sc.region ?_
              refine Sl.calm (Cm.move rfl) rfl ?_
              refine Sl.calm (Cm.not rfl) rfl ?_
              refine Sl.calm (Cm.move rfl) rfl ?_
              refine Sl.want rfl rfl (Cm.move rfl) rfl ?_
              refine Sl.want rfl rfl (Cm.no (Cm.neq rfl rfl) (fun h => h rfl)) rfl ?_
              refine Sl.calm (Cm.pick_f rfl rfl) rfl ?_
              refine Sl.nil ?_
              refine At.weak [(13, _), (14, _), (21, _), (29, _), (30, _), (31, _), (32, _), (179, _), (202, _)] ⟨rfl, rfl, rfl, rfl, rfl, rfl, rfl, rfl, rfl, trivial⟩ ?_
              refine At.go ?_
              refine Sc.cond_f rfl ?_
              refine Sc.skip ?_
              refine At.block_normal ?_
              refine At.go ?_
              refine Sc.region ?_
              refine Sl.calm (Cm.move rfl) rfl ?_
              refine Sl.calm (Cm.add64 rfl rfl (by omega)) rfl ?_
              refine Sl.calm (Cm.assign rfl) rfl ?_
              refine Sl.nil ?_
              exact At.again ⟨q + 1, Nx C z z1⟩ ⟨rfl, rfl, rfl, rfl, trivial⟩ ⟨by omega, hRz1.grow hzf2, (fun k hk => by rcases hk with h | h; have h1 := hC k h; exact ⟨h1.1, by omega⟩; have h1 := h.1; have h2 := h.2; exact ⟨by omega, by omega⟩), hF2z1.trans hzf2⟩ (by show K.length - (q + 1) < K.length - q; omega)
            ·
              refine Sl.nil ?_
              refine At.weak [(13, _), (14, _), (21, _), (29, _), (179, _)] ⟨rfl, rfl, rfl, rfl, rfl, trivial⟩ ?_
              refine At.go ?_
              refine Sc.cond_f rfl ?_
              refine Sc.exit ?_
              refine At.then_exit ?_
              refine At.then_exit ?_
              refine At.block_hit ?_
              refine At.go ?_
              refine Sc.seq ?_
              refine Sc.region ?_
              refine Sl.calm (Cm.assign rfl) rfl ?_
              refine Sl.nil ?_
              refine At.go ?_
              refine Sc.ret ?_
              refine At.ret1 rfl rfl ?_
              exact ⟨_, rfl, rfl, ((hF5.trans hFu).trans hvf02).trans hFz⟩
      ·
        refine Sl.calm (Cm.move rfl) rfl ?_
        refine Sl.skip rfl rfl rfl rfl ?_
        refine Sl.skip rfl rfl rfl rfl ?_
        refine Sl.calm (Cm.pick_f rfl rfl) rfl ?_
        refine Sl.nil ?_
        refine At.weak [(1, _), (6, _), (7, _), (8, _), (9, _), (12, _), (13, _), (14, _), (15, _), (83, _)] ⟨rfl, rfl, rfl, rfl, rfl, rfl, rfl, rfl, rfl, rfl, trivial⟩ ?_
        refine At.go ?_
        refine Sc.cond_f rfl ?_
        refine Sc.exit ?_
        refine At.then_exit ?_
        refine At.then_exit ?_
        refine At.block_hit ?_
        refine At.go ?_
        refine Sc.seq ?_
        refine Sc.region ?_
        refine Sl.calm (Cm.move rfl) rfl ?_
        obtain ⟨K, hK⟩ : ∃ K, K = keepX (XS.take j) := ⟨_, rfl⟩
        obtain ⟨M, hMe⟩ : ∃ M, M = rowX (XS.take j) := ⟨_, rfl⟩
        have hMK : M = K.map encXs := by rw [hMe, hK]; rfl
        have hKm : ∀ q, q < K.length → okX (K.getD q []) := fun q hq => by rw [hK] at hq ⊢; exact keepX_at hq
        have hMb := rowX_b (XS.take j)
        rw [List.length_take] at hMb
        rw [← hMe] at hVu hru hMb
        rw [← hK] at hXi
        obtain ⟨T, hT⟩ : ∃ T, T = M.flatten := ⟨_, rfl⟩
        rw [← hT] at hVu hMb
        have hKl : K.length ≤ 12 := by rw [hK]; have := keepX_le (XS.take j); rw [List.length_take] at this; omega
        have hMl : M.length = K.length := by rw [hMK, List.length_map]
        have hil := hXi.1
        have hFWu := hF5.trans hFu
        refine Sl.call fn41 rfl (mdoneT_ok E g p (encN NL) u hMu (by omega)) rfl ?_
        rintro _ v1 ⟨o18, c18, rfl, ho18, hfr18, hvf1⟩
        obtain ⟨im1, him1⟩ : ∃ im1, im1 = frW (encN NL) (nF (encN NL)) := ⟨_, rfl⟩
        have himl1 := frW_le (encN NL) (nF (encN NL))
        have hnF1 : nF (encN NL) ≤ 10 := by unfold nF; omega
        rw [← him1] at ho18 himl1 ⊢
        refine Sl.calm (Cm.assign rfl) rfl ?_
        refine Sl.nil ?_
        refine At.weak [(1, _), (6, _), (7, _), (8, _), (9, _), (12, _), (13, _), (14, _), (15, _), (18, _), (83, _)] ⟨rfl, rfl, rfl, rfl, rfl, rfl, rfl, rfl, rfl, rfl, rfl, trivial⟩ ?_
        refine At.go ?_
        refine Sc.seq ?_
        refine Sc.region ?_
        refine Sl.calm (Cm.move rfl) rfl ?_
        refine Sl.call fn41 rfl (mdoneT_ok A g2 p T v1 (hVu.grow hvf1) (by omega)) rfl ?_
        rintro _ v2 ⟨o19, c19, rfl, ho19, hfr19, hvf2⟩
        obtain ⟨im2, him2⟩ : ∃ im2, im2 = frW T (nF T) := ⟨_, rfl⟩
        have himl2 := frW_le T (nF T)
        have hnF2 : nF T ≤ 1000 := by unfold nF; omega
        rw [← him2] at ho19 himl2 ⊢
        have hFu2 := (hFu.trans hvf1).trans hvf2
        have hvz1 := hvf1.size
        have hvz2 := hvf2.size
        have hvf02 := hvf1.trans hvf2
        have hoo2 := hoou.grow hvf02
        have hru2 := hru.grow hvf02
        have hoi2 := hoiu.grow hvf02
        refine Sl.calm (Cm.assign rfl) rfl ?_
        refine Sl.nil ?_
        refine At.weak [(1, _), (6, _), (7, _), (8, _), (9, _), (12, _), (13, _), (14, _), (15, _), (18, _), (19, _), (83, _)] ⟨rfl, rfl, rfl, rfl, rfl, rfl, rfl, rfl, rfl, rfl, rfl, rfl, trivial⟩ ?_
        refine At.go ?_
        refine Sc.seq ?_
        refine Sc.region ?_
        refine Sl.calm (Cm.move rfl) rfl ?_
        refine Sl.calm (Cm.move rfl) rfl ?_
        refine Sl.calm (Cm.len sl25 rfl) rfl ?_
        refine Sl.call fn28 rfl (mopenA_ok p o18 c18 im1 0 im1.length v2 (hFu2.obj ht5 id) (ho18.grow hvf2).vw (by omega)) rfl ?_
        rintro _ v3 ⟨h1, rfl, hh1, hR1, hvf3⟩
        have hvz3 := hvf3.size
        refine Sl.calm (Cm.assign rfl) rfl ?_
        refine Sl.nil ?_
        refine At.weak [(1, _), (6, _), (7, _), (8, _), (9, _), (12, _), (13, _), (14, _), (15, _), (18, _), (19, _), (20, _), (83, _)] ⟨rfl, rfl, rfl, rfl, rfl, rfl, rfl, rfl, rfl, rfl, rfl, rfl, rfl, trivial⟩ ?_
        refine At.go ?_
        refine Sc.seq ?_
        refine Sc.region ?_
        refine Sl.calm (Cm.move rfl) rfl ?_
        refine Sl.calm (Cm.move rfl) rfl ?_
        refine Sl.calm (Cm.len sl25 rfl) rfl ?_
        refine Sl.call fn28 rfl (mopenA_ok p o19 c19 im2 0 im2.length v3 ((hFu2.trans hvf3).obj ht5 id) (ho19.grow hvf3).vw (by omega)) rfl ?_
        rintro _ v4 ⟨h2, rfl, hh2, hR2, hvf4⟩
        have hvz4 := hvf4.size
        have hR14 := hR1.grow hvf4
        have htn := tn_same h16
        have htm := tn_more h16
        rw [← him1] at htn htm
        have hz5u := hFu2.size
        refine Sl.calm (Cm.assign rfl) rfl ?_
        refine Sl.nil ?_
        refine At.weak [(1, _), (6, _), (7, _), (8, _), (9, _), (12, _), (13, _), (14, _), (15, _), (18, _), (19, _), (20, _), (21, _), (83, _)] ⟨rfl, rfl, rfl, rfl, rfl, rfl, rfl, rfl, rfl, rfl, rfl, rfl, rfl, rfl, trivial⟩ ?_
        refine At.go ?_
        refine Sc.seq ?_
        refine Sc.seq ?_
        refine Sc.region ?_
        refine Sl.calm (Cm.move rfl) rfl ?_
        refine Sl.calm (Cm.no (Cm.neq rfl rfl) (fun h => h rfl)) rfl ?_
        refine Sl.calm (Cm.move rfl) rfl ?_
        refine Sl.want rfl rfl (Cm.move rfl) rfl ?_
        refine Sl.want rfl rfl (Cm.eqlPtrNil ptr44 rfl rfl) rfl ?_
        refine Sl.calm (Cm.pick_f rfl rfl) rfl ?_
        refine Sl.calm (Cm.move rfl) rfl ?_
        refine Sl.want rfl rfl (Cm.move rfl) rfl ?_
        refine Sl.want rfl rfl (Cm.eqlPtrNil ptr44 rfl rfl) rfl ?_
        refine Sl.calm (Cm.pick_f rfl rfl) rfl ?_
        refine Sl.nil ?_
        refine At.weak [(1, _), (6, _), (7, _), (8, _), (9, _), (12, _), (13, _), (14, _), (15, _), (18, _), (19, _), (20, _), (21, _), (83, _), (130, _)] ⟨rfl, rfl, rfl, rfl, rfl, rfl, rfl, rfl, rfl, rfl, rfl, rfl, rfl, rfl, rfl, trivial⟩ ?_
        refine At.go ?_
        refine Sc.cond_f rfl ?_
        refine Sc.skip ?_
        refine At.go ?_
        refine Sc.seq ?_
        refine Sc.region ?_
        refine Sl.calm (Cm.move rfl) rfl ?_
        refine Sl.calm (Cm.move rfl) rfl ?_
        refine Sl.calm (Cm.len sl22 rfl) rfl ?_
        refine Sl.call fn29 rfl (tnums_ok (fun k => v2.heap.size ≤ k ∧ k < v3.heap.size) h1 p im1 0 im1.length NL.length 2 v4 hR14 (fun k hk => by have := hk.2; omega) (by omega) (by omega)) rfl ?_
        rw [htn]
        rintro _ v5 ⟨o22, c22, rfl, ho22, hfr22, hR15, hvF5⟩
        have hvz5 := hvF5.size
        have hR25 := hR2.keep hvF5 (fun k k1 k2 => by have := k1.1; have := k2.2; omega) (fun k2 => by have := k2.1; omega)
        have hF25 : Foot nob v2 v5 := (hvf3.trans hvf4).trans_to hvF5 (fun k hk => .inr hk.1)
        have hl22 := ho22.lt
        have hB1 : ∀ k, (Nx (fun k => v2.heap.size ≤ k ∧ k < v3.heap.size) v4 v5 k ∧ ¬ blk o22 k) → v2.heap.size ≤ k ∧ k < v5.heap.size ∧ ¬ (v3.heap.size ≤ k ∧ k < v4.heap.size) ∧ ¬ blk o22 k := fun k hk => by rcases hk.1 with h | h; have k1 := h.1; have k2 := h.2; exact ⟨by omega, by omega, by omega, hk.2⟩; have k1 := h.1; have k2 := h.2; exact ⟨by omega, by omega, by omega, hk.2⟩
        refine Sl.calm (Cm.move rfl) rfl ?_
        refine Sl.calm (Cm.extract rfl rfl) rfl ?_
        refine Sl.calm (Cm.extract rfl rfl) rfl ?_
        refine Sl.calm (Cm.assign rfl) rfl ?_
        refine Sl.calm (Cm.assign rfl) rfl ?_
        refine Sl.nil ?_
        refine At.weak [(1, _), (6, _), (7, _), (8, _), (9, _), (12, _), (13, _), (14, _), (15, _), (18, _), (19, _), (20, _), (21, _), (22, _), (23, _), (83, _), (130, _)] ⟨rfl, rfl, rfl, rfl, rfl, rfl, rfl, rfl, rfl, rfl, rfl, rfl, rfl, rfl, rfl, rfl, rfl, trivial⟩ ?_
        refine At.go ?_
        refine Sc.seq ?_
        refine Sc.region ?_
        refine Sl.calm (Cm.move rfl) rfl ?_
        refine Sl.calm (Cm.move rfl) rfl ?_
        refine Sl.calm (Cm.len sl22 rfl) rfl ?_
        refine Sl.calm (Cm.add64 rfl rfl (by omega)) rfl ?_
        refine Sl.call fn29 rfl (tnums_ok _ h1 p im1 0 im1.length (NL.length + 1) 2 v5 hR15 (fun k hk => (hB1 k hk).2.1) (by omega) (by omega)) rfl ?_
        rw [htm]
        rintro _ v6 ⟨o24, c24, rfl, ho24, hfr24, hR16, hvF6⟩
        have hvz6 := hvF6.size
        have hR26 := hR25.keep hvF6 (fun k k1 k2 => (hB1 k k2).2.2.1 k1) (fun k2 => by have := (hB1 p k2).1; omega)
        have hF26 : Foot nob v2 v6 := hF25.trans_to hvF6 (fun k hk => .inr (hB1 k hk).1)
        have ho22b := ho22.keep hvF6 (fun a ha e => (hB1 _ e).2.2.2 ⟨a, ha, rfl⟩)
        have hB2 : ∀ k, (Nx (fun k => Nx (fun k => v2.heap.size ≤ k ∧ k < v3.heap.size) v4 v5 k ∧ ¬ blk o22 k) v5 v6 k ∧ ¬ blk o24 k) → v2.heap.size ≤ k ∧ k < v6.heap.size ∧ ¬ (v3.heap.size ≤ k ∧ k < v4.heap.size) ∧ ¬ blk o22 k := fun k hk => by rcases hk.1 with h | h; have k1 := hB1 k h; exact ⟨k1.1, by omega, k1.2.2.1, k1.2.2.2⟩; have k1 := h.1; have k2 := h.2; exact ⟨by omega, by omega, by omega, fun ⟨a, ha, e⟩ => by have := hl22 a ha; omega⟩
        refine Sl.calm (Cm.move rfl) rfl ?_
        refine Sl.calm (Cm.extract rfl rfl) rfl ?_
        refine Sl.calm (Cm.extract rfl rfl) rfl ?_
        refine Sl.calm (Cm.assign rfl) rfl ?_
        refine Sl.calm (Cm.assign rfl) rfl ?_
        refine Sl.nil ?_
        refine At.weak [(1, _), (6, _), (7, _), (8, _), (9, _), (12, _), (13, _), (14, _), (15, _), (18, _), (19, _), (20, _), (21, _), (22, _), (23, _), (25, _), (83, _), (130, _)] ⟨rfl, rfl, rfl, rfl, rfl, rfl, rfl, rfl, rfl, rfl, rfl, rfl, rfl, rfl, rfl, rfl, rfl, rfl, trivial⟩ ?_
        refine At.go ?_
        refine Sc.seq ?_
        refine Sc.region ?_
        refine Sl.calm (Cm.move rfl) rfl ?_
        refine Sl.calm (Cm.move rfl) rfl ?_
        refine Sl.calm (Cm.len sl22 rfl) rfl ?_
        refine Sl.calm (Cm.sub64 rfl rfl (by omega)) rfl ?_
        refine Sl.call fn29 rfl (tnums_ok _ h1 p im1 0 im1.length (NL.length - 1) 2 v6 hR16 (fun k hk => (hB2 k hk).2.1) (by omega) (by omega)) rfl ?_
        rintro _ v7 ⟨o26, c26, rfl, ho26, hfr26, hR17, hvF7⟩
        have hvz7 := hvF7.size
        have hR27 := hR26.keep hvF7 (fun k k1 k2 => (hB2 k k2).2.2.1 k1) (fun k2 => by have := (hB2 p k2).1; omega)
        have hF27 : Foot nob v2 v7 := hF26.trans_to hvF7 (fun k hk => .inr (hB2 k hk).1)
        have ho22c := ho22b.keep hvF7 (fun a ha e => (hB2 _ e).2.2.2 ⟨a, ha, rfl⟩)
        refine Sl.calm (Cm.move rfl) rfl ?_
        refine Sl.calm (Cm.extract rfl rfl) rfl ?_
        refine Sl.calm (Cm.extract rfl rfl) rfl ?_
        refine Sl.calm (Cm.assign rfl) rfl ?_
        refine Sl.calm (Cm.assign rfl) rfl ?_
        refine Sl.nil ?_
        refine At.weak [(1, _), (6, _), (7, _), (8, _), (9, _), (12, _), (13, _), (14, _), (15, _), (18, _), (19, _), (20, _), (21, _), (22, _), (23, _), (25, _), (27, _), (83, _), (130, _)] ⟨rfl, rfl, rfl, rfl, rfl, rfl, rfl, rfl, rfl, rfl, rfl, rfl, rfl, rfl, rfl, rfl, rfl, rfl, rfl, trivial⟩ ?_
        refine At.go ?_
        refine Sc.seq ?_
        refine Sc.region ?_
        refine Sl.calm (Cm.move rfl) rfl ?_
        refine Sl.calm (Cm.move rfl) rfl ?_
        refine Sl.call fn33 rfl (same11_ok NL o22 oo c22 oc v7 ho22c.vw (hoo2.grow hF27).vw) rfl ?_
        rintro _ v8 ⟨rfl, hvf8⟩
        have hF28 := hF27.trans hvf8
        have hR28 := hR27.grow hvf8
        have hvz8 := hvf8.size
        refine Sl.calm (Cm.assign rfl) rfl ?_
        refine Sl.nil ?_
        refine At.weak [(1, _), (6, _), (7, _), (8, _), (9, _), (12, _), (13, _), (14, _), (15, _), (18, _), (19, _), (20, _), (21, _), (22, _), (23, _), (25, _), (27, _), (28, _), (83, _), (130, _)] ⟨rfl, rfl, rfl, rfl, rfl, rfl, rfl, rfl, rfl, rfl, rfl, rfl, rfl, rfl, rfl, rfl, rfl, rfl, rfl, rfl, trivial⟩ ?_
        refine At.go ?_
        refine Sc.seq ?_
        refine Sc.seq ?_
        refine Sc.region ?_
        refine Sl.calm (Cm.move rfl) rfl ?_
        refine Sl.calm (Cm.not rfl) rfl ?_
        refine Sl.calm (Cm.move rfl) rfl ?_
        refine Sl.want rfl rfl (Cm.move rfl) rfl ?_
        refine Sl.want rfl rfl (Cm.no (Cm.neq rfl rfl) (fun h => h rfl)) rfl ?_
        refine Sl.calm (Cm.pick_f rfl rfl) rfl ?_
        refine Sl.calm (Cm.move rfl) rfl ?_
        refine Sl.want rfl rfl (Cm.move rfl) rfl ?_
        refine Sl.want rfl rfl (Cm.no (Cm.neq rfl rfl) (fun h => h rfl)) rfl ?_
        refine Sl.calm (Cm.pick_f rfl rfl) rfl ?_
        refine Sl.calm (Cm.move rfl) rfl ?_
        refine Sl.want rfl rfl (Cm.move rfl) rfl ?_
        refine Sl.want rfl rfl (Cm.len sl22 rfl) rfl ?_
        refine Sl.forkWant rfl rfl (Cm.gtr rfl rfl) rfl (fun h170 => ?_) (fun h170 => ?_)
        ·
          refine Sl.want rfl rfl (Cm.move rfl) rfl ?_
          refine Sl.want rfl rfl (Cm.move rfl) rfl ?_
          refine Sl.want rfl rfl (Cm.no (Cm.neq rfl rfl) (by rw [him1, tn_less h16 (by omega)]; exact fun h => h rfl)) rfl ?_
          refine Sl.want rfl rfl (Cm.pick_t rfl rfl) rfl ?_
          refine Sl.calm (Cm.pick_f rfl rfl) rfl ?_
          refine Sl.nil ?_
          refine At.weak [(1, _), (6, _), (7, _), (8, _), (9, _), (12, _), (13, _), (14, _), (15, _), (18, _), (19, _), (20, _), (21, _), (22, _), (23, _), (25, _), (27, _), (28, _), (83, _), (130, _), (175, _)] ⟨rfl, rfl, rfl, rfl, rfl, rfl, rfl, rfl, rfl, rfl, rfl, rfl, rfl, rfl, rfl, rfl, rfl, rfl, rfl, rfl, rfl, trivial⟩ ?_
          refine At.go ?_
          refine Sc.cond_f rfl ?_
          refine Sc.skip ?_
          refine At.go ?_
          refine Sc.seq ?_
          refine Sc.seq ?_
          refine Sc.region ?_
          refine Sl.calm (Cm.assign rfl) rfl ?_
          refine Sl.nil ?_
          refine At.go ?_
          refine Sc.block ?_
          refine Sc.loop (β := Nat × (Nat → Prop)) (fun ⟨q, C⟩ => [(13, .slice rr (refsA M).length cr), (14, .slice oi ins.length ci), (21, .pointer (some ⟨h2, 0, none⟩)), (29, .int .i64 q)]) (fun ⟨q, C⟩ z => q ≤ K.length ∧ MrO C z.heap h2 p im2 0 im2.length ∧ (∀ k, C k → v2.heap.size ≤ k ∧ k < z.heap.size) ∧ Foot nob v2 z) (fun ⟨q, C⟩ => K.length - q) ⟨0, fun k => v3.heap.size ≤ k ∧ k < v4.heap.size⟩ ⟨(by rw [hMe]; rfl), rfl, rfl, rfl, trivial⟩ ⟨Nat.zero_le _, hR28, (fun k hk => ⟨by have := hk.1; omega, by have := hk.2; omega⟩), hF28⟩ ?_
          rintro ⟨q, C⟩ z ⟨hq, hRz, hC, hFz⟩
          have hzz := hFz.size
          refine Sc.seq ?_
          refine Sc.seq ?_
          refine Sc.region ?_
          refine Sl.calm (Cm.move rfl) rfl ?_
          refine Sl.calm (Cm.move rfl) rfl ?_
          refine Sl.calm (Cm.len sl73 rfl) rfl ?_
          refine Sl.fork (Cm.lss rfl rfl) rfl (fun h179 => ?_) (fun h179 => ?_)
          ·
            have hqK : q < K.length := by omega
            obtain ⟨X, hXe⟩ : ∃ X, X = K.getD q [] := ⟨_, rfl⟩
            have hok := hKm q hqK
            rw [← hXe] at hok
            have hqM : q < M.length := by omega
            have hMq : M.getD q [] = encXs X := by rw [hMK, hXe]; simp [List.getD, hqK]
            have hdr := drop_in (M := M) [] hqM
            rw [List.append_nil, ← hT, hMq] at hdr
            have hxs := xs_at hok.1 hok.2 hdr
            rw [← him2] at hxs
            have hrr := refT_in (M := M) [] q
            rw [List.append_nil, ← hT] at hrr
            have hruw := hru2.grow hFz
            have hrc : cellH z.heap (adr rr q) = some (.int .i64 (refT T (M.take q).flatten.length : Nat)) := by have := hruw.vw.gd 0 (i := q) (by rw [refsA_len]; omega); rwa [refsA_at hqM, hrr] at this
            have hoff : (M.take q).flatten.length ≤ T.length := by rw [hT]; exact flat_le M q
            have hrb := refT_b (T := T) (o := (M.take q).flatten.length) (by omega)
            refine Sl.nil ?_
            refine At.weak [(13, _), (14, _), (21, _), (29, _), (179, _)] ⟨rfl, rfl, rfl, rfl, rfl, trivial⟩ ?_
            refine At.go ?_
            refine Sc.cond_t rfl ?_
            refine Sc.skip ?_
            refine At.go ?_
            refine Sc.seq ?_
            refine Sc.block ?_
            refine Sc.seq ?_
            refine Sc.region ?_
            refine Sl.calm (Cm.move rfl) rfl ?_
            refine Sl.calm (Cm.move rfl) rfl ?_
            refine Sl.calm (Cm.move rfl) rfl ?_
            refine Sl.calm (Cm.indexAddr1 sl22 rfl rfl hruw.vw.non (by rw [refsA_len]; omega)) rfl ?_
            refine Sl.calm (Cm.ld sca3 rfl (by rw [Int.toNat_natCast]; exact hrc)) rfl ?_
            refine Sl.call fn31 rfl (txattrs_ok C h2 p im2 0 im2.length (refT T (M.take q).flatten.length : Nat) z hRz (fun k hk => (hC k hk).2) (by omega) ⟨by omega, by omega⟩) rfl ?_
            rw [hxs]
            rintro _ z1 ⟨o30, c30, rfl, hx30, hRz1, hFz1⟩
            have hzz1 := hFz1.size
            have hF2z1 : Foot nob v2 z1 := hFz.trans_to hFz1 (fun k hk => .inr (by have := (hC k hk).1; omega))
            have hoiz := hoi2.grow hF2z1
            have hXz := hXi.grow ((hFWu.trans hvf02).trans hF2z1)
            obtain ⟨⟨ea, en, ec⟩, hen, hel3, hev⟩ := hXz.at hqK
            rw [← hXe] at hel3 hev
            obtain rfl : en = X.length := hel3
            have hec : cellH z1.heap (adr oi (q : Int).toNat) = some (.slice ea X.length ec) := by rw [Int.toNat_natCast]; exact hoiz.vw.get q _ hen
            refine Sl.calm (Cm.move rfl) rfl ?_
            refine Sl.calm (Cm.extract rfl rfl) rfl ?_
            refine Sl.calm (Cm.extract rfl rfl) rfl ?_
            refine Sl.calm (Cm.assign rfl) rfl ?_
            refine Sl.calm (Cm.assign rfl) rfl ?_
            refine Sl.nil ?_
            refine At.weak [(13, _), (14, _), (21, _), (29, _), (30, _), (31, _), (179, _)] ⟨rfl, rfl, rfl, rfl, rfl, rfl, rfl, trivial⟩ ?_
            refine At.go ?_
            refine Sc.seq ?_
            refine Sc.region ?_
            refine Sl.calm (Cm.move rfl) rfl ?_
            refine Sl.calm (Cm.move rfl) rfl ?_
            refine Sl.calm (Cm.move rfl) rfl ?_
            refine Sl.calm (Cm.indexAddr1 sl73 rfl rfl hoiz.vw.non (by omega)) rfl ?_
            refine Sl.calm (Cm.ld sca23 rfl hec) rfl ?_
            refine Sl.call fn34 rfl (sameX_ok X o30 ea c30 ec z1 hx30 hev) rfl ?_
            rintro _ z2 ⟨rfl, hzf2⟩
            have hzz2 := hzf2.size
            refine Sl.calm (Cm.assign rfl) rfl ?_
            refine Sl.nil ?_
            refine At.weak [(13, _), (14, _), (21, _), (29, _), (30, _), (31, _), (32, _), (179, _)] ⟨rfl, rfl, rfl, rfl, rfl, rfl, rfl, rfl, trivial⟩ ?_
            refine At.go ?_
            refine Sc.seq ?_
            refine Sc.region ?_
            refine Sl.calm (Cm.move rfl) rfl ?_
            refine Sl.calm (Cm.not rfl) rfl ?_
            refine Sl.calm (Cm.move rfl) rfl ?_
            refine Sl.want rfl rfl (Cm.move rfl) rfl ?_
            refine Sl.want rfl rfl (Cm.no (Cm.neq rfl rfl) (fun h => h rfl)) rfl ?_
            refine Sl.calm (Cm.pick_f rfl rfl) rfl ?_
            refine Sl.nil ?_
            refine At.weak [(13, _), (14, _), (21, _), (29, _), (30, _), (31, _), (32, _), (179, _), (202, _)] ⟨rfl, rfl, rfl, rfl, rfl, rfl, rfl, rfl, rfl, trivial⟩ ?_
            refine At.go ?_
            refine Sc.cond_f rfl ?_
            refine Sc.skip ?_
            refine At.block_normal ?_
            refine At.go ?_
            refine Sc.region ?_
            refine Sl.calm (Cm.move rfl) rfl ?_
            refine Sl.calm (Cm.add64 rfl rfl (by omega)) rfl ?_
            refine Sl.calm (Cm.assign rfl) rfl ?_
            refine Sl.nil ?_
            exact At.again ⟨q + 1, Nx C z z1⟩ ⟨rfl, rfl, rfl, rfl, trivial⟩ ⟨by omega, hRz1.grow hzf2, (fun k hk => by rcases hk with h | h; have h1 := hC k h; exact ⟨h1.1, by omega⟩; have h1 := h.1; have h2 := h.2; exact ⟨by omega, by omega⟩), hF2z1.trans hzf2⟩ (by show K.length - (q + 1) < K.length - q; omega)
          ·
            refine Sl.nil ?_
            refine At.weak [(13, _), (14, _), (21, _), (29, _), (179, _)] ⟨rfl, rfl, rfl, rfl, rfl, trivial⟩ ?_
            refine At.go ?_
            refine Sc.cond_f rfl ?_
            refine Sc.exit ?_
            refine At.then_exit ?_
            refine At.then_exit ?_
            refine At.block_hit ?_
            refine At.go ?_
            refine Sc.seq ?_
            refine Sc.region ?_
            refine Sl.calm (Cm.assign rfl) rfl ?_
            refine Sl.nil ?_
            refine At.go ?_
            refine Sc.ret ?_
            refine At.ret1 rfl rfl ?_
            exact ⟨_, rfl, rfl, ((hF5.trans hFu).trans hvf02).trans hFz⟩
        ·
          refine Sl.want rfl rfl (Cm.move rfl) rfl ?_
          refine Sl.skip rfl rfl rfl rfl ?_
          refine Sl.skip rfl rfl rfl rfl ?_
          refine Sl.want rfl rfl (Cm.pick_f rfl rfl) rfl ?_
          refine Sl.calm (Cm.pick_f rfl rfl) rfl ?_
          refine Sl.nil ?_
          refine At.weak [(1, _), (6, _), (7, _), (8, _), (9, _), (12, _), (13, _), (14, _), (15, _), (18, _), (19, _), (20, _), (21, _), (22, _), (23, _), (25, _), (27, _), (28, _), (83, _), (130, _), (175, _)] ⟨rfl, rfl, rfl, rfl, rfl, rfl, rfl, rfl, rfl, rfl, rfl, rfl, rfl, rfl, rfl, rfl, rfl, rfl, rfl, rfl, rfl, trivial⟩ ?_
          refine At.go ?_
          refine Sc.cond_f rfl ?_
          refine Sc.skip ?_
          refine At.go ?_
          refine Sc.seq ?_
          refine Sc.seq ?_
          refine Sc.region ?_
          refine Sl.calm (Cm.assign rfl) rfl ?_
          refine Sl.nil ?_
          refine At.go ?_
          refine Sc.block ?_
          refine Sc.loop (β := Nat × (Nat → Prop)) (fun ⟨q, C⟩ => [(13, .slice rr (refsA M).length cr), (14, .slice oi ins.length ci), (21, .pointer (some ⟨h2, 0, none⟩)), (29, .int .i64 q)]) (fun ⟨q, C⟩ z => q ≤ K.length ∧ MrO C z.heap h2 p im2 0 im2.length ∧ (∀ k, C k → v2.heap.size ≤ k ∧ k < z.heap.size) ∧ Foot nob v2 z) (fun ⟨q, C⟩ => K.length - q) ⟨0, fun k => v3.heap.size ≤ k ∧ k < v4.heap.size⟩ ⟨(by rw [hMe]; rfl), rfl, rfl, rfl, trivial⟩ ⟨Nat.zero_le _, hR28, (fun k hk => ⟨by have := hk.1; omega, by have := hk.2; omega⟩), hF28⟩ ?_
          rintro ⟨q, C⟩ z ⟨hq, hRz, hC, hFz⟩
          have hzz := hFz.size
          refine Sc.seq ?_
          refine Sc.seq ?_
          refine Sc.region ?_
          refine Sl.calm (Cm.move rfl) rfl ?_
          refine Sl.calm (Cm.move rfl) rfl ?_
          refine Sl.calm (Cm.len sl73 rfl) rfl ?_
          refine Sl.fork (Cm.lss rfl rfl) rfl (fun h179 => ?_) (fun h179 => ?_)
          ·
            have hqK : q < K.length := by omega
            obtain ⟨X, hXe⟩ : ∃ X, X = K.getD q [] := ⟨_, rfl⟩
            have hok := hKm q hqK
            rw [← hXe] at hok
            have hqM : q < M.length := by omega
            have hMq : M.getD q [] = encXs X := by rw [hMK, hXe]; simp [List.getD, hqK]
            have hdr := drop_in (M := M) [] hqM
            rw [List.append_nil, ← hT, hMq] at hdr
            have hxs := xs_at hok.1 hok.2 hdr
            rw [← him2] at hxs
            have hrr := refT_in (M := M) [] q
            rw [List.append_nil, ← hT] at hrr
            have hruw := hru2.grow hFz
            have hrc : cellH z.heap (adr rr q) = some (.int .i64 (refT T (M.take q).flatten.length : Nat)) := by have := hruw.vw.gd 0 (i := q) (by rw [refsA_len]; omega); rwa [refsA_at hqM, hrr] at this
            have hoff : (M.take q).flatten.length ≤ T.length := by rw [hT]; exact flat_le M q
            have hrb := refT_b (T := T) (o := (M.take q).flatten.length) (by omega)
            refine Sl.nil ?_
            refine At.weak [(13, _), (14, _), (21, _), (29, _), (179, _)] ⟨rfl, rfl, rfl, rfl, rfl, trivial⟩ ?_
            refine At.go ?_
            refine Sc.cond_t rfl ?_
            refine Sc.skip ?_
            refine At.go ?_
            refine Sc.seq ?_
            refine Sc.block ?_
            refine Sc.seq ?_
            refine Sc.region ?_
            refine Sl.calm (Cm.move rfl) rfl ?_
            refine Sl.calm (Cm.move rfl) rfl ?_
            refine Sl.calm (Cm.move rfl) rfl ?_
            refine Sl.calm (Cm.indexAddr1 sl22 rfl rfl hruw.vw.non (by rw [refsA_len]; omega)) rfl ?_
            refine Sl.calm (Cm.ld sca3 rfl (by rw [Int.toNat_natCast]; exact hrc)) rfl ?_
            refine Sl.call fn31 rfl (txattrs_ok C h2 p im2 0 im2.length (refT T (M.take q).flatten.length : Nat) z hRz (fun k hk => (hC k hk).2) (by omega) ⟨by omega, by omega⟩) rfl ?_
            rw [hxs]
            rintro _ z1 ⟨o30, c30, rfl, hx30, hRz1, hFz1⟩
            have hzz1 := hFz1.size
            have hF2z1 : Foot nob v2 z1 := hFz.trans_to hFz1 (fun k hk => .inr (by have := (hC k hk).1; omega))
            have hoiz := hoi2.grow hF2z1
            have hXz := hXi.grow ((hFWu.trans hvf02).trans hF2z1)
            obtain ⟨⟨ea, en, ec⟩, hen, hel3, hev⟩ := hXz.at hqK
            rw [← hXe] at hel3 hev
            obtain rfl : en = X.length := hel3
            have hec : cellH z1.heap (adr oi (q : Int).toNat) = some (.slice ea X.length ec) := by rw [Int.toNat_natCast]; exact hoiz.vw.get q _ hen
            refine Sl.calm (Cm.move rfl) rfl ?_
            refine Sl.calm (Cm.extract rfl rfl) rfl ?_
            refine Sl.calm (Cm.extract rfl rfl) rfl ?_
            refine Sl.calm (Cm.assign rfl) rfl ?_
            refine Sl.calm (Cm.assign rfl) rfl ?_
            refine Sl.nil ?_
            refine At.weak [(13, _), (14, _), (21, _), (29, _), (30, _), (31, _), (179, _)] ⟨rfl, rfl, rfl, rfl, rfl, rfl, rfl, trivial⟩ ?_
            refine At.go ?_
            refine Sc.seq ?_
            refine Sc.region ?_
            refine Sl.calm (Cm.move rfl) rfl ?_
            refine Sl.calm (Cm.move rfl) rfl ?_
            refine Sl.calm (Cm.move rfl) rfl ?_
            refine Sl.calm (Cm.indexAddr1 sl73 rfl rfl hoiz.vw.non (by omega)) rfl ?_
            refine Sl.calm (Cm.ld sca23 rfl hec) rfl ?_
            refine Sl.call fn34 rfl (sameX_ok X o30 ea c30 ec z1 hx30 hev) rfl ?_
            rintro _ z2 ⟨rfl, hzf2⟩
            have hzz2 := hzf2.size
            refine Sl.calm (Cm.assign rfl) rfl ?_
            refine Sl.nil ?_
            refine At.weak [(13, _), (14, _), (21, _), (29, _), (30, _), (31, _), (32, _), (179, _)] ⟨rfl, rfl, rfl, rfl, rfl, rfl, rfl, rfl, trivial⟩ ?_
            refine At.go ?_
            refine Sc.seq ?_
            refine Sc.region ?_
            refine Sl.calm (Cm.move rfl) rfl ?_
            refine Sl.calm (Cm.not rfl) rfl ?_
            refine Sl.calm (Cm.move rfl) rfl ?_
            refine Sl.want rfl rfl (Cm.move rfl) rfl ?_
            refine Sl.want rfl rfl (Cm.no (Cm.neq rfl rfl) (fun h => h rfl)) rfl ?_
            refine Sl.calm (Cm.pick_f rfl rfl) rfl ?_
            refine Sl.nil ?_
            refine At.weak [(13, _), (14, _), (21, _), (29, _), (30, _), (31, _), (32, _), (179, _), (202, _)] ⟨rfl, rfl, rfl, rfl, rfl, rfl, rfl, rfl, rfl, trivial⟩ ?_
            refine At.go ?_
            refine Sc.cond_f rfl ?_
            refine Sc.skip ?_
            refine At.block_normal ?_
            refine At.go ?_
            refine Sc.region ?_
            refine Sl.calm (Cm.move rfl) rfl ?_
            refine Sl.calm (Cm.add64 rfl rfl (by omega)) rfl ?_
            refine Sl.calm (Cm.assign rfl) rfl ?_
            refine Sl.nil ?_
            exact At.again ⟨q + 1, Nx C z z1⟩ ⟨rfl, rfl, rfl, rfl, trivial⟩ ⟨by omega, hRz1.grow hzf2, (fun k hk => by rcases hk with h | h; have h1 := hC k h; exact ⟨h1.1, by omega⟩; have h1 := h.1; have h2 := h.2; exact ⟨by omega, by omega⟩), hF2z1.trans hzf2⟩ (by show K.length - (q + 1) < K.length - q; omega)
          ·
            refine Sl.nil ?_
            refine At.weak [(13, _), (14, _), (21, _), (29, _), (179, _)] ⟨rfl, rfl, rfl, rfl, rfl, trivial⟩ ?_
            refine At.go ?_
            refine Sc.cond_f rfl ?_
            refine Sc.exit ?_
            refine At.then_exit ?_
            refine At.then_exit ?_
            refine At.block_hit ?_
            refine At.go ?_
            refine Sc.seq ?_
            refine Sc.region ?_
            refine Sl.calm (Cm.assign rfl) rfl ?_
            refine Sl.nil ?_
            refine At.go ?_
            refine Sc.ret ?_
            refine At.ret1 rfl rfl ?_
            exact ⟨_, rfl, rfl, ((hF5.trans hFu).trans hvf02).trans hFz⟩
  ·
    refine Sl.calm (Cm.move rfl) rfl ?_
    refine Sl.skip rfl rfl rfl rfl ?_
    refine Sl.skip rfl rfl rfl rfl ?_
    refine Sl.calm (Cm.pick_f rfl rfl) rfl ?_
    refine Sl.nil ?_
    refine At.weak [(0, _), (1, _), (6, _), (7, _), (8, _), (9, _), (10, _), (55, _)] ⟨rfl, rfl, rfl, rfl, rfl, rfl, rfl, rfl, trivial⟩ ?_
    refine At.go ?_
    refine Sc.cond_f rfl ?_
    refine Sc.exit ?_
    refine At.then_exit ?_
    refine At.then_exit ?_
    refine At.block_hit ?_
    refine At.go ?_
    refine Sc.seq ?_
    refine Sc.region ?_
    refine Sl.calm (Cm.move rfl) rfl ?_
    obtain ⟨NL, hNL⟩ : ∃ NL, NL = n16 (L.take i) := ⟨_, rfl⟩
    have h16 : in16 NL := by rw [hNL]; exact n16_in _
    have hnl : NL.length ≤ 200 := by rw [hNL, n16_len, List.length_take]; omega
    rw [← hNL] at hoo ⊢
    have hM := hM7.grow hFw
    have hV := hV7.grow hFw
    have hzw := hFw.size
    have hel := encN_len NL
    have hFW := (hF5.trans hF57).trans hFw
    have hoolt := hoo.lt
    refine Sl.call fn15 rfl (putNums_ok oo oc NL 2 w hoo.vw (by omega)) rfl ?_
    rw [putNums_enc h16]
    rintro _ w10 ⟨o10, c10, rfl, ho10, hfr10, hf10⟩
    have hz10 := hf10.size
    refine Sl.calm (Cm.move rfl) rfl ?_
    refine Sl.calm (Cm.extract rfl rfl) rfl ?_
    refine Sl.calm (Cm.extract rfl rfl) rfl ?_
    refine Sl.calm (Cm.assign rfl) rfl ?_
    refine Sl.calm (Cm.assign rfl) rfl ?_
    refine Sl.nil ?_
    refine At.weak [(0, _), (1, _), (6, _), (7, _), (8, _), (9, _), (10, _), (11, _), (12, _), (55, _)] ⟨rfl, rfl, rfl, rfl, rfl, rfl, rfl, rfl, rfl, rfl, trivial⟩ ?_
    refine At.go ?_
    refine Sc.seq ?_
    refine Sc.region ?_
    refine Sl.calm (Cm.move rfl) rfl ?_
    refine Sl.calm (Cm.move rfl) rfl ?_
    refine Sl.call fn40 rfl (maddT_ok (fun k => g ≤ k ∧ k < w6.heap.size) g p [] o10 c10 (encN NL) w10 (hM.grow hf10) ho10.vw (by simp only [List.length_nil]; omega)) rfl ?_
    rintro _ w11 ⟨rfl, hM11, hF11⟩
    rw [List.nil_append] at hM11
    have hz11 := hF11.size
    have hV11 := (hV.grow hf10).keep hF11 (fun k h1 h2 => by have := h1.1; have := h2.2; omega) (fun h => by have := h.1; omega)
    have hoo11 := (hoo.grow hf10).keep hF11 (fun a ha e => by have := hioo a ha; have := e.2; omega)
    have hF511 : Foot nob w5 w11 := (hF57.trans (hFw.trans hf10)).trans_to hF11 (fun k hk => .inr (by have := hk.1; omega))
    refine Sl.nil ?_
    refine At.weak [(0, _), (1, _), (6, _), (7, _), (8, _), (9, _), (10, _), (11, _), (12, _), (55, _)] ⟨rfl, rfl, rfl, rfl, rfl, rfl, rfl, rfl, rfl, rfl, trivial⟩ ?_
    refine At.go ?_
    refine Sc.seq ?_
    refine Sc.region ?_
    refine Sl.lit0 i64 sl22 rfl ?_
    intro w12 ho12 hs12 hf12
    refine Sl.calm (Cm.assign rfl) rfl ?_
    refine Sl.nil ?_
    refine At.weak [(0, _), (1, _), (6, _), (7, _), (8, _), (9, _), (10, _), (11, _), (12, _), (13, _), (55, _)] ⟨rfl, rfl, rfl, rfl, rfl, rfl, rfl, rfl, rfl, rfl, rfl, trivial⟩ ?_
    refine At.go ?_
    refine Sc.seq ?_
    refine Sc.region ?_
    refine Sl.lit0 hd sl73 rfl ?_
    intro w13 ho13 hs13 hf13
    have hf1113 := hf12.trans hf13
    have hM13 := hM11.grow hf1113
    have hV13 := hV11.grow hf1113
    have hoo13 := hoo11.grow hf1113
    have ho12b := ho12.grow hf13
    have hz13 := hf1113.size
    have hF513 := hF511.trans hf1113
    obtain ⟨qr, hqr⟩ : ∃ qr, qr = w11.heap.size := ⟨_, rfl⟩
    obtain ⟨qi, hqi⟩ : ∃ qi, qi = w12.heap.size := ⟨_, rfl⟩
    rw [← hqr] at ho12b ⊢
    rw [← hqi] at ho13 ⊢
    obtain ⟨E, hE⟩ : ∃ E : Nat → Prop, E = Nx (fun k => g ≤ k ∧ k < w6.heap.size) w10 w11 := ⟨_, rfl⟩
    rw [← hE] at hM13
    have hEb : ∀ k, E k → w5.heap.size ≤ k ∧ k < w11.heap.size ∧ ¬ (g2 ≤ k ∧ k < w7.heap.size) := fun k hk => by
      rw [hE] at hk
      rcases hk with h | h
      · have h1 := h.1; have h2 := h.2; exact ⟨by omega, by omega, by omega⟩
      · have h1 := h.1; have h2 := h.2; exact ⟨by omega, by omega, by omega⟩
    refine Sl.calm (Cm.assign rfl) rfl ?_
    refine Sl.nil ?_
    refine At.weak [(0, _), (1, _), (6, _), (7, _), (8, _), (9, _), (10, _), (11, _), (12, _), (13, _), (14, _), (55, _)] ⟨rfl, rfl, rfl, rfl, rfl, rfl, rfl, rfl, rfl, rfl, rfl, rfl, trivial⟩ ?_
    refine At.go ?_
    refine Sc.seq ?_
    refine Sc.seq ?_
    refine Sc.region ?_
    refine Sl.calm (Cm.assign rfl) rfl ?_
    refine Sl.nil ?_
    refine At.go ?_
    refine Sc.block ?_
    refine Sc.loop (β := (Nat × (Nat → Prop) × List Hd) × ((Option Addr × Nat) × (Option Addr × Nat))) (fun ⟨⟨j, A, ins⟩, ⟨⟨rr, cr⟩, ⟨oi, ci⟩⟩⟩ => [(1, .slice xo hs.length xc), (6, .pointer (some ⟨p, 0, none⟩)), (7, .pointer (some ⟨g, 0, none⟩)), (8, .pointer (some ⟨g2, 0, none⟩)), (9, .slice oo NL.length oc), (12, .int .i64 0), (13, .slice rr (refsA (rowX (XS.take j))).length cr), (14, .slice oi ins.length ci), (15, .int .i64 j)]) (fun ⟨⟨j, A, ins⟩, ⟨⟨rr, cr⟩, ⟨oi, ci⟩⟩⟩ u => j ≤ 12 ∧ j ≤ XS.length ∧ MwO A u.heap g2 p (cutW [] (rowX (XS.take j)).flatten).1 (cutW [] (rowX (XS.take j)).flatten).2 ∧ (∀ k, A k → (w5.heap.size ≤ k ∧ k < u.heap.size) ∧ ¬ E k ∧ ¬ blk oo k) ∧ MwO E u.heap g p (cutW [] (encN NL)).1 (cutW [] (encN NL)).2 ∧ Own i64 3 u.heap oo oc NL ∧ Own i64 3 u.heap rr cr (refsA (rowX (XS.take j))) ∧ Own hd 23 u.heap oi ci ins ∧ XrV W.heap ins (keepX (XS.take j)) ∧ Fr w11.heap.size rr ∧ Fr w11.heap.size oi ∧ (∀ k, blk rr k → ¬ A k) ∧ (∀ k, blk oi k → ¬ A k) ∧ Ap rr oi ∧ w11.heap.size ≤ u.heap.size ∧ Foot nob w5 u) (fun ⟨⟨j, A, ins⟩, ⟨⟨rr, cr⟩, ⟨oi, ci⟩⟩⟩ => 12 - j) ⟨⟨0, fun k => g2 ≤ k ∧ k < w7.heap.size, []⟩, ⟨⟨some ⟨qr, 0, none⟩, 0⟩, ⟨some ⟨qi, 0, none⟩, 0⟩⟩⟩ ⟨rfl, rfl, rfl, rfl, rfl, rfl, rfl, rfl, rfl, trivial⟩ ⟨Nat.zero_le _, Nat.zero_le _, by simpa [rowX, keepX] using hV13, (fun k hk => ⟨⟨by have := hk.1; omega, by have := hk.2; omega⟩, fun h => (hEb k h).2.2 hk, fun ⟨a, ha, e⟩ => by have := hioo a ha; have := hk.2; omega⟩), hM13, hoo13, by simpa [rowX, keepX, refsA] using ho12b, ho13, by simpa [keepX] using XrV.nil, (fun a ha => by cases ha; show w11.heap.size ≤ qr; omega), (fun a ha => by cases ha; show w11.heap.size ≤ qi; have := hf12.size; omega), (fun k ⟨a, ha, e⟩ h => by cases ha; have e : qr = k := e; have := h.2; omega), (fun k ⟨a, ha, e⟩ h => by cases ha; have e : qi = k := e; have := h.2; have := hf12.size; omega), (fun a z ha hz e => by cases ha; cases hz; have e : qr = qi := e; omega), hz13, hF513⟩ ?_
    rintro ⟨⟨j, A, ins⟩, ⟨⟨rr, cr⟩, ⟨oi, ci⟩⟩⟩ u ⟨hj, hjX0, hVu, hA, hMu, hoou, hru, hoiu, hXi, hfr, hfi, har, hai, hap, hzu, hFu⟩
    refine Sc.seq ?_
    refine Sc.seq ?_
    refine Sc.region ?_
    refine Sl.calm (Cm.move rfl) rfl ?_
    refine Sl.calm (Cm.move rfl) rfl ?_
    refine Sl.calm (Cm.len sl73 rfl) rfl ?_
    refine Sl.fork (Cm.lss rfl rfl) rfl (fun h79 => ?_) (fun h79 => ?_)
    ·
      have hjX : j < XS.length := by omega
      have hFWu := hF5.trans hFu
      have hxw := hx0.grow hFWu
      have hXw := hX0.grow hFWu
      obtain ⟨⟨ya, yn, yc⟩, hy, hyn, hyv⟩ := hXw.at hjX
      obtain rfl : yn = (XS.getD j []).length := hyn
      obtain ⟨X, hX⟩ : ∃ X, X = XS.getD j [] := ⟨_, rfl⟩
      rw [← hX] at hy hyv
      have hyc : cellH u.heap (adr xo (j : Int).toNat) = some (.slice ya X.length yc) := by rw [Int.toNat_natCast]; exact hxw.get j _ hy
      refine Sl.calm (Cm.move rfl) rfl ?_
      refine Sl.want rfl rfl (Cm.move rfl) rfl ?_
      refine Sl.forkWant rfl rfl (Cm.lss rfl rfl) rfl (fun h82 => ?_) (fun h82 => ?_)
      ·
        refine Sl.calm (Cm.pick_t rfl rfl) rfl ?_
        refine Sl.nil ?_
        refine At.weak [(1, _), (6, _), (7, _), (8, _), (9, _), (12, _), (13, _), (14, _), (15, _), (83, _)] ⟨rfl, rfl, rfl, rfl, rfl, rfl, rfl, rfl, rfl, rfl, trivial⟩ ?_
        refine At.go ?_
        refine Sc.cond_t rfl ?_
        refine Sc.skip ?_
        refine At.go ?_
        refine Sc.seq ?_
        refine Sc.block ?_
        refine Sc.seq ?_
        refine Sc.region ?_
        refine Sl.calm (Cm.move rfl) rfl ?_
        refine Sl.calm (Cm.move rfl) rfl ?_
        refine Sl.calm (Cm.indexAddr1 sl73 rfl rfl hxw.non (by omega)) rfl ?_
        refine Sl.calm (Cm.ld sca23 rfl hyc) rfl ?_
        refine Sl.call fn17 rfl (putX_ok ya yc X u hyv) rfl ?_
        rintro _ u1 ⟨o14, c14, rfl, ho14, hfr14, huf1⟩
        have hzu1 := huf1.size
        have hVu1 := hVu.grow huf1
        have hFu1 := hFu.trans huf1
        have hMu1 := hMu.grow huf1
        have hoou1 := hoou.grow huf1
        have hru1 := hru.grow huf1
        have hoiu1 := hoiu.grow huf1
        refine Sl.calm (Cm.move rfl) rfl ?_
        refine Sl.calm (Cm.extract rfl rfl) rfl ?_
        refine Sl.calm (Cm.extract rfl rfl) rfl ?_
        refine Sl.calm (Cm.assign rfl) rfl ?_
        refine Sl.calm (Cm.assign rfl) rfl ?_
        refine Sl.nil ?_
        refine At.weak [(1, _), (6, _), (7, _), (8, _), (9, _), (12, _), (13, _), (14, _), (15, _), (16, _), (17, _), (83, _)] ⟨rfl, rfl, rfl, rfl, rfl, rfl, rfl, rfl, rfl, rfl, rfl, rfl, trivial⟩ ?_
        refine At.go ?_
        refine Sc.seq ?_
        refine Sc.region ?_
        refine Sl.calm (Cm.move rfl) rfl ?_
        refine Sl.fork (Cm.eql rfl rfl) rfl (fun h95 => ?_) (fun h95 => ?_)
        ·
          obtain ⟨hm, h0⟩ := putXs_ok0.1 h95
          have hmX : okX (XS.getD j []) := by rw [← hX]; exact ⟨hm, h0⟩
          have eK := keepX_yes hjX hmX
          have eM := rowX_yes hjX hmX
          rw [← hX] at eK eM
          rw [putXs_enc hm h0] at ho14
          have hel2 := encXs_len hm
          have hKb := keepX_le (XS.take j)
          have hMb := rowX_b (XS.take j)
          rw [List.length_take] at hKb hMb
          have hil := hXi.1
          refine Sl.nil ?_
          refine At.weak [(1, _), (6, _), (7, _), (8, _), (9, _), (12, _), (13, _), (14, _), (15, _), (16, _), (17, _), (83, _), (95, _)] ⟨rfl, rfl, rfl, rfl, rfl, rfl, rfl, rfl, rfl, rfl, rfl, rfl, rfl, trivial⟩ ?_
          refine At.go ?_
          refine Sc.cond_t rfl ?_
          refine Sc.seq ?_
          refine Sc.region ?_
          refine Sl.calm (Cm.move rfl) rfl ?_
          refine Sl.calm (Cm.move rfl) rfl ?_
          refine Sl.calm (Cm.move rfl) rfl ?_
          refine Sl.call fn40 rfl (by rw [putXs_enc hm h0]; exact maddT_ok A g2 p (rowX (XS.take j)).flatten o14 c14 (encXs X) u1 hVu1 ho14.vw (by omega)) rfl ?_
          rintro _ u2 ⟨rfl, hVu2, hFu2⟩
          have hzu2 := hFu2.size
          have e2 : (rowX (XS.take j)).flatten ++ encXs X = (rowX (XS.take (j + 1))).flatten := by rw [eM, List.flatten_append]; simp
          rw [e2] at hVu2
          have hru2 := hru1.keep hFu2 (fun a ha e => har _ ⟨a, ha, rfl⟩ e)
          have hoiu2 := hoiu1.keep hFu2 (fun a ha e => hai _ ⟨a, ha, rfl⟩ e)
          have hMu2 := hMu1.keep hFu2 (fun k h1 h2 => (hA k h2).2.1 h1) (fun h => by have := (hA p h).1.1; omega)
          have hoou2 := hoou1.keep hFu2 (fun a ha e => (hA _ e).2.2 ⟨a, ha, rfl⟩)
          have hFu02 : Foot nob w5 u2 := hFu1.trans_to hFu2 (fun k hk => .inr (hA k hk).1.1)
          have hlr := hru.lt
          have hli := hoiu.lt
          refine Sl.lit1 (enc := i64) (u := ((refT (rowX (XS.take j)).flatten (rowX (XS.take j)).flatten.length : Nat) : Int)) sl22 (i64_oneT _) rfl rfl ?_
          intro u3 hol3 hsl3 huf3
          refine Sl.append i64_oneT sl22 rfl rfl (hru2.grow huf3) hol3.vw (by rw [refsA_len, rowX_len]; simp only [List.length_singleton]; omega) (by rw [refsA_len, rowX_len]; simp only [List.length_singleton]; unfold maxLen; omega) rfl ?_
          intro rr4 cr4 u4 hru4 huf4 hrr4 hnr4
          rw [← refsA_snoc, ← eM] at hru4 ⊢
          have hzu3 := huf3.size
          have hzu4 := huf4.size
          have hfx : ∀ k, k < w11.heap.size → ¬ blk rr k := fun k hk ⟨a, ha, e⟩ => by have := hfr a ha; omega
          have hoiu4 := (hoiu2.grow huf3).keep huf4 (fun a ha ⟨z, hz, e⟩ => hap z a hz ha e)
          have hMu4 := (hMu2.grow huf3).keep huf4 (fun k h1 h2 => hfx k (hEb k h1).2.1 h2) (hfx p (by omega))
          have hoou4 := (hoou2.grow huf3).keep huf4 (fun a ha e => hfx _ (by have := hoolt a ha; omega) e)
          have hVu4 := (hVu2.grow huf3).keep huf4 (fun k h1 ⟨a, ha, e⟩ => by rcases h1 with h | h; exact har k ⟨a, ha, e⟩ h; have := hlr a ha; have := h.1; omega) (hfx p (by omega))
          have hFu04 : Foot nob w5 u4 := (hFu02.trans huf3).trans_to huf4 (fun k ⟨a, ha, e⟩ => .inr (by have := hfr a ha; omega))
          have hyc4 : cellH u4.heap (adr xo (j : Int).toNat) = some (.slice ya X.length yc) := by rw [Int.toNat_natCast]; exact (hx0.grow (hF5.trans hFu04)).get j _ hy
          have hxw4 := hx0.grow (hF5.trans hFu04)
          have hlr4 := hru4.lt
          refine Sl.calm (Cm.assign rfl) rfl ?_
          refine Sl.nil ?_
          refine At.weak [(1, _), (6, _), (7, _), (8, _), (9, _), (12, _), (13, _), (14, _), (15, _), (16, _), (17, _), (83, _), (95, _)] ⟨rfl, rfl, rfl, rfl, rfl, rfl, rfl, rfl, rfl, rfl, rfl, rfl, rfl, trivial⟩ ?_
          refine At.go ?_
          refine Sc.region ?_
          refine Sl.calm (Cm.move rfl) rfl ?_
          refine Sl.calm (Cm.move rfl) rfl ?_
          refine Sl.calm (Cm.move rfl) rfl ?_
          refine Sl.calm (Cm.indexAddr1 sl73 rfl rfl hxw4.non (by omega)) rfl ?_
          refine Sl.calm (Cm.ld sca23 rfl hyc4) rfl ?_
          refine Sl.lit1 (enc := hd) (u := (⟨ya, X.length, yc⟩ : Hd)) sl73 rfl rfl rfl ?_
          intro u5 hol5 hsl5 huf5
          refine Sl.append hd_one sl73 rfl rfl (hoiu4.grow huf5) hol5.vw (by simp only [List.length_singleton]; omega) (by simp only [List.length_singleton]; unfold maxLen; omega) rfl ?_
          intro oi6 ci6 u6 hoi6 huf6 hri6 hni6
          have hzu5 := huf5.size
          have hzu6 := huf6.size
          have hfy : ∀ k, k < w11.heap.size → ¬ blk oi k := fun k hk ⟨a, ha, e⟩ => by have := hfi a ha; omega
          have hru6 := (hru4.grow huf5).keep huf6 (fun a ha ⟨z, hz, e⟩ => by rcases hrr4 a ha with h | h; exact hap a z h hz e.symm; have := hli z hz; omega)
          have hMu6 := (hMu4.grow huf5).keep huf6 (fun k h1 h2 => hfy k (hEb k h1).2.1 h2) (hfy p (by omega))
          have hoou6 := (hoou4.grow huf5).keep huf6 (fun a ha e => hfy _ (by have := hoolt a ha; omega) e)
          have hVu6 := (hVu4.grow huf5).keep huf6 (fun k h1 ⟨a, ha, e⟩ => by rcases h1 with h | h; exact hai k ⟨a, ha, e⟩ h; have := hli a ha; have := h.1; omega) (hfy p (by omega))
          have hFu06 : Foot nob w5 u6 := (hFu04.trans huf5).trans_to huf6 (fun k ⟨a, ha, e⟩ => .inr (by have := hfi a ha; omega))
          obtain ⟨⟨za, zn, zc⟩, hz, hzn, hzv⟩ := hX0.at hjX
          have hzy : (⟨za, zn, zc⟩ : Hd) = ⟨ya, X.length, yc⟩ := Option.some.inj (hz.symm.trans hy)
          cases hzy
          refine Sl.calm (Cm.assign rfl) rfl ?_
          refine Sl.nil ?_
          refine At.block_normal ?_
          refine At.weak [(1, _), (6, _), (7, _), (8, _), (9, _), (12, _), (13, _), (14, _), (15, _), (16, _), (17, _), (83, _), (95, _)] ⟨rfl, rfl, rfl, rfl, rfl, rfl, rfl, rfl, rfl, rfl, rfl, rfl, rfl, trivial⟩ ?_
          refine At.go ?_
          refine Sc.region ?_
          refine Sl.calm (Cm.move rfl) rfl ?_
          refine Sl.calm (Cm.add64 rfl rfl (by omega)) rfl ?_
          refine Sl.calm (Cm.assign rfl) rfl ?_
          refine Sl.nil ?_
          exact At.again ⟨⟨j + 1, Nx A u1 u2, ins ++ [⟨ya, X.length, yc⟩]⟩, ⟨⟨rr4, cr4⟩, ⟨oi6, ci6⟩⟩⟩ ⟨rfl, rfl, rfl, rfl, rfl, rfl, rfl, rfl, rfl, trivial⟩ ⟨by omega, by omega, hVu6, (fun k hk => by rcases hk with h | h; have h1 := hA k h; exact ⟨⟨h1.1.1, by omega⟩, h1.2⟩; have h1 := h.1; have h2 := h.2; exact ⟨⟨by omega, by omega⟩, fun h => by have := (hEb k h).2.1; omega, fun ⟨a, ha, e⟩ => by have := hoolt a ha; omega⟩), hMu6, hoou6, hru6, hoi6, by rw [eK]; exact hXi.snoc rfl (by rw [hX]; exact hzv), (fun a ha => by rcases hrr4 a ha with h | h; exact hfr a h; omega), (fun a ha => by rcases hri6 a ha with h | h; exact hfi a h; omega), (fun k ⟨a, ha, e⟩ hk => by rcases hrr4 a ha with h | h; rcases hk with h2 | h2; exact har k ⟨a, h, e⟩ h2; have := hlr a h; have := h2.1; omega; rcases hk with h2 | h2; have := (hA k h2).1.2; omega; have := h2.2; omega), (fun k ⟨a, ha, e⟩ hk => by rcases hri6 a ha with h | h; rcases hk with h2 | h2; exact hai k ⟨a, h, e⟩ h2; have := hli a h; have := h2.1; omega; rcases hk with h2 | h2; have := (hA k h2).1.2; omega; have := h2.2; omega), (fun a z ha hz e => by rcases hri6 z hz with h | h; rcases hrr4 a ha with h2 | h2; exact hap a z h2 h e; have := hli z h; omega; have := hlr4 a ha; omega), by omega, hFu06⟩ (by show 12 - (j + 1) < 12 - j; omega)
        ·
          have hm : ¬ okX (XS.getD j []) := by rw [← hX]; exact fun h => h95 (putXs_ok0.2 h)
          have eK := keepX_no hjX hm
          have eM := rowX_no hjX hm
          refine Sl.nil ?_
          refine At.weak [(1, _), (6, _), (7, _), (8, _), (9, _), (12, _), (13, _), (14, _), (15, _), (16, _), (17, _), (83, _), (95, _)] ⟨rfl, rfl, rfl, rfl, rfl, rfl, rfl, rfl, rfl, rfl, rfl, rfl, rfl, trivial⟩ ?_
          refine At.go ?_
          refine Sc.cond_f rfl ?_
          refine Sc.skip ?_
          refine At.block_normal ?_
          refine At.go ?_
          refine Sc.region ?_
          refine Sl.calm (Cm.move rfl) rfl ?_
          refine Sl.calm (Cm.add64 rfl rfl (by omega)) rfl ?_
          refine Sl.calm (Cm.assign rfl) rfl ?_
          refine Sl.nil ?_
          exact At.again ⟨⟨j + 1, A, ins⟩, ⟨⟨rr, cr⟩, ⟨oi, ci⟩⟩⟩ ⟨rfl, rfl, rfl, rfl, rfl, rfl, by rw [eM]; rfl, rfl, rfl, trivial⟩ ⟨by omega, by omega, by rw [eM]; exact hVu1, (fun k hk => by have h1 := hA k hk; exact ⟨⟨h1.1.1, by omega⟩, h1.2⟩), hMu1, hoou1, by rw [eM]; exact hru1, hoiu1, by rw [eK]; exact hXi, hfr, hfi, har, hai, hap, by omega, hFu1⟩ (by show 12 - (j + 1) < 12 - j; omega)
      ·
        refine Sl.calm (Cm.pick_t rfl rfl) rfl ?_
        refine Sl.nil ?_
        refine At.weak [(1, _), (6, _), (7, _), (8, _), (9, _), (12, _), (13, _), (14, _), (15, _), (83, _)] ⟨rfl, rfl, rfl, rfl, rfl, rfl, rfl, rfl, rfl, rfl, trivial⟩ ?_
        refine At.go ?_
        refine Sc.cond_f rfl ?_
        refine Sc.exit ?_
        refine At.then_exit ?_
        refine At.then_exit ?_
        refine At.block_hit ?_
        refine At.go ?_
        refine Sc.seq ?_
        refine Sc.region ?_
        refine Sl.calm (Cm.move rfl) rfl ?_
        obtain ⟨K, hK⟩ : ∃ K, K = keepX (XS.take j) := ⟨_, rfl⟩
        obtain ⟨M, hMe⟩ : ∃ M, M = rowX (XS.take j) := ⟨_, rfl⟩
        have hMK : M = K.map encXs := by rw [hMe, hK]; rfl
        have hKm : ∀ q, q < K.length → okX (K.getD q []) := fun q hq => by rw [hK] at hq ⊢; exact keepX_at hq
        have hMb := rowX_b (XS.take j)
        rw [List.length_take] at hMb
        rw [← hMe] at hVu hru hMb
        rw [← hK] at hXi
        obtain ⟨T, hT⟩ : ∃ T, T = M.flatten := ⟨_, rfl⟩
        rw [← hT] at hVu hMb
        have hKl : K.length ≤ 12 := by rw [hK]; have := keepX_le (XS.take j); rw [List.length_take] at this; omega
        have hMl : M.length = K.length := by rw [hMK, List.length_map]
        have hil := hXi.1
        have hFWu := hF5.trans hFu
        refine Sl.call fn41 rfl (mdoneT_ok E g p (encN NL) u hMu (by omega)) rfl ?_
        rintro _ v1 ⟨o18, c18, rfl, ho18, hfr18, hvf1⟩
        obtain ⟨im1, him1⟩ : ∃ im1, im1 = frW (encN NL) (nF (encN NL)) := ⟨_, rfl⟩
        have himl1 := frW_le (encN NL) (nF (encN NL))
        have hnF1 : nF (encN NL) ≤ 10 := by unfold nF; omega
        rw [← him1] at ho18 himl1 ⊢
        refine Sl.calm (Cm.assign rfl) rfl ?_
        refine Sl.nil ?_
        refine At.weak [(1, _), (6, _), (7, _), (8, _), (9, _), (12, _), (13, _), (14, _), (15, _), (18, _), (83, _)] ⟨rfl, rfl, rfl, rfl, rfl, rfl, rfl, rfl, rfl, rfl, rfl, trivial⟩ ?_
        refine At.go ?_
        refine Sc.seq ?_
        refine Sc.region ?_
        refine Sl.calm (Cm.move rfl) rfl ?_
        refine Sl.call fn41 rfl (mdoneT_ok A g2 p T v1 (hVu.grow hvf1) (by omega)) rfl ?_
        rintro _ v2 ⟨o19, c19, rfl, ho19, hfr19, hvf2⟩
        obtain ⟨im2, him2⟩ : ∃ im2, im2 = frW T (nF T) := ⟨_, rfl⟩
        have himl2 := frW_le T (nF T)
        have hnF2 : nF T ≤ 1000 := by unfold nF; omega
        rw [← him2] at ho19 himl2 ⊢
        have hFu2 := (hFu.trans hvf1).trans hvf2
        have hvz1 := hvf1.size
        have hvz2 := hvf2.size
        have hvf02 := hvf1.trans hvf2
        have hoo2 := hoou.grow hvf02
        have hru2 := hru.grow hvf02
        have hoi2 := hoiu.grow hvf02
        refine Sl.calm (Cm.assign rfl) rfl ?_
        refine Sl.nil ?_
        refine At.weak [(1, _), (6, _), (7, _), (8, _), (9, _), (12, _), (13, _), (14, _), (15, _), (18, _), (19, _), (83, _)] ⟨rfl, rfl, rfl, rfl, rfl, rfl, rfl, rfl, rfl, rfl, rfl, rfl, trivial⟩ ?_
        refine At.go ?_
        refine Sc.seq ?_
        refine Sc.region ?_
        refine Sl.calm (Cm.move rfl) rfl ?_
        refine Sl.calm (Cm.move rfl) rfl ?_
        refine Sl.calm (Cm.len sl25 rfl) rfl ?_
        refine Sl.call fn28 rfl (mopenA_ok p o18 c18 im1 0 im1.length v2 (hFu2.obj ht5 id) (ho18.grow hvf2).vw (by omega)) rfl ?_
        rintro _ v3 ⟨h1, rfl, hh1, hR1, hvf3⟩
        have hvz3 := hvf3.size
        refine Sl.calm (Cm.assign rfl) rfl ?_
        refine Sl.nil ?_
        refine At.weak [(1, _), (6, _), (7, _), (8, _), (9, _), (12, _), (13, _), (14, _), (15, _), (18, _), (19, _), (20, _), (83, _)] ⟨rfl, rfl, rfl, rfl, rfl, rfl, rfl, rfl, rfl, rfl, rfl, rfl, rfl, trivial⟩ ?_
        refine At.go ?_
        refine Sc.seq ?_
        refine Sc.region ?_
        refine Sl.calm (Cm.move rfl) rfl ?_
        refine Sl.calm (Cm.move rfl) rfl ?_
        refine Sl.calm (Cm.len sl25 rfl) rfl ?_
        refine Sl.call fn28 rfl (mopenA_ok p o19 c19 im2 0 im2.length v3 ((hFu2.trans hvf3).obj ht5 id) (ho19.grow hvf3).vw (by omega)) rfl ?_
        rintro _ v4 ⟨h2, rfl, hh2, hR2, hvf4⟩
        have hvz4 := hvf4.size
        have hR14 := hR1.grow hvf4
        have htn := tn_same h16
        have htm := tn_more h16
        rw [← him1] at htn htm
        have hz5u := hFu2.size
        refine Sl.calm (Cm.assign rfl) rfl ?_
        refine Sl.nil ?_
        refine At.weak [(1, _), (6, _), (7, _), (8, _), (9, _), (12, _), (13, _), (14, _), (15, _), (18, _), (19, _), (20, _), (21, _), (83, _)] ⟨rfl, rfl, rfl, rfl, rfl, rfl, rfl, rfl, rfl, rfl, rfl, rfl, rfl, rfl, trivial⟩ ?_
        refine At.go ?_
        refine Sc.seq ?_
        refine Sc.seq ?_
        refine Sc.region ?_
        refine Sl.calm (Cm.move rfl) rfl ?_
        refine Sl.calm (Cm.no (Cm.neq rfl rfl) (fun h => h rfl)) rfl ?_
        refine Sl.calm (Cm.move rfl) rfl ?_
        refine Sl.want rfl rfl (Cm.move rfl) rfl ?_
        refine Sl.want rfl rfl (Cm.eqlPtrNil ptr44 rfl rfl) rfl ?_
        refine Sl.calm (Cm.pick_f rfl rfl) rfl ?_
        refine Sl.calm (Cm.move rfl) rfl ?_
        refine Sl.want rfl rfl (Cm.move rfl) rfl ?_
        refine Sl.want rfl rfl (Cm.eqlPtrNil ptr44 rfl rfl) rfl ?_
        refine Sl.calm (Cm.pick_f rfl rfl) rfl ?_
        refine Sl.nil ?_
        refine At.weak [(1, _), (6, _), (7, _), (8, _), (9, _), (12, _), (13, _), (14, _), (15, _), (18, _), (19, _), (20, _), (21, _), (83, _), (130, _)] ⟨rfl, rfl, rfl, rfl, rfl, rfl, rfl, rfl, rfl, rfl, rfl, rfl, rfl, rfl, rfl, trivial⟩ ?_
        refine At.go ?_
        refine Sc.cond_f rfl ?_
        refine Sc.skip ?_
        refine At.go ?_
        refine Sc.seq ?_
        refine Sc.region ?_
        refine Sl.calm (Cm.move rfl) rfl ?_
        refine Sl.calm (Cm.move rfl) rfl ?_
        refine Sl.calm (Cm.len sl22 rfl) rfl ?_
        refine Sl.call fn29 rfl (tnums_ok (fun k => v2.heap.size ≤ k ∧ k < v3.heap.size) h1 p im1 0 im1.length NL.length 2 v4 hR14 (fun k hk => by have := hk.2; omega) (by omega) (by omega)) rfl ?_
        rw [htn]
        rintro _ v5 ⟨o22, c22, rfl, ho22, hfr22, hR15, hvF5⟩
        have hvz5 := hvF5.size
        have hR25 := hR2.keep hvF5 (fun k k1 k2 => by have := k1.1; have := k2.2; omega) (fun k2 => by have := k2.1; omega)
        have hF25 : Foot nob v2 v5 := (hvf3.trans hvf4).trans_to hvF5 (fun k hk => .inr hk.1)
        have hl22 := ho22.lt
        have hB1 : ∀ k, (Nx (fun k => v2.heap.size ≤ k ∧ k < v3.heap.size) v4 v5 k ∧ ¬ blk o22 k) → v2.heap.size ≤ k ∧ k < v5.heap.size ∧ ¬ (v3.heap.size ≤ k ∧ k < v4.heap.size) ∧ ¬ blk o22 k := fun k hk => by rcases hk.1 with h | h; have k1 := h.1; have k2 := h.2; exact ⟨by omega, by omega, by omega, hk.2⟩; have k1 := h.1; have k2 := h.2; exact ⟨by omega, by omega, by omega, hk.2⟩
        refine Sl.calm (Cm.move rfl) rfl ?_
        refine Sl.calm (Cm.extract rfl rfl) rfl ?_
        refine Sl.calm (Cm.extract rfl rfl) rfl ?_
        refine Sl.calm (Cm.assign rfl) rfl ?_
        refine Sl.calm (Cm.assign rfl) rfl ?_
        refine Sl.nil ?_
        refine At.weak [(1, _), (6, _), (7, _), (8, _), (9, _), (12, _), (13, _), (14, _), (15, _), (18, _), (19, _), (20, _), (21, _), (22, _), (23, _), (83, _), (130, _)] ⟨rfl, rfl, rfl, rfl, rfl, rfl, rfl, rfl, rfl, rfl, rfl, rfl, rfl, rfl, rfl, rfl, rfl, trivial⟩ ?_
        refine At.go ?_
        refine Sc.seq ?_
        refine Sc.region ?_
        refine Sl.calm (Cm.move rfl) rfl ?_
        refine Sl.calm (Cm.move rfl) rfl ?_
        refine Sl.calm (Cm.len sl22 rfl) rfl ?_
        refine Sl.calm (Cm.add64 rfl rfl (by omega)) rfl ?_
        refine Sl.call fn29 rfl (tnums_ok _ h1 p im1 0 im1.length (NL.length + 1) 2 v5 hR15 (fun k hk => (hB1 k hk).2.1) (by omega) (by omega)) rfl ?_
        rw [htm]
        rintro _ v6 ⟨o24, c24, rfl, ho24, hfr24, hR16, hvF6⟩
        have hvz6 := hvF6.size
        have hR26 := hR25.keep hvF6 (fun k k1 k2 => (hB1 k k2).2.2.1 k1) (fun k2 => by have := (hB1 p k2).1; omega)
        have hF26 : Foot nob v2 v6 := hF25.trans_to hvF6 (fun k hk => .inr (hB1 k hk).1)
        have ho22b := ho22.keep hvF6 (fun a ha e => (hB1 _ e).2.2.2 ⟨a, ha, rfl⟩)
        have hB2 : ∀ k, (Nx (fun k => Nx (fun k => v2.heap.size ≤ k ∧ k < v3.heap.size) v4 v5 k ∧ ¬ blk o22 k) v5 v6 k ∧ ¬ blk o24 k) → v2.heap.size ≤ k ∧ k < v6.heap.size ∧ ¬ (v3.heap.size ≤ k ∧ k < v4.heap.size) ∧ ¬ blk o22 k := fun k hk => by rcases hk.1 with h | h; have k1 := hB1 k h; exact ⟨k1.1, by omega, k1.2.2.1, k1.2.2.2⟩; have k1 := h.1; have k2 := h.2; exact ⟨by omega, by omega, by omega, fun ⟨a, ha, e⟩ => by have := hl22 a ha; omega⟩
        refine Sl.calm (Cm.move rfl) rfl ?_
        refine Sl.calm (Cm.extract rfl rfl) rfl ?_
        refine Sl.calm (Cm.extract rfl rfl) rfl ?_
        refine Sl.calm (Cm.assign rfl) rfl ?_
        refine Sl.calm (Cm.assign rfl) rfl ?_
        refine Sl.nil ?_
        refine At.weak [(1, _), (6, _), (7, _), (8, _), (9, _), (12, _), (13, _), (14, _), (15, _), (18, _), (19, _), (20, _), (21, _), (22, _), (23, _), (25, _), (83, _), (130, _)] ⟨rfl, rfl, rfl, rfl, rfl, rfl, rfl, rfl, rfl, rfl, rfl, rfl, rfl, rfl, rfl, rfl, rfl, rfl, trivial⟩ ?_
        refine At.go ?_
        refine Sc.seq ?_
        refine Sc.region ?_
        refine Sl.calm (Cm.move rfl) rfl ?_
        refine Sl.calm (Cm.move rfl) rfl ?_
        refine Sl.calm (Cm.len sl22 rfl) rfl ?_
        refine Sl.calm (Cm.sub64 rfl rfl (by omega)) rfl ?_
        refine Sl.call fn29 rfl (tnums_ok _ h1 p im1 0 im1.length (NL.length - 1) 2 v6 hR16 (fun k hk => (hB2 k hk).2.1) (by omega) (by omega)) rfl ?_
        rintro _ v7 ⟨o26, c26, rfl, ho26, hfr26, hR17, hvF7⟩
        have hvz7 := hvF7.size
        have hR27 := hR26.keep hvF7 (fun k k1 k2 => (hB2 k k2).2.2.1 k1) (fun k2 => by have := (hB2 p k2).1; omega)
        have hF27 : Foot nob v2 v7 := hF26.trans_to hvF7 (fun k hk => .inr (hB2 k hk).1)
        have ho22c := ho22b.keep hvF7 (fun a ha e => (hB2 _ e).2.2.2 ⟨a, ha, rfl⟩)
        refine Sl.calm (Cm.move rfl) rfl ?_
        refine Sl.calm (Cm.extract rfl rfl) rfl ?_
        refine Sl.calm (Cm.extract rfl rfl) rfl ?_
        refine Sl.calm (Cm.assign rfl) rfl ?_
        refine Sl.calm (Cm.assign rfl) rfl ?_
        refine Sl.nil ?_
        refine At.weak [(1, _), (6, _), (7, _), (8, _), (9, _), (12, _), (13, _), (14, _), (15, _), (18, _), (19, _), (20, _), (21, _), (22, _), (23, _), (25, _), (27, _), (83, _), (130, _)] ⟨rfl, rfl, rfl, rfl, rfl, rfl, rfl, rfl, rfl, rfl, rfl, rfl, rfl, rfl, rfl, rfl, rfl, rfl, rfl, trivial⟩ ?_
        refine At.go ?_
        refine Sc.seq ?_
        refine Sc.region ?_
        refine Sl.calm (Cm.move rfl) rfl ?_
        refine Sl.calm (Cm.move rfl) rfl ?_
        refine Sl.call fn33 rfl (same11_ok NL o22 oo c22 oc v7 ho22c.vw (hoo2.grow hF27).vw) rfl ?_
        rintro _ v8 ⟨rfl, hvf8⟩
        have hF28 := hF27.trans hvf8
        have hR28 := hR27.grow hvf8
        have hvz8 := hvf8.size
        refine Sl.calm (Cm.assign rfl) rfl ?_
        refine Sl.nil ?_
        refine At.weak [(1, _), (6, _), (7, _), (8, _), (9, _), (12, _), (13, _), (14, _), (15, _), (18, _), (19, _), (20, _), (21, _), (22, _), (23, _), (25, _), (27, _), (28, _), (83, _), (130, _)] ⟨rfl, rfl, rfl, rfl, rfl, rfl, rfl, rfl, rfl, rfl, rfl, rfl, rfl, rfl, rfl, rfl, rfl, rfl, rfl, rfl, trivial⟩ ?_
        refine At.go ?_
        refine Sc.seq ?_
        refine Sc.seq ?_
        refine Sc.region ?_
        refine Sl.calm (Cm.move rfl) rfl ?_
        refine Sl.calm (Cm.not rfl) rfl ?_
        refine Sl.calm (Cm.move rfl) rfl ?_
        refine Sl.want rfl rfl (Cm.move rfl) rfl ?_
        refine Sl.want rfl rfl (Cm.no (Cm.neq rfl rfl) (fun h => h rfl)) rfl ?_
        refine Sl.calm (Cm.pick_f rfl rfl) rfl ?_
        refine Sl.calm (Cm.move rfl) rfl ?_
        refine Sl.want rfl rfl (Cm.move rfl) rfl ?_
        refine Sl.want rfl rfl (Cm.no (Cm.neq rfl rfl) (fun h => h rfl)) rfl ?_
        refine Sl.calm (Cm.pick_f rfl rfl) rfl ?_
        refine Sl.calm (Cm.move rfl) rfl ?_
        refine Sl.want rfl rfl (Cm.move rfl) rfl ?_
        refine Sl.want rfl rfl (Cm.len sl22 rfl) rfl ?_
        refine Sl.forkWant rfl rfl (Cm.gtr rfl rfl) rfl (fun h170 => ?_) (fun h170 => ?_)
        ·
          refine Sl.want rfl rfl (Cm.move rfl) rfl ?_
          refine Sl.want rfl rfl (Cm.move rfl) rfl ?_
          refine Sl.want rfl rfl (Cm.no (Cm.neq rfl rfl) (by rw [him1, tn_less h16 (by omega)]; exact fun h => h rfl)) rfl ?_
          refine Sl.want rfl rfl (Cm.pick_t rfl rfl) rfl ?_
          refine Sl.calm (Cm.pick_f rfl rfl) rfl ?_
          refine Sl.nil ?_
          refine At.weak [(1, _), (6, _), (7, _), (8, _), (9, _), (12, _), (13, _), (14, _), (15, _), (18, _), (19, _), (20, _), (21, _), (22, _), (23, _), (25, _), (27, _), (28, _), (83, _), (130, _), (175, _)] ⟨rfl, rfl, rfl, rfl, rfl, rfl, rfl, rfl, rfl, rfl, rfl, rfl, rfl, rfl, rfl, rfl, rfl, rfl, rfl, rfl, rfl, trivial⟩ ?_
          refine At.go ?_
          refine Sc.cond_f rfl ?_
          refine Sc.skip ?_
          refine At.go ?_
          refine Sc.seq ?_
          refine Sc.seq ?_
          refine Sc.region ?_
          refine Sl.calm (Cm.assign rfl) rfl ?_
          refine Sl.nil ?_
          refine At.go ?_
          refine Sc.block ?_
          refine Sc.loop (β := Nat × (Nat → Prop)) (fun ⟨q, C⟩ => [(13, .slice rr (refsA M).length cr), (14, .slice oi ins.length ci), (21, .pointer (some ⟨h2, 0, none⟩)), (29, .int .i64 q)]) (fun ⟨q, C⟩ z => q ≤ K.length ∧ MrO C z.heap h2 p im2 0 im2.length ∧ (∀ k, C k → v2.heap.size ≤ k ∧ k < z.heap.size) ∧ Foot nob v2 z) (fun ⟨q, C⟩ => K.length - q) ⟨0, fun k => v3.heap.size ≤ k ∧ k < v4.heap.size⟩ ⟨(by rw [hMe]; rfl), rfl, rfl, rfl, trivial⟩ ⟨Nat.zero_le _, hR28, (fun k hk => ⟨by have := hk.1; omega, by have := hk.2; omega⟩), hF28⟩ ?_
          rintro ⟨q, C⟩ z ⟨hq, hRz, hC, hFz⟩
          have hzz := hFz.size
          refine Sc.seq ?_
          refine Sc.seq ?_
          refine Sc.region ?_
          refine Sl.calm (Cm.move rfl) rfl ?_
          refine Sl.calm (Cm.move rfl) rfl ?_
          refine Sl.calm (Cm.len sl73 rfl) rfl ?_
          refine Sl.fork (Cm.lss rfl rfl) rfl (fun h179 => ?_) (fun h179 => ?_)
          ·
            have hqK : q < K.length := by omega
            obtain ⟨X, hXe⟩ : ∃ X, X = K.getD q [] := ⟨_, rfl⟩
            have hok := hKm q hqK
            rw [← hXe] at hok
            have hqM : q < M.length := by omega
            have hMq : M.getD q [] = encXs X := by rw [hMK, hXe]; simp [List.getD, hqK]
            have hdr := drop_in (M := M) [] hqM
            rw [List.append_nil, ← hT, hMq] at hdr
            have hxs := xs_at hok.1 hok.2 hdr
            rw [← him2] at hxs
            have hrr := refT_in (M := M) [] q
            rw [List.append_nil, ← hT] at hrr
            have hruw := hru2.grow hFz
            have hrc : cellH z.heap (adr rr q) = some (.int .i64 (refT T (M.take q).flatten.length : Nat)) := by have := hruw.vw.gd 0 (i := q) (by rw [refsA_len]; omega); rwa [refsA_at hqM, hrr] at this
            have hoff : (M.take q).flatten.length ≤ T.length := by rw [hT]; exact flat_le M q
            have hrb := refT_b (T := T) (o := (M.take q).flatten.length) (by omega)
            refine Sl.nil ?_
            refine At.weak [(13, _), (14, _), (21, _), (29, _), (179, _)] ⟨rfl, rfl, rfl, rfl, rfl, trivial⟩ ?_
            refine At.go ?_
            refine Sc.cond_t rfl ?_
            refine Sc.skip ?_
            refine At.go ?_
            refine Sc.seq ?_
            refine Sc.block ?_
            refine Sc.seq ?_
            refine Sc.region ?_
            refine Sl.calm (Cm.move rfl) rfl ?_
            refine Sl.calm (Cm.move rfl) rfl ?_
            refine Sl.calm (Cm.move rfl) rfl ?_
            refine Sl.calm (Cm.indexAddr1 sl22 rfl rfl hruw.vw.non (by rw [refsA_len]; omega)) rfl ?_
            refine Sl.calm (Cm.ld sca3 rfl (by rw [Int.toNat_natCast]; exact hrc)) rfl ?_
            refine Sl.call fn31 rfl (txattrs_ok C h2 p im2 0 im2.length (refT T (M.take q).flatten.length : Nat) z hRz (fun k hk => (hC k hk).2) (by omega) ⟨by omega, by omega⟩) rfl ?_
            rw [hxs]
            rintro _ z1 ⟨o30, c30, rfl, hx30, hRz1, hFz1⟩
            have hzz1 := hFz1.size
            have hF2z1 : Foot nob v2 z1 := hFz.trans_to hFz1 (fun k hk => .inr (by have := (hC k hk).1; omega))
            have hoiz := hoi2.grow hF2z1
            have hXz := hXi.grow ((hFWu.trans hvf02).trans hF2z1)
            obtain ⟨⟨ea, en, ec⟩, hen, hel3, hev⟩ := hXz.at hqK
            rw [← hXe] at hel3 hev
            obtain rfl : en = X.length := hel3
            have hec : cellH z1.heap (adr oi (q : Int).toNat) = some (.slice ea X.length ec) := by rw [Int.toNat_natCast]; exact hoiz.vw.get q _ hen
            refine Sl.calm (Cm.move rfl) rfl ?_
            refine Sl.calm (Cm.extract rfl rfl) rfl ?_
            refine Sl.calm (Cm.extract rfl rfl) rfl ?_
            refine Sl.calm (Cm.assign rfl) rfl ?_
            refine Sl.calm (Cm.assign rfl) rfl ?_
            refine Sl.nil ?_
            refine At.weak [(13, _), (14, _), (21, _), (29, _), (30, _), (31, _), (179, _)] ⟨rfl, rfl, rfl, rfl, rfl, rfl, rfl, trivial⟩ ?_
            refine At.go ?_
            refine Sc.seq ?_
            refine Sc.region ?_
            refine Sl.calm (Cm.move rfl) rfl ?_
            refine Sl.calm (Cm.move rfl) rfl ?_
            refine Sl.calm (Cm.move rfl) rfl ?_
            refine Sl.calm (Cm.indexAddr1 sl73 rfl rfl hoiz.vw.non (by omega)) rfl ?_
            refine Sl.calm (Cm.ld sca23 rfl hec) rfl ?_
            refine Sl.call fn34 rfl (sameX_ok X o30 ea c30 ec z1 hx30 hev) rfl ?_
            rintro _ z2 ⟨rfl, hzf2⟩
            have hzz2 := hzf2.size
            refine Sl.calm (Cm.assign rfl) rfl ?_
            refine Sl.nil ?_
            refine At.weak [(13, _), (14, _), (21, _), (29, _), (30, _), (31, _), (32, _), (179, _)] ⟨rfl, rfl, rfl, rfl, rfl, rfl, rfl, rfl, trivial⟩ ?_
            refine At.go ?_
            refine Sc.seq ?_
            refine Sc.region ?_
            refine Sl.calm (Cm.move rfl) rfl ?_
            refine Sl.calm (Cm.not rfl) rfl ?_
            refine Sl.calm (Cm.move rfl) rfl ?_
            refine Sl.want rfl rfl (Cm.move rfl) rfl ?_
            refine Sl.want rfl rfl (Cm.no (Cm.neq rfl rfl) (fun h => h rfl)) rfl ?_
            refine Sl.calm (Cm.pick_f rfl rfl) rfl ?_
            refine Sl.nil ?_
            refine At.weak [(13, _), (14, _), (21, _), (29, _), (30, _), (31, _), (32, _), (179, _), (202, _)] ⟨rfl, rfl, rfl, rfl, rfl, rfl, rfl, rfl, rfl, trivial⟩ ?_
            refine At.go ?_
            refine Sc.cond_f rfl ?_
            refine Sc.skip ?_
            refine At.block_normal ?_
            refine At.go ?_
            refine Sc.region ?_
            refine Sl.calm (Cm.move rfl) rfl ?_
            refine Sl.calm (Cm.add64 rfl rfl (by omega)) rfl ?_
            refine Sl.calm (Cm.assign rfl) rfl ?_
            refine Sl.nil ?_
            exact At.again ⟨q + 1, Nx C z z1⟩ ⟨rfl, rfl, rfl, rfl, trivial⟩ ⟨by omega, hRz1.grow hzf2, (fun k hk => by rcases hk with h | h; have h1 := hC k h; exact ⟨h1.1, by omega⟩; have h1 := h.1; have h2 := h.2; exact ⟨by omega, by omega⟩), hF2z1.trans hzf2⟩ (by show K.length - (q + 1) < K.length - q; omega)
          ·
            refine Sl.nil ?_
            refine At.weak [(13, _), (14, _), (21, _), (29, _), (179, _)] ⟨rfl, rfl, rfl, rfl, rfl, trivial⟩ ?_
            refine At.go ?_
            refine Sc.cond_f rfl ?_
            refine Sc.exit ?_
            refine At.then_exit ?_
            refine At.then_exit ?_
            refine At.block_hit ?_
            refine At.go ?_
            refine Sc.seq ?_
            refine Sc.region ?_
            refine Sl.calm (Cm.assign rfl) rfl ?_
            refine Sl.nil ?_
            refine At.go ?_
            refine Sc.ret ?_
            refine At.ret1 rfl rfl ?_
            exact ⟨_, rfl, rfl, ((hF5.trans hFu).trans hvf02).trans hFz⟩
        ·
          refine Sl.want rfl rfl (Cm.move rfl) rfl ?_
          refine Sl.skip rfl rfl rfl rfl ?_
          refine Sl.skip rfl rfl rfl rfl ?_
          refine Sl.want rfl rfl (Cm.pick_f rfl rfl) rfl ?_
          refine Sl.calm (Cm.pick_f rfl rfl) rfl ?_
          refine Sl.nil ?_
          refine At.weak [(1, _), (6, _), (7, _), (8, _), (9, _), (12, _), (13, _), (14, _), (15, _), (18, _), (19, _), (20, _), (21, _), (22, _), (23, _), (25, _), (27, _), (28, _), (83, _), (130, _), (175, _)] ⟨rfl, rfl, rfl, rfl, rfl, rfl, rfl, rfl, rfl, rfl, rfl, rfl, rfl, rfl, rfl, rfl, rfl, rfl, rfl, rfl, rfl, trivial⟩ ?_
          refine At.go ?_
          refine Sc.cond_f rfl ?_
          refine Sc.skip ?_
          refine At.go ?_
          refine Sc.seq ?_
          refine Sc.seq ?_
          refine Sc.region ?_
          refine Sl.calm (Cm.assign rfl) rfl ?_
          refine Sl.nil ?_
          refine At.go ?_
          refine Sc.block ?_
          refine Sc.loop (β := Nat × (Nat → Prop)) (fun ⟨q, C⟩ => [(13, .slice rr (refsA M).length cr), (14, .slice oi ins.length ci), (21, .pointer (some ⟨h2, 0, none⟩)), (29, .int .i64 q)]) (fun ⟨q, C⟩ z => q ≤ K.length ∧ MrO C z.heap h2 p im2 0 im2.length ∧ (∀ k, C k → v2.heap.size ≤ k ∧ k < z.heap.size) ∧ Foot nob v2 z) (fun ⟨q, C⟩ => K.length - q) ⟨0, fun k => v3.heap.size ≤ k ∧ k < v4.heap.size⟩ ⟨(by rw [hMe]; rfl), rfl, rfl, rfl, trivial⟩ ⟨Nat.zero_le _, hR28, (fun k hk => ⟨by have := hk.1; omega, by have := hk.2; omega⟩), hF28⟩ ?_
          rintro ⟨q, C⟩ z ⟨hq, hRz, hC, hFz⟩
          have hzz := hFz.size
          refine Sc.seq ?_
          refine Sc.seq ?_
          refine Sc.region ?_
          refine Sl.calm (Cm.move rfl) rfl ?_
          refine Sl.calm (Cm.move rfl) rfl ?_
          refine Sl.calm (Cm.len sl73 rfl) rfl ?_
          refine Sl.fork (Cm.lss rfl rfl) rfl (fun h179 => ?_) (fun h179 => ?_)
          ·
            have hqK : q < K.length := by omega
            obtain ⟨X, hXe⟩ : ∃ X, X = K.getD q [] := ⟨_, rfl⟩
            have hok := hKm q hqK
            rw [← hXe] at hok
            have hqM : q < M.length := by omega
            have hMq : M.getD q [] = encXs X := by rw [hMK, hXe]; simp [List.getD, hqK]
            have hdr := drop_in (M := M) [] hqM
            rw [List.append_nil, ← hT, hMq] at hdr
            have hxs := xs_at hok.1 hok.2 hdr
            rw [← him2] at hxs
            have hrr := refT_in (M := M) [] q
            rw [List.append_nil, ← hT] at hrr
            have hruw := hru2.grow hFz
            have hrc : cellH z.heap (adr rr q) = some (.int .i64 (refT T (M.take q).flatten.length : Nat)) := by have := hruw.vw.gd 0 (i := q) (by rw [refsA_len]; omega); rwa [refsA_at hqM, hrr] at this
            have hoff : (M.take q).flatten.length ≤ T.length := by rw [hT]; exact flat_le M q
            have hrb := refT_b (T := T) (o := (M.take q).flatten.length) (by omega)
            refine Sl.nil ?_
            refine At.weak [(13, _), (14, _), (21, _), (29, _), (179, _)] ⟨rfl, rfl, rfl, rfl, rfl, trivial⟩ ?_
            refine At.go ?_
            refine Sc.cond_t rfl ?_
            refine Sc.skip ?_
            refine At.go ?_
            refine Sc.seq ?_
            refine Sc.block ?_
            refine Sc.seq ?_
            refine Sc.region ?_
            refine Sl.calm (Cm.move rfl) rfl ?_
            refine Sl.calm (Cm.move rfl) rfl ?_
            refine Sl.calm (Cm.move rfl) rfl ?_
            refine Sl.calm (Cm.indexAddr1 sl22 rfl rfl hruw.vw.non (by rw [refsA_len]; omega)) rfl ?_
            refine Sl.calm (Cm.ld sca3 rfl (by rw [Int.toNat_natCast]; exact hrc)) rfl ?_
            refine Sl.call fn31 rfl (txattrs_ok C h2 p im2 0 im2.length (refT T (M.take q).flatten.length : Nat) z hRz (fun k hk => (hC k hk).2) (by omega) ⟨by omega, by omega⟩) rfl ?_
            rw [hxs]
            rintro _ z1 ⟨o30, c30, rfl, hx30, hRz1, hFz1⟩
            have hzz1 := hFz1.size
            have hF2z1 : Foot nob v2 z1 := hFz.trans_to hFz1 (fun k hk => .inr (by have := (hC k hk).1; omega))
            have hoiz := hoi2.grow hF2z1
            have hXz := hXi.grow ((hFWu.trans hvf02).trans hF2z1)
            obtain ⟨⟨ea, en, ec⟩, hen, hel3, hev⟩ := hXz.at hqK
            rw [← hXe] at hel3 hev
            obtain rfl : en = X.length := hel3
            have hec : cellH z1.heap (adr oi (q : Int).toNat) = some (.slice ea X.length ec) := by rw [Int.toNat_natCast]; exact hoiz.vw.get q _ hen
            refine Sl.calm (Cm.move rfl) rfl ?_
            refine Sl.calm (Cm.extract rfl rfl) rfl ?_
            refine Sl.calm (Cm.extract rfl rfl) rfl ?_
            refine Sl.calm (Cm.assign rfl) rfl ?_
            refine Sl.calm (Cm.assign rfl) rfl ?_
            refine Sl.nil ?_
            refine At.weak [(13, _), (14, _), (21, _), (29, _), (30, _), (31, _), (179, _)] ⟨rfl, rfl, rfl, rfl, rfl, rfl, rfl, trivial⟩ ?_
            refine At.go ?_
            refine Sc.seq ?_
            refine Sc.region ?_
            refine Sl.calm (Cm.move rfl) rfl ?_
            refine Sl.calm (Cm.move rfl) rfl ?_
            refine Sl.calm (Cm.move rfl) rfl ?_
            refine Sl.calm (Cm.indexAddr1 sl73 rfl rfl hoiz.vw.non (by omega)) rfl ?_
            refine Sl.calm (Cm.ld sca23 rfl hec) rfl ?_
            refine Sl.call fn34 rfl (sameX_ok X o30 ea c30 ec z1 hx30 hev) rfl ?_
            rintro _ z2 ⟨rfl, hzf2⟩
            have hzz2 := hzf2.size
            refine Sl.calm (Cm.assign rfl) rfl ?_
            refine Sl.nil ?_
            refine At.weak [(13, _), (14, _), (21, _), (29, _), (30, _), (31, _), (32, _), (179, _)] ⟨rfl, rfl, rfl, rfl, rfl, rfl, rfl, rfl, trivial⟩ ?_
            refine At.go ?_
            refine Sc.seq ?_
            refine Sc.region ?_
            refine Sl.calm (Cm.move rfl) rfl ?_
            refine Sl.calm (Cm.not rfl) rfl ?_
            refine Sl.calm (Cm.move rfl) rfl ?_
            refine Sl.want rfl rfl (Cm.move rfl) rfl ?_
            refine Sl.want rfl rfl (Cm.no (Cm.neq rfl rfl) (fun h => h rfl)) rfl ?_
            refine Sl.calm (Cm.pick_f rfl rfl) rfl ?_
            refine Sl.nil ?_
            refine At.weak [(13, _), (14, _), (21, _), (29, _), (30, _), (31, _), (32, _), (179, _), (202, _)] ⟨rfl, rfl, rfl, rfl, rfl, rfl, rfl, rfl, rfl, trivial⟩ ?_
            refine At.go ?_
            refine Sc.cond_f rfl ?_
            refine Sc.skip ?_
            refine At.block_normal ?_
            refine At.go ?_
            refine Sc.region ?_
            refine Sl.calm (Cm.move rfl) rfl ?_
            refine Sl.calm (Cm.add64 rfl rfl (by omega)) rfl ?_
            refine Sl.calm (Cm.assign rfl) rfl ?_
            refine Sl.nil ?_
            exact At.again ⟨q + 1, Nx C z z1⟩ ⟨rfl, rfl, rfl, rfl, trivial⟩ ⟨by omega, hRz1.grow hzf2, (fun k hk => by rcases hk with h | h; have h1 := hC k h; exact ⟨h1.1, by omega⟩; have h1 := h.1; have h2 := h.2; exact ⟨by omega, by omega⟩), hF2z1.trans hzf2⟩ (by show K.length - (q + 1) < K.length - q; omega)
          ·
            refine Sl.nil ?_
            refine At.weak [(13, _), (14, _), (21, _), (29, _), (179, _)] ⟨rfl, rfl, rfl, rfl, rfl, trivial⟩ ?_
            refine At.go ?_
            refine Sc.cond_f rfl ?_
            refine Sc.exit ?_
            refine At.then_exit ?_
            refine At.then_exit ?_
            refine At.block_hit ?_
            refine At.go ?_
            refine Sc.seq ?_
            refine Sc.region ?_
            refine Sl.calm (Cm.assign rfl) rfl ?_
            refine Sl.nil ?_
            refine At.go ?_
            refine Sc.ret ?_
            refine At.ret1 rfl rfl ?_
            exact ⟨_, rfl, rfl, ((hF5.trans hFu).trans hvf02).trans hFz⟩
    ·
      refine Sl.calm (Cm.move rfl) rfl ?_
      refine Sl.skip rfl rfl rfl rfl ?_
      refine Sl.skip rfl rfl rfl rfl ?_
      refine Sl.calm (Cm.pick_f rfl rfl) rfl ?_
      refine Sl.nil ?_
      refine At.weak [(1, _), (6, _), (7, _), (8, _), (9, _), (12, _), (13, _), (14, _), (15, _), (83, _)] ⟨rfl, rfl, rfl, rfl, rfl, rfl, rfl, rfl, rfl, rfl, trivial⟩ ?_
      refine At.go ?_
      refine Sc.cond_f rfl ?_
      refine Sc.exit ?_
      refine At.then_exit ?_
      refine At.then_exit ?_
      refine At.block_hit ?_
      refine At.go ?_
      refine Sc.seq ?_
      refine Sc.region ?_
      refine Sl.calm (Cm.move rfl) rfl ?_
      obtain ⟨K, hK⟩ : ∃ K, K = keepX (XS.take j) := ⟨_, rfl⟩
      obtain ⟨M, hMe⟩ : ∃ M, M = rowX (XS.take j) := ⟨_, rfl⟩
      have hMK : M = K.map encXs := by rw [hMe, hK]; rfl
      have hKm : ∀ q, q < K.length → okX (K.getD q []) := fun q hq => by rw [hK] at hq ⊢; exact keepX_at hq
      have hMb := rowX_b (XS.take j)
      rw [List.length_take] at hMb
      rw [← hMe] at hVu hru hMb
      rw [← hK] at hXi
      obtain ⟨T, hT⟩ : ∃ T, T = M.flatten := ⟨_, rfl⟩
      rw [← hT] at hVu hMb
      have hKl : K.length ≤ 12 := by rw [hK]; have := keepX_le (XS.take j); rw [List.length_take] at this; omega
      have hMl : M.length = K.length := by rw [hMK, List.length_map]
      have hil := hXi.1
      have hFWu := hF5.trans hFu
      refine Sl.call fn41 rfl (mdoneT_ok E g p (encN NL) u hMu (by omega)) rfl ?_
      rintro _ v1 ⟨o18, c18, rfl, ho18, hfr18, hvf1⟩
      obtain ⟨im1, him1⟩ : ∃ im1, im1 = frW (encN NL) (nF (encN NL)) := ⟨_, rfl⟩
      have himl1 := frW_le (encN NL) (nF (encN NL))
      have hnF1 : nF (encN NL) ≤ 10 := by unfold nF; omega
      rw [← him1] at ho18 himl1 ⊢
      refine Sl.calm (Cm.assign rfl) rfl ?_
      refine Sl.nil ?_
      refine At.weak [(1, _), (6, _), (7, _), (8, _), (9, _), (12, _), (13, _), (14, _), (15, _), (18, _), (83, _)] ⟨rfl, rfl, rfl, rfl, rfl, rfl, rfl, rfl, rfl, rfl, rfl, trivial⟩ ?_
      refine At.go ?_
      refine Sc.seq ?_
      refine Sc.region ?_
      refine Sl.calm (Cm.move rfl) rfl ?_
      refine Sl.call fn41 rfl (mdoneT_ok A g2 p T v1 (hVu.grow hvf1) (by omega)) rfl ?_
      rintro _ v2 ⟨o19, c19, rfl, ho19, hfr19, hvf2⟩
      obtain ⟨im2, him2⟩ : ∃ im2, im2 = frW T (nF T) := ⟨_, rfl⟩
      have himl2 := frW_le T (nF T)
      have hnF2 : nF T ≤ 1000 := by unfold nF; omega
      rw [← him2] at ho19 himl2 ⊢
      have hFu2 := (hFu.trans hvf1).trans hvf2
      have hvz1 := hvf1.size
      have hvz2 := hvf2.size
      have hvf02 := hvf1.trans hvf2
      have hoo2 := hoou.grow hvf02
      have hru2 := hru.grow hvf02
      have hoi2 := hoiu.grow hvf02
      refine Sl.calm (Cm.assign rfl) rfl ?_
      refine Sl.nil ?_
      refine At.weak [(1, _), (6, _), (7, _), (8, _), (9, _), (12, _), (13, _), (14, _), (15, _), (18, _), (19, _), (83, _)] ⟨rfl, rfl, rfl, rfl, rfl, rfl, rfl, rfl, rfl, rfl, rfl, rfl, trivial⟩ ?_
      refine At.go ?_
      refine Sc.seq ?_
      refine Sc.region ?_
      refine Sl.calm (Cm.move rfl) rfl ?_
      refine Sl.calm (Cm.move rfl) rfl ?_
      refine Sl.calm (Cm.len sl25 rfl) rfl ?_
      refine Sl.call fn28 rfl (mopenA_ok p o18 c18 im1 0 im1.length v2 (hFu2.obj ht5 id) (ho18.grow hvf2).vw (by omega)) rfl ?_
      rintro _ v3 ⟨h1, rfl, hh1, hR1, hvf3⟩
      have hvz3 := hvf3.size
      refine Sl.calm (Cm.assign rfl) rfl ?_
      refine Sl.nil ?_
      refine At.weak [(1, _), (6, _), (7, _), (8, _), (9, _), (12, _), (13, _), (14, _), (15, _), (18, _), (19, _), (20, _), (83, _)] ⟨rfl, rfl, rfl, rfl, rfl, rfl, rfl, rfl, rfl, rfl, rfl, rfl, rfl, trivial⟩ ?_
      refine At.go ?_
      refine Sc.seq ?_
      refine Sc.region ?_
      refine Sl.calm (Cm.move rfl) rfl ?_
      refine Sl.calm (Cm.move rfl) rfl ?_
      refine Sl.calm (Cm.len sl25 rfl) rfl ?_
      refine Sl.call fn28 rfl (mopenA_ok p o19 c19 im2 0 im2.length v3 ((hFu2.trans hvf3).obj ht5 id) (ho19.grow hvf3).vw (by omega)) rfl ?_
      rintro _ v4 ⟨h2, rfl, hh2, hR2, hvf4⟩
      have hvz4 := hvf4.size
      have hR14 := hR1.grow hvf4
      have htn := tn_same h16
      have htm := tn_more h16
      rw [← him1] at htn htm
      have hz5u := hFu2.size
      refine Sl.calm (Cm.assign rfl) rfl ?_
      refine Sl.nil ?_
      refine At.weak [(1, _), (6, _), (7, _), (8, _), (9, _), (12, _), (13, _), (14, _), (15, _), (18, _), (19, _), (20, _), (21, _), (83, _)] ⟨rfl, rfl, rfl, rfl, rfl, rfl, rfl, rfl, rfl, rfl, rfl, rfl, rfl, rfl, trivial⟩ ?_
      refine At.go ?_
      refine Sc.seq ?_
      refine Sc.seq ?_
      refine Sc.region ?_
      refine Sl.calm (Cm.move rfl) rfl ?_
      refine Sl.calm (Cm.no (Cm.neq rfl rfl) (fun h => h rfl)) rfl ?_
      refine Sl.calm (Cm.move rfl) rfl ?_
      refine Sl.want rfl rfl (Cm.move rfl) rfl ?_
      refine Sl.want rfl rfl (Cm.eqlPtrNil ptr44 rfl rfl) rfl ?_
      refine Sl.calm (Cm.pick_f rfl rfl) rfl ?_
      refine Sl.calm (Cm.move rfl) rfl ?_
      refine Sl.want rfl rfl (Cm.move rfl) rfl ?_
      refine Sl.want rfl rfl (Cm.eqlPtrNil ptr44 rfl rfl) rfl ?_
      refine Sl.calm (Cm.pick_f rfl rfl) rfl ?_
      refine Sl.nil ?_
      refine At.weak [(1, _), (6, _), (7, _), (8, _), (9, _), (12, _), (13, _), (14, _), (15, _), (18, _), (19, _), (20, _), (21, _), (83, _), (130, _)] ⟨rfl, rfl, rfl, rfl, rfl, rfl, rfl, rfl, rfl, rfl, rfl, rfl, rfl, rfl, rfl, trivial⟩ ?_
      refine At.go ?_
      refine Sc.cond_f rfl ?_
      refine Sc.skip ?_
      refine At.go ?_
      refine Sc.seq ?_
      refine Sc.region ?_
      refine Sl.calm (Cm.move rfl) rfl ?_
      refine Sl.calm (Cm.move rfl) rfl ?_
      refine Sl.calm (Cm.len sl22 rfl) rfl ?_
      refine Sl.call fn29 rfl (tnums_ok (fun k => v2.heap.size ≤ k ∧ k < v3.heap.size) h1 p im1 0 im1.length NL.length 2 v4 hR14 (fun k hk => by have := hk.2; omega) (by omega) (by omega)) rfl ?_
      rw [htn]
      rintro _ v5 ⟨o22, c22, rfl, ho22, hfr22, hR15, hvF5⟩
      have hvz5 := hvF5.size
      have hR25 := hR2.keep hvF5 (fun k k1 k2 => by have := k1.1; have := k2.2; omega) (fun k2 => by have := k2.1; omega)
      have hF25 : Foot nob v2 v5 := (hvf3.trans hvf4).trans_to hvF5 (fun k hk => .inr hk.1)
      have hl22 := ho22.lt
      have hB1 : ∀ k, (Nx (fun k => v2.heap.size ≤ k ∧ k < v3.heap.size) v4 v5 k ∧ ¬ blk o22 k) → v2.heap.size ≤ k ∧ k < v5.heap.size ∧ ¬ (v3.heap.size ≤ k ∧ k < v4.heap.size) ∧ ¬ blk o22 k := fun k hk => by rcases hk.1 with h | h; have k1 := h.1; have k2 := h.2; exact ⟨by omega, by omega, by omega, hk.2⟩; have k1 := h.1; have k2 := h.2; exact ⟨by omega, by omega, by omega, hk.2⟩
      refine Sl.calm (Cm.move rfl) rfl ?_
      refine Sl.calm (Cm.extract rfl rfl) rfl ?_
      refine Sl.calm (Cm.extract rfl rfl) rfl ?_
      refine Sl.calm (Cm.assign rfl) rfl ?_
      refine Sl.calm (Cm.assign rfl) rfl ?_
      refine Sl.nil ?_
      refine At.weak [(1, _), (6, _), (7, _), (8, _), (9, _), (12, _), (13, _), (14, _), (15, _), (18, _), (19, _), (20, _), (21, _), (22, _), (23, _), (83, _), (130, _)] ⟨rfl, rfl, rfl, rfl, rfl, rfl, rfl, rfl, rfl, rfl, rfl, rfl, rfl, rfl, rfl, rfl, rfl, trivial⟩ ?_
      refine At.go ?_
      refine Sc.seq ?_
      refine Sc.region ?_
      refine Sl.calm (Cm.move rfl) rfl ?_
      refine Sl.calm (Cm.move rfl) rfl ?_
      refine Sl.calm (Cm.len sl22 rfl) rfl ?_
      refine Sl.calm (Cm.add64 rfl rfl (by omega)) rfl ?_
      refine Sl.call fn29 rfl (tnums_ok _ h1 p im1 0 im1.length (NL.length + 1) 2 v5 hR15 (fun k hk => (hB1 k hk).2.1) (by omega) (by omega)) rfl ?_
      rw [htm]
      rintro _ v6 ⟨o24, c24, rfl, ho24, hfr24, hR16, hvF6⟩
      have hvz6 := hvF6.size
      have hR26 := hR25.keep hvF6 (fun k k1 k2 => (hB1 k k2).2.2.1 k1) (fun k2 => by have := (hB1 p k2).1; omega)
      have hF26 : Foot nob v2 v6 := hF25.trans_to hvF6 (fun k hk => .inr (hB1 k hk).1)
      have ho22b := ho22.keep hvF6 (fun a ha e => (hB1 _ e).2.2.2 ⟨a, ha, rfl⟩)
      have hB2 : ∀ k, (Nx (fun k => Nx (fun k => v2.heap.size ≤ k ∧ k < v3.heap.size) v4 v5 k ∧ ¬ blk o22 k) v5 v6 k ∧ ¬ blk o24 k) → v2.heap.size ≤ k ∧ k < v6.heap.size ∧ ¬ (v3.heap.size ≤ k ∧ k < v4.heap.size) ∧ ¬ blk o22 k := fun k hk => by rcases hk.1 with h | h; have k1 := hB1 k h; exact ⟨k1.1, by omega, k1.2.2.1, k1.2.2.2⟩; have k1 := h.1; have k2 := h.2; exact ⟨by omega, by omega, by omega, fun ⟨a, ha, e⟩ => by have := hl22 a ha; omega⟩
      refine Sl.calm (Cm.move rfl) rfl ?_
      refine Sl.calm (Cm.extract rfl rfl) rfl ?_
      refine Sl.calm (Cm.extract rfl rfl) rfl ?_
      refine Sl.calm (Cm.assign rfl) rfl ?_
      refine Sl.calm (Cm.assign rfl) rfl ?_
      refine Sl.nil ?_
      refine At.weak [(1, _), (6, _), (7, _), (8, _), (9, _), (12, _), (13, _), (14, _), (15, _), (18, _), (19, _), (20, _), (21, _), (22, _), (23, _), (25, _), (83, _), (130, _)] ⟨rfl, rfl, rfl, rfl, rfl, rfl, rfl, rfl, rfl, rfl, rfl, rfl, rfl, rfl, rfl, rfl, rfl, rfl, trivial⟩ ?_
      refine At.go ?_
      refine Sc.seq ?_
      refine Sc.region ?_
      refine Sl.calm (Cm.move rfl) rfl ?_
      refine Sl.calm (Cm.move rfl) rfl ?_
      refine Sl.calm (Cm.len sl22 rfl) rfl ?_
      refine Sl.calm (Cm.sub64 rfl rfl (by omega)) rfl ?_
      refine Sl.call fn29 rfl (tnums_ok _ h1 p im1 0 im1.length (NL.length - 1) 2 v6 hR16 (fun k hk => (hB2 k hk).2.1) (by omega) (by omega)) rfl ?_
      rintro _ v7 ⟨o26, c26, rfl, ho26, hfr26, hR17, hvF7⟩
      have hvz7 := hvF7.size
      have hR27 := hR26.keep hvF7 (fun k k1 k2 => (hB2 k k2).2.2.1 k1) (fun k2 => by have := (hB2 p k2).1; omega)
      have hF27 : Foot nob v2 v7 := hF26.trans_to hvF7 (fun k hk => .inr (hB2 k hk).1)
      have ho22c := ho22b.keep hvF7 (fun a ha e => (hB2 _ e).2.2.2 ⟨a, ha, rfl⟩)
      refine Sl.calm (Cm.move rfl) rfl ?_
      refine Sl.calm (Cm.extract rfl rfl) rfl ?_
      refine Sl.calm (Cm.extract rfl rfl) rfl ?_
      refine Sl.calm (Cm.assign rfl) rfl ?_
      refine Sl.calm (Cm.assign rfl) rfl ?_
      refine Sl.nil ?_
      refine At.weak [(1, _), (6, _), (7, _), (8, _), (9, _), (12, _), (13, _), (14, _), (15, _), (18, _), (19, _), (20, _), (21, _), (22, _), (23, _), (25, _), (27, _), (83, _), (130, _)] ⟨rfl, rfl, rfl, rfl, rfl, rfl, rfl, rfl, rfl, rfl, rfl, rfl, rfl, rfl, rfl, rfl, rfl, rfl, rfl, trivial⟩ ?_
      refine At.go ?_
      refine Sc.seq ?_
      refine Sc.region ?_
      refine Sl.calm (Cm.move rfl) rfl ?_
      refine Sl.calm (Cm.move rfl) rfl ?_
      refine Sl.call fn33 rfl (same11_ok NL o22 oo c22 oc v7 ho22c.vw (hoo2.grow hF27).vw) rfl ?_
      rintro _ v8 ⟨rfl, hvf8⟩
      have hF28 := hF27.trans hvf8
      have hR28 := hR27.grow hvf8
      have hvz8 := hvf8.size
      refine Sl.calm (Cm.assign rfl) rfl ?_
      refine Sl.nil ?_
      refine At.weak [(1, _), (6, _), (7, _), (8, _), (9, _), (12, _), (13, _), (14, _), (15, _), (18, _), (19, _), (20, _), (21, _), (22, _), (23, _), (25, _), (27, _), (28, _), (83, _), (130, _)] ⟨rfl, rfl, rfl, rfl, rfl, rfl, rfl, rfl, rfl, rfl, rfl, rfl, rfl, rfl, rfl, rfl, rfl, rfl, rfl, rfl, trivial⟩ ?_
      refine At.go ?_
      refine Sc.seq ?_
      refine Sc.seq ?_
      refine Sc.region ?_
      refine Sl.calm (Cm.move rfl) rfl ?_
      refine Sl.calm (Cm.not rfl) rfl ?_
      refine Sl.calm (Cm.move rfl) rfl ?_
      refine Sl.want rfl rfl (Cm.move rfl) rfl ?_
      refine Sl.want rfl rfl (Cm.no (Cm.neq rfl rfl) (fun h => h rfl)) rfl ?_
      refine Sl.calm (Cm.pick_f rfl rfl) rfl ?_
      refine Sl.calm (Cm.move rfl) rfl ?_
      refine Sl.want rfl rfl (Cm.move rfl) rfl ?_
      refine Sl.want rfl rfl (Cm.no (Cm.neq rfl rfl) (fun h => h rfl)) rfl ?_
      refine Sl.calm (Cm.pick_f rfl rfl) rfl ?_
      refine Sl.calm (Cm.move rfl) rfl ?_
      refine Sl.want rfl rfl (Cm.move rfl) rfl ?_
      refine Sl.want rfl rfl (Cm.len sl22 rfl) rfl ?_
      refine Sl.forkWant rfl rfl (Cm.gtr rfl rfl) rfl (fun h170 => ?_) (fun h170 => ?_)
      ·
        refine Sl.want rfl rfl (Cm.move rfl) rfl ?_
        refine Sl.want rfl rfl (Cm.move rfl) rfl ?_
        refine Sl.want rfl rfl (Cm.no (Cm.neq rfl rfl) (by rw [him1, tn_less h16 (by omega)]; exact fun h => h rfl)) rfl ?_
        refine Sl.want rfl rfl (Cm.pick_t rfl rfl) rfl ?_
        refine Sl.calm (Cm.pick_f rfl rfl) rfl ?_
        refine Sl.nil ?_
        refine At.weak [(1, _), (6, _), (7, _), (8, _), (9, _), (12, _), (13, _), (14, _), (15, _), (18, _), (19, _), (20, _), (21, _), (22, _), (23, _), (25, _), (27, _), (28, _), (83, _), (130, _), (175, _)] ⟨rfl, rfl, rfl, rfl, rfl, rfl, rfl, rfl, rfl, rfl, rfl, rfl, rfl, rfl, rfl, rfl, rfl, rfl, rfl, rfl, rfl, trivial⟩ ?_
        refine At.go ?_
        refine Sc.cond_f rfl ?_
        refine Sc.skip ?_
        refine At.go ?_
        refine Sc.seq ?_
        refine Sc.seq ?_
        refine Sc.region ?_
        refine Sl.calm (Cm.assign rfl) rfl ?_
        refine Sl.nil ?_
        refine At.go ?_
        refine Sc.block ?_
        refine Sc.loop (β := Nat × (Nat → Prop)) (fun ⟨q, C⟩ => [(13, .slice rr (refsA M).length cr), (14, .slice oi ins.length ci), (21, .pointer (some ⟨h2, 0, none⟩)), (29, .int .i64 q)]) (fun ⟨q, C⟩ z => q ≤ K.length ∧ MrO C z.heap h2 p im2 0 im2.length ∧ (∀ k, C k → v2.heap.size ≤ k ∧ k < z.heap.size) ∧ Foot nob v2 z) (fun ⟨q, C⟩ => K.length - q) ⟨0, fun k => v3.heap.size ≤ k ∧ k < v4.heap.size⟩ ⟨(by rw [hMe]; rfl), rfl, rfl, rfl, trivial⟩ ⟨Nat.zero_le _, hR28, (fun k hk => ⟨by have := hk.1; omega, by have := hk.2; omega⟩), hF28⟩ ?_
        rintro ⟨q, C⟩ z ⟨hq, hRz, hC, hFz⟩
        have hzz := hFz.size
        refine Sc.seq ?_
        refine Sc.seq ?_
        refine Sc.region ?_
        refine Sl.calm (Cm.move rfl) rfl ?_
        refine Sl.calm (Cm.move rfl) rfl ?_
        refine Sl.calm (Cm.len sl73 rfl) rfl ?_
        refine Sl.fork (Cm.lss rfl rfl) rfl (fun h179 => ?_) (fun h179 => ?_)
        ·
          have hqK : q < K.length := by omega
          obtain ⟨X, hXe⟩ : ∃ X, X = K.getD q [] := ⟨_, rfl⟩
          have hok := hKm q hqK
          rw [← hXe] at hok
          have hqM : q < M.length := by omega
          have hMq : M.getD q [] = encXs X := by rw [hMK, hXe]; simp [List.getD, hqK]
          have hdr := drop_in (M := M) [] hqM
          rw [List.append_nil, ← hT, hMq] at hdr
          have hxs := xs_at hok.1 hok.2 hdr
          rw [← him2] at hxs
          have hrr := refT_in (M := M) [] q
          rw [List.append_nil, ← hT] at hrr
          have hruw := hru2.grow hFz
          have hrc : cellH z.heap (adr rr q) = some (.int .i64 (refT T (M.take q).flatten.length : Nat)) := by have := hruw.vw.gd 0 (i := q) (by rw [refsA_len]; omega); rwa [refsA_at hqM, hrr] at this
          have hoff : (M.take q).flatten.length ≤ T.length := by rw [hT]; exact flat_le M q
          have hrb := refT_b (T := T) (o := (M.take q).flatten.length) (by omega)
          refine Sl.nil ?_
          refine At.weak [(13, _), (14, _), (21, _), (29, _), (179, _)] ⟨rfl, rfl, rfl, rfl, rfl, trivial⟩ ?_
          refine At.go ?_
          refine Sc.cond_t rfl ?_
          refine Sc.skip ?_
          refine At.go ?_
          refine Sc.seq ?_
          refine Sc.block ?_
          refine Sc.seq ?_
          refine Sc.region ?_
          refine Sl.calm (Cm.move rfl) rfl ?_
          refine Sl.calm (Cm.move rfl) rfl ?_
          refine Sl.calm (Cm.move rfl) rfl ?_
          refine Sl.calm (Cm.indexAddr1 sl22 rfl rfl hruw.vw.non (by rw [refsA_len]; omega)) rfl ?_
          refine Sl.calm (Cm.ld sca3 rfl (by rw [Int.toNat_natCast]; exact hrc)) rfl ?_
          refine Sl.call fn31 rfl (txattrs_ok C h2 p im2 0 im2.length (refT T (M.take q).flatten.length : Nat) z hRz (fun k hk => (hC k hk).2) (by omega) ⟨by omega, by omega⟩) rfl ?_
          rw [hxs]
          rintro _ z1 ⟨o30, c30, rfl, hx30, hRz1, hFz1⟩
          have hzz1 := hFz1.size
          have hF2z1 : Foot nob v2 z1 := hFz.trans_to hFz1 (fun k hk => .inr (by have := (hC k hk).1; omega))
          have hoiz := hoi2.grow hF2z1
          have hXz := hXi.grow ((hFWu.trans hvf02).trans hF2z1)
          obtain ⟨⟨ea, en, ec⟩, hen, hel3, hev⟩ := hXz.at hqK
          rw [← hXe] at hel3 hev
          obtain rfl : en = X.length := hel3
          have hec : cellH z1.heap (adr oi (q : Int).toNat) = some (.slice ea X.length ec) := by rw [Int.toNat_natCast]; exact hoiz.vw.get q _ hen
          refine Sl.calm (Cm.move rfl) rfl ?_
          refine Sl.calm (Cm.extract rfl rfl) rfl ?_
          refine Sl.calm (Cm.extract rfl rfl) rfl ?_
          refine Sl.calm (Cm.assign rfl) rfl ?_
          refine Sl.calm (Cm.assign rfl) rfl ?_
          refine Sl.nil ?_
          refine At.weak [(13, _), (14, _), (21, _), (29, _), (30, _), (31, _), (179, _)] ⟨rfl, rfl, rfl, rfl, rfl, rfl, rfl, trivial⟩ ?_
          refine At.go ?_
          refine Sc.seq ?_
          refine Sc.region ?_
          refine Sl.calm (Cm.move rfl) rfl ?_
          refine Sl.calm (Cm.move rfl) rfl ?_
          refine Sl.calm (Cm.move rfl) rfl ?_
          refine Sl.calm (Cm.indexAddr1 sl73 rfl rfl hoiz.vw.non (by omega)) rfl ?_
          refine Sl.calm (Cm.ld sca23 rfl hec) rfl ?_
          refine Sl.call fn34 rfl (sameX_ok X o30 ea c30 ec z1 hx30 hev) rfl ?_
          rintro _ z2 ⟨rfl, hzf2⟩
          have hzz2 := hzf2.size
          refine Sl.calm (Cm.assign rfl) rfl ?_
          refine Sl.nil ?_
          refine At.weak [(13, _), (14, _), (21, _), (29, _), (30, _), (31, _), (32, _), (179, _)] ⟨rfl, rfl, rfl, rfl, rfl, rfl, rfl, rfl, trivial⟩ ?_
          refine At.go ?_
          refine Sc.seq ?_
          refine Sc.region ?_
          refine Sl.calm (Cm.move rfl) rfl ?_
          refine Sl.calm (Cm.not rfl) rfl ?_
          refine Sl.calm (Cm.move rfl) rfl ?_
          refine Sl.want rfl rfl (Cm.move rfl) rfl ?_
          refine Sl.want rfl rfl (Cm.no (Cm.neq rfl rfl) (fun h => h rfl)) rfl ?_
          refine Sl.calm (Cm.pick_f rfl rfl) rfl ?_
          refine Sl.nil ?_
          refine At.weak [(13, _), (14, _), (21, _), (29, _), (30, _), (31, _), (32, _), (179, _), (202, _)] ⟨rfl, rfl, rfl, rfl, rfl, rfl, rfl, rfl, rfl, trivial⟩ ?_
          refine At.go ?_
          refine Sc.cond_f rfl ?_
          refine Sc.skip ?_
          refine At.block_normal ?_
          refine At.go ?_
          refine Sc.region ?_
          refine Sl.calm (Cm.move rfl) rfl ?_
          refine Sl.calm (Cm.add64 rfl rfl (by omega)) rfl ?_
          refine Sl.calm (Cm.assign rfl) rfl ?_
          refine Sl.nil ?_
          exact At.again ⟨q + 1, Nx C z z1⟩ ⟨rfl, rfl, rfl, rfl, trivial⟩ ⟨by omega, hRz1.grow hzf2, (fun k hk => by rcases hk with h | h; have h1 := hC k h; exact ⟨h1.1, by omega⟩; have h1 := h.1; have h2 := h.2; exact ⟨by omega, by omega⟩), hF2z1.trans hzf2⟩ (by show K.length - (q + 1) < K.length - q; omega)
        ·
          refine Sl.nil ?_
          refine At.weak [(13, _), (14, _), (21, _), (29, _), (179, _)] ⟨rfl, rfl, rfl, rfl, rfl, trivial⟩ ?_
          refine At.go ?_
          refine Sc.cond_f rfl ?_
          refine Sc.exit ?_
          refine At.then_exit ?_
          refine At.then_exit ?_
          refine At.block_hit ?_
          refine At.go ?_
          refine Sc.seq ?_
          refine Sc.region ?_
          refine Sl.calm (Cm.assign rfl) rfl ?_
          refine Sl.nil ?_
          refine At.go ?_
          refine Sc.ret ?_
          refine At.ret1 rfl rfl ?_
          exact ⟨_, rfl, rfl, ((hF5.trans hFu).trans hvf02).trans hFz⟩
      ·
        refine Sl.want rfl rfl (Cm.move rfl) rfl ?_
        refine Sl.skip rfl rfl rfl rfl ?_
        refine Sl.skip rfl rfl rfl rfl ?_
        refine Sl.want rfl rfl (Cm.pick_f rfl rfl) rfl ?_
        refine Sl.calm (Cm.pick_f rfl rfl) rfl ?_
        refine Sl.nil ?_
        refine At.weak [(1, _), (6, _), (7, _), (8, _), (9, _), (12, _), (13, _), (14, _), (15, _), (18, _), (19, _), (20, _), (21, _), (22, _), (23, _), (25, _), (27, _), (28, _), (83, _), (130, _), (175, _)] ⟨rfl, rfl, rfl, rfl, rfl, rfl, rfl, rfl, rfl, rfl, rfl, rfl, rfl, rfl, rfl, rfl, rfl, rfl, rfl, rfl, rfl, trivial⟩ ?_
        refine At.go ?_
        refine Sc.cond_f rfl ?_
        refine Sc.skip ?_
        refine At.go ?_
        refine Sc.seq ?_
        refine Sc.seq ?_
        refine Sc.region ?_
        refine Sl.calm (Cm.assign rfl) rfl ?_
        refine Sl.nil ?_
        refine At.go ?_
        refine Sc.block ?_
        refine Sc.loop (β := Nat × (Nat → Prop)) (fun ⟨q, C⟩ => [(13, .slice rr (refsA M).length cr), (14, .slice oi ins.length ci), (21, .pointer (some ⟨h2, 0, none⟩)), (29, .int .i64 q)]) (fun ⟨q, C⟩ z => q ≤ K.length ∧ MrO C z.heap h2 p im2 0 im2.length ∧ (∀ k, C k → v2.heap.size ≤ k ∧ k < z.heap.size) ∧ Foot nob v2 z) (fun ⟨q, C⟩ => K.length - q) ⟨0, fun k => v3.heap.size ≤ k ∧ k < v4.heap.size⟩ ⟨(by rw [hMe]; rfl), rfl, rfl, rfl, trivial⟩ ⟨Nat.zero_le _, hR28, (fun k hk => ⟨by have := hk.1; omega, by have := hk.2; omega⟩), hF28⟩ ?_
        rintro ⟨q, C⟩ z ⟨hq, hRz, hC, hFz⟩
        have hzz := hFz.size
        refine Sc.seq ?_
        refine Sc.seq ?_
        refine Sc.region ?_
        refine Sl.calm (Cm.move rfl) rfl ?_
        refine Sl.calm (Cm.move rfl) rfl ?_
        refine Sl.calm (Cm.len sl73 rfl) rfl ?_
        refine Sl.fork (Cm.lss rfl rfl) rfl (fun h179 => ?_) (fun h179 => ?_)
        ·
          have hqK : q < K.length := by omega
          obtain ⟨X, hXe⟩ : ∃ X, X = K.getD q [] := ⟨_, rfl⟩
          have hok := hKm q hqK
          rw [← hXe] at hok
          have hqM : q < M.length := by omega
          have hMq : M.getD q [] = encXs X := by rw [hMK, hXe]; simp [List.getD, hqK]
          have hdr := drop_in (M := M) [] hqM
          rw [List.append_nil, ← hT, hMq] at hdr
          have hxs := xs_at hok.1 hok.2 hdr
          rw [← him2] at hxs
          have hrr := refT_in (M := M) [] q
          rw [List.append_nil, ← hT] at hrr
          have hruw := hru2.grow hFz
          have hrc : cellH z.heap (adr rr q) = some (.int .i64 (refT T (M.take q).flatten.length : Nat)) := by have := hruw.vw.gd 0 (i := q) (by rw [refsA_len]; omega); rwa [refsA_at hqM, hrr] at this
          have hoff : (M.take q).flatten.length ≤ T.length := by rw [hT]; exact flat_le M q
          have hrb := refT_b (T := T) (o := (M.take q).flatten.length) (by omega)
          refine Sl.nil ?_
          refine At.weak [(13, _), (14, _), (21, _), (29, _), (179, _)] ⟨rfl, rfl, rfl, rfl, rfl, trivial⟩ ?_
          refine At.go ?_
          refine Sc.cond_t rfl ?_
          refine Sc.skip ?_
          refine At.go ?_
          refine Sc.seq ?_
          refine Sc.block ?_
          refine Sc.seq ?_
          refine Sc.region ?_
          refine Sl.calm (Cm.move rfl) rfl ?_
          refine Sl.calm (Cm.move rfl) rfl ?_
          refine Sl.calm (Cm.move rfl) rfl ?_
          refine Sl.calm (Cm.indexAddr1 sl22 rfl rfl hruw.vw.non (by rw [refsA_len]; omega)) rfl ?_
          refine Sl.calm (Cm.ld sca3 rfl (by rw [Int.toNat_natCast]; exact hrc)) rfl ?_
          refine Sl.call fn31 rfl (txattrs_ok C h2 p im2 0 im2.length (refT T (M.take q).flatten.length : Nat) z hRz (fun k hk => (hC k hk).2) (by omega) ⟨by omega, by omega⟩) rfl ?_
          rw [hxs]
          rintro _ z1 ⟨o30, c30, rfl, hx30, hRz1, hFz1⟩
          have hzz1 := hFz1.size
          have hF2z1 : Foot nob v2 z1 := hFz.trans_to hFz1 (fun k hk => .inr (by have := (hC k hk).1; omega))
          have hoiz := hoi2.grow hF2z1
          have hXz := hXi.grow ((hFWu.trans hvf02).trans hF2z1)
          obtain ⟨⟨ea, en, ec⟩, hen, hel3, hev⟩ := hXz.at hqK
          rw [← hXe] at hel3 hev
          obtain rfl : en = X.length := hel3
          have hec : cellH z1.heap (adr oi (q : Int).toNat) = some (.slice ea X.length ec) := by rw [Int.toNat_natCast]; exact hoiz.vw.get q _ hen
          refine Sl.calm (Cm.move rfl) rfl ?_
          refine Sl.calm (Cm.extract rfl rfl) rfl ?_
          refine Sl.calm (Cm.extract rfl rfl) rfl ?_
          refine Sl.calm (Cm.assign rfl) rfl ?_
          refine Sl.calm (Cm.assign rfl) rfl ?_
          refine Sl.nil ?_
          refine At.weak [(13, _), (14, _), (21, _), (29, _), (30, _), (31, _), (179, _)] ⟨rfl, rfl, rfl, rfl, rfl, rfl, rfl, trivial⟩ ?_
          refine At.go ?_
          refine Sc.seq ?_
          refine Sc.region ?_
          refine Sl.calm (Cm.move rfl) rfl ?_
          refine Sl.calm (Cm.move rfl) rfl ?_
          refine Sl.calm (Cm.move rfl) rfl ?_
          refine Sl.calm (Cm.indexAddr1 sl73 rfl rfl hoiz.vw.non (by omega)) rfl ?_
          refine Sl.calm (Cm.ld sca23 rfl hec) rfl ?_
          refine Sl.call fn34 rfl (sameX_ok X o30 ea c30 ec z1 hx30 hev) rfl ?_
          rintro _ z2 ⟨rfl, hzf2⟩
          have hzz2 := hzf2.size
          refine Sl.calm (Cm.assign rfl) rfl ?_
          refine Sl.nil ?_
          refine At.weak [(13, _), (14, _), (21, _), (29, _), (30, _), (31, _), (32, _), (179, _)] ⟨rfl, rfl, rfl, rfl, rfl, rfl, rfl, rfl, trivial⟩ ?_
          refine At.go ?_
          refine Sc.seq ?_
          refine Sc.region ?_
          refine Sl.calm (Cm.move rfl) rfl ?_
          refine Sl.calm (Cm.not rfl) rfl ?_
          refine Sl.calm (Cm.move rfl) rfl ?_
          refine Sl.want rfl rfl (Cm.move rfl) rfl ?_
          refine Sl.want rfl rfl (Cm.no (Cm.neq rfl rfl) (fun h => h rfl)) rfl ?_
          refine Sl.calm (Cm.pick_f rfl rfl) rfl ?_
          refine Sl.nil ?_
          refine At.weak [(13, _), (14, _), (21, _), (29, _), (30, _), (31, _), (32, _), (179, _), (202, _)] ⟨rfl, rfl, rfl, rfl, rfl, rfl, rfl, rfl, rfl, trivial⟩ ?_
          refine At.go ?_
          refine Sc.cond_f rfl ?_
          refine Sc.skip ?_
          refine At.block_normal ?_
          refine At.go ?_
          refine Sc.region ?_
          refine Sl.calm (Cm.move rfl) rfl ?_
          refine Sl.calm (Cm.add64 rfl rfl (by omega)) rfl ?_
          refine Sl.calm (Cm.assign rfl) rfl ?_
          refine Sl.nil ?_
          exact At.again ⟨q + 1, Nx C z z1⟩ ⟨rfl, rfl, rfl, rfl, trivial⟩ ⟨by omega, hRz1.grow hzf2, (fun k hk => by rcases hk with h | h; have h1 := hC k h; exact ⟨h1.1, by omega⟩; have h1 := h.1; have h2 := h.2; exact ⟨by omega, by omega⟩), hF2z1.trans hzf2⟩ (by show K.length - (q + 1) < K.length - q; omega)
        ·
          refine Sl.nil ?_
          refine At.weak [(13, _), (14, _), (21, _), (29, _), (179, _)] ⟨rfl, rfl, rfl, rfl, rfl, trivial⟩ ?_
          refine At.go ?_
          refine Sc.cond_f rfl ?_
          refine Sc.exit ?_
          refine At.then_exit ?_
          refine At.then_exit ?_
          refine At.block_hit ?_
          refine At.go ?_
          refine Sc.seq ?_
          refine Sc.region ?_
          refine Sl.calm (Cm.assign rfl) rfl ?_
          refine Sl.nil ?_
          refine At.go ?_
          refine Sc.ret ?_
          refine At.ret1 rfl rfl ?_
          exact ⟨_, rfl, rfl, ((hF5.trans hFu).trans hvf02).trans hFz⟩
end Go.Proofs.Ytoaplldahbbaiaa
