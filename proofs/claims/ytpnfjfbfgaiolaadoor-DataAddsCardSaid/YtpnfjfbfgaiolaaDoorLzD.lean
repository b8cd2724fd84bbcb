/- lz: the places that begin likewise, in a map: noted, looked up. No condition beyond the bounds that each states. -/
import Derived.Test.YtpnfjfbfgaiolaaDoorLzC
import Derived.Test.YtpnfjfbfgaiolaaDoorMp
import Derived.WideKeyPair
namespace Go.Proofs.YtpnfjfbfgaiolaaDoor
open Go Go.RowKit
set_option linter.unusedVariables false

def cs3 (a : UInt8 × UInt8 × UInt8) : List Value := [b8 a.1, b8 a.2.1, b8 a.2.2]
def enc3 (a : UInt8 × UInt8 × UInt8) : Value := .agg (cs3 a).toArray
def nV (n : Nat) : Value := .int .i64 n
theorem nV_one : ∀ x, (nV x).oneCell' = true := fun _ => rfl
theorem arr3 : WideMaps.ArrKey Tryd.prog 126 5 3 := ⟨by kernel_rfl, by kernel_rfl, by kernel_rfl, by kernel_rfl⟩
theorem u8_wf (x : UInt8) : (Lit.int .u8 x.toNat).wf = true := by
  have := x.toNat_lt
  have h1 : IntKind.u8.min = 0 := rfl
  have h2 : IntKind.u8.max = 255 := rfl
  simp only [Lit.wf, h1, h2, Bool.and_eq_true, decide_eq_true_eq]
  omega
theorem key3 : KeyEnc Tryd.prog 126 enc3 := by
  refine ⟨Maps.Keyed.of_law arr3.law, fun a => ?_, fun a b h => ?_⟩
  · refine ⟨.string (keyBytes [.int .u8 a.1.toNat, .int .u8 a.2.1.toNat, .int .u8 a.2.2.toNat]), ?_⟩
    have hsz : ∃ m, Tryd.prog.types.size = m + 1 := ⟨Tryd.prog.types.size - 1, by kernel_rfl⟩
    have hkt := arr3.keyType hsz
    obtain ⟨m, hm⟩ := hsz
    unfold keyOf
    simp only [arr3.hu]
    rw [if_pos (by simp [hkt, Value.formed, arr3.hu, arr3.size, enc3, cs3]), hm]
    unfold Program.keyLits
    simp only [arr3.hu, Value.cells, enc3]
    rw [if_pos (by rw [arr3.size]; rfl), show List.range 3 = [0, 1, 2] from rfl, List.mapM_cons, List.mapM_cons, List.mapM_cons, List.mapM_nil]
    simp [arr3.one, Program.keyLits, u8_wf, cs3, b8]
  · simp only [enc3, cs3, Value.agg.injEq] at h
    have h2 := congrArg Array.toList h
    simp only [b8, List.cons.injEq, Value.int.injEq, true_and, and_true] at h2
    obtain ⟨e1, e2, e3⟩ := h2
    have f : ∀ x y : UInt8, (x.toNat : Int) = y.toNat → x = y := fun x y e => UInt8.toNat_inj.1 (by omega)
    exact Prod.ext (f _ _ e1) (Prod.ext (f _ _ e2) (f _ _ e3))
theorem mp3 : MapT Tryd.prog 110 126 33 (.slice none 0 0) := ⟨by kernel_rfl, z33⟩

/-- the places of b from lo up to hi, in memory; its blocks are of D -/
structure ChC (D : Nat → Prop) (H : Array Obj) (g : Nat) (b : List UInt8) (lo hi : Nat) (m : List ((UInt8 × UInt8 × UInt8) × Value)) (A : UInt8 × UInt8 × UInt8 → Option Addr) (C : UInt8 × UInt8 × UInt8 → Nat) : Prop where
  map : MapL enc3 H g m
  mine : D g
  val : ∀ a, (getM m a).getD (.slice none 0 0) = .slice (A a) (posL b lo hi a).length (C a)
  own : ∀ a, Own nV 3 H (A a) (C a) (posL b lo hi a)
  dom : ∀ a k, blk (A a) k → D k ∧ k ≠ g
  apart : ∀ a a', a ≠ a' → ∀ k, blk (A a) k → ¬ blk (A a') k
def ChM (D : Nat → Prop) (H : Array Obj) (g : Nat) (b : List UInt8) (lo hi : Nat) : Prop := ∃ m A C, ChC D H g b lo hi m A C
theorem ChM.keep {D S : Nat → Prop} {w w' : World} {g : Nat} {b : List UInt8} {lo hi : Nat} (h : ChM D w.heap g b lo hi) (f : Foot S w w') (hs : ∀ k, D k → ¬ S k) : ChM D w'.heap g b lo hi := by
  obtain ⟨m, A, C, h1, h2, h3, h4, h5, h6⟩ := h
  exact ⟨m, A, C, h1.keep f (hs _ h2), h2, h3, fun a => (h4 a).keep f (fun x hx => hs _ (h5 a _ ⟨x, hx, rfl⟩).1), h5, h6⟩
theorem ChM.new {D : Nat → Prop} {H : Array Obj} {g : Nat} (h : MapL enc3 H g []) (hD : D g) (b : List UInt8) (lo : Nat) : ChM D H g b lo lo := by
  have e : ∀ a, posL b lo lo a = [] := fun a => by unfold posL; simp
  exact ⟨[], fun _ => none, fun _ => 0, h, hD, fun a => by rw [e]; rfl, fun a => by rw [e]; exact Own.nil, fun a k ⟨x, hx, _⟩ => (by cases hx), fun a a' _ k ⟨x, hx, _⟩ => (by cases hx)⟩
theorem ChM.end {D : Nat → Prop} {H : Array Obj} {g : Nat} {b : List UInt8} {lo i j : Nat} (h : ChM D H g b lo i) (hlo : lo ≤ i) (hl : b.length < i + 3) (hij : i ≤ j) : ChM D H g b lo j := by
  obtain ⟨m, A, C, h1, h2, h3, h4, h5, h6⟩ := h
  exact ⟨m, A, C, h1, h2, fun a => by rw [posL_end a hlo hl hij]; exact h3 a, fun a => by rw [posL_end a hlo hl hij]; exact h4 a, h5, h6⟩
/-- one place more -/
theorem ChC.note {D : Nat → Prop} {H H' : Array Obj} {g : Nat} {b : List UInt8} {lo i : Nat} {m : List ((UInt8 × UInt8 × UInt8) × Value)} {A : UInt8 × UInt8 × UInt8 → Option Addr} {C : UInt8 × UInt8 × UInt8 → Nat}
    (h : ChC D H g b lo i m A C) (hlo : lo ≤ i) (hi : i + 3 ≤ b.length) {ao : Option Addr} {c : Nat} (hm : MapL enc3 H' g (setM m (st3 b i) (.slice ao (posL b lo i (st3 b i) ++ [i]).length c))) (ho : Own nV 3 H' ao c (posL b lo i (st3 b i) ++ [i]))
    (hd : ∀ k, blk ao k → D k ∧ k ≠ g ∧ ∀ a, a ≠ st3 b i → ¬ blk (A a) k) (hk : ∀ a, a ≠ st3 b i → Own nV 3 H' (A a) (C a) (posL b lo i a)) : ChM D H' g b lo (i + 1) := by
  obtain ⟨h1, h2, h3, h4, h5, h6⟩ := h
  refine ⟨_, fun a => if a = st3 b i then ao else A a, fun a => if a = st3 b i then c else C a, hm, h2, fun a => ?_, fun a => ?_, fun a k hb => ?_, fun a a' hne k hb hb' => ?_⟩
  · rw [setM_get, posL_snoc a hlo hi]
    by_cases e : a = st3 b i
    · rw [if_pos e, if_pos e, if_pos e, if_pos e, e]; rfl
    · rw [if_neg e, if_neg e, if_neg e, if_neg e]; exact h3 a
  · rw [posL_snoc a hlo hi]
    by_cases e : a = st3 b i
    · rw [if_pos e, if_pos e, if_pos e, e]; exact ho
    · rw [if_neg e, if_neg e, if_neg e]; exact hk a e
  · by_cases e : a = st3 b i
    · rw [if_pos e] at hb; exact ⟨(hd k hb).1, (hd k hb).2.1⟩
    · rw [if_neg e] at hb; exact h5 a k hb
  · by_cases e : a = st3 b i
    · rw [if_pos e] at hb
      rw [if_neg (fun e' => hne (by rw [e, e']))] at hb'
      exact (hd k hb).2.2 a' (fun e' => hne (by rw [e, e'])) hb'
    · rw [if_neg e] at hb
      by_cases e' : a' = st3 b i
      · rw [if_pos e'] at hb'; exact (hd k hb').2.2 a e hb
      · rw [if_neg e'] at hb'; exact h6 a a' hne k hb hb'
theorem cells3 {H : Array Obj} {ao : Option Addr} {cap : Nat} {b : List UInt8} (hv : Vw b8 H ao cap b) {i : Nat} (hi : i + 3 ≤ b.length) : ∀ j v, (cs3 (st3 b i))[j]? = some v → cellH H ((adr ao i).add j) = some v := by
  intro j v hj
  have e : ∀ q, q < 3 → cellH H ((adr ao i).add q) = some (b8 (b.getD (i + q) 0)) := fun q hq => by
    have := hv.gd 0 (i := i + q) (by omega)
    unfold adr at this ⊢
    rwa [adr_add]
  match j with
  | 0 => simp [cs3, st3] at hj; rw [← hj]; exact e 0 (by decide)
  | 1 => simp [cs3, st3] at hj; rw [← hj]; exact e 1 (by decide)
  | 2 => simp [cs3, st3] at hj; rw [← hj]; exact e 2 (by decide)
  | j + 3 => simp [cs3] at hj

set_option maxHeartbeats 1000000 in
theorem note_ok (D : Nat → Prop) (g : Nat) (ao : Option Addr) (cap : Nat) (b : List UInt8) (lo i hi : Nat) (W : World) (hv : Vw b8 W.heap ao cap b) (hap : ∀ k, blk ao k → ¬ D k) (hc : ChM D W.heap g b lo i) (hD : ∀ k, W.heap.size ≤ k → D k) (hlo : lo ≤ i) (hih : i ≤ hi) (hhi : hi ≤ b.length) (hb : b.length ≤ 1073741824) :
    Calls Tryd.prog 60 [.map (some g), .slice ao b.length cap, .int .i64 i, .int .i64 hi].toArray W (Ret fun v w' => ChM D w'.heap g b lo hi ∧ Foot D W w') := by
  refine calls_of_sc 36 [(0, _), (1, _), (2, _), (3, _)] Tryd.func60 rfl rfl rfl (enter_slots ⟨rfl, rfl, rfl, rfl, trivial⟩) ?_
  refine Sc.seq ?_
  refine Sc.region ?_
  refine Sl.calm (Cm.move rfl) rfl ?_
  refine Sl.calm (Cm.assign rfl) rfl ?_
  refine Sl.nil ?_
  refine At.weak [(0, _), (1, _), (2, _), (3, _), (8, _)] ⟨rfl, rfl, rfl, rfl, rfl, trivial⟩ ?_
  refine At.go ?_
  refine Sc.block ?_
  refine Sc.loop (β := Nat) (fun j => [(0, .map (some g)), (1, .slice ao b.length cap), (3, .int .i64 hi), (8, .int .i64 j)]) (fun j w => i ≤ j ∧ j ≤ hi ∧ ChM D w.heap g b lo j ∧ Foot D W w) (fun j => hi - j) i ⟨rfl, rfl, rfl, rfl, trivial⟩ ⟨Nat.le_refl _, hih, hc, Foot.refl _ _⟩ ?_
  rintro j w1 ⟨hij, hjh, hc1, hF1⟩
  have hv1 := hv.keep hF1 (fun a ha h => hap _ ⟨a, ha, rfl⟩ h)
  have hz1 := hF1.size
  refine Sc.seq ?_
  refine Sc.seq ?_
  refine Sc.region ?_
  refine Sl.calm (Cm.move rfl) rfl ?_
  refine Sl.calm (Cm.move rfl) rfl ?_
  refine Sl.fork (Cm.lss rfl rfl) rfl (fun h13 => ?_) (fun h13 => ?_)
  ·
    refine Sl.calm (Cm.move rfl) rfl ?_
    refine Sl.want rfl rfl (Cm.move rfl) rfl ?_
    refine Sl.want rfl rfl (Cm.add64 rfl rfl (by omega)) rfl ?_
    refine Sl.want rfl rfl (Cm.move rfl) rfl ?_
    refine Sl.want rfl rfl (Cm.len sl23 rfl) rfl ?_
    refine Sl.forkWant rfl rfl (Cm.leq rfl rfl) rfl (fun h19 => ?_) (fun h19 => ?_)
    ·
      refine Sl.calm (Cm.pick_t rfl rfl) rfl ?_
      refine Sl.nil ?_
      refine At.weak [(0, _), (1, _), (3, _), (8, _), (20, _)] ⟨rfl, rfl, rfl, rfl, rfl, trivial⟩ ?_
      refine At.go ?_
      refine Sc.cond_t rfl ?_
      refine Sc.skip ?_
      refine At.go ?_
      refine Sc.seq ?_
      refine Sc.block ?_
      refine Sc.seq ?_
      refine Sc.region ?_
      refine Sl.calm (Cm.move rfl) rfl ?_
      refine Sl.calm (Cm.move rfl) rfl ?_
      refine Sl.calm (Cm.sliceL sl23 rfl rfl (by omega)) rfl ?_
      refine Sl.calm (Cm.arrPtr Tryd.underlying126 rfl (hv1.non (by omega)) (by omega) (by have := hv1.le; omega)) rfl ?_
      refine Sl.calm (Cm.ldM (cs := cs3 (st3 b j)) agg126 rfl (cells3 hv1 (by omega))) rfl ?_
      refine Sl.allocC zc126 rfl ?_
      intro w2 hg2 hs2 hf2
      refine Sl.storeAll (vs := cs3 (st3 b j)) agg126 rfl rfl (by simp [cs3, b8, Value.oneCell']) hg2 rfl ?_
      intro w3 hg3 hs3 hf3
      have hf13 : Foot nob w1 w3 := hf2.trans_to hf3 (fun k hk => .inr (by have : k = w1.heap.size := hk; omega))
      have hz13 := hf13.size
      refine Sl.nil ?_
      refine At.weak [(0, _), (1, _), (3, _), (8, _), (9, _), (20, _)] ⟨rfl, rfl, rfl, rfl, rfl, rfl, trivial⟩ ?_
      refine At.go ?_
      refine Sc.region ?_
      refine Sl.calm (Cm.move rfl) rfl ?_
      refine Sl.calm (Cm.ldM (cs := cs3 (st3 b j)) agg126 rfl (fun j v hj => cellF hg3 hj)) rfl ?_
      refine Sl.calm (Cm.move rfl) rfl ?_
      refine Sl.lit1 (enc := nV) (u := j) sl33 rfl rfl rfl ?_
      intro w4 ho4 hs4 hf4
      have hf14 := hf13.trans hf4
      obtain ⟨m, A, C, hC⟩ := hc1
      have hmap4 := hC.map.keep hf14 id
      have hgl := hC.map.obj
      have hz4 := hf14.size
      refine Sl.mapEntry mp3 key3 rfl rfl hmap4 rfl ?_
      intro w5 j5 hm5 hj5 hs5 hf5
      rw [hC.val]
      refine Sl.calm (Cm.extract rfl rfl) rfl ?_
      refine Sl.append nV_one sl33 rfl rfl (((hC.own (st3 b j)).grow hf14).keep hf5 (fun a ha h => (hC.dom _ _ ⟨a, ha, rfl⟩).2 h)) ((ho4.keep hf5 (fun a ha h => by cases ha; have h : w3.heap.size = g := h; omega)).vw) (by have := posL_len b lo j (st3 b j); simp only [List.length_singleton]; omega) (by have := posL_len b lo j (st3 b j); simp only [List.length_singleton]; unfold maxLen; omega) rfl ?_
      intro a6 c6 w6 ho6 hf6 hr6 hn6
      have hm6 := hm5.keep hf6 (fun h => (hC.dom _ _ h).2 rfl)
      refine Sl.calm (Cm.extract rfl rfl) rfl ?_
      refine Sl.entryStore rfl rfl rfl hm6 hj5 ?_
      intro w7 hm7 hs7 hf7
      rw [entM_set] at hm7
      refine Sl.nil ?_
      refine At.block_normal ?_
      refine At.weak [(0, _), (1, _), (3, _), (8, _), (9, _), (20, _)] ⟨rfl, rfl, rfl, rfl, rfl, rfl, trivial⟩ ?_
      refine At.go ?_
      refine Sc.region ?_
      refine Sl.calm (Cm.move rfl) rfl ?_
      refine Sl.calm (Cm.add64 rfl rfl (by omega)) rfl ?_
      refine Sl.calm (Cm.assign rfl) rfl ?_
      refine Sl.nil ?_
      have hz5 := hf5.size
      have hz6 := hf6.size
      have hlt : ∀ a k, blk (A a) k → k < w1.heap.size := fun a k ⟨x, hx, hk⟩ => hk ▸ (hC.own a).lt x hx
      have hblk : ∀ k, blk a6 k → blk (A (st3 b j)) k ∨ w4.heap.size ≤ k := fun k ⟨x, hx, hk⟩ => by rcases hr6 x hx with h | h; exact .inl ⟨x, h, hk⟩; exact .inr (by omega)
      have hfx : ∀ a, a ≠ st3 b j → Own nV 3 w7.heap (A a) (C a) (posL b lo j a) := fun a hne => ((((hC.own a).grow hf14).keep hf5 (fun x hx h => (hC.dom a _ ⟨x, hx, rfl⟩).2 h)).keep hf6 (fun x hx h => hC.apart a _ hne _ ⟨x, hx, rfl⟩ h)).keep hf7 (fun x hx h => (hC.dom a _ ⟨x, hx, rfl⟩).2 h)
      have hnew : ChM D w7.heap g b lo (j + 1) := hC.note (by omega) (by omega) hm7 (ho6.keep hf7 (fun x hx h => by rcases hblk _ ⟨x, hx, rfl⟩ with h2 | h2; exact (hC.dom _ _ h2).2 h; have h : x.block = g := h; omega)) (fun k hk => by rcases hblk k hk with h2 | h2; exact ⟨(hC.dom _ _ h2).1, (hC.dom _ _ h2).2, fun a hne h3 => hC.apart a _ hne k h3 h2⟩; exact ⟨hD k (by omega), by omega, fun a hne h3 => by have := hlt a k h3; omega⟩) hfx
      have hF7 : Foot D W w7 := (((hF1.trans hf14.any).trans (hf5.mono (fun k h => by subst h; exact hC.mine))).trans (hf6.mono (fun k h => (hC.dom _ _ h).1))).trans (hf7.mono (fun k h => by subst h; exact hC.mine))
      exact At.again (j + 1) ⟨rfl, rfl, rfl, rfl, trivial⟩ ⟨by omega, by omega, hnew, hF7⟩ (by show hi - (j + 1) < hi - j; omega)
    ·
      refine Sl.calm (Cm.pick_t rfl rfl) rfl ?_
      refine Sl.nil ?_
      refine At.weak [(0, _), (1, _), (3, _), (8, _), (20, _)] ⟨rfl, rfl, rfl, rfl, rfl, trivial⟩ ?_
      refine At.go ?_
      refine Sc.cond_f rfl ?_
      refine Sc.exit ?_
      refine At.then_exit ?_
      refine At.then_exit ?_
      refine At.block_hit ?_
      refine At.end0 rfl ?_
      first
        | (have e : j = hi := by omega
           subst e
           exact ⟨_, rfl, hc1, hF1⟩)
        | exact ⟨_, rfl, hc1.end (by omega) (by omega) hjh, hF1⟩
  ·
    refine Sl.calm (Cm.move rfl) rfl ?_
    refine Sl.skip rfl rfl rfl rfl ?_
    refine Sl.skip rfl rfl rfl rfl ?_
    refine Sl.skip rfl rfl rfl rfl ?_
    refine Sl.skip rfl rfl rfl rfl ?_
    refine Sl.skip rfl rfl rfl rfl ?_
    refine Sl.calm (Cm.pick_f rfl rfl) rfl ?_
    refine Sl.nil ?_
    refine At.weak [(0, _), (1, _), (3, _), (8, _), (20, _)] ⟨rfl, rfl, rfl, rfl, rfl, trivial⟩ ?_
    refine At.go ?_
    refine Sc.cond_f rfl ?_
    refine Sc.exit ?_
    refine At.then_exit ?_
    refine At.then_exit ?_
    refine At.block_hit ?_
    refine At.end0 rfl ?_
    first
      | (have e : j = hi := by omega
         subst e
         exact ⟨_, rfl, hc1, hF1⟩)
      | exact ⟨_, rfl, hc1.end (by omega) (by omega) hjh, hF1⟩
end Go.Proofs.YtpnfjfbfgaiolaaDoor
