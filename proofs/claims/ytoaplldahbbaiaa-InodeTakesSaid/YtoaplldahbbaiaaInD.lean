/- inode: Put, the program's and the reference's. No condition. -/
import Derived.Test.YtoaplldahbbaiaaInC
import Derived.Test.YtoaplldahbbaiaaTpC
namespace Go.Proofs.Ytoaplldahbbaiaa
open Go Go.RowKit
set_option linter.unusedVariables false

def putF (F : Nat → Int) (s : Int × List UInt8) (x : Fd) : Int × List UInt8 := putNum x.b s (F x.o)
def rSt (F : Nat → Int) (k : Nat) : Int × List UInt8 := ((recL (F 0)).take k).foldl (putF F) (putNum 1 (0, []) (F 0))
def rEnd (F : Nat → Int) (T : List UInt8) : Int × List UInt8 := if F 0 = 3 then txtS (rSt F (recL (F 0)).length) T else rSt F (recL (F 0)).length
def putI (F : Nat → Int) (T : List UInt8) : List UInt8 × Int := if mayI F T then ((rEnd F T).2, 0) else ([], 1)
theorem rSt_succ (F : Nat → Int) (k : Nat) (h : k < (recL (F 0)).length) : rSt F (k + 1) = putF F (rSt F k) ((recL (F 0)).getD k fd0) := by
  unfold rSt
  rw [fd_off h, List.foldl_append]; rfl
theorem putNum_good {s : Int × List UInt8} {z n : Int} (h : s.1 = 0) (hb : ¬ badN z n) : (putNum n s z).1 = 0 ∧ (putNum n s z).2 = s.2 ++ le z n.toNat := by
  have h1 : numE s.1 z n = 0 := by rw [numE_of_good hb, h]
  exact ⟨h1, numX_good h1⟩
theorem fit_good {z n m : Int} (h1 : 1 ≤ n) (h4 : n ≤ 4) (h0 : 0 ≤ z) (hm : z ≤ m) (hb : m < 2 ^ (8 * n).toNat) : ¬ badN z n := by
  unfold badN
  have h2 : z / 2 ^ (8 * n).toNat = 0 := Int.ediv_eq_zero_of_lt h0 (by omega)
  rw [h2]; omega
theorem may_kind {F : Nat → Int} {T : List UInt8} (h : mayI F T) : F 0 = 1 ∨ F 0 = 2 ∨ F 0 = 3 := by
  have := h.1; unfold mayA at this; omega
theorem rSt_good {F : Nat → Int} {T : List UInt8} (h : mayI F T) : ∀ k, k ≤ (recL (F 0)).length → (rSt F k).1 = 0 ∧ (rSt F k).2.length = 1 + (((recL (F 0)).take k).map (fun x => x.b.toNat)).sum
  | 0, _ => by
    have hk := may_kind h
    obtain ⟨a, b⟩ := putNum_good (s := (0, [])) (z := F 0) (n := 1) rfl (fit_good (m := 3) (by decide) (by decide) (by omega) (by omega) (by decide))
    exact ⟨a, by show (putNum 1 (0, []) (F 0)).2.length = _; rw [b, List.length_append, le_length]; rfl⟩
  | k + 1, hk => by
    obtain ⟨h1, h2⟩ := rSt_good h k (by omega)
    have hm := recL_at (k := F 0) (i := k) (by omega)
    obtain ⟨_, b1, b4, m0, mb⟩ := recL_off hm
    have ho := rec_may h _ hm
    obtain ⟨a, b⟩ := putNum_good (s := rSt F k) (z := F ((recL (F 0)).getD k fd0).o) (n := ((recL (F 0)).getD k fd0).b) h1 (fit_good b1 b4 ho.1 ho.2 mb)
    rw [rSt_succ F k (by omega)]
    refine ⟨a, ?_⟩
    show (putNum _ _ _).2.length = _
    rw [b, List.length_append, le_length, fd_off (by omega), List.map_append, List.sum_append, h2]
    simp; omega
theorem sum_le (F : Nat → Int) (k : Nat) : (((recL (F 0)).take k).map (fun x => x.b.toNat)).sum ≤ 36 := by
  have h1 : ∀ (L : List Fd), (∀ x ∈ L, x.b.toNat ≤ 4) → (L.map (fun x => x.b.toNat)).sum ≤ 4 * L.length := by
    intro L
    induction L with
    | nil => intro _; simp
    | cons x r ih => intro h; have := ih (fun y hy => h y (by simp [hy])); have := h x (by simp); simp only [List.map_cons, List.sum_cons, List.length_cons]; omega
  have h2 := h1 ((recL (F 0)).take k) (fun x hx => by have := recL_off (List.mem_of_mem_take hx); omega)
  have h3 := recL_len (F 0)
  rw [List.length_take] at h2
  omega
theorem rEnd_good {F : Nat → Int} {T : List UInt8} (h : mayI F T) : (rEnd F T).1 = 0 := by
  obtain ⟨h1, h2⟩ := rSt_good h _ (Nat.le_refl _)
  unfold rEnd
  split
  · rename_i h3
    have := h.1; unfold mayA at this
    exact (txtS_good h1 (by omega)).1
  · exact h1

set_option maxHeartbeats 2000000 in
theorem put_ok (F : Nat → Int) (T : List UInt8) (W : World) (hT : T.length ≤ maxLen) :
    Calls Try.prog 21 [.agg (inoC F T).toArray].toArray W (Ret (PutP W (putI F T))) := by
  refine calls_of_sc 41 [(0, _)] Try.func21 rfl rfl rfl (enter_slots ⟨rfl, trivial⟩) ?_
  refine Sc.seq ?_
  refine Sc.region ?_
  refine Sl.box rfl rfl ?_
  intro w1 hg1 hs1 hf1
  have hg1 : w1.heap[W.heap.size]? = some (.cells (inoC F T).toArray 33 (0, 0)) := hg1
  refine Sl.calm (Cm.assign rfl) rfl ?_
  refine Sl.calm (Cm.assign rfl) rfl ?_
  refine Sl.nil ?_
  refine At.go ?_
  refine Sc.seq ?_
  refine Sc.seq ?_
  refine Sc.region ?_
  refine Sl.calm (Cm.ldM (cs := inoC F T) agg33 rfl (fun j v hj => cellF hg1 hj)) rfl ?_
  refine Sl.call fn23 rfl (may_ok F T w1 hT) rfl ?_
  rintro _ w2 ⟨rfl, hf2⟩
  refine Sl.fork (Cm.notB rfl) rfl (fun h9 => ?_) (fun h9 => ?_)
  ·
    have hm : ¬ mayI F T := of_decide_eq_false h9
    refine Sl.nil ?_
    refine At.weak [(0, _), (1, _), (2, _), (3, _), (9, _)] ⟨rfl, rfl, rfl, rfl, rfl, trivial⟩ ?_
    refine At.go ?_
    refine Sc.cond_t rfl ?_
    refine Sc.seq ?_
    refine Sc.region ?_
    refine Sl.calm (Cm.assign rfl) rfl ?_
    refine Sl.calm (Cm.assign rfl) rfl ?_
    refine Sl.nil ?_
    refine At.go ?_
    refine Sc.ret ?_
    refine At.then_ret ?_
    refine At.ret2 rfl rfl rfl ?_
    have e : putI F T = ([], 1) := by unfold putI; rw [if_neg hm]
    rw [e]
    exact ⟨_, rfl, none, 0, rfl, Own.nil, Fr.none, hf1.trans hf2⟩
  ·
    have hm : mayI F T := Classical.byContradiction fun h => h9 (decide_eq_false h)
    have hlen := rSt_good hm
    have hp2 := hf2.obj hg1 id
    have hF2 := hf1.trans hf2
    have hlt2 : W.heap.size < w2.heap.size := by have := hf2.size; omega
    refine Sl.nil ?_
    refine At.weak [(0, _), (1, _), (2, _), (3, _), (9, _)] ⟨rfl, rfl, rfl, rfl, rfl, trivial⟩ ?_
    refine At.go ?_
    refine Sc.cond_f rfl ?_
    refine Sc.skip ?_
    refine At.go ?_
    refine Sc.seq ?_
    refine Sc.region ?_
    refine Sl.allocC zc87 rfl ?_
    intro w3 hg3 hs3 hf3
    have hp3 := hf3.obj hp2 id
    refine Sl.nil ?_
    refine At.go ?_
    refine Sc.seq ?_
    refine Sc.region ?_
    refine Sl.calm (Cm.field fld33_0 rfl) rfl ?_
    refine Sl.calm (Cm.ld sca3 rfl (cellF hp3 rfl)) rfl ?_
    refine Sl.call fn43 rfl (num_ok (fun k => w2.heap.size ≤ k) w2.heap.size 0 [] (F 0) 1 w3 (WrO.zeroL hg3 (Nat.le_refl _)) (hf_lt hf3 (fun k hk => hk)) (by simp)) rfl ?_
    rintro _ w4 ⟨hP4, hf4⟩
    have hp4 := hf4.obj hp3 (by omega)
    have hF4 : Foot nob w2 w4 := (hf3.any.trans hf4).fresh (fun k hk => hk)
    have hP4 : WrL (fun k => w2.heap.size ≤ k) w4.heap w2.heap.size (rSt F 0).1 (rSt F 0).2 := hP4
    refine Sl.nil ?_
    refine At.weak [(0, _), (1, _), (2, _), (3, _), (4, _), (9, _)] ⟨rfl, rfl, rfl, rfl, rfl, rfl, trivial⟩ ?_
    refine At.go ?_
    refine Sc.seq ?_
    refine Sc.seq ?_
    refine Sc.draw 7 (fun H => H[W.heap.size]? = some (.cells (inoC F T).toArray 33 (0, 0))) [0, 3, 4] [1, 2, 6, 0, 3, 4, 5] mixed (by kernel_rfl) (hp4) ?_
    refine Sx.calm rfl rfl (Cm.field fld33_0 rfl) rfl ?_
    refine Sx.calm rfl rfl (Cm.load sca3 rfl (fun H hH => cellF hH rfl)) rfl ?_
    refine Sx.calm rfl rfl (Cm.move rfl) rfl ?_
    refine Sx.eff rfl rfl (Sl.call fn52 rfl (common_ok _) rfl ?_)
    rintro _ w5 ⟨ao2, c2, rfl, ho2, hfr2, hf5⟩
    refine Sx.on (by exact hf5.obj hp4 id) ?_
    refine Sx.eff rfl rfl (Sl.call fn53 rfl (fields_ok (F 0) w5) rfl ?_)
    rintro _ w6 ⟨ao3, c3, rfl, ho3, hfr3, hf6⟩
    refine Sx.on (by exact hf6.obj (hf5.obj hp4 id) id) ?_
    refine Sx.eff rfl rfl (Sl.appendM fdV_cells rfl sl94 rfl rfl (ho2.grow hf6) (ho3.vw fdV_cells) (by have := recL_len (F 0); unfold recL at this; rw [List.length_append] at this; omega) (by have := recL_len (F 0); unfold recL at this; rw [List.length_append] at this; unfold maxLen; omega) rfl ?_)
    intro ao4 c4 w7 ho4 hf7 hr4 hn4
    have hfr2 : Fr w4.heap.size ao2 := hfr2
    have hlt4 := hF4.size
    have hp7 := hf7.obj (hf6.obj (hf5.obj hp4 id) id) (fun ⟨a, ha, hb⟩ => by have := hfr2 a ha; omega)
    have hF47 : Foot nob w4 w7 := (hf5.undraw.trans hf6).trans_to hf7 hfr2.step
    have hP7 := hP4.shrink hF47
    have hne4 : ∀ a, ao4 = some a → w4.heap.size ≤ a.block ∧ a.block < w7.heap.size := fun a ha => ⟨by rcases hr4 a ha with h | h; exact hfr2 a h; have := hf5.undraw.size; have := hf6.size; omega, ho4.lt a ha⟩
    have hL7 : VwM 3 fdV w7.heap ao4 c4 (recL (F 0)) := ho4.vw fdV_cells
    have hLlen := recL_len (F 0)
    refine Sx.on (by exact hp7) ?_
    refine Sx.calm rfl rfl (Cm.len sl94 rfl) rfl ?_
    refine Sx.nil ?_
    refine At.weak [(0, _), (1, _), (2, _), (3, _), (4, _), (9, _), (17, _), (18, _), (19, _)] ⟨rfl, rfl, rfl, rfl, rfl, rfl, rfl, rfl, rfl, trivial⟩ ?_
    refine At.go ?_
    refine Sc.block ?_
    refine Sc.loop (β := Nat) (fun k => [(1, .pointer (some ⟨W.heap.size, 0, none⟩)), (4, .pointer (some ⟨w2.heap.size, 0, none⟩)), (17, .slice ao4 (recL (F 0)).length c4), (18, .int .i64 (recL (F 0)).length), (19, .int .i64 k)]) (fun k w => k ≤ (recL (F 0)).length ∧ WrL (fun k => w2.heap.size ≤ k ∧ (k < w4.heap.size ∨ w7.heap.size ≤ k)) w.heap w2.heap.size (rSt F k).1 (rSt F k).2 ∧ VwM 3 fdV w.heap ao4 c4 (recL (F 0)) ∧ w.heap[W.heap.size]? = some (.cells (inoC F T).toArray 33 (0, 0)) ∧ w7.heap.size ≤ w.heap.size ∧ w2.heap.size ≤ w.heap.size ∧ Foot nob W w) (fun k => (recL (F 0)).length - k) 0 ⟨rfl, rfl, rfl, rfl, rfl, trivial⟩ ⟨Nat.zero_le _, hP7, hL7, hp7, Nat.le_refl _, by have := hF47.size; omega, (hF2.trans hF4).trans hF47⟩ ?_
    rintro k w8 ⟨hk, hP8, hL, hp8, hlt8, hlt82, hF8⟩
    refine Sc.seq ?_
    refine Sc.region ?_
    refine Sl.fork (Cm.lss rfl rfl) rfl (fun h20 => ?_) (fun h20 => ?_)
    ·
      refine Sl.nil ?_
      refine At.go ?_
      refine Sc.seq ?_
      refine Sc.cond_t rfl ?_
      refine Sc.skip ?_
      refine At.go ?_
      refine Sc.seq ?_
      refine Sc.block ?_
      refine Sc.seq ?_
      refine Sc.region ?_
      have hkL : k < (recL (F 0)).length := by omega
      have hrow := fd_row hL (k := k) rfl hkL
      have hmem := recL_at hkL
      obtain ⟨⟨hfn, ho10, ho0, hcall⟩, hb1, hb4, hm0, hmb⟩ := recL_off hmem
      obtain ⟨x, hx⟩ : ∃ x, x = (recL (F 0)).getD k fd0 := ⟨_, rfl⟩
      rw [← hx] at hrow hmem hfn ho10 ho0 hcall hb1 hb4 hm0
      refine Sl.calm (Cm.indexAddr sl94 rfl rfl hL.non (by omega)) rfl ?_
      refine Sl.calm (Cm.ldM (cs := fdV x) agg99 rfl hrow) rfl ?_
      refine Sl.allocC zc99 rfl ?_
      intro w9 hg9 hs9 hf9
      refine Sl.storeAll (vs := fdV x) agg99 rfl rfl (by simp [fdV, Value.oneCell']) hg9 rfl ?_
      intro w10 hg10 hs10 hf10
      have hF10 : Foot nob w8 w10 := hf9.trans_to hf10 (fun k hk => .inr (by omega))
      have hp10 := hF10.obj hp8 id
      have hP10 := hP8.shrink hF10
      have hF10s := hF10.size
      obtain ⟨z1, z2⟩ := hlen k hk
      have z3 := sum_le F k
      refine Sl.nil ?_
      refine At.weak [(1, _), (4, _), (6, _), (17, _), (18, _), (19, _), (20, _)] ⟨rfl, rfl, rfl, rfl, rfl, rfl, rfl, trivial⟩ ?_
      refine At.go ?_
      refine Sc.draw 7 (fun H => H[W.heap.size]? = some (.cells (inoC F T).toArray 33 (0, 0)) ∧ H[w8.heap.size]? = some (.cells (fdV x).toArray 99 (0, 0))) [2, 7] [0, 1, 5, 6, 2, 3, 4, 7] mixed (by kernel_rfl) (⟨hp10, hg10⟩) ?_
      refine Sx.calm rfl rfl (Cm.field fld99_0 rfl) rfl ?_
      refine Sx.calm rfl rfl (Cm.load sca97 rfl (fun H hH => cellF hH.2 rfl)) rfl ?_
      refine Sx.calm rfl rfl (Cm.field fld99_1 rfl) rfl ?_
      refine Sx.calm rfl rfl (Cm.load sca3 rfl (fun H hH => cellF hH.2 rfl)) rfl ?_
      refine Sx.eff rfl rfl (Sl.callV hfn rfl rfl (hcall W.heap.size _) rfl ?_)
      rintro _ w9b ⟨rfl, hw9⟩
      subst w9b
      refine Sx.on (by exact ⟨hp10, hg10⟩) ?_
      refine Sx.calm rfl rfl (Cm.nilCheck rfl) rfl ?_
      refine Sx.calm rfl rfl (Cm.load sca3 rfl (fun H hH => cellF0 hH.1 (inoC_get F T ho10))) rfl ?_
      refine Sx.eff rfl rfl (Sl.call fn43 rfl (num_ok _ w2.heap.size _ _ (F x.o) x.b _ hP10 (fun k hk => ⟨⟨by have : w10.heap.size ≤ k := hk; omega, .inr (by have : w10.heap.size ≤ k := hk; omega)⟩, .inr hk⟩) (by omega)) rfl ?_)
      rintro _ w11 ⟨hP11, hf11⟩
      refine Sx.last rfl ?_
      refine Sx.nil ?_
      refine At.block_normal ?_
      refine At.weak [(1, _), (4, _), (6, _), (17, _), (18, _), (19, _), (20, _)] ⟨rfl, rfl, rfl, rfl, rfl, rfl, rfl, trivial⟩ ?_
      refine At.go ?_
      refine Sc.region ?_
      refine Sl.calm (Cm.add64 rfl rfl (by omega)) rfl ?_
      refine Sl.calm (Cm.move rfl) rfl ?_
      refine Sl.nil ?_
      refine At.again (k + 1) ⟨rfl, rfl, rfl, rfl, rfl, trivial⟩ ?_ (by show (recL (F 0)).length - (k + 1) < (recL (F 0)).length - k; omega)
      have hf11 := hf11.undraw
      have hs11 := hf11.size
      exact ⟨by omega, by rw [rSt_succ F k hkL, ← hx]; exact hP11.mono (fun q hq => hq.1), (hL.grow hF10).keep hf11 (fun a ha h => by have := hne4 a ha; have := h.1.2; omega), hf11.obj hp10 (fun h => by have := h.1.1; omega), by omega, by omega, ((hF8.trans hF10).any.trans hf11).fresh (fun k hk => by have := hk.1.1; omega)⟩
    ·
      refine Sl.nil ?_
      refine At.go ?_
      refine Sc.seq ?_
      refine Sc.cond_f rfl ?_
      refine Sc.exit ?_
      refine At.then_exit ?_
      refine At.then_exit ?_
      refine At.block_hit ?_
      refine At.go ?_
      refine Sc.seq ?_
      refine Sc.seq ?_
      refine Sc.region ?_
      refine Sl.calm (Cm.field fld33_0 rfl) rfl ?_
      have hkk : k = (recL (F 0)).length := by omega
      subst hkk
      have z := hlen _ (Nat.le_refl _)
      have z3 := sum_le F (recL (F 0)).length
      refine Sl.calm (Cm.ld sca3 rfl (cellF hp8 rfl)) rfl ?_
      refine Sl.fork (Cm.eql rfl rfl) rfl (fun h34 => ?_) (fun h34 => ?_)
      ·
        refine Sl.nil ?_
        refine At.weak [(1, _), (4, _), (17, _), (18, _), (19, _), (20, _), (34, _)] ⟨rfl, rfl, rfl, rfl, rfl, rfl, rfl, trivial⟩ ?_
        refine At.go ?_
        refine Sc.cond_t rfl ?_
        refine Sc.region ?_
        refine Sl.calm (Cm.field fld33_10 rfl) rfl ?_
        refine Sl.calm (Cm.ld sca9 rfl (cellF hp8 rfl)) rfl ?_
        refine Sl.call fn48 rfl (wtext_ok _ w2.heap.size _ _ T w8 hP8 (fun k hk => ⟨by omega, .inr (by omega)⟩) (by omega)) rfl ?_
        rintro _ w12 ⟨hP12, hf12⟩
        have hm3 := hm.1
        unfold mayA at hm3
        have hz := txtS_good (s := rSt F (recL (F 0)).length) (t := T) z.1 (by omega)
        have hz2 : (txtX (rSt F (recL (F 0)).length).1 (rSt F (recL (F 0)).length).2 T).length = _ := hz.2
        have hF12 : Foot nob W w12 := (hF8.any.trans hf12).fresh (fun k hk => by have := hk.1; omega)
        refine Sl.nil ?_
        refine At.weak [(1, _), (4, _), (17, _), (18, _), (19, _), (20, _), (34, _)] ⟨rfl, rfl, rfl, rfl, rfl, rfl, rfl, trivial⟩ ?_
        refine At.go ?_
        refine Sc.seq ?_
        refine Sc.region ?_
        refine Sl.call fn44 rfl (wdone_ok _ w2.heap.size _ _ w12 hP12 (by omega)) rfl ?_
        rintro _ w13 ⟨ao13, c13, rfl, ho13, hfr13, hf13⟩
        refine Sl.calm (Cm.field fld87_0 rfl) rfl ?_
        refine Sl.call fn45 rfl (err_ok _ w2.heap.size _ _ w13 (hP12.grow hf13)) rfl ?_
        rintro _ w14 ⟨rfl, hw14⟩
        subst w14
        refine Sl.calm (Cm.assign rfl) rfl ?_
        refine Sl.calm (Cm.assign rfl) rfl ?_
        refine Sl.nil ?_
        refine At.weak [(1, _), (2, _), (3, _), (4, _), (17, _), (18, _), (19, _), (20, _), (34, _)] ⟨rfl, rfl, rfl, rfl, rfl, rfl, rfl, rfl, rfl, trivial⟩ ?_
        refine At.go ?_
        refine Sc.ret ?_
        refine At.ret2 rfl rfl rfl ?_
        have eE : rEnd F T = txtS (rSt F (recL (F 0)).length) T := by unfold rEnd; rw [if_pos h34]
        have e : putI F T = (doneX (txtE (rSt F (recL (F 0)).length).1 T) (txtX (rSt F (recL (F 0)).length).1 (rSt F (recL (F 0)).length).2 T), txtE (rSt F (recL (F 0)).length).1 T) := by
          have e0 : txtE (rSt F (recL (F 0)).length).1 T = 0 := hz.1
          unfold putI doneX; rw [if_pos hm, eE, e0, if_neg (by omega)]; rfl
        rw [e]
        exact ⟨_, rfl, ao13, c13, rfl, ho13, hfr13.mono hF12.size, hF12.trans hf13⟩
      ·
        refine Sl.nil ?_
        refine At.weak [(1, _), (4, _), (17, _), (18, _), (19, _), (20, _), (34, _)] ⟨rfl, rfl, rfl, rfl, rfl, rfl, rfl, trivial⟩ ?_
        refine At.go ?_
        refine Sc.cond_f rfl ?_
        refine Sc.skip ?_
        refine At.go ?_
        refine Sc.seq ?_
        refine Sc.region ?_
        refine Sl.call fn44 rfl (wdone_ok _ w2.heap.size _ _ w8 hP8 (by omega)) rfl ?_
        rintro _ w13 ⟨ao13, c13, rfl, ho13, hfr13, hf13⟩
        refine Sl.calm (Cm.field fld87_0 rfl) rfl ?_
        refine Sl.call fn45 rfl (err_ok _ w2.heap.size _ _ w13 (hP8.grow hf13)) rfl ?_
        rintro _ w14 ⟨rfl, hw14⟩
        subst w14
        refine Sl.calm (Cm.assign rfl) rfl ?_
        refine Sl.calm (Cm.assign rfl) rfl ?_
        refine Sl.nil ?_
        refine At.weak [(1, _), (2, _), (3, _), (4, _), (17, _), (18, _), (19, _), (20, _), (34, _)] ⟨rfl, rfl, rfl, rfl, rfl, rfl, rfl, rfl, rfl, trivial⟩ ?_
        refine At.go ?_
        refine Sc.ret ?_
        refine At.ret2 rfl rfl rfl ?_
        have eE : rEnd F T = rSt F (recL (F 0)).length := by unfold rEnd; rw [if_neg h34]
        have e : putI F T = (doneX (rSt F (recL (F 0)).length).1 (rSt F (recL (F 0)).length).2, (rSt F (recL (F 0)).length).1) := by
          unfold putI doneX; rw [if_pos hm, eE, z.1, if_neg (by omega)]
        rw [e]
        exact ⟨_, rfl, ao13, c13, rfl, ho13, hfr13.mono hF8.size, hF8.trans hf13⟩

set_option maxHeartbeats 2000000 in
theorem rput_ok (F : Nat → Int) (T : List UInt8) (W : World) (hT : T.length ≤ maxLen) :
    Calls Try.prog 22 [.agg (inoC F T).toArray].toArray W (Ret (PutP W (putI F T))) := by
  refine calls_of_sc 59 [(0, _)] Try.func22 rfl rfl rfl (enter_slots ⟨rfl, trivial⟩) ?_
  refine Sc.seq ?_
  refine Sc.region ?_
  refine Sl.box rfl rfl ?_
  intro w1 hg1 hs1 hf1
  have hg1 : w1.heap[W.heap.size]? = some (.cells (inoC F T).toArray 33 (0, 0)) := hg1
  refine Sl.calm (Cm.assign rfl) rfl ?_
  refine Sl.calm (Cm.assign rfl) rfl ?_
  refine Sl.nil ?_
  refine At.go ?_
  refine Sc.seq ?_
  refine Sc.region ?_
  refine Sl.calm (Cm.ldM (cs := inoC F T) agg33 rfl (fun j v hj => cellF hg1 hj)) rfl ?_
  refine Sl.call fn24 rfl (rmay_ok F T w1 hT) rfl ?_
  rintro _ w2 ⟨rfl, hf2⟩
  refine Sl.calm (Cm.assign rfl) rfl ?_
  refine Sl.nil ?_
  refine At.weak [(0, _), (1, _), (2, _), (3, _), (4, _)] ⟨rfl, rfl, rfl, rfl, rfl, trivial⟩ ?_
  refine At.go ?_
  refine Sc.seq ?_
  refine Sc.seq ?_
  refine Sc.region ?_
  refine Sl.calm (Cm.move rfl) rfl ?_
  refine Sl.fork (Cm.notB rfl) rfl (fun h9 => ?_) (fun h9 => ?_)
  ·
    have hm : ¬ mayI F T := of_decide_eq_false h9
    refine Sl.nil ?_
    refine At.weak [(0, _), (1, _), (2, _), (3, _), (4, _), (9, _)] ⟨rfl, rfl, rfl, rfl, rfl, rfl, trivial⟩ ?_
    refine At.go ?_
    refine Sc.cond_t rfl ?_
    refine Sc.seq ?_
    refine Sc.region ?_
    refine Sl.calm (Cm.assign rfl) rfl ?_
    refine Sl.calm (Cm.assign rfl) rfl ?_
    refine Sl.nil ?_
    refine At.go ?_
    refine Sc.ret ?_
    refine At.then_ret ?_
    refine At.ret2 rfl rfl rfl ?_
    have e : putI F T = ([], 1) := by unfold putI; rw [if_neg hm]
    rw [e]
    exact ⟨_, rfl, none, 0, rfl, Own.nil, Fr.none, hf1.trans hf2⟩
  ·
    have hm : mayI F T := Classical.byContradiction fun h => h9 (decide_eq_false h)
    have hpw2 := hf2.obj hg1 id
    have hF2 := hf1.trans hf2
    have hE := rEnd_good hm
    have hkind := may_kind hm
    refine Sl.nil ?_
    refine At.weak [(0, _), (1, _), (2, _), (3, _), (4, _), (9, _)] ⟨rfl, rfl, rfl, rfl, rfl, rfl, trivial⟩ ?_
    refine At.go ?_
    refine Sc.cond_f rfl ?_
    refine Sc.skip ?_
    refine At.go ?_
    refine Sc.seq ?_
    refine Sc.region ?_
    refine Sl.calm (Cm.build plc91 zc91 rfl rfl) rfl ?_
    refine Sl.allocC zc91 rfl ?_
    intro w3 hg3 hs3 hf3
    refine Sl.storeAll (vs := [.slice none 0 0, .int .i64 0]) agg91 rfl rfl (by simp [Value.oneCell']) hg3 rfl ?_
    intro v0 hgv hsv hfv
    have hV0 : Foot nob w2 v0 := hf3.trans_to hfv (fun k hk => .inr (by have : k = w2.heap.size := hk; omega))
    have hp0 := hV0.obj hpw2 id
    obtain ⟨s0, hs0⟩ : ∃ s : Int × List UInt8, s = (0, []) := ⟨_, rfl⟩
    have hQ0 : WrR (fun k => w2.heap.size ≤ k) v0.heap w2.heap.size s0.1 s0.2 := by rw [hs0]; exact WrO.zeroR hgv (Nat.le_refl _)
    have hl0 : s0.2.length = 0 := by rw [hs0]; rfl
    refine Sl.nil ?_
    refine At.weak [(0, _), (1, _), (2, _), (3, _), (4, _), (5, _), (9, _)] ⟨rfl, rfl, rfl, rfl, rfl, rfl, rfl, trivial⟩ ?_
    refine At.go ?_
    refine Sc.seq ?_
    refine Sc.region ?_
    refine Sl.calm (Cm.field fld33_0 rfl) rfl ?_
    refine Sl.calm (Cm.ld sca3 rfl (cellF hp0 rfl)) rfl ?_
    refine Sl.call fn46 rfl (rnum_ok _ w2.heap.size _ _ (F 0) 1 v0 hQ0 (hf_lt hV0 (fun k hk => hk)) (by omega)) rfl ?_
    rintro _ v1 ⟨hQ, hv1⟩
    obtain ⟨s1, hs1⟩ : ∃ s, s = putNum 1 s0 (F 0) := ⟨_, rfl⟩
    have hQ1 : WrR (fun k => w2.heap.size ≤ k) v1.heap w2.heap.size s1.1 s1.2 := by rw [hs1]; exact hQ
    have hl1 : s1.2.length ≤ s0.2.length + 4 := by rw [hs1]; exact numX_le _ _ _ _
    have hV1 : Foot nob w2 v1 := (hV0.any.trans hv1).fresh (fun k hk => hk)
    have hp1 := hV1.obj hpw2 id
    refine Sl.nil ?_
    refine At.weak [(0, _), (1, _), (2, _), (3, _), (4, _), (5, _), (9, _)] ⟨rfl, rfl, rfl, rfl, rfl, rfl, rfl, trivial⟩ ?_
    refine At.go ?_
    refine Sc.seq ?_
    refine Sc.region ?_
    refine Sl.calm (Cm.field fld33_1 rfl) rfl ?_
    refine Sl.calm (Cm.ld sca3 rfl (cellF hp1 rfl)) rfl ?_
    refine Sl.call fn46 rfl (rnum_ok _ w2.heap.size _ _ (F 1) 2 v1 hQ1 (hf_lt hV1 (fun k hk => hk)) (by omega)) rfl ?_
    rintro _ v2 ⟨hQ, hv2⟩
    obtain ⟨s2, hs2⟩ : ∃ s, s = putNum 2 s1 (F 1) := ⟨_, rfl⟩
    have hQ2 : WrR (fun k => w2.heap.size ≤ k) v2.heap w2.heap.size s2.1 s2.2 := by rw [hs2]; exact hQ
    have hl2 : s2.2.length ≤ s1.2.length + 4 := by rw [hs2]; exact numX_le _ _ _ _
    have hV2 : Foot nob w2 v2 := (hV1.any.trans hv2).fresh (fun k hk => hk)
    have hp2 := hV2.obj hpw2 id
    refine Sl.nil ?_
    refine At.weak [(0, _), (1, _), (2, _), (3, _), (4, _), (5, _), (9, _)] ⟨rfl, rfl, rfl, rfl, rfl, rfl, rfl, trivial⟩ ?_
    refine At.go ?_
    refine Sc.seq ?_
    refine Sc.region ?_
    refine Sl.calm (Cm.field fld33_2 rfl) rfl ?_
    refine Sl.calm (Cm.ld sca3 rfl (cellF hp2 rfl)) rfl ?_
    refine Sl.call fn46 rfl (rnum_ok _ w2.heap.size _ _ (F 2) 2 v2 hQ2 (hf_lt hV2 (fun k hk => hk)) (by omega)) rfl ?_
    rintro _ v3 ⟨hQ, hv3⟩
    obtain ⟨s3, hs3⟩ : ∃ s, s = putNum 2 s2 (F 2) := ⟨_, rfl⟩
    have hQ3 : WrR (fun k => w2.heap.size ≤ k) v3.heap w2.heap.size s3.1 s3.2 := by rw [hs3]; exact hQ
    have hl3 : s3.2.length ≤ s2.2.length + 4 := by rw [hs3]; exact numX_le _ _ _ _
    have hV3 : Foot nob w2 v3 := (hV2.any.trans hv3).fresh (fun k hk => hk)
    have hp3 := hV3.obj hpw2 id
    refine Sl.nil ?_
    refine At.weak [(0, _), (1, _), (2, _), (3, _), (4, _), (5, _), (9, _)] ⟨rfl, rfl, rfl, rfl, rfl, rfl, rfl, trivial⟩ ?_
    refine At.go ?_
    refine Sc.seq ?_
    refine Sc.region ?_
    refine Sl.calm (Cm.field fld33_3 rfl) rfl ?_
    refine Sl.calm (Cm.ld sca3 rfl (cellF hp3 rfl)) rfl ?_
    refine Sl.call fn46 rfl (rnum_ok _ w2.heap.size _ _ (F 3) 2 v3 hQ3 (hf_lt hV3 (fun k hk => hk)) (by omega)) rfl ?_
    rintro _ v4 ⟨hQ, hv4⟩
    obtain ⟨s4, hs4⟩ : ∃ s, s = putNum 2 s3 (F 3) := ⟨_, rfl⟩
    have hQ4 : WrR (fun k => w2.heap.size ≤ k) v4.heap w2.heap.size s4.1 s4.2 := by rw [hs4]; exact hQ
    have hl4 : s4.2.length ≤ s3.2.length + 4 := by rw [hs4]; exact numX_le _ _ _ _
    have hV4 : Foot nob w2 v4 := (hV3.any.trans hv4).fresh (fun k hk => hk)
    have hp4 := hV4.obj hpw2 id
    refine Sl.nil ?_
    refine At.weak [(0, _), (1, _), (2, _), (3, _), (4, _), (5, _), (9, _)] ⟨rfl, rfl, rfl, rfl, rfl, rfl, rfl, trivial⟩ ?_
    refine At.go ?_
    refine Sc.seq ?_
    refine Sc.region ?_
    refine Sl.calm (Cm.field fld33_4 rfl) rfl ?_
    refine Sl.calm (Cm.ld sca3 rfl (cellF hp4 rfl)) rfl ?_
    refine Sl.call fn46 rfl (rnum_ok _ w2.heap.size _ _ (F 4) 2 v4 hQ4 (hf_lt hV4 (fun k hk => hk)) (by omega)) rfl ?_
    rintro _ v5 ⟨hQ, hv5⟩
    obtain ⟨s5, hs5⟩ : ∃ s, s = putNum 2 s4 (F 4) := ⟨_, rfl⟩
    have hQ5 : WrR (fun k => w2.heap.size ≤ k) v5.heap w2.heap.size s5.1 s5.2 := by rw [hs5]; exact hQ
    have hl5 : s5.2.length ≤ s4.2.length + 4 := by rw [hs5]; exact numX_le _ _ _ _
    have hV5 : Foot nob w2 v5 := (hV4.any.trans hv5).fresh (fun k hk => hk)
    have hp5 := hV5.obj hpw2 id
    refine Sl.nil ?_
    refine At.weak [(0, _), (1, _), (2, _), (3, _), (4, _), (5, _), (9, _)] ⟨rfl, rfl, rfl, rfl, rfl, rfl, rfl, trivial⟩ ?_
    refine At.go ?_
    refine Sc.seq ?_
    refine Sc.region ?_
    refine Sl.calm (Cm.field fld33_5 rfl) rfl ?_
    refine Sl.calm (Cm.ld sca3 rfl (cellF hp5 rfl)) rfl ?_
    refine Sl.call fn46 rfl (rnum_ok _ w2.heap.size _ _ (F 5) 4 v5 hQ5 (hf_lt hV5 (fun k hk => hk)) (by omega)) rfl ?_
    rintro _ v6 ⟨hQ, hv6⟩
    obtain ⟨s6, hs6⟩ : ∃ s, s = putNum 4 s5 (F 5) := ⟨_, rfl⟩
    have hQ6 : WrR (fun k => w2.heap.size ≤ k) v6.heap w2.heap.size s6.1 s6.2 := by rw [hs6]; exact hQ
    have hl6 : s6.2.length ≤ s5.2.length + 4 := by rw [hs6]; exact numX_le _ _ _ _
    have hV6 : Foot nob w2 v6 := (hV5.any.trans hv6).fresh (fun k hk => hk)
    have hp6 := hV6.obj hpw2 id
    refine Sl.nil ?_
    refine At.weak [(0, _), (1, _), (2, _), (3, _), (4, _), (5, _), (9, _)] ⟨rfl, rfl, rfl, rfl, rfl, rfl, rfl, trivial⟩ ?_
    refine At.go ?_
    refine Sc.seq ?_
    refine Sc.seq ?_
    refine Sc.region ?_
    refine Sl.calm (Cm.field fld33_0 rfl) rfl ?_
    refine Sl.calm (Cm.ld sca3 rfl (cellF hp6 rfl)) rfl ?_
    refine Sl.nil ?_
    refine At.weak [(0, _), (1, _), (2, _), (3, _), (4, _), (5, _), (9, _), (30, _)] ⟨rfl, rfl, rfl, rfl, rfl, rfl, rfl, rfl, trivial⟩ ?_
    refine At.go ?_
    refine Sc.block ?_
    refine Sc.seq ?_
    refine Sc.region ?_
    refine Sl.fork (Cm.eql rfl rfl) rfl (fun h32 => ?_) (fun h32 => ?_)
    ·
      refine Sl.calm (Cm.assign rfl) rfl ?_
      refine Sl.nil ?_
      refine At.weak [(0, _), (1, _), (2, _), (3, _), (4, _), (5, _), (9, _), (30, _), (31, _)] ⟨rfl, rfl, rfl, rfl, rfl, rfl, rfl, rfl, rfl, trivial⟩ ?_
      refine At.go ?_
      refine Sc.cond_t rfl ?_
      refine Sc.seq ?_
      refine Sc.region ?_
      refine Sl.calm (Cm.field fld33_6 rfl) rfl ?_
      refine Sl.calm (Cm.ld sca3 rfl (cellF hp6 rfl)) rfl ?_
      refine Sl.call fn46 rfl (rnum_ok _ w2.heap.size _ _ (F 6) 4 v6 hQ6 (hf_lt hV6 (fun k hk => hk)) (by omega)) rfl ?_
      rintro _ v7 ⟨hQ, hv7⟩
      obtain ⟨s7, hs7⟩ : ∃ s, s = putNum 4 s6 (F 6) := ⟨_, rfl⟩
      have hQ7 : WrR (fun k => w2.heap.size ≤ k) v7.heap w2.heap.size s7.1 s7.2 := by rw [hs7]; exact hQ
      have hl7 : s7.2.length ≤ s6.2.length + 4 := by rw [hs7]; exact numX_le _ _ _ _
      have hV7 : Foot nob w2 v7 := (hV6.any.trans hv7).fresh (fun k hk => hk)
      have hp7 := hV7.obj hpw2 id
      refine Sl.nil ?_
      refine At.weak [(0, _), (1, _), (2, _), (3, _), (4, _), (5, _), (9, _), (30, _), (31, _)] ⟨rfl, rfl, rfl, rfl, rfl, rfl, rfl, rfl, rfl, trivial⟩ ?_
      refine At.go ?_
      refine Sc.seq ?_
      refine Sc.region ?_
      refine Sl.calm (Cm.field fld33_7 rfl) rfl ?_
      refine Sl.calm (Cm.ld sca3 rfl (cellF hp7 rfl)) rfl ?_
      refine Sl.call fn46 rfl (rnum_ok _ w2.heap.size _ _ (F 7) 2 v7 hQ7 (hf_lt hV7 (fun k hk => hk)) (by omega)) rfl ?_
      rintro _ v8 ⟨hQ, hv8⟩
      obtain ⟨s8, hs8⟩ : ∃ s, s = putNum 2 s7 (F 7) := ⟨_, rfl⟩
      have hQ8 : WrR (fun k => w2.heap.size ≤ k) v8.heap w2.heap.size s8.1 s8.2 := by rw [hs8]; exact hQ
      have hl8 : s8.2.length ≤ s7.2.length + 4 := by rw [hs8]; exact numX_le _ _ _ _
      have hV8 : Foot nob w2 v8 := (hV7.any.trans hv8).fresh (fun k hk => hk)
      have hp8 := hV8.obj hpw2 id
      refine Sl.nil ?_
      refine At.weak [(0, _), (1, _), (2, _), (3, _), (4, _), (5, _), (9, _), (30, _), (31, _)] ⟨rfl, rfl, rfl, rfl, rfl, rfl, rfl, rfl, rfl, trivial⟩ ?_
      refine At.go ?_
      refine Sc.seq ?_
      refine Sc.region ?_
      refine Sl.calm (Cm.field fld33_8 rfl) rfl ?_
      refine Sl.calm (Cm.ld sca3 rfl (cellF hp8 rfl)) rfl ?_
      refine Sl.call fn46 rfl (rnum_ok _ w2.heap.size _ _ (F 8) 2 v8 hQ8 (hf_lt hV8 (fun k hk => hk)) (by omega)) rfl ?_
      rintro _ v9 ⟨hQ, hv9⟩
      obtain ⟨s9, hs9⟩ : ∃ s, s = putNum 2 s8 (F 8) := ⟨_, rfl⟩
      have hQ9 : WrR (fun k => w2.heap.size ≤ k) v9.heap w2.heap.size s9.1 s9.2 := by rw [hs9]; exact hQ
      have hl9 : s9.2.length ≤ s8.2.length + 4 := by rw [hs9]; exact numX_le _ _ _ _
      have hV9 : Foot nob w2 v9 := (hV8.any.trans hv9).fresh (fun k hk => hk)
      have hp9 := hV9.obj hpw2 id
      refine Sl.nil ?_
      refine At.weak [(0, _), (1, _), (2, _), (3, _), (4, _), (5, _), (9, _), (30, _), (31, _)] ⟨rfl, rfl, rfl, rfl, rfl, rfl, rfl, rfl, rfl, trivial⟩ ?_
      refine At.go ?_
      refine Sc.region ?_
      refine Sl.calm (Cm.field fld33_9 rfl) rfl ?_
      refine Sl.calm (Cm.ld sca3 rfl (cellF hp9 rfl)) rfl ?_
      refine Sl.call fn46 rfl (rnum_ok _ w2.heap.size _ _ (F 9) 1 v9 hQ9 (hf_lt hV9 (fun k hk => hk)) (by omega)) rfl ?_
      rintro _ v10 ⟨hQ, hv10⟩
      obtain ⟨s10, hs10⟩ : ∃ s, s = putNum 1 s9 (F 9) := ⟨_, rfl⟩
      have hQ10 : WrR (fun k => w2.heap.size ≤ k) v10.heap w2.heap.size s10.1 s10.2 := by rw [hs10]; exact hQ
      have hl10 : s10.2.length ≤ s9.2.length + 4 := by rw [hs10]; exact numX_le _ _ _ _
      have hV10 : Foot nob w2 v10 := (hV9.any.trans hv10).fresh (fun k hk => hk)
      have hp10 := hV10.obj hpw2 id
      refine Sl.nil ?_
      refine At.block_normal ?_
      refine At.weak [(0, _), (1, _), (2, _), (3, _), (4, _), (5, _), (9, _), (30, _), (31, _)] ⟨rfl, rfl, rfl, rfl, rfl, rfl, rfl, rfl, rfl, trivial⟩ ?_
      refine At.go ?_
      refine Sc.seq ?_
      refine Sc.region ?_
      refine Sl.call fn47 rfl (rdone_ok _ w2.heap.size _ _ v10 hQ10 (by omega)) rfl ?_
      rintro _ w13 ⟨ao13, c13, rfl, ho13, hfr13, hf13⟩
      refine Sl.calm (Cm.assign rfl) rfl ?_
      refine Sl.calm (Cm.assign rfl) rfl ?_
      refine Sl.nil ?_
      refine At.weak [(0, _), (1, _), (2, _), (3, _), (4, _), (5, _), (9, _), (30, _), (31, _)] ⟨rfl, rfl, rfl, rfl, rfl, rfl, rfl, rfl, rfl, trivial⟩ ?_
      refine At.go ?_
      refine Sc.ret ?_
      refine At.ret2 rfl rfl rfl ?_
      have eE : rEnd F T = s10 := by
        unfold rEnd rSt recL fldL
        rw [if_neg (by omega), if_pos (by omega)]
        simp only [comL, filL, List.cons_append, List.nil_append, List.length_cons, List.length_nil, List.take, List.foldl, putF, hs10, hs9, hs8, hs7, hs6, hs5, hs4, hs3, hs2, hs1, hs0]
      have e : putI F T = (doneX (rEnd F T).1 (rEnd F T).2, 0) := by unfold putI doneX; rw [if_pos hm, hE, if_neg (by omega)]
      rw [e, eE]
      exact ⟨_, rfl, ao13, c13, rfl, ho13, hfr13.mono (hF2.trans hV10).size, (hF2.trans hV10).trans hf13⟩
    ·
      refine Sl.calm (Cm.assign rfl) rfl ?_
      refine Sl.nil ?_
      refine At.weak [(0, _), (1, _), (2, _), (3, _), (4, _), (5, _), (9, _), (30, _), (31, _)] ⟨rfl, rfl, rfl, rfl, rfl, rfl, rfl, rfl, rfl, trivial⟩ ?_
      refine At.go ?_
      refine Sc.cond_f rfl ?_
      refine Sc.seq ?_
      refine Sc.region ?_
      refine Sl.fork (Cm.eql rfl rfl) rfl (fun h46 => ?_) (fun h46 => ?_)
      ·
        refine Sl.calm (Cm.assign rfl) rfl ?_
        refine Sl.nil ?_
        refine At.weak [(0, _), (1, _), (2, _), (3, _), (4, _), (5, _), (9, _), (30, _), (31, _), (45, _)] ⟨rfl, rfl, rfl, rfl, rfl, rfl, rfl, rfl, rfl, rfl, trivial⟩ ?_
        refine At.go ?_
        refine Sc.cond_t rfl ?_
        refine Sc.seq ?_
        refine Sc.region ?_
        refine Sl.calm (Cm.field fld33_6 rfl) rfl ?_
        refine Sl.calm (Cm.ld sca3 rfl (cellF hp6 rfl)) rfl ?_
        refine Sl.call fn46 rfl (rnum_ok _ w2.heap.size _ _ (F 6) 4 v6 hQ6 (hf_lt hV6 (fun k hk => hk)) (by omega)) rfl ?_
        rintro _ v7 ⟨hQ, hv7⟩
        obtain ⟨s7, hs7⟩ : ∃ s, s = putNum 4 s6 (F 6) := ⟨_, rfl⟩
        have hQ7 : WrR (fun k => w2.heap.size ≤ k) v7.heap w2.heap.size s7.1 s7.2 := by rw [hs7]; exact hQ
        have hl7 : s7.2.length ≤ s6.2.length + 4 := by rw [hs7]; exact numX_le _ _ _ _
        have hV7 : Foot nob w2 v7 := (hV6.any.trans hv7).fresh (fun k hk => hk)
        have hp7 := hV7.obj hpw2 id
        refine Sl.nil ?_
        refine At.weak [(0, _), (1, _), (2, _), (3, _), (4, _), (5, _), (9, _), (30, _), (31, _), (45, _)] ⟨rfl, rfl, rfl, rfl, rfl, rfl, rfl, rfl, rfl, rfl, trivial⟩ ?_
        refine At.go ?_
        refine Sc.region ?_
        refine Sl.calm (Cm.field fld33_7 rfl) rfl ?_
        refine Sl.calm (Cm.ld sca3 rfl (cellF hp7 rfl)) rfl ?_
        refine Sl.call fn46 rfl (rnum_ok _ w2.heap.size _ _ (F 7) 4 v7 hQ7 (hf_lt hV7 (fun k hk => hk)) (by omega)) rfl ?_
        rintro _ v8 ⟨hQ, hv8⟩
        obtain ⟨s8, hs8⟩ : ∃ s, s = putNum 4 s7 (F 7) := ⟨_, rfl⟩
        have hQ8 : WrR (fun k => w2.heap.size ≤ k) v8.heap w2.heap.size s8.1 s8.2 := by rw [hs8]; exact hQ
        have hl8 : s8.2.length ≤ s7.2.length + 4 := by rw [hs8]; exact numX_le _ _ _ _
        have hV8 : Foot nob w2 v8 := (hV7.any.trans hv8).fresh (fun k hk => hk)
        have hp8 := hV8.obj hpw2 id
        refine Sl.nil ?_
        refine At.block_normal ?_
        refine At.weak [(0, _), (1, _), (2, _), (3, _), (4, _), (5, _), (9, _), (30, _), (31, _), (45, _)] ⟨rfl, rfl, rfl, rfl, rfl, rfl, rfl, rfl, rfl, rfl, trivial⟩ ?_
        refine At.go ?_
        refine Sc.seq ?_
        refine Sc.region ?_
        refine Sl.call fn47 rfl (rdone_ok _ w2.heap.size _ _ v8 hQ8 (by omega)) rfl ?_
        rintro _ w13 ⟨ao13, c13, rfl, ho13, hfr13, hf13⟩
        refine Sl.calm (Cm.assign rfl) rfl ?_
        refine Sl.calm (Cm.assign rfl) rfl ?_
        refine Sl.nil ?_
        refine At.weak [(0, _), (1, _), (2, _), (3, _), (4, _), (5, _), (9, _), (30, _), (31, _), (45, _)] ⟨rfl, rfl, rfl, rfl, rfl, rfl, rfl, rfl, rfl, rfl, trivial⟩ ?_
        refine At.go ?_
        refine Sc.ret ?_
        refine At.ret2 rfl rfl rfl ?_
        have eE : rEnd F T = s8 := by
          unfold rEnd rSt recL fldL
          rw [if_neg (by omega), if_neg (by omega), if_pos (by omega)]
          simp only [comL, dirL, List.cons_append, List.nil_append, List.length_cons, List.length_nil, List.take, List.foldl, putF, hs8, hs7, hs6, hs5, hs4, hs3, hs2, hs1, hs0]
        have e : putI F T = (doneX (rEnd F T).1 (rEnd F T).2, 0) := by unfold putI doneX; rw [if_pos hm, hE, if_neg (by omega)]
        rw [e, eE]
        exact ⟨_, rfl, ao13, c13, rfl, ho13, hfr13.mono (hF2.trans hV8).size, (hF2.trans hV8).trans hf13⟩
      ·
        refine Sl.calm (Cm.assign rfl) rfl ?_
        refine Sl.nil ?_
        refine At.weak [(0, _), (1, _), (2, _), (3, _), (4, _), (5, _), (9, _), (30, _), (31, _), (45, _)] ⟨rfl, rfl, rfl, rfl, rfl, rfl, rfl, rfl, rfl, rfl, trivial⟩ ?_
        refine At.go ?_
        refine Sc.cond_f rfl ?_
        refine Sc.seq ?_
        refine Sc.region ?_
        refine Sl.fork (Cm.eql rfl rfl) rfl (fun h54 => ?_) (fun h54 => ?_)
        ·
          refine Sl.calm (Cm.assign rfl) rfl ?_
          refine Sl.nil ?_
          refine At.weak [(0, _), (1, _), (2, _), (3, _), (4, _), (5, _), (9, _), (30, _), (31, _), (45, _), (53, _)] ⟨rfl, rfl, rfl, rfl, rfl, rfl, rfl, rfl, rfl, rfl, rfl, trivial⟩ ?_
          refine At.go ?_
          refine Sc.cond_t rfl ?_
          refine Sc.region ?_
          refine Sl.calm (Cm.field fld33_10 rfl) rfl ?_
          refine Sl.calm (Cm.ld sca9 rfl (cellF hp6 rfl)) rfl ?_
          refine Sl.call fn50 rfl (rtext_ok _ w2.heap.size _ _ T v6 hQ6 (hf_lt hV6 (fun k hk => hk)) (by omega) (by have h9 := hm.1; unfold mayA at h9; omega)) rfl ?_
          rintro _ v7 ⟨hQ7, hv7⟩
          have hV7 : Foot nob w2 v7 := (hV6.any.trans hv7).fresh (fun k hk => hk)
          have hl7 : (txtX s6.1 s6.2 T).length ≤ s6.2.length + 1 + T.length := by
            unfold txtX; split
            · omega
            · simp only [List.length_append, List.length_cons]; omega
          have hTl : T.length ≤ 200 := by have h9 := hm.1; unfold mayA at h9; omega
          refine Sl.nil ?_
          refine At.block_normal ?_
          refine At.weak [(0, _), (1, _), (2, _), (3, _), (4, _), (5, _), (9, _), (30, _), (31, _), (45, _), (53, _)] ⟨rfl, rfl, rfl, rfl, rfl, rfl, rfl, rfl, rfl, rfl, rfl, trivial⟩ ?_
          refine At.go ?_
          refine Sc.seq ?_
          refine Sc.region ?_
          refine Sl.call fn47 rfl (rdone_ok _ w2.heap.size _ _ v7 hQ7 (by omega)) rfl ?_
          rintro _ w13 ⟨ao13, c13, rfl, ho13, hfr13, hf13⟩
          refine Sl.calm (Cm.assign rfl) rfl ?_
          refine Sl.calm (Cm.assign rfl) rfl ?_
          refine Sl.nil ?_
          refine At.weak [(0, _), (1, _), (2, _), (3, _), (4, _), (5, _), (9, _), (30, _), (31, _), (45, _), (53, _)] ⟨rfl, rfl, rfl, rfl, rfl, rfl, rfl, rfl, rfl, rfl, rfl, trivial⟩ ?_
          refine At.go ?_
          refine Sc.ret ?_
          refine At.ret2 rfl rfl rfl ?_
          have eE : rEnd F T = (txtE s6.1 T, txtX s6.1 s6.2 T) := by
            unfold rEnd rSt recL fldL
            rw [if_pos (by omega), if_neg (by omega), if_neg (by omega)]
            simp only [comL, List.append_nil, List.length_cons, List.length_nil, List.take, List.foldl, putF, txtS, hs6, hs5, hs4, hs3, hs2, hs1, hs0]
          have e : putI F T = (doneX (rEnd F T).1 (rEnd F T).2, 0) := by unfold putI doneX; rw [if_pos hm, hE, if_neg (by omega)]
          rw [e, eE]
          exact ⟨_, rfl, ao13, c13, rfl, ho13, hfr13.mono (hF2.trans hV7).size, (hF2.trans hV7).trans hf13⟩
        ·
          exact absurd h54 (by omega)
end Go.Proofs.Ytoaplldahbbaiaa
