/- meta: rows that are written and read, whole. No condition beyond the bounds that each states. -/
import Derived.Test.YtlpfahmkjgompaaMtE
namespace Go.Proofs.Ytlpfahmkjgompaa
open Go Go.RowKit
set_option linter.unusedVariables false

/-- the blocks that a call may have made its own -/
def Nx (A : Nat → Prop) (W w' : World) : Nat → Prop := fun k => A k ∨ (W.heap.size ≤ k ∧ k < w'.heap.size)
theorem Foot.nx {A : Nat → Prop} {W w' : World} (h : Foot (fun k => A k ∨ W.heap.size ≤ k) W w') : Foot A W w' :=
  ⟨h.os, h.tape, h.output, h.size, fun k hk hn => h.same k hk (fun h' => h'.elim hn (fun h2 => by omega))⟩
theorem MwO.tight {D : Nat → Prop} {H : Array Obj} {g p : Nat} {f t : List UInt8} (h : MwO D H g p f t) : MwO (fun k => D k ∧ k < H.size) H g p f t := by
  have hl := h.lt
  obtain ⟨fo, fc, to, tc, hg, h1, h2, h3, h4, h5, h6, h7, h8, h9, h10⟩ := h
  exact ⟨fo, fc, to, tc, hg, h1, h2, h3, h4, h5, ⟨h6, hl⟩, fun k ⟨a, ha, hb⟩ => ⟨h7 k ⟨a, ha, hb⟩, by have := h1.lt a ha; omega⟩, fun k ⟨a, ha, hb⟩ => ⟨h8 k ⟨a, ha, hb⟩, by have := h2.lt a ha; omega⟩, h9, fun h => h10 h.1⟩
theorem MwO.nx {A : Nat → Prop} {W w' : World} {g p : Nat} {f t : List UInt8} (h : MwO (fun k => A k ∨ W.heap.size ≤ k) w'.heap g p f t) : MwO (Nx A W w') w'.heap g p f t :=
  h.tight.mono (fun k hk => hk.1.elim .inl (fun h2 => .inr ⟨h2, hk.2⟩)) (fun hp => by
    obtain ⟨_, _, _, _, _, _, _, _, _, _, _, _, _, _, h10⟩ := h
    exact h10 (hp.elim .inl (fun h2 => .inr h2.1)))
theorem MwO.tab {D : Nat → Prop} {H : Array Obj} {g p : Nat} {f t : List UInt8} (h : MwO D H g p f t) : TbV H p ∧ ¬ D p := by obtain ⟨_, _, _, _, _, _, _, _, _, _, _, _, _, h9, h10⟩ := h; exact ⟨h9, h10⟩
theorem RwO.tight {D : Nat → Prop} {H : Array Obj} {g : Nat} {f t : List UInt8} (h : RwO D H g f t) : RwO (fun k => D k ∧ k < H.size) H g f t := by
  have hl := h.lt
  obtain ⟨fo, fc, to, tc, hg, h1, h2, h3, h4, h5, h6, h7, h8⟩ := h
  exact ⟨fo, fc, to, tc, hg, h1, h2, h3, h4, h5, ⟨h6, hl⟩, fun k ⟨a, ha, hb⟩ => ⟨h7 k ⟨a, ha, hb⟩, by have := h1.lt a ha; omega⟩, fun k ⟨a, ha, hb⟩ => ⟨h8 k ⟨a, ha, hb⟩, by have := h2.lt a ha; omega⟩⟩
theorem RwO.mono {D D' : Nat → Prop} {H : Array Obj} {g : Nat} {f t : List UInt8} (h : RwO D H g f t) (hd : ∀ k, D k → D' k) : RwO D' H g f t := by
  obtain ⟨fo, fc, to, tc, hg, h1, h2, h3, h4, h5, h6, h7, h8⟩ := h
  exact ⟨fo, fc, to, tc, hg, h1, h2, h3, h4, h5, hd _ h6, fun k hk => hd _ (h7 k hk), fun k hk => hd _ (h8 k hk)⟩
theorem RwO.nx {A : Nat → Prop} {W w' : World} {g : Nat} {f t : List UInt8} (h : RwO (fun k => A k ∨ W.heap.size ≤ k) w'.heap g f t) : RwO (Nx A W w') w'.heap g f t :=
  h.tight.mono (fun k hk => hk.1.elim .inl (fun h2 => .inr ⟨h2, hk.2⟩))
theorem MrO.tight {D : Nat → Prop} {H : Array Obj} {g p : Nat} {im : List UInt8} {fr to : Int} (h : MrO D H g p im fr to) : MrO (fun k => D k ∧ k < H.size) H g p im fr to := by
  have hl := h.lt
  obtain ⟨io, ic, gm, m, hg, h1, h2, h3, h4, h5, h6, h7, h8⟩ := h
  refine ⟨io, ic, gm, m, hg, h1, h2, fun a v hv => ?_, ⟨h4, hl⟩, ⟨h5, h2.obj⟩, fun k ⟨a, ha, hb⟩ => ⟨h6 k ⟨a, ha, hb⟩, by have := h1.lt a ha; omega⟩, h7, fun h => h8 h.1⟩
  obtain ⟨bo, bc, b, nx, e, k1, k2, k3⟩ := h3 a v hv
  have hb := (holdsS_some k1).2.2.2.2.2.2.1
  exact ⟨bo, bc, b, nx, e, k1, k2, fun k ⟨x, hx, hk⟩ => ⟨k3 k ⟨x, hx, hk⟩, by have := k2.lt (fun e => by rw [e] at hb; cases hb) x hx; omega⟩⟩

theorem small_W (T b : List UInt8) : (cutW [] T).1.length + 2 * ((cutW [] T).2.length + b.length) ≤ 2 * (T.length + b.length) := by
  have h := cutW_len [] T
  rw [List.length_nil, Nat.zero_add] at h
  omega
theorem maddT_ok (A : Nat → Prop) (g p : Nat) (T : List UInt8) (bo : Option Addr) (bc : Nat) (b : List UInt8) (W : World) (hM : MwO A W.heap g p (cutW [] T).1 (cutW [] T).2) (hv : Vw b8 W.heap bo bc b) (hb : T.length + b.length ≤ 274877906944) :
    Calls Try.prog 26 [.pointer (some ⟨g, 0, none⟩), .slice bo b.length bc].toArray W
      (Ret fun v w' => v = .int .i64 (refT T T.length : Nat) ∧ MwO (Nx A W w') w'.heap g p (cutW [] (T ++ b)).1 (cutW [] (T ++ b)).2 ∧ Foot A W w') := by
  obtain ⟨ht, hp⟩ := hM.tab
  have hpl := (Array.getElem?_eq_some_iff.1 ht).1
  have hs := small_W T b
  refine (madd_ok (fun k => A k ∨ W.heap.size ≤ k) g p _ _ bo bc b W (hM.mono (fun k h => .inl h) (fun h => h.elim hp (fun h => by omega))) (fun k h => .inr h) hv (by omega)).mono ?_
  rintro e w' ⟨v, rfl, rfl, h1, h2⟩
  rw [← refT_all, ← cutW_app] at *
  exact ⟨_, rfl, rfl, h1.nx, h2.nx⟩
theorem mdoneT_ok (A : Nat → Prop) (g p : Nat) (T : List UInt8) (W : World) (hM : MwO A W.heap g p (cutW [] T).1 (cutW [] T).2) (hb : T.length ≤ 274877906944) :
    Calls Try.prog 28 [.pointer (some ⟨g, 0, none⟩)].toArray W (Ret (CloneP W (frW T (nF T)))) := by
  have hs := small_W T []
  have hr := cutW_rest [] T
  have := mdone_ok A g p _ _ W hM (by rw [List.length_nil] at hs; omega) hr
  rwa [doneW_all] at this
theorem rmaddT_ok (A : Nat → Prop) (g : Nat) (T : List UInt8) (bo : Option Addr) (bc : Nat) (b : List UInt8) (W : World) (hM : RwO A W.heap g (cutW [] T).1 (cutW [] T).2) (hv : Vw b8 W.heap bo bc b) (hbA : b ≠ [] → ∀ k, blk bo k → ¬ A k) (hb : T.length + b.length ≤ 274877906944) :
    Calls Try.prog 27 [.pointer (some ⟨g, 0, none⟩), .slice bo b.length bc].toArray W
      (Ret fun v w' => v = .int .i64 (refT T T.length : Nat) ∧ RwO (Nx A W w') w'.heap g (cutW [] (T ++ b)).1 (cutW [] (T ++ b)).2 ∧ Foot A W w') := by
  have hs := small_W T b
  have hr := cutW_rest [] T
  refine (rmadd_ok (fun k => A k ∨ W.heap.size ≤ k) g _ _ bo bc b W (hM.mono (fun k h => .inl h)) (fun k h => .inr h) hv (fun hne k hk h => h.elim (hbA hne k hk) (fun h => by obtain ⟨a, ha, rfl⟩ := hk; have := hv.lt hne a ha; omega)) hr (by omega)).mono ?_
  rintro e w' ⟨v, rfl, rfl, h1, h2⟩
  rw [← refT_all, ← cutW_app] at *
  exact ⟨_, rfl, rfl, h1.nx, h2.nx⟩
theorem rmdoneT_ok (A : Nat → Prop) (g : Nat) (T : List UInt8) (W : World) (hM : RwO A W.heap g (cutW [] T).1 (cutW [] T).2) (hb : T.length ≤ 274877906944) :
    Calls Try.prog 29 [.pointer (some ⟨g, 0, none⟩)].toArray W (Ret (CloneP W (frW T (nF T)))) := by
  have hs := small_W T []
  have hr := cutW_rest [] T
  have := rmdone_ok A g _ _ W hM (by rw [List.length_nil] at hs; omega) hr
  rwa [doneW_all] at this
theorem mreadA_ok (A : Nat → Prop) (g p : Nat) (im : List UInt8) (fr to ref n : Int) (W : World) (hM : MrO A W.heap g p im fr to) (him : im.length ≤ 1099511627776) (href : -9223372036854775808 ≤ ref ∧ ref ≤ 9223372036854775807) (hn : n ≤ 1099511627776) :
    Calls Try.prog 31 [.pointer (some ⟨g, 0, none⟩), .int .i64 ref, .int .i64 n].toArray W (Ret fun v w' =>
      ∃ o c, v = .tuple #[.slice o (readS im fr to ref n).1.length c, .int .i64 (readS im fr to ref n).2.1, .int .i64 (readS im fr to ref n).2.2] ∧ Own b8 5 w'.heap o c (readS im fr to ref n).1 ∧ Fr W.heap.size o ∧ MrO (fun k => Nx A W w' k ∧ ¬ blk o k) w'.heap g p im fr to ∧ Foot A W w') := by
  obtain ⟨ht, hp⟩ := hM.tab
  have hpl := (Array.getElem?_eq_some_iff.1 ht).1
  refine (mread_ok (fun k => A k ∨ W.heap.size ≤ k) g p im fr to ref n W (hM.mono (fun k h => .inl h) (fun h => h.elim hp (fun h => by omega))) (fun k h => .inr h) him href hn).mono ?_
  rintro e w' ⟨v, rfl, o, c, h1, h2, h3, h4, h5⟩
  exact ⟨_, rfl, o, c, h1, h2, h3, h4.tight.mono (fun k hk => ⟨hk.1.1.elim .inl (fun h => .inr ⟨h, hk.2⟩), hk.1.2⟩) (fun h => h.1.elim hp (fun h => by omega)), h5.nx⟩

def M40 (L : List (List UInt8)) : List (List UInt8) := (L.take 20).map (·.take 400)
theorem M40_len (L : List (List UInt8)) : (M40 L).length = min 20 L.length := by simp [M40]
theorem M40_at {L : List (List UInt8)} {k : Nat} (h : k < (M40 L).length) : (M40 L).getD k [] = (L.getD k []).take 400 := by
  rw [M40_len] at h
  unfold M40
  rw [List.getD, List.getD, List.getElem?_map, List.getElem?_take, if_pos (by omega), List.getElem?_eq_getElem (by omega)]; rfl
theorem M40_small (L : List (List UInt8)) : ∀ b ∈ M40 L, b.length ≤ 400 := by
  intro b hb
  obtain ⟨x, _, rfl⟩ := List.mem_map.1 hb
  rw [List.length_take]; omega
theorem flat_small {M : List (List UInt8)} {n : Nat} (h : ∀ b ∈ M, b.length ≤ n) : ∀ i, i ≤ M.length → (M.take i).flatten.length ≤ n * i
  | 0, _ => by simp
  | i + 1, hi => by
    have ih := flat_small h i (by omega)
    have hb := h (M.getD i []) (by rw [List.getD, List.getElem?_eq_getElem (show i < M.length by omega)]; exact List.getElem_mem _)
    rw [flat_take (by omega), List.length_append, Nat.mul_succ]; omega
theorem M40_flat (L : List (List UInt8)) (i : Nat) : ((M40 L).take i).flatten.length ≤ 8000 := by
  have h1 := flat_small (M40_small L) (M40 L).length (Nat.le_refl _)
  have h2 := M40_len L
  rw [List.take_length] at h1
  have := flat_le (M40 L) i
  have h3 : 400 * (M40 L).length ≤ 400 * 20 := Nat.mul_le_mul_left _ (by omega)
  omega

set_option maxHeartbeats 1000000 in
theorem rows_ok (D0 : Nat → Prop) (ao : Option Addr) (cap : Nat) (hs : List Hd) (L : List (List UInt8)) (W : World) (hv : Vw hd W.heap ao cap hs) (hr : RowsV D0 W.heap hs L) :
    Calls Try.prog 24 [.slice ao hs.length cap].toArray W (Ret fun v w' => ∃ o c gs, v = .slice o gs.length c ∧ Own hd 22 w'.heap o c gs ∧ RowsV D0 w'.heap gs (M40 L) ∧ Fr W.heap.size o ∧ Foot nob W w') := by
  have hl := hv.len63
  have hln := hr.1
  obtain ⟨M, hM⟩ : ∃ M, M = M40 L := ⟨_, rfl⟩
  have hMl : M.length = min 20 L.length := by rw [hM, M40_len]
  refine calls_of_sc 31 [(0, _)] Try.func24 rfl rfl rfl (enter_slots ⟨rfl, trivial⟩) ?_
  refine Sc.seq ?_
  refine Sc.region ?_
  refine Sl.calm (Cm.assign rfl) rfl ?_
  refine Sl.nil ?_
  refine At.go ?_
  refine Sc.seq ?_
  refine Sc.region ?_
  refine Sl.lit0 hd sl44 rfl ?_
  intro w1 ho1 hs1 hf1
  refine Sl.calm (Cm.assign rfl) rfl ?_
  refine Sl.nil ?_
  refine At.weak [(0, _), (2, _), (3, _)] ⟨rfl, rfl, rfl, trivial⟩ ?_
  refine At.go ?_
  refine Sc.seq ?_
  refine Sc.seq ?_
  refine Sc.region ?_
  refine Sl.calm (Cm.assign rfl) rfl ?_
  refine Sl.nil ?_
  refine At.go ?_
  refine Sc.block ?_
  refine Sc.loop (β := Nat × (Option Addr × Nat × List Hd)) (fun ⟨k, ⟨o, c, gs⟩⟩ => [(0, .slice ao hs.length cap), (3, .slice o gs.length c), (4, .int .i64 k)]) (fun ⟨k, ⟨o, c, gs⟩⟩ w => k ≤ M.length ∧ Own hd 22 w.heap o c gs ∧ RowsV D0 W.heap gs (M.take k) ∧ Fr W.heap.size o ∧ Foot nob W w) (fun ⟨k, ⟨o, c, gs⟩⟩ => M.length - k) ⟨0, ⟨some ⟨W.heap.size, 0, none⟩, 0, []⟩⟩ ⟨rfl, rfl, rfl, trivial⟩ ⟨Nat.zero_le _, ho1, by rw [List.take_zero]; exact RowsV.nil, fr_at _, hf1⟩ ?_
  rintro ⟨k, ⟨o, c, gs⟩⟩ w2 ⟨hk, ho2, hg2, hfr2, hF2⟩
  have hgl := hg2.1
  rw [List.length_take] at hgl
  refine Sc.seq ?_
  refine Sc.seq ?_
  refine Sc.region ?_
  refine Sl.calm (Cm.move rfl) rfl ?_
  refine Sl.calm (Cm.move rfl) rfl ?_
  refine Sl.calm (Cm.len sl44 rfl) rfl ?_
  refine Sl.fork (Cm.lss rfl rfl) rfl (fun h10 => ?_) (fun h10 => ?_)
  ·
    have hkL : k < L.length := by omega
    refine Sl.calm (Cm.move rfl) rfl ?_
    refine Sl.want rfl rfl (Cm.move rfl) rfl ?_
    refine Sl.forkWant rfl rfl (Cm.lss rfl rfl) rfl (fun h13 => ?_) (fun h13 => ?_)
    ·
      have hkM : k < M.length := by omega
      obtain ⟨x, hx, hxn, hxv, hxD⟩ := hr.at hkL
      have hcell : cellH w2.heap (adr ao (k : Int).toNat) = some (hd x) := by rw [Int.toNat_natCast]; exact (hv.grow hF2).get k x hx
      have hhd : hd x = .slice x.a (L.getD k []).length x.c := by unfold hd; rw [hxn]
      rw [hhd] at hcell
      have hMk : M.getD k [] = (L.getD k []).take 400 := by rw [hM] at hkM ⊢; exact M40_at hkM
      have hxl := hxv.le
      have hxM : Vw b8 w2.heap x.a x.c (M.getD k []) := by rw [hMk]; exact (hxv.grow hF2).take 400
      refine Sl.calm (Cm.pick_t rfl rfl) rfl ?_
      refine Sl.nil ?_
      refine At.weak [(0, _), (3, _), (4, _), (14, _)] ⟨rfl, rfl, rfl, rfl, trivial⟩ ?_
      refine At.go ?_
      refine Sc.cond_t rfl ?_
      refine Sc.skip ?_
      refine At.go ?_
      refine Sc.seq ?_
      refine Sc.block ?_
      refine Sc.seq ?_
      refine Sc.region ?_
      refine Sl.calm (Cm.move rfl) rfl ?_
      refine Sl.calm (Cm.move rfl) rfl ?_
      refine Sl.calm (Cm.indexAddr1 sl44 rfl rfl hv.non (by omega)) rfl ?_
      refine Sl.calm (Cm.ld sca22 rfl hcell) rfl ?_
      refine Sl.calm (Cm.assign rfl) rfl ?_
      refine Sl.nil ?_
      refine At.weak [(0, _), (3, _), (4, _), (5, _), (14, _)] ⟨rfl, rfl, rfl, rfl, rfl, trivial⟩ ?_
      refine At.go ?_
      refine Sc.cut (β := Unit) (fun _u => [(0, .slice ao hs.length cap), (3, .slice o gs.length c), (4, .int .i64 k), (5, .slice x.a (M.getD k []).length x.c)]) (fun _u w => w = w2) ?_ ?_
      ·
        refine Sc.seq ?_
        refine Sc.region ?_
        refine Sl.calm (Cm.move rfl) rfl ?_
        refine Sl.calm (Cm.len sl22 rfl) rfl ?_
        refine Sl.fork (Cm.gtr rfl rfl) rfl (fun h23 => ?_) (fun h23 => ?_)
        ·
          refine Sl.nil ?_
          refine At.weak [(0, _), (3, _), (4, _), (5, _), (14, _), (23, _)] ⟨rfl, rfl, rfl, rfl, rfl, rfl, trivial⟩ ?_
          refine At.go ?_
          refine Sc.cond_t rfl ?_
          refine Sc.region ?_
          refine Sl.calm (Cm.move rfl) rfl ?_
          refine Sl.calm (Cm.sliceH sl22 rfl rfl (by omega)) rfl ?_
          refine Sl.calm (Cm.assign rfl) rfl ?_
          refine Sl.nil ?_
          have hlen : (M.getD k []).length = min 400 (L.getD k []).length := by rw [hMk, List.length_take]
          exact At.cut () ⟨rfl, rfl, rfl, by show some (Value.slice (cutAo x.a x.c 0 1) _ _) = some _; rw [hlen, cutAo_zero]; congr 2; omega, trivial⟩ rfl
        ·
          refine Sl.nil ?_
          refine At.weak [(0, _), (3, _), (4, _), (5, _), (14, _), (23, _)] ⟨rfl, rfl, rfl, rfl, rfl, rfl, trivial⟩ ?_
          refine At.go ?_
          refine Sc.cond_f rfl ?_
          refine Sc.skip ?_
          have hlen : (M.getD k []).length = min 400 (L.getD k []).length := by rw [hMk, List.length_take]
          exact At.cut () ⟨rfl, rfl, rfl, by show some (Value.slice x.a _ _) = some _; rw [hlen]; congr 2; omega, trivial⟩ rfl
      ·
        rintro _ wq hwq
        subst wq
        refine Sc.region ?_
        refine Sl.calm (Cm.move rfl) rfl ?_
        refine Sl.calm (Cm.move rfl) rfl ?_
        refine Sl.lit1 (enc := hd) (u := ⟨x.a, (M.getD k []).length, x.c⟩) sl44 rfl rfl rfl ?_
        intro w3 ho3 hs3 hf3
        refine Sl.append hd_one sl44 rfl rfl (ho2.grow hf3) ho3.vw (by simp only [List.length_singleton]; omega) (by simp only [List.length_singleton]; unfold maxLen; omega) rfl ?_
        intro o4 c4 w4 ho4 hf4 hr4 hn4
        have hz3 := hf3.size
        have hF24 : Foot (blk o) w2 w4 := (hf3.any).trans hf4
        have hF4 : Foot nob W w4 := hF2.trans_to hF24 hfr2.step
        refine Sl.calm (Cm.assign rfl) rfl ?_
        refine Sl.nil ?_
        refine At.block_normal ?_
        refine At.weak [(0, _), (3, _), (4, _), (5, _)] ⟨rfl, rfl, rfl, rfl, trivial⟩ ?_
        refine At.go ?_
        refine Sc.region ?_
        refine Sl.calm (Cm.move rfl) rfl ?_
        refine Sl.calm (Cm.add64 rfl rfl (by omega)) rfl ?_
        refine Sl.calm (Cm.assign rfl) rfl ?_
        refine Sl.nil ?_
        exact At.again ⟨k + 1, ⟨o4, c4, gs ++ [⟨x.a, (M.getD k []).length, x.c⟩]⟩⟩ ⟨rfl, rfl, rfl, trivial⟩ ⟨by omega, ho4, by rw [tk_sn hkM]; exact hg2.snoc rfl (by rw [hMk]; exact hxv.take 400) (fun hne => hxD (fun e => hne (by rw [hMk, e]; rfl))), fr_next hfr2 hr4 (Nat.le_trans hF2.size hz3), hF4⟩ (by show M.length - (k + 1) < M.length - k; omega)
    ·
      refine Sl.calm (Cm.pick_t rfl rfl) rfl ?_
      refine Sl.nil ?_
      refine At.weak [(0, _), (3, _), (4, _), (14, _)] ⟨rfl, rfl, rfl, rfl, trivial⟩ ?_
      refine At.go ?_
      refine Sc.cond_f rfl ?_
      refine Sc.exit ?_
      refine At.then_exit ?_
      refine At.then_exit ?_
      refine At.block_hit ?_
      refine At.go ?_
      refine Sc.seq ?_
      refine Sc.region ?_
      refine Sl.calm (Cm.move rfl) rfl ?_
      refine Sl.calm (Cm.assign rfl) rfl ?_
      refine Sl.nil ?_
      refine At.weak [(0, _), (2, _), (3, _), (4, _), (14, _)] ⟨rfl, rfl, rfl, rfl, rfl, trivial⟩ ?_
      refine At.go ?_
      refine Sc.ret ?_
      refine At.ret1 rfl rfl ?_
      have hkM : k = M.length := by omega
      subst hkM
      rw [List.take_length, hM] at hg2
      exact ⟨_, rfl, o, c, gs, rfl, ho2, hg2.keep hF2 (fun _ _ => id), hfr2, hF2⟩
  ·
    refine Sl.calm (Cm.move rfl) rfl ?_
    refine Sl.skip rfl rfl rfl rfl ?_
    refine Sl.skip rfl rfl rfl rfl ?_
    refine Sl.calm (Cm.pick_f rfl rfl) rfl ?_
    refine Sl.nil ?_
    refine At.weak [(0, _), (3, _), (4, _), (14, _)] ⟨rfl, rfl, rfl, rfl, trivial⟩ ?_
    refine At.go ?_
    refine Sc.cond_f rfl ?_
    refine Sc.exit ?_
    refine At.then_exit ?_
    refine At.then_exit ?_
    refine At.block_hit ?_
    refine At.go ?_
    refine Sc.seq ?_
    refine Sc.region ?_
    refine Sl.calm (Cm.move rfl) rfl ?_
    refine Sl.calm (Cm.assign rfl) rfl ?_
    refine Sl.nil ?_
    refine At.weak [(0, _), (2, _), (3, _), (4, _), (14, _)] ⟨rfl, rfl, rfl, rfl, rfl, trivial⟩ ?_
    refine At.go ?_
    refine Sc.ret ?_
    refine At.ret1 rfl rfl ?_
    have hkM : k = M.length := by omega
    subst hkM
    rw [List.take_length, hM] at hg2
    exact ⟨_, rfl, o, c, gs, rfl, ho2, hg2.keep hF2 (fun _ _ => id), hfr2, hF2⟩
end Go.Proofs.Ytlpfahmkjgompaa
