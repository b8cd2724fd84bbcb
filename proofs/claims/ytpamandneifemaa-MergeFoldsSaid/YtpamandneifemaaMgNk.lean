/- merge: Merge, the program's: the walk. No condition beyond the bounds that each states. -/
import Derived.Test.YtpamandneifemaaKN
namespace Go.Proofs.Ytpamandneifemaa
open Go Go.RowKit Go.Maps
set_option linter.unusedVariables false

variable {D : Nat → Prop}
def mgZ (Ls : Lys) (p : NdH × Nd) (i : Nat) (h : Hd) : NdH × Nd := ({ p.1 with names := h }, { p.2 with opq := false, ino := numZ (inosOf (srtP (visL Ls))) (cdI i p.2.ino) })
set_option maxHeartbeats 16000000 in
theorem merge_ok (lo : Option Addr) (lc : Nat) (hs : List Hd) (Ls : Lys) (W : World) (hv : LysV D W.heap lo lc hs Ls) (hg : GdA Ls) (hL : Ls.length ≤ 1000) (hT : offL Ls Ls.length ≤ 100000) :
    Calls Try.prog 12 [.slice lo Ls.length lc].toArray W (Ret fun v w' => ∃ o c zs, v = .slice o (List.length (α := NdH × Nd) zs) c ∧ OwnM 10 encN 35 w'.heap o c zs ∧ nds zs = nds (canP (visL Ls)) ∧ (∀ z ∈ zs, NdV (fun k => ¬ blk o k ∧ k < w'.heap.size) w'.heap z) ∧ Fr W.heap.size o ∧ Foot nob W w') := by
  have hll := hv.2.1
  obtain ⟨Z, eZ⟩ : ∃ Z, Z = inosOf (srtP (visL Ls)) := ⟨_, rfl⟩
  refine calls_of_sc 102 [(0, _)] Try.func12 rfl rfl rfl (enter_slots ⟨rfl, trivial⟩) ?_
  refine Sc.seq ?_
  refine Sc.region ?_
  refine Sl.calm (Cm.assign rfl) rfl ?_
  refine Sl.nil ?_
  refine At.go ?_
  refine Sc.seq ?_
  refine Sc.region ?_
  refine Sl.calm (Cm.move rfl) rfl ?_
  refine Sl.call fn31 rfl (of_ok lo lc hs Ls W hv hg hL) rfl ?_
  rintro _ w1 ⟨xo, xc, gs, rfl, hx, hf1⟩
  have hgl := hx.2.1
  refine Sl.calm (Cm.assign rfl) rfl ?_
  refine Sl.nil ?_
  refine At.weak [(0, _), (2, _), (3, _)] ⟨rfl, rfl, rfl, trivial⟩ ?_
  refine At.go ?_
  refine Sc.seq ?_
  refine Sc.region ?_
  refine Sl.makeMap (enc := enS) rfl ?_
  intro w2 hm2 hs2 hf2
  obtain ⟨g, eg⟩ : ∃ g, g = w1.heap.size := ⟨_, rfl⟩
  rw [← eg] at hm2 hs2 ⊢
  have hf12 := hf1.trans hf2
  refine Sl.calm (Cm.assign rfl) rfl ?_
  refine Sl.nil ?_
  refine At.weak [(0, _), (2, _), (3, _), (4, _)] ⟨rfl, rfl, rfl, rfl, trivial⟩ ?_
  refine At.go ?_
  refine Sc.seq ?_
  refine Sc.seq ?_
  refine Sc.region ?_
  refine Sl.calm (Cm.move rfl) rfl ?_
  refine Sl.calm (Cm.len sl22 rfl) rfl ?_
  refine Sl.calm (Cm.move rfl) rfl ?_
  refine Sl.nil ?_
  refine At.go ?_
  refine Sc.block ?_
  refine Sc.loop (β := Nat × List (SK × Value)) (fun ⟨i, m⟩ => [(0, .slice lo Ls.length lc), (3, .slice xo gs.length xc), (4, .map (some g)), (19, .slice lo Ls.length lc), (20, .int .i64 Ls.length), (21, .int .i64 i)]) (fun ⟨i, m⟩ w => i ≤ Ls.length ∧ MapL enS w.heap g m ∧ RwM Ls i 0 m ∧ m.length ≤ offL Ls i ∧ Foot (· = g) w2 w) (fun ⟨i, m⟩ => Ls.length - i) ⟨0, []⟩ ⟨rfl, rfl, rfl, rfl, rfl, rfl, trivial⟩ ⟨Nat.zero_le _, hm2, RwM.nil Ls, Nat.zero_le _, Foot.refl _ _⟩ ?_
  rintro ⟨i, m⟩ w3 ⟨hi, hm3, hrw, hml, hF3⟩
  refine Sc.seq ?_
  refine Sc.region ?_
  refine Sl.fork (Cm.lss rfl rfl) rfl (fun h22 => ?_) (fun h22 => ?_)
  ·
    have hil : i < Ls.length := by omega
    have hF3W : Foot nob W w3 := hf12.trans_to hF3 (fun k e => .inr (by have e : k = g := e; have := hf1.size; omega))
    have hv3 := hv.grow hF3W
    obtain ⟨h, hh, hps, hn, hvn⟩ := hv3.lay hil
    have hgp : GdL (lyA Ls i) := hg.at i
    refine Sl.nil ?_
    refine At.go ?_
    refine Sc.seq ?_
    refine Sc.cond_t rfl ?_
    refine Sc.skip ?_
    refine At.go ?_
    refine Sc.seq ?_
    refine Sc.block ?_
    refine Sc.seq ?_
    refine Sc.region ?_
    refine Sl.calm (Cm.indexAddr1 sl22 rfl rfl hv3.non (by omega)) rfl ?_
    refine Sl.calm (Cm.ofEq (u := .slice h.a (lyA Ls i).length h.c) (Cm.ld sca25 rfl (hv3.1.get i h hh)) (by rw [← hn]; rfl)) rfl ?_
    refine Sl.calm (Cm.assign rfl) rfl ?_
    refine Sl.nil ?_
    refine At.weak [(0, _), (3, _), (4, _), (6, _), (19, _), (20, _), (21, _), (22, _)] ⟨rfl, rfl, rfl, rfl, rfl, rfl, rfl, rfl, trivial⟩ ?_
    refine At.go ?_
    refine Sc.seq ?_
    refine Sc.region ?_
    refine Sl.calm (Cm.move rfl) rfl ?_
    refine Sl.calm (Cm.len sl25 rfl) rfl ?_
    refine Sl.calm (Cm.move rfl) rfl ?_
    refine Sl.nil ?_
    refine At.go ?_
    refine Sc.block ?_
    refine Sc.loop (β := Nat × List (SK × Value)) (fun ⟨k, m⟩ => [(0, .slice lo Ls.length lc), (3, .slice xo gs.length xc), (4, .map (some g)), (19, .slice lo Ls.length lc), (20, .int .i64 Ls.length), (21, .int .i64 i), (25, .slice h.a (lyA Ls i).length h.c), (26, .int .i64 (lyA Ls i).length), (27, .int .i64 k)]) (fun ⟨k, m⟩ w => k ≤ (lyA Ls i).length ∧ MapL enS w.heap g m ∧ RwM Ls i k m ∧ m.length ≤ offL Ls i + k ∧ Foot (· = g) w2 w) (fun ⟨k, m⟩ => (lyA Ls i).length - k) ⟨0, m⟩ ⟨rfl, rfl, rfl, rfl, rfl, rfl, rfl, rfl, rfl, trivial⟩ ⟨Nat.zero_le _, hm3, hrw, hml, hF3⟩ ?_
    rintro ⟨k, m⟩ w4 ⟨hk, hm4, hrw4, hml4, hF4⟩
    have hk63 := hvn.1.len63
    refine Sc.seq ?_
    refine Sc.region ?_
    refine Sl.fork (Cm.lss rfl rfl) rfl (fun h28 => ?_) (fun h28 => ?_)
    ·
      have hkl : k < (lyA Ls i).length := by omega
      obtain ⟨p, hp⟩ : ∃ p, (lyA Ls i)[k]? = some p := ⟨_, List.getElem?_eq_getElem hkl⟩
      have hpm := List.mem_of_getElem? hp
      have hF4W : Foot nob W w4 := hf12.trans_to hF4 (fun k e => .inr (by have e : k = g := e; have := hf1.size; omega))
      have hv4 : NodesV D w4.heap h.a h.c (lyA Ls i) := by
        obtain ⟨h2, hh2, _, _, hvn2⟩ := (hv.grow hF4W).lay hil
        rw [hh] at hh2; cases hh2; exact hvn2
      obtain ⟨hn1, hn2, hn3, hn4⟩ := gd_names hgp hpm
      refine Sl.nil ?_
      refine At.go ?_
      refine Sc.seq ?_
      refine Sc.cond_t rfl ?_
      refine Sc.skip ?_
      refine At.go ?_
      refine Sc.seq ?_
      refine Sc.block ?_
      refine Sc.seq ?_
      refine Sc.region ?_
      refine Sl.calm (Cm.indexAddr sl25 rfl rfl hv4.1.non (by omega)) rfl ?_
      refine Sl.calm (Cm.ldM (cs := encN p) agg35 rfl (fun j v hj => hv4.1.rowZ k rfl hp j v hj)) rfl ?_
      refine Sl.allocC zc35 rfl ?_
      intro w5 hg5 hs5 hf5
      obtain ⟨r, er⟩ : ∃ r, r = w4.heap.size := ⟨_, rfl⟩
      rw [← er] at hg5 ⊢
      refine Sl.storeAll (vs := encN p) agg35 rfl rfl (encN_cells p).2 hg5 rfl ?_
      intro w6 hg6 hs6 hf6
      have hf46 : Foot nob w4 w6 := hf5.trans_to hf6 (fun k e => .inr (by have e : k = r := e; omega))
      have hnm := (hv4.2 p hpm).1.keep hf46 (fun _ _ => id)
      have hm6 := hm4.keep hf46 id
      refine Sl.nil ?_
      refine At.weak [(0, _), (3, _), (4, _), (8, _), (19, _), (20, _), (21, _), (25, _), (26, _), (27, _), (28, _)] ⟨rfl, rfl, rfl, rfl, rfl, rfl, rfl, rfl, rfl, rfl, rfl, trivial⟩ ?_
      refine At.go ?_
      refine Sc.draw 7 (fun H => H[r]? = some (.cells (encN p).toArray 35 (0, 0))) [3, 6] [0, 1, 2, 4, 5, 3, 6] mixed (by kernel_rfl) (hg6) ?_
      refine Sx.calm rfl rfl (Cm.move rfl) rfl ?_
      refine Sx.calm rfl rfl (Cm.field fld35_0 rfl) rfl ?_
      refine Sx.calm rfl rfl (Cm.ofEq (u := .slice p.1.names.a p.2.names.length p.1.names.c) (Cm.load sca29 rfl (fun H hH => cellF hH rfl)) (by rw [← hnm.1]; rfl)) rfl ?_
      refine Sx.calm rfl rfl (Cm.field fld35_0 rfl) rfl ?_
      refine Sx.calm rfl rfl (Cm.ofEq (u := hd p.1.names) (Cm.load sca29 rfl (fun H hH => cellF hH rfl)) rfl) rfl ?_
      refine Sx.eff rfl rfl (Sl.call fn32 rfl (nJoin_ok p.1.names.a p.1.names.c p.2.names (w6.drewN 1) (hnm.2.1.grow (Foot.ofDraws 1)) hn2 hn3) rfl ?_)
      rintro _ w7 ⟨rfl, hf7⟩
      have hf7 := hf7.undraw
      have hm7 := hm6.keep hf7 id
      refine Sx.on (by exact hf7.obj hg6 id) ?_
      refine Sx.eff rfl rfl (Sl.mapUpdate mpSL keyS (a := (⟨pathL p.2.names, hn4⟩ : SK)) rfl rfl rfl hm7 ?_)
      intro w8 hm8 hs8 hf8
      have hgr8 := hf8.obj (hf7.obj hg6 id) (fun e => by have := hm7.1; have hq := hf7.obj hg6 id; have e : r = g := e; rw [e, this] at hq; cases hq)
      have hF48 : Foot (· = g) w4 w8 := ((hf46.trans hf7).mono (fun _ h => h.elim)).trans hf8
      refine Sx.on (by exact hgr8) ?_
      refine Sx.nil ?_
      refine At.block_normal ?_
      refine At.weak [(0, _), (3, _), (4, _), (8, _), (19, _), (20, _), (21, _), (25, _), (26, _), (27, _), (28, _)] ⟨rfl, rfl, rfl, rfl, rfl, rfl, rfl, rfl, rfl, rfl, rfl, trivial⟩ ?_
      refine At.go ?_
      refine Sc.region ?_
      refine Sl.calm (Cm.add64 rfl rfl (by omega)) rfl ?_
      refine Sl.calm (Cm.move rfl) rfl ?_
      refine Sl.nil ?_
      exact At.again ⟨k + 1, _⟩ ⟨rfl, rfl, rfl, rfl, rfl, rfl, rfl, rfl, rfl, trivial⟩ ⟨by omega, hm8, hrw4.put hil hp hn4, by have := setM_len m (⟨pathL p.2.names, hn4⟩ : SK) (hd p.1.names); omega, hF4.trans hF48⟩ (by show (lyA Ls i).length - (k + 1) < (lyA Ls i).length - k; omega)
    ·
      have hke : k = (lyA Ls i).length := by omega
      subst hke
      refine Sl.nil ?_
      refine At.go ?_
      refine Sc.seq ?_
      refine Sc.cond_f rfl ?_
      refine Sc.exit ?_
      refine At.then_exit ?_
      refine At.then_exit ?_
      refine At.block_hit ?_
      refine At.block_normal ?_
      refine At.go ?_
      refine Sc.region ?_
      refine Sl.calm (Cm.add64 rfl rfl (by omega)) rfl ?_
      refine Sl.calm (Cm.move rfl) rfl ?_
      refine Sl.nil ?_
      exact At.again ⟨i + 1, m⟩ ⟨rfl, rfl, rfl, rfl, rfl, rfl, trivial⟩ ⟨by omega, hm4, hrw4.next, by rw [offL_succ Ls hil]; exact hml4, hF4⟩ (by show Ls.length - (i + 1) < Ls.length - i; omega)
  ·
    have hie : i = Ls.length := by omega
    subst hie
    refine Sl.nil ?_
    refine At.go ?_
    refine Sc.seq ?_
    refine Sc.cond_f rfl ?_
    refine Sc.exit ?_
    refine At.then_exit ?_
    refine At.then_exit ?_
    refine At.block_hit ?_
    refine At.go ?_
    refine Sc.seq ?_
    refine Sc.region ?_
    refine Sl.calm (Cm.assign rfl) rfl ?_
    refine Sl.nil ?_
    refine At.go ?_
    refine Sc.seq ?_
    refine Sc.region ?_
    refine Sl.makeMap (enc := enO) rfl ?_
    intro w5 hmo5 hs5 hf5
    obtain ⟨gi, egi⟩ : ∃ g, g = w3.heap.size := ⟨_, rfl⟩
    rw [← egi] at hmo5 ⊢
    have hm5 := hm3.keep hf5 id
    have hF15 : Foot nob w1 w5 := (hf2.trans_to hF3 (fun k e => .inr (by have e : k = g := e; omega))).trans hf5
    have hF5W := hf1.trans hF15
    refine Sl.calm (Cm.assign rfl) rfl ?_
    refine Sl.nil ?_
    refine At.weak [(0, _), (3, _), (4, _), (9, _), (10, _), (19, _), (20, _), (21, _), (22, _)] ⟨rfl, rfl, rfl, rfl, rfl, rfl, rfl, rfl, rfl, trivial⟩ ?_
    refine At.go ?_
    refine Sc.seq ?_
    refine Sc.seq ?_
    refine Sc.region ?_
    refine Sl.calm (Cm.move rfl) rfl ?_
    refine Sl.call fn34 rfl (values_ok g w5) rfl ?_
    rintro _ w6 ⟨rfl, hgb6, hsz6, hf6⟩
    have hm6 := hm5.keep hf6 id
    have hF6W := hF5W.trans hf6
    have hv6 := hv.grow hF6W
    obtain ⟨F, hF⟩ : ∃ F : Fin m.length → Nh, ∀ i : Fin m.length, isRow Ls (m[i.1]) (F i) := ⟨fun i => Classical.choose (hrw.1 _ (List.getElem_mem i.2)), fun i => Classical.choose_spec (hrw.1 _ (List.getElem_mem i.2))⟩
    refine Sl.call fn33 rfl (sorted_ok w5.heap.size g m F D w6 hgb6 hm6 (fun i => by obtain ⟨j, p, _, _, _, h5, h6⟩ := hF i; show (m[i.1]).2 = hd (F i).1; rw [h5, h6]) (fun i => by obtain ⟨j, p, h1, h2, _, _, h6⟩ := hF i; obtain ⟨h, _, _, _, hvn⟩ := hv6.lay h1; rw [h6]; exact (hvn.2 p h2).1) (by omega)) rfl ?_
    rintro _ w7 ⟨oy, cy, ys, rfl, hoy, hyp, hys, hfoy, hf7⟩
    obtain ⟨hns, hnall⟩ := rows_all hg hrw hm3.2 hF hyp hys
    have hfull : visJ Ls ys ys.length = srtP (visL Ls) := by unfold visJ; rw [List.take_of_length_le (by simp)]; exact see_list hg hns hnall
    have hyrow : ∀ y ∈ ys, ∃ j p, j < Ls.length ∧ p ∈ lyA Ls j ∧ y = (p.1.names, p.2.names) := fun y hy => by
      obtain ⟨i, _, rfl⟩ := List.mem_map.1 (hyp.mem_iff.1 hy)
      obtain ⟨j, p, h1, h2, _, _, h6⟩ := hF i
      exact ⟨j, p, h1, h2, h6⟩
    have hF7W := hF6W.trans hf7
    have hF17 := (hF15.trans hf6).trans hf7
    have hmo7 := (hmo5.keep hf6 id).keep hf7 id
    have hyl : ys.length = m.length := by have := hyp.length_eq; simpa using this
    have hyv := hoy.vw
    have hgiW : w1.heap.size ≤ gi := by rw [egi]; exact Nat.le_trans hf2.size hF3.size
    have hgi7 := hmo7.obj
    refine Sl.calm (Cm.len sl43 rfl) rfl ?_
    refine Sl.calm (Cm.move rfl) rfl ?_
    refine Sl.nil ?_
    refine At.weak [(0, _), (3, _), (4, _), (9, _), (10, _), (19, _), (20, _), (21, _), (22, _), (42, _), (43, _), (44, _)] ⟨rfl, rfl, rfl, rfl, rfl, rfl, rfl, rfl, rfl, rfl, rfl, rfl, trivial⟩ ?_
    refine At.go ?_
    refine Sc.block ?_
    refine Sc.loop (β := Nat × Option Addr × Nat × List (NdH × Nd) × List ((I6 × I6) × Value)) (fun ⟨j, o, c, zs, mm⟩ => [(0, .slice lo Ls.length lc), (3, .slice xo gs.length xc), (9, .slice o zs.length c), (10, .map (some gi)), (42, .slice oy ys.length cy), (43, .int .i64 ys.length), (44, .int .i64 j)]) (fun ⟨j, o, c, zs, mm⟩ w => j ≤ ys.length ∧ OwnM 10 encN 35 w.heap o c zs ∧ zs.length ≤ j ∧ Fr w7.heap.size o ∧ nds zs = nds ((visJ Ls ys j).map (renP Z)) ∧ (∀ z ∈ zs, NdV (fun k => ¬ blk o k ∧ k ≠ gi ∧ k < w.heap.size) w.heap z) ∧ MapL enO w.heap gi mm ∧ MapP Z (inosOf (visJ Ls ys j)) mm ∧ Foot (· = gi) w7 w) (fun ⟨j, o, c, zs, mm⟩ => ys.length - j) ⟨0, none, 0, [], []⟩ ⟨rfl, rfl, rfl, rfl, rfl, rfl, rfl, trivial⟩ ⟨Nat.zero_le _, OwnM.nil, Nat.le_refl _, Fr.none, rfl, by simp, hmo7, MapP.nil, Foot.refl _ _⟩ ?_
    rintro ⟨j, o, c, zs, mm⟩ w8 ⟨hj, hzo, hzl, hfo, hzn, hzv, hmm, hmp, hF8⟩
    refine Sc.seq ?_
    refine Sc.region ?_
    refine Sl.fork (Cm.lss rfl rfl) rfl (fun h45 => ?_) (fun h45 => ?_)
    ·
      have hjl : j < ys.length := by omega
      obtain ⟨y, hyj⟩ : ∃ y, ys[j]? = some y := ⟨_, List.getElem?_eq_getElem hjl⟩
      obtain ⟨jy, py, hjy, hpy, eyp⟩ := hyrow y (List.mem_of_getElem? hyj)
      have hF18 : Foot nob w1 w8 := hF17.trans_to hF8 (fun k e => .inr (by have e : k = gi := e; omega))
      have hF8W : Foot nob W w8 := hf1.trans hF18
      have hv8 := hv.grow hF8W
      have hx8 := hx.grow hF18
      have hoy8 := hoy.keep hF8 (fun a ha e => own_neMap hmo7 hoy ⟨a, ha, e⟩)
      have hnv : NmV D w8.heap y.1 y.2 := by
        obtain ⟨h, _, _, _, hvn⟩ := hv8.lay hjy
        rw [eyp]; exact (hvn.2 py hpy).1
      have hyn := (hg.at jy).nm hpy
      obtain ⟨s, es⟩ : ∃ s, s = y.2 := ⟨_, rfl⟩
      rw [← es] at hnv
      have hsn : ∀ t ∈ s, vErr t = 0 := by rw [es, eyp]; exact hyn.1
      have hs16 : s.length ≤ 16 := by rw [es, eyp]; exact hyn.2
      have hs255 : ∀ x ∈ s, x.length ≤ 255 := fun x hx => (vErr_ok (hsn x hx)).1
      have hsok : okPath s := fun x hx => ⟨(vErr_ok (hsn x hx)).2.1, (vErr_ok (hsn x hx)).2.2.2⟩
      have hsp : (pathL s).length ≤ maxLen := path_len hs16 hs255
      have hyj1 : (ys.map (·.1))[j]? = some y.1 := by rw [List.getElem?_map, hyj]; rfl
      refine Sl.nil ?_
      refine At.go ?_
      refine Sc.seq ?_
      refine Sc.cond_t rfl ?_
      refine Sc.skip ?_
      refine At.go ?_
      refine Sc.seq ?_
      refine Sc.block ?_
      refine Sc.seq ?_
      refine Sc.region ?_
      refine Sl.calm (Cm.indexAddr1 sl43 rfl rfl (fun _ => hoy8.vw.non (by rw [List.length_map]; omega)) (by omega)) rfl ?_
      refine Sl.calm (Cm.ofEq (u := .slice y.1.a s.length y.1.c) (Cm.ld sca29 rfl (hoy8.vw.get j y.1 hyj1)) (by rw [← hnv.1]; rfl)) rfl ?_
      refine Sl.calm (Cm.assign rfl) rfl ?_
      refine Sl.nil ?_
      refine At.weak [(0, _), (3, _), (9, _), (10, _), (12, _), (42, _), (43, _), (44, _), (45, _)] ⟨rfl, rfl, rfl, rfl, rfl, rfl, rfl, rfl, rfl, trivial⟩ ?_
      refine At.go ?_
      refine Sc.seq ?_
      refine Sc.region ?_
      refine Sl.calm (Cm.move rfl) rfl ?_
      refine Sl.calm (Cm.move rfl) rfl ?_
      refine Sl.calm (Cm.move rfl) rfl ?_
      refine Sl.call fn36 rfl (sources_ok xo xc gs lo lc hs Ls y.1.a y.1.c s w8 hx8 hv8 hg hL hnv.2.1 hsn) rfl ?_
      rintro _ w9 ⟨ol, cl, rfl, hol, hfol, hf9⟩
      have hzo9 := hzo.grow hf9
      have hz9 : ∀ z ∈ zs, NdV (fun k => ¬ blk o k ∧ k ≠ gi ∧ k < w9.heap.size) w9.heap z := fun z hz => ((hzv z hz).grow hf9).mono (fun k hk => ⟨hk.1, hk.2.1, by have := hf9.size; omega⟩)
      have hmm9 := hmm.keep hf9 id
      have hF9 := hF8.trans (hf9.mono (S' := (· = gi)) (fun _ h => h.elim))
      have hv9 := hv8.grow hf9
      have hx9 := hx8.grow hf9
      have hnv9 := hnv.keep hf9 (fun _ _ => id)
      refine Sl.calm (Cm.assign rfl) rfl ?_
      refine Sl.nil ?_
      refine At.weak [(0, _), (3, _), (9, _), (10, _), (12, _), (13, _), (42, _), (43, _), (44, _), (45, _)] ⟨rfl, rfl, rfl, rfl, rfl, rfl, rfl, rfl, rfl, rfl, trivial⟩ ?_
      refine At.go ?_
      refine Sc.seq ?_
      refine Sc.seq ?_
      refine Sc.region ?_
      refine Sl.calm (Cm.move rfl) rfl ?_
      refine Sl.calm (Cm.len sl45 rfl) rfl ?_
      refine Sl.fork (Cm.eql rfl rfl) rfl (fun h54 => ?_) (fun h54 => ?_)
      ·
        have hle : srcs Ls s = [] := List.length_eq_zero_iff.1 (by omega)
        refine Sl.nil ?_
        refine At.weak [(0, _), (3, _), (9, _), (10, _), (12, _), (13, _), (42, _), (43, _), (44, _), (45, _), (54, _)] ⟨rfl, rfl, rfl, rfl, rfl, rfl, rfl, rfl, rfl, rfl, rfl, trivial⟩ ?_
        refine At.go ?_
        refine Sc.cond_t rfl ?_
        refine Sc.exit ?_
        refine At.then_exit ?_
        refine At.block_hit ?_
        refine At.go ?_
        refine Sc.region ?_
        refine Sl.calm (Cm.add64 rfl rfl (by omega)) rfl ?_
        refine Sl.calm (Cm.move rfl) rfl ?_
        refine Sl.nil ?_
        refine At.again ⟨j + 1, o, c, zs, mm⟩ ⟨rfl, rfl, rfl, rfl, rfl, rfl, rfl, trivial⟩ ⟨by omega, hzo9, by omega, hfo, ?_, hz9, hmm9, ?_, hF9⟩ (by show ys.length - (j + 1) < ys.length - j; omega)
        · rw [visJ_none hyj (by rw [← es]; exact hle)]; exact hzn
        · rw [visJ_none hyj (by rw [← es]; exact hle)]; exact hmp
      ·
        obtain ⟨i, rl, hlc⟩ : ∃ i r, srcs Ls s = i :: r := by
          rcases hq : srcs Ls s with _ | ⟨i, r⟩
          · rw [hq] at h54; exact absurd rfl h54
          · exact ⟨i, r, rfl⟩
        have hl0 : (srcs Ls s)[0]? = some i := by rw [hlc]; rfl
        obtain ⟨hil, hik⟩ := srcs_mem (Ls := Ls) (s := s) (x := i) (by rw [hlc]; simp)
        obtain ⟨h, hh, hps, hn, hvn⟩ := hv9.lay hil
        obtain ⟨p, hp1, hp2, hp3⟩ := find_at (ps := lyA Ls i) (s := s) hik
        have hnp : nAt Ls i s = p := hp3
        have hpl := (List.getElem?_eq_some_iff.1 hp1).1
        have hpm := List.mem_of_getElem? hp1
        have hpo := okN_ino ((hg.at i).2.1 p hpm)
        have hk0 := hik
        unfold kAt at hk0
        obtain ⟨gx, hgx⟩ : ∃ g, gs[i]? = some g := ⟨_, List.getElem?_eq_getElem (by omega)⟩
        obtain ⟨mx, hmx, hix⟩ := hx9.2.2 i gx hgx
        have hixt := hix s hsp hsok
        rw [if_pos hk0] at hixt
        refine Sl.nil ?_
        refine At.weak [(0, _), (3, _), (9, _), (10, _), (12, _), (13, _), (42, _), (43, _), (44, _), (45, _), (54, _)] ⟨rfl, rfl, rfl, rfl, rfl, rfl, rfl, rfl, rfl, rfl, rfl, trivial⟩ ?_
        refine At.go ?_
        refine Sc.cond_f rfl ?_
        refine Sc.skip ?_
        refine At.go ?_
        refine Sc.cut (β := Nat) (fun r => [(0, .slice lo Ls.length lc), (3, .slice xo gs.length xc), (9, .slice o zs.length c), (10, .map (some gi)), (12, .slice y.1.a s.length y.1.c), (13, .slice ol (srcs Ls s).length cl), (14, .pointer (some ⟨r, 0, none⟩)), (42, .slice oy ys.length cy), (43, .int .i64 ys.length), (44, .int .i64 j)]) (fun r w => w.heap[r]? = some (.cells (encN p).toArray 35 (0, 0)) ∧ w9.heap.size ≤ r ∧ Foot nob w9 w) ?_ ?_
        ·
          have chk : ∀ {v : World}, Foot nob w9 v → Vw nN v.heap ol cl (srcs Ls s) ∧ Vw hd v.heap lo lc hs ∧ Vw mpV v.heap xo xc gs ∧ MapL enS v.heap gx mx ∧ VwM 10 encN v.heap h.a h.c (lyA Ls i) := fun hf => ⟨hol.vw.grow hf, hv9.1.grow hf, hx9.1.grow hf, hmx.keep hf id, hvn.1.grow hf⟩
          refine Sc.drawT (fun H => Vw nN H ol cl (srcs Ls s) ∧ Vw hd H lo lc hs ∧ Vw mpV H xo xc gs ∧ MapL enS H gx mx ∧ VwM 10 encN H h.a h.c (lyA Ls i)) [13, 17, 18] [0, 1, 2, 3, 4, 5, 6, 7, 8, 9, 10, 11, 12] (.alt 13 [14, 15, 16] (.alt 17 [] (.alt 18 [] .fin .stop) .stop) (.alt 17 [] (.alt 13 [14, 15, 16] (.alt 18 [] .fin .stop) .stop) .stop)) mixed (by kernel_rfl) (⟨hol.vw, hv9.1, hx9.1, hmx, hvn.1⟩) ?_
          have hG0 : Foot nob w9 (w9.drewN 1) := Foot.ofDraws 1
          generalize w9.drewN 1 = v0 at hG0 ⊢
          refine Sy.calm rfl rfl (Cm.move rfl) rfl ?_
          refine Sy.calm rfl rfl (Cm.move rfl) rfl ?_
          refine Sy.calm rfl rfl (Cm.indexAddr1 sl45 rfl rfl hol.vw.non (by rw [hlc]; simp)) rfl ?_
          refine Sy.calm rfl rfl (Cm.ofEq (u := .int .i64 (i : Nat)) (Cm.load sca3 rfl (fun H hH => hH.1.get 0 i hl0)) rfl) rfl ?_
          refine Sy.calm rfl rfl (Cm.indexAddr1 sl22 rfl rfl hv9.non (by omega)) rfl ?_
          refine Sy.calm rfl rfl (Cm.ofEq (u := .slice h.a (lyA Ls i).length h.c) (Cm.load sca25 rfl (fun H hH => hH.2.1.get i h hh)) (by rw [← hn]; rfl)) rfl ?_
          refine Sy.calm rfl rfl (Cm.move rfl) rfl ?_
          refine Sy.calm rfl rfl (Cm.move rfl) rfl ?_
          refine Sy.calm rfl rfl (Cm.indexAddr1 sl45 rfl rfl hol.vw.non (by rw [hlc]; simp)) rfl ?_
          refine Sy.calm rfl rfl (Cm.ofEq (u := .int .i64 (i : Nat)) (Cm.load sca3 rfl (fun H hH => hH.1.get 0 i hl0)) rfl) rfl ?_
          refine Sy.calm rfl rfl (Cm.indexAddr1 sl54 rfl rfl hx9.1.non (by omega)) rfl ?_
          refine Sy.calm rfl rfl (Cm.ofEq (u := .map (some gx)) (Cm.load sca64 rfl (fun H hH => hH.2.2.1.get i gx hgx)) rfl) rfl ?_
          refine Sy.calm rfl rfl (Cm.move rfl) rfl ?_
          refine Sy.alt ?_ ?_
          ·
            refine Sy.eff rfl rfl (Sl.call fn32 rfl (nJoin_ok y.1.a y.1.c s v0 (hnv9.2.1.grow hG0) (by omega) hs255) rfl ?_)
            rintro _ v1 ⟨rfl, hfc⟩
            have hG1 := hG0.trans hfc
            refine Sy.on (by exact chk hG1) ?_
            refine Sy.calm rfl rfl (Cm.ofEq (u := .int .i64 (findP (lyA Ls i) s)) (Cm.lookup mpSI (keyS) (a := (⟨pathL s, hsp⟩ : SK)) rfl rfl (fun H hH => hH.2.2.2.1)) (by rw [hixt]; rfl)) rfl ?_
            refine Sy.calm rfl rfl (Cm.indexAddr sl25 rfl rfl hvn.1.non (by omega)) rfl ?_
            refine Sy.calm rfl rfl (Cm.loadM (cs := encN p) agg35 rfl (fun H hH j v hj => hH.2.2.2.2.rowZ (findP (lyA Ls i) s).toNat (by omega) hp1 j v hj)) rfl ?_
            refine Sy.alt ?_ ?_
            ·
              refine Sy.eff rfl rfl (Sl.allocC zc35 rfl ?_)
              intro v2 hr2 hsr hfr
              have hG2 := hG1.trans hfr
              have hrv : w9.heap.size ≤ v1.heap.size := hG1.size
              obtain ⟨r, er⟩ : ∃ r, r = v1.heap.size := ⟨_, rfl⟩
              rw [← er] at hr2 hrv ⊢
              refine Sy.on (by exact chk hG2) ?_
              refine Sy.alt ?_ ?_
              ·
                refine Sy.eff rfl rfl (Sl.storeAll (vs := encN p) agg35 rfl rfl (encN_cells p).2 hr2 rfl ?_)
                intro v3 hr3 hsr3 hfr3
                have hG3 : Foot nob w9 v3 := hG2.trans_to hfr3 (fun k e => .inr (by have e : k = r := e; omega))
                refine Sy.on (by exact chk hG3) ?_
                refine Sy.nil ?_
                exact At.cut r ⟨rfl, rfl, rfl, rfl, rfl, rfl, rfl, rfl, rfl, rfl, trivial⟩ ⟨hr3, hrv, hG3⟩
              exact Sy.stop
            exact Sy.stop
          refine Sy.alt ?_ ?_
          ·
            refine Sy.eff rfl rfl (Sl.allocC zc35 rfl ?_)
            intro v1 hr1 hsr hfr
            have hG1 := hG0.trans hfr
            have hrv : w9.heap.size ≤ v0.heap.size := hG0.size
            obtain ⟨r, er⟩ : ∃ r, r = v0.heap.size := ⟨_, rfl⟩
            rw [← er] at hr1 hrv ⊢
            refine Sy.on (by exact chk hG1) ?_
            refine Sy.alt ?_ ?_
            ·
              refine Sy.eff rfl rfl (Sl.call fn32 rfl (nJoin_ok y.1.a y.1.c s v1 (hnv9.2.1.grow hG1) (by omega) hs255) rfl ?_)
              rintro _ v2 ⟨rfl, hfc⟩
              have hG2 := hG1.trans hfc
              have hr2 := hfc.obj hr1 id
              refine Sy.on (by exact chk hG2) ?_
              refine Sy.calm rfl rfl (Cm.ofEq (u := .int .i64 (findP (lyA Ls i) s)) (Cm.lookup mpSI (keyS) (a := (⟨pathL s, hsp⟩ : SK)) rfl rfl (fun H hH => hH.2.2.2.1)) (by rw [hixt]; rfl)) rfl ?_
              refine Sy.calm rfl rfl (Cm.indexAddr sl25 rfl rfl hvn.1.non (by omega)) rfl ?_
              refine Sy.calm rfl rfl (Cm.loadM (cs := encN p) agg35 rfl (fun H hH j v hj => hH.2.2.2.2.rowZ (findP (lyA Ls i) s).toNat (by omega) hp1 j v hj)) rfl ?_
              refine Sy.alt ?_ ?_
              ·
                refine Sy.eff rfl rfl (Sl.storeAll (vs := encN p) agg35 rfl rfl (encN_cells p).2 hr2 rfl ?_)
                intro v3 hr3 hsr3 hfr3
                have hG3 : Foot nob w9 v3 := hG2.trans_to hfr3 (fun k e => .inr (by have e : k = r := e; omega))
                refine Sy.on (by exact chk hG3) ?_
                refine Sy.nil ?_
                exact At.cut r ⟨rfl, rfl, rfl, rfl, rfl, rfl, rfl, rfl, rfl, rfl, trivial⟩ ⟨hr3, hrv, hG3⟩
              exact Sy.stop
            exact Sy.stop
          exact Sy.stop
        ·
          rintro r wA ⟨hrA, hrw9, hF9A⟩
          have holB := hol.grow hF9A
          refine Sc.seq ?_
          refine Sc.draw 8 (fun H => Vw nN H ol cl (srcs Ls s) ∧ H[r]? = some (.cells (encN p).toArray 35 (0, 0))) [6, 7] [0, 1, 2, 3, 4, 5, 6, 7] mixed (by kernel_rfl) (⟨holB.vw, hrA⟩) ?_
          refine Sx.calm rfl rfl (Cm.move rfl) rfl ?_
          refine Sx.calm rfl rfl (Cm.indexAddr1 sl45 rfl rfl holB.vw.non (by rw [hlc]; simp)) rfl ?_
          refine Sx.calm rfl rfl (Cm.ofEq (u := .int .i64 (i : Nat)) (Cm.load sca3 rfl (fun H hH => hH.1.get 0 i hl0)) rfl) rfl ?_
          refine Sx.calm rfl rfl (Cm.field fld35_1 rfl) rfl ?_
          refine Sx.calm rfl rfl (Cm.ofEq (u := .int .i64 p.2.ino) (Cm.load sca3 rfl (fun H hH => cellF hH.2 rfl)) rfl) rfl ?_
          refine Sx.calm rfl rfl (Cm.build (cs := #[.int .i64 (i : Int), .int .i64 p.2.ino]) plc66 zc66 rfl (by kernel_rfl)) rfl ?_
          refine Sx.eff rfl rfl (Sl.allocC zc66 rfl ?_)
          intro wB hqB hsB hfB
          have hfB := hfB.undraw
          obtain ⟨q, eq⟩ : ∃ q, q = wA.heap.size := ⟨_, rfl⟩
          rw [show (wA.drewN 1).heap.size = q from eq.symm] at hqB ⊢
          have hrB := hfB.obj hrA id
          refine Sx.on (by exact ⟨holB.vw.grow hfB, hrB⟩) ?_
          refine Sx.eff rfl rfl (Sl.storeAll (vs := [.int .i64 (i : Int), .int .i64 p.2.ino]) agg66 rfl rfl (by simp [Value.oneCell']) hqB rfl ?_)
          intro wC hqC hsC hfC
          have hABC : Foot nob wA wC := hfB.trans_to hfC (fun k e => .inr (by have e : k = q := e; omega))
          have hrC := hABC.obj hrA id
          refine Sx.on (by exact ⟨holB.vw.grow hABC, hrC⟩) ?_
          have hF9C : Foot nob w9 wC := hF9A.trans hABC
          have hmmC := hmm9.keep hF9C id
          obtain ⟨code, ec⟩ : ∃ c, c = cdI i p.2.ino := ⟨_, rfl⟩
          obtain ⟨rz, hrz⟩ := visJ_pre hfull (j := j + 1) (by omega)
          have hvs := visJ_some hyj (by rw [← es]; exact hlc)
          rw [← es, hnp] at hvs
          rw [hvs, ← eZ] at hrz
          replace hrz : Z = inosOf (visJ Ls ys j) ++ code :: rz := by rw [hrz, ec]; simp [inosOf, visN]
          have hKa : ∃ a : I6 × I6, a.1.1 = (i : Int) ∧ a.2.1 = p.2.ino := ⟨(⟨(i : Int), by omega⟩, ⟨p.2.ino, hpo⟩), rfl, rfl⟩
          obtain ⟨ka, hka1, hka2⟩ := hKa
          have hkc : cdI ka.1.1.toNat ka.2.1 = code := by rw [hka1, hka2, Int.toNat_natCast, ec]
          have hke : Value.agg [.int .i64 (i : Int), .int .i64 p.2.ino].toArray = enO ka := by unfold enO; rw [hka1, hka2]
          have hget := hmp.1 ka (by omega)
          rw [hkc] at hget
          refine Sx.nil ?_
          refine At.weak [(0, _), (3, _), (9, _), (10, _), (12, _), (13, _), (14, _), (15, _), (42, _), (43, _), (44, _)] ⟨rfl, rfl, rfl, rfl, rfl, rfl, rfl, rfl, rfl, rfl, rfl, trivial⟩ ?_
          refine At.go ?_
          refine Sc.cut (β := List ((I6 × I6) × Value)) (fun mE => [(0, .slice lo Ls.length lc), (3, .slice xo gs.length xc), (9, .slice o zs.length c), (10, .map (some gi)), (14, .pointer (some ⟨r, 0, none⟩)), (15, .pointer (some ⟨q, 0, none⟩)), (42, .slice oy ys.length cy), (43, .int .i64 ys.length), (44, .int .i64 j)]) (fun mE w => MapL enO w.heap gi mE ∧ MapP Z (inosOf (visJ Ls ys j) ++ [code]) mE ∧ Foot (· = gi) wC w) ?_ ?_
          ·
            refine Sc.seq ?_
            refine Sc.region ?_
            refine Sl.calm (Cm.move rfl) rfl ?_
            refine Sl.calm (Cm.ofEq (u := enO ka) (Cm.ldM (cs := [.int .i64 (i : Int), .int .i64 p.2.ino]) agg66 rfl (cellsF hqC 0 rfl)) hke) rfl ?_
            refine Sl.calm (Cm.ofEq (u := .int .i64 (if code ∈ inosOf (visJ Ls ys j) then numZ Z code else 0)) (Cm.lookup mpO keyO (a := ka) rfl rfl (fun _ e => by rw [e]; exact hmmC)) (by rw [hget]; split <;> rfl)) rfl ?_
            refine Sl.fork (Cm.eql rfl rfl) rfl (fun h81 => ?_) (fun h81 => ?_)
            ·
              have hcn : code ∉ inosOf (visJ Ls ys j) := fun hc => by rw [if_pos hc] at h81; have := numZ_pos Z code; omega
              have hnum : numZ Z code = (mm.length : Int) + 1 := by rw [hrz, numZ_new hcn, hmp.2]
              refine Sl.nil ?_
              refine At.weak [(0, _), (3, _), (9, _), (10, _), (12, _), (13, _), (14, _), (15, _), (42, _), (43, _), (44, _), (81, _)] ⟨rfl, rfl, rfl, rfl, rfl, rfl, rfl, rfl, rfl, rfl, rfl, rfl, trivial⟩ ?_
              refine At.go ?_
              refine Sc.cond_t rfl ?_
              refine Sc.region ?_
              refine Sl.calm (Cm.move rfl) rfl ?_
              refine Sl.calm (Cm.ofEq (u := enO ka) (Cm.ldM (cs := [.int .i64 (i : Int), .int .i64 p.2.ino]) agg66 rfl (cellsF hqC 0 rfl)) hke) rfl ?_
              refine Sl.calm (Cm.move rfl) rfl ?_
              refine Sl.calm (Cm.lenMap mpO rfl (fun _ e => by rw [e]; exact hmmC)) rfl ?_
              have hmlb : mm.length ≤ ys.length := by
                have h1 := seen_le (inosOf (visJ Ls ys j))
                have h2 : (inosOf (visJ Ls ys j)).length ≤ ys.length := by
                  unfold inosOf visJ
                  rw [List.length_map]
                  exact Nat.le_trans (List.length_filterMap_le _ _) (by rw [List.length_take, List.length_map]; omega)
                have h3 := hmp.2
                omega
              refine Sl.calm (Cm.add64 rfl rfl (by omega)) rfl ?_
              refine Sl.mapUpdate mpO keyO (a := ka) rfl rfl rfl hmmC ?_
              intro wD hmD hsD hfD
              rw [← hnum] at hmD
              refine Sl.nil ?_
              first
                | exact At.cut _ ⟨rfl, rfl, rfl, rfl, rfl, rfl, rfl, rfl, rfl, trivial⟩ ⟨hmD, by have := hmp.new ka (by omega) (by rw [hkc]; exact hcn); rw [hkc] at this; exact this, hfD⟩
                | exact At.cut mm ⟨rfl, rfl, rfl, rfl, rfl, rfl, rfl, rfl, rfl, trivial⟩ ⟨hmmC, hmp.old hcn, Foot.refl _ _⟩
            ·
              have hcn : code ∈ inosOf (visJ Ls ys j) := Classical.byContradiction fun hc => h81 (if_neg hc)
              refine Sl.nil ?_
              refine At.weak [(0, _), (3, _), (9, _), (10, _), (12, _), (13, _), (14, _), (15, _), (42, _), (43, _), (44, _), (81, _)] ⟨rfl, rfl, rfl, rfl, rfl, rfl, rfl, rfl, rfl, rfl, rfl, rfl, trivial⟩ ?_
              refine At.go ?_
              refine Sc.cond_f rfl ?_
              refine Sc.skip ?_
              first
                | exact At.cut _ ⟨rfl, rfl, rfl, rfl, rfl, rfl, rfl, rfl, rfl, trivial⟩ ⟨hmD, by have := hmp.new ka (by omega) (by rw [hkc]; exact hcn); rw [hkc] at this; exact this, hfD⟩
                | exact At.cut mm ⟨rfl, rfl, rfl, rfl, rfl, rfl, rfl, rfl, rfl, trivial⟩ ⟨hmmC, hmp.old hcn, Foot.refl _ _⟩
          ·
            rintro mE wE ⟨hmE, hmpE, hfE⟩
            have hgr : ¬ gi = r := fun e => by subst e; have h1 := hmmC.1; rw [hrC] at h1; cases h1
            have hgq : ¬ q = gi := fun e => by subst e; have h1 := hmmC.1; rw [hqC] at h1; cases h1
            have hqr : ¬ q = r := fun e => by subst e; have h1 := (Array.getElem?_eq_some_iff.1 hrA).1; omega
            have hrE := hfE.obj hrC (fun e => hgr e.symm)
            have hqE : wE.heap[q]? = some (.cells [.int .i64 (i : Int), .int .i64 p.2.ino].toArray 66 (0, 0)) := hfE.obj hqC hgq
            have hF9E : Foot (· = gi) w9 wE := (hF9C.mono (fun _ h => h.elim)).trans hfE
            have hFWE : Foot nob W wE := hF7W.trans_to (hF9.trans hF9E) (fun k e => .inr (by have e : k = gi := e; have := hf1.size; omega))
            have hnmE : NmV D wE.heap p.1.names p.2.names := by
              obtain ⟨h2, hh2, _, _, hvn2⟩ := (hv.grow hFWE).lay hil
              exact (hvn2.2 p hpm).1
            have hgetE := hmpE.1 ka (by omega)
            rw [hkc, if_pos (by simp)] at hgetE
            refine Sc.seq ?_
            refine Sc.drawZ 7 [1, 2, 4] (fun H => H[r]? = some (.cells (encN p).toArray 35 (0, 0)) ∧ H[q]? = some (.cells [.int .i64 (i : Int), .int .i64 p.2.ino].toArray 66 (0, 0)) ∧ MapL enO H gi mE) [5, 7, 9, 11] [0, 1, 2, 3, 4, 6] (.alt 5 [] (.alt 7 [8] (.alt 9 [10] (.alt 11 [] .fin .stop) .stop) .stop) .stop) mixed (by kernel_rfl) (⟨hrE, hqE, hmE⟩) ?_
            refine Sz.calm rfl rfl (Cm.move rfl) rfl ?_
            refine Sz.calm rfl rfl (Cm.ofEq (u := enO ka) (Cm.loadM (cs := [.int .i64 (i : Int), .int .i64 p.2.ino]) agg66 rfl (fun H (hH : H[r]? = some (.cells (encN p).toArray 35 (0, 0)) ∧ H[q]? = some (.cells [.int .i64 (i : Int), .int .i64 p.2.ino].toArray 66 (0, 0)) ∧ MapL enO H gi mE) => cellsF hH.2.1 0 rfl)) hke) rfl ?_
            refine Sz.calm rfl rfl (Cm.ofEq (u := .int .i64 (numZ Z code)) (Cm.lookup mpO keyO (a := ka) rfl rfl (fun H (hH : H[r]? = some (.cells (encN p).toArray 35 (0, 0)) ∧ H[q]? = some (.cells [.int .i64 (i : Int), .int .i64 p.2.ino].toArray 66 (0, 0)) ∧ MapL enO H gi mE) => hH.2.2)) (by rw [hgetE]; rfl)) rfl ?_
            refine Sz.calm rfl rfl (Cm.field fld35_0 rfl) rfl ?_
            refine Sz.calm rfl rfl (Cm.ofEq (u := .slice p.1.names.a s.length p.1.names.c) (Cm.load sca29 rfl (fun H (hH : H[r]? = some (.cells (encN p).toArray 35 (0, 0)) ∧ H[q]? = some (.cells [.int .i64 (i : Int), .int .i64 p.2.ino].toArray 66 (0, 0)) ∧ MapL enO H gi mE) => cellF hH.1 rfl)) (by rw [← hp2, ← hnmE.1]; rfl)) rfl ?_
            refine Sz.calm rfl rfl (Cm.field fld35_1 rfl) rfl ?_
            refine Sz.alt ?_ ?_
            ·
              refine Sz.eff rfl rfl (Sl.call fn37 rfl (cloneS_ok p.1.names.a p.1.names.c s (wE.drewN 1) (by rw [← hp2]; exact hnmE.2.1.grow (Foot.ofDraws 1)) (by omega)) rfl ?_)
              rintro _ wF ⟨on, cn, rfl, hon, hfon, hfF⟩
              have hfF := hfF.undraw
              have hrF := hfF.obj hrE id
              have hqF := hfF.obj hqE id
              have hmF := hmE.keep hfF id
              have hrF0 := hrF
              have hnr : ¬ blk on r := fun ⟨a, ha, e⟩ => by have := hfon a ha; have := (Array.getElem?_eq_some_iff.1 hrE).1; have : (wE.drewN 1).heap.size = wE.heap.size := rfl; omega
              refine Sz.on (by exact ⟨hrF, hqF, hmF⟩) ?_
              refine Sz.alt ?_ ?_
              ·
                refine Sz.eff rfl rfl (Sl.store sca3 rfl rfl rfl hrF rfl ?_)
                intro wG hrG hsG hfG
                have hqG := hfG.obj hqF (fun e => hqr e)
                have hmG := hmF.keep hfG (fun e => hgr e)
                refine Sz.off rfl ?_
                refine Sz.calm rfl rfl (Cm.field fld35_7 rfl) rfl ?_
                refine Sz.alt ?_ ?_
                ·
                  refine Sz.eff rfl rfl (Sl.store sca4 rfl rfl rfl hrG rfl ?_)
                  intro wH hrH hsH hfH
                  have hqH := hfH.obj hqG (fun e => hqr e)
                  have hmH := hmG.keep hfH (fun e => hgr e)
                  refine Sz.off rfl ?_
                  refine Sz.calm rfl rfl (Cm.field fld35_0 rfl) rfl ?_
                  refine Sz.alt ?_ ?_
                  ·
                    refine Sz.eff rfl rfl (Sl.store sca29 rfl rfl rfl hrH rfl ?_)
                    intro wI hrI hsI hfI
                    have hqI := hfI.obj hqH (fun e => hqr e)
                    refine Sz.off rfl ?_
                    obtain ⟨z, hz⟩ : ∃ z, z = mgZ Ls p i ⟨on, s.length, cn⟩ := ⟨_, rfl⟩
                    have hrZ : wI.heap[r]? = some (.cells (encN z).toArray 35 (0, 0)) := by rw [hz]; unfold mgZ; rw [← eZ, ← ec]; exact hrI
                    have hfEI : Foot (· = r) wE wI := (hfF.mono (S' := (· = r)) (fun _ h => h.elim)).trans ((hfG.trans hfH).trans hfI)
                    refine Sz.nil ?_
                    refine At.weak [(0, _), (3, _), (9, _), (10, _), (14, _), (15, _), (42, _), (43, _), (44, _)] ⟨rfl, rfl, rfl, rfl, rfl, rfl, rfl, rfl, rfl, trivial⟩ ?_
                    refine At.go ?_
                    refine Sc.region ?_
                    refine Sl.calm (Cm.move rfl) rfl ?_
                    refine Sl.calm (Cm.ldM (cs := encN z) agg35 rfl (cellsF hrZ 0 rfl)) rfl ?_
                    refine Sl.litG sl25 (cs := (encN z).toArray) zc35 rfl rfl rfl (by kernel_rfl) rfl ?_
                    intro wJ hgJ hsJ hfJ
                    have hoJ : OwnM 10 encN 35 wJ.heap (some ⟨wI.heap.size, 0, none⟩) 1 [z] := ownM_new (xs := [z]) encN_cells (by simpa using hgJ) (by show 1 ≤ maxLen; decide)
                    have hF9J : Foot (fun k => k = gi ∨ k = r) w9 wJ := ((hF9E.mono (fun k hk => .inl hk)).trans (hfEI.mono (fun k hk => .inr hk))).trans (hfJ.mono (fun _ h => h.elim))
                    have hzoJ := hzo9.keep hF9J (fun a ha hk => by rcases hk with e | e; (have h1 := hmm9.1; obtain ⟨cur, h2⟩ := hzo9.cells ha; rw [e, h1] at h2; cases h2); (have := hzo9.lt a ha; omega))
                    have hzJ : ∀ x ∈ zs, NdV (fun k => ¬ blk o k ∧ k ≠ gi ∧ k < wJ.heap.size) wJ.heap x := fun x hx => ((hz9 x hx).keep hF9J (fun k hk hk2 => by rcases hk2 with e | e; exact hk.2.1 e; omega)).mono (fun k hk => ⟨hk.1, hk.2.1, by have := hF9J.size; omega⟩)
                    have hFWJ : Foot nob W wJ := hF7W.trans_to (hF9.trans_to hF9J (fun k hk => by rcases hk with e | e; exact .inl e; exact .inr (by have := hF9.size; omega))) (fun k e => .inr (by have e : k = gi := e; have := hf1.size; omega))
                    have hpJ : NdV (fun k => k < W.heap.size) wJ.heap p := by
                      obtain ⟨h2, hh2, _, _, hvn2⟩ := hv.lay hil
                      exact (NdV.real (hvn2.2 p hpm)).grow hFWJ
                    have hFI : Foot (· = r) wF wI := (hfG.trans hfH).trans hfI
                    have honJ : Own strE 9 wJ.heap on cn s := (hon.keep hFI (fun a ha e => hnr ⟨a, ha, e⟩)).grow hfJ
                    have hzzJ : NdV (fun k => ¬ blk o k ∧ k ≠ gi ∧ k < wJ.heap.size) wJ.heap z := by
                      have hlow : ∀ k, k < W.heap.size → ¬ blk o k ∧ k ≠ gi ∧ k < wJ.heap.size := fun k hk => ⟨fun ⟨a, ha, e⟩ => by have := hfo a ha; have := hF7W.size; omega, by have := hf1.size; omega, by have := hFWJ.size; omega⟩
                      rw [hz]; unfold mgZ
                      refine ⟨⟨by show s.length = p.2.names.length; rw [hp2], by show Vw strE _ on cn p.2.names; rw [hp2]; exact honJ.vw, fun _ k ⟨a, ha, e⟩ => ?_⟩, hpJ.2.1.mono hlow, hpJ.2.2.mono hlow⟩
                      have h1 := hfon a ha
                      have h2 : (wE.drewN 1).heap.size = wE.heap.size := rfl
                      have h3 := honJ.lt a ha
                      have h4 := hF9E.size
                      exact ⟨fun ⟨b, hb, e2⟩ => by have := hzo9.lt b hb; omega, by have := hmm9.obj; omega, by omega⟩
                    have hmJ := (hmF.keep hFI (fun e => hgr e)).keep hfJ id
                    refine Sl.appendM encN_cells rfl sl25 rfl rfl hzoJ (hoJ.vw encN_cells) (by simp only [List.length_singleton]; omega) (by simp only [List.length_singleton]; unfold maxLen; omega) rfl ?_
                    intro oK cK wK hoK hfK hrK hnK
                    refine Sl.calm (Cm.assign rfl) rfl ?_
                    refine Sl.nil ?_
                    refine At.block_normal ?_
                    refine At.weak [(0, _), (3, _), (9, _), (10, _), (14, _), (15, _), (42, _), (43, _), (44, _)] ⟨rfl, rfl, rfl, rfl, rfl, rfl, rfl, rfl, rfl, trivial⟩ ?_
                    refine At.go ?_
                    refine Sc.region ?_
                    refine Sl.calm (Cm.add64 rfl rfl (by omega)) rfl ?_
                    refine Sl.calm (Cm.move rfl) rfl ?_
                    refine Sl.nil ?_
                    have hKD : ∀ k, (¬ blk o k ∧ k ≠ gi ∧ k < wJ.heap.size) → ¬ blk oK k ∧ k ≠ gi ∧ k < wK.heap.size := fun k hk => ⟨fun ⟨a, ha, e⟩ => by
                      rcases hrK a ha with h | h
                      · exact hk.1 ⟨a, h, e⟩
                      · omega, hk.2.1, by have := hfK.size; omega⟩
                    have hvs2 := hvs
                    refine At.again ⟨j + 1, oK, cK, zs ++ [z], mE⟩ ⟨rfl, rfl, rfl, rfl, rfl, rfl, rfl, trivial⟩ ⟨by omega, hoK, by rw [List.length_append, List.length_singleton]; omega, fr_app hfo hrK (by have := hF9.size; have := hF9J.size; omega), ?_, ?_, hmJ.keep hfK (ownM_neMap hmJ hzoJ), ?_, ?_⟩ (by show ys.length - (j + 1) < ys.length - j; omega)
                    · rw [hvs, List.map_append]
                      unfold nds at *
                      rw [List.map_append, List.map_append, hzn, hz, List.map_singleton, List.map_singleton, List.map_singleton, renP_vis]
                      unfold mgZ
                      rw [← eZ]
                    · intro x hx
                      rcases List.mem_append.1 hx with hx | hx
                      · exact ((hzJ x hx).keep hfK (fun k hk => hk.1)).mono hKD
                      · rw [List.mem_singleton] at hx; subst hx
                        exact (hzzJ.keep hfK (fun k hk => hk.1)).mono hKD
                    · rw [hvs, inosOf, List.map_append, List.map_singleton]
                      have : (visN i p).2.ino = code := ec.symm
                      rw [this]; exact hmpE
                    · exact (hF9.trans_to hF9J (S := (· = gi)) (fun k hk => by rcases hk with e | e; exact .inl e; exact .inr (by have := hF9.size; omega))).trans_to hfK hfo.step
                  exact Sz.stop
                exact Sz.stop
              exact Sz.stop
            exact Sz.stop
    ·
      have hje : j = ys.length := by omega
      subst hje
      refine Sl.nil ?_
      refine At.go ?_
      refine Sc.seq ?_
      refine Sc.cond_f rfl ?_
      refine Sc.exit ?_
      refine At.then_exit ?_
      refine At.then_exit ?_
      refine At.block_hit ?_
      refine At.go ?_
      refine Sc.seq ?_
      refine Sc.region ?_
      refine Sl.calm (Cm.move rfl) rfl ?_
      refine Sl.calm (Cm.assign rfl) rfl ?_
      refine Sl.nil ?_
      refine At.weak [(0, _), (2, _), (3, _), (9, _), (10, _), (42, _), (43, _), (44, _), (45, _)] ⟨rfl, rfl, rfl, rfl, rfl, rfl, rfl, rfl, rfl, trivial⟩ ?_
      refine At.go ?_
      refine Sc.ret ?_
      refine At.ret1 rfl rfl ?_
      refine ⟨_, rfl, o, c, zs, rfl, hzo, ?_, fun z hz => (hzv z hz).mono (fun k hk => ⟨hk.1, hk.2.2⟩), hfo.mono hF7W.size, ?_⟩
      · rw [hzn, hfull, eZ]; rfl
      · exact hF7W.trans_to hF8 (fun k e => .inr (by have e : k = gi := e; have := hf1.size; omega))
end Go.Proofs.Ytpamandneifemaa
