/- merge: layers in memory, their index. No condition beyond the bounds that each states. -/
import Derived.Test.YtpamandneifemaaMgPk
import Derived.Test.YtpamandneifemaaTsGk
import Derived.Test.YtpamandneifemaaKL
namespace Go.Proofs.Ytpamandneifemaa
open Go Go.RowKit Go.Maps
set_option linter.unusedVariables false

/-! layers -/
def LysV (D : Nat → Prop) (H : Array Obj) (ao : Option Addr) (cap : Nat) (hs : List Hd) (Ls : Lys) : Prop := Vw hd H ao cap hs ∧ hs.length = Ls.length ∧ ∀ (i : Nat) (h : Hd) (ps : List (NdH × Nd)), hs[i]? = some h → Ls[i]? = some ps → h.n = ps.length ∧ NodesV D H h.a h.c ps
theorem LysV.grow {D : Nat → Prop} {w w' : World} {ao : Option Addr} {cap : Nat} {hs : List Hd} {Ls : Lys} (v : LysV D w.heap ao cap hs Ls) (f : Foot nob w w') : LysV D w'.heap ao cap hs Ls :=
  ⟨v.1.grow f, v.2.1, fun i h ps h1 h2 => ⟨(v.2.2 i h ps h1 h2).1, (v.2.2 i h ps h1 h2).2.grow f⟩⟩
theorem LysV.lay {D : Nat → Prop} {H : Array Obj} {ao : Option Addr} {cap : Nat} {hs : List Hd} {Ls : Lys} (v : LysV D H ao cap hs Ls) {i : Nat} (hi : i < Ls.length) : ∃ h, hs[i]? = some h ∧ Ls[i]? = some (lyA Ls i) ∧ h.n = (lyA Ls i).length ∧ NodesV D H h.a h.c (lyA Ls i) := by
  have hl := v.2.1
  have e : Ls[i]? = some (lyA Ls i) := by unfold lyA; rw [List.getD, List.getElem?_eq_getElem hi]; rfl
  obtain ⟨h, hh⟩ : ∃ h, hs[i]? = some h := ⟨_, List.getElem?_eq_getElem (by omega)⟩
  exact ⟨h, hh, e, (v.2.2 i h _ hh e).1, (v.2.2 i h _ hh e).2⟩
theorem LysV.non {D : Nat → Prop} {H : Array Obj} {ao : Option Addr} {cap : Nat} {hs : List Hd} {Ls : Lys} (v : LysV D H ao cap hs Ls) : Ls.length ≠ 0 → ao ≠ none := fun h => v.1.non (by rw [v.2.1]; exact h)
theorem own_neMap {α β : Type} {enc : α → Value} {enc' : β → Value} {H : Array Obj} {g : Nat} {m : List (α × Value)} (hm : MapL enc H g m) {e : TypeId} {o : Option Addr} {c : Nat} {xs : List β} (h : Own enc' e H o c xs) : ¬ blk o g := by
  rintro ⟨a, rfl, rfl⟩
  rcases h with ⟨h, _⟩ | ⟨g, cur, h, hg, _⟩
  · cases h
  · cases h
    have := hm.1
    rw [hg] at this; cases this

/-! an index -/
def mpV (g : Nat) : Value := .map (some g)
theorem mpV_one : ∀ g, (mpV g).oneCell' = true := fun _ => rfl
def IxM (ps : List (NdH × Nd)) (m : List (SK × Value)) : Prop := ∀ (s : List (List UInt8)) (h : (pathL s).length ≤ maxLen), okPath s → getM m (⟨pathL s, h⟩ : SK) = if 0 ≤ findP ps s then some (.int .i64 (findP ps s)) else none
theorem IxM.nil : IxM [] [] := fun s h hs => by rw [findP_miss (by simp)]; rfl
theorem findP_tk {ps : List (NdH × Nd)} {i : Nat} {p : NdH × Nd} (hp : ps[i]? = some p) {s : List (List UInt8)} (hs : p.2.names ≠ s) : findP (ps.take (i + 1)) s = findP (ps.take i) s := by
  have e := tkL hp
  rw [e]
  rcases findP_spec (ps.take i) s with ⟨h1, h2⟩ | ⟨j, q, h1, h2, h3, h4⟩
  · rw [h1]
    refine findP_miss fun q hq => ?_
    rcases List.mem_append.1 hq with h | h
    · exact h2 q h
    · rw [List.mem_singleton] at h; subst h; exact hs
  · rw [h1]
    have hj := (List.getElem?_eq_some_iff.1 h2).1
    refine findP_hit (p := q) (by rw [List.getElem?_append_left hj]; exact h2) h3 (fun k r hk hr => ?_)
    rw [List.getElem?_append_left (by omega)] at hr
    exact h4 k r hk hr
theorem IxM.snoc {ps : List (NdH × Nd)} {m : List (SK × Value)} {i : Nat} {p : NdH × Nd} (h : IxM (ps.take i) m) (hp : ps[i]? = some p) (ht : ¬ twiceL (nds ps)) (ho : okPath p.2.names) (hl : (pathL p.2.names).length ≤ maxLen) :
    IxM (ps.take (i + 1)) (setM m (⟨pathL p.2.names, hl⟩ : SK) (.int .i64 i)) := fun s hls hos => by
  rw [setM_get]
  by_cases e : s = p.2.names
  · subst e
    have hf : findP (ps.take (i + 1)) p.2.names = i := findP_hit (p := p) (by rw [List.getElem?_take, if_pos (by omega)]; exact hp) rfl (fun j q hj hq e => by
      rw [List.getElem?_take, if_pos (by omega)] at hq
      exact ht ((twice_iff ps).2 ⟨j, i, q, p, hj, hq, hp, e⟩))
    rw [if_pos rfl, hf, if_pos (by omega)]
  · rw [if_neg (fun he => e (pathL_inj hos ho (congrArg Subtype.val he))), findP_tk hp (fun h => e h.symm)]
    exact h s hls hos
theorem mpSI : MapT Try.prog 64 9 3 (.int .i64 0) := ⟨by kernel_rfl, by kernel_rfl⟩
def IdxV (H : Array Obj) (o : Option Addr) (c : Nat) (gs : List Nat) (Ls : Lys) : Prop := Vw mpV H o c gs ∧ gs.length = Ls.length ∧ ∀ (i g : Nat), gs[i]? = some g → ∃ m, MapL enS H g m ∧ IxM (lyA Ls i) m
theorem IdxV.grow {w w' : World} {o : Option Addr} {c : Nat} {gs : List Nat} {Ls : Lys} (h : IdxV w.heap o c gs Ls) (f : Foot nob w w') : IdxV w'.heap o c gs Ls :=
  ⟨h.1.grow f, h.2.1, fun i g hg => by obtain ⟨m, h1, h2⟩ := h.2.2 i g hg; exact ⟨m, h1.keep f id, h2⟩⟩
theorem gd_names {ps : List (NdH × Nd)} (h : GdL ps) {p : NdH × Nd} (hp : p ∈ ps) : okPath p.2.names ∧ p.2.names.length ≤ 1000 ∧ (∀ s ∈ p.2.names, s.length ≤ 255) ∧ (pathL p.2.names).length ≤ maxLen := by
  have h1 := h.nm hp
  have h2 : ∀ s ∈ p.2.names, s.length ≤ 255 := fun s hs => (vErr_ok (h1.1 s hs)).1
  exact ⟨fun s hs => ⟨(vErr_ok (h1.1 s hs)).2.1, (vErr_ok (h1.1 s hs)).2.2.2⟩, by omega, h2, path_len h1.2 h2⟩
variable {D : Nat → Prop}
set_option maxHeartbeats 4000000 in
theorem of_ok (lo : Option Addr) (lc : Nat) (hs : List Hd) (Ls : Lys) (W : World) (hv : LysV D W.heap lo lc hs Ls) (hg : GdA Ls) (hL : Ls.length ≤ 1000) :
    Calls Try.prog 31 [.slice lo Ls.length lc].toArray W (Ret fun v w' => ∃ o c gs, v = .slice o (List.length (α := Nat) gs) c ∧ IdxV w'.heap o c gs Ls ∧ Foot nob W w') := by
  refine calls_of_sc 35 [(0, _)] Try.func31 rfl rfl rfl (enter_slots ⟨rfl, trivial⟩) ?_
  refine Sc.seq ?_
  refine Sc.region ?_
  refine Sl.calm (Cm.assign rfl) rfl ?_
  refine Sl.nil ?_
  refine At.go ?_
  refine Sc.seq ?_
  refine Sc.region ?_
  refine Sl.calm (Cm.assign rfl) rfl ?_
  refine Sl.nil ?_
  refine At.go ?_
  refine Sc.seq ?_
  refine Sc.seq ?_
  refine Sc.region ?_
  refine Sl.calm (Cm.move rfl) rfl ?_
  refine Sl.calm (Cm.len sl22 rfl) rfl ?_
  refine Sl.calm (Cm.move rfl) rfl ?_
  refine Sl.nil ?_
  refine At.go ?_
  refine Sc.block ?_
  refine Sc.loop (β := Nat × Option Addr × Nat × List Nat) (fun ⟨i, o, c, gs⟩ => [(0, .slice lo Ls.length lc), (3, .slice o gs.length c), (9, .slice lo Ls.length lc), (10, .int .i64 Ls.length), (11, .int .i64 i)]) (fun ⟨i, o, c, gs⟩ w => i ≤ Ls.length ∧ gs.length = i ∧ Own mpV 64 w.heap o c gs ∧ Fr W.heap.size o ∧ (∀ (j g : Nat), gs[j]? = some g → ∃ m, MapL enS w.heap g m ∧ IxM (lyA Ls j) m) ∧ Foot nob W w) (fun ⟨i, o, c, gs⟩ => Ls.length - i) ⟨0, none, 0, []⟩ ⟨rfl, rfl, rfl, rfl, rfl, trivial⟩ ⟨Nat.zero_le _, rfl, Own.nil, Fr.none, fun j g h => by simp at h, Foot.refl _ _⟩ ?_
  rintro ⟨i, o, c, gs⟩ w2 ⟨hi, hgl, ho2, hfo, hgs, hF2⟩
  refine Sc.seq ?_
  refine Sc.region ?_
  refine Sl.fork (Cm.lss rfl rfl) rfl (fun h12 => ?_) (fun h12 => ?_)
  ·
    have hil : i < Ls.length := by omega
    have hv2 := hv.grow hF2
    obtain ⟨h, hh, hps, hn, hvn⟩ := hv2.lay hil
    obtain ⟨ps, ep⟩ : ∃ ps, ps = lyA Ls i := ⟨_, rfl⟩
    rw [← ep] at hps hn hvn
    have hgp : GdL ps := hg ps (List.mem_of_getElem? hps)
    have hp63 := hgp.2.2
    have hll := hv.2.1
    refine Sl.nil ?_
    refine At.go ?_
    refine Sc.seq ?_
    refine Sc.cond_t rfl ?_
    refine Sc.skip ?_
    refine At.go ?_
    refine Sc.seq ?_
    refine Sc.block ?_
    refine Sc.seq ?_
    refine Sc.region ?_
    refine Sl.calm (Cm.indexAddr1 sl22 rfl rfl hv2.non (by omega)) rfl ?_
    refine Sl.calm (Cm.ofEq (u := .slice h.a ps.length h.c) (Cm.ld sca25 rfl (hv2.1.get i h hh)) (by rw [← hn]; rfl)) rfl ?_
    refine Sl.calm (Cm.assign rfl) rfl ?_
    refine Sl.nil ?_
    refine At.weak [(0, _), (3, _), (5, _), (9, _), (10, _), (11, _), (12, _)] ⟨rfl, rfl, rfl, rfl, rfl, rfl, rfl, trivial⟩ ?_
    refine At.go ?_
    refine Sc.seq ?_
    refine Sc.region ?_
    refine Sl.makeMap (enc := enS) rfl ?_
    intro w3 hm3 hs3 hf3
    obtain ⟨g, eg⟩ : ∃ g, g = w2.heap.size := ⟨_, rfl⟩
    rw [← eg] at hm3 hs3 ⊢
    have ho3 := ho2.grow hf3
    refine Sl.calm (Cm.assign rfl) rfl ?_
    refine Sl.nil ?_
    refine At.weak [(0, _), (3, _), (5, _), (6, _), (9, _), (10, _), (11, _), (12, _)] ⟨rfl, rfl, rfl, rfl, rfl, rfl, rfl, rfl, trivial⟩ ?_
    refine At.go ?_
    refine Sc.seq ?_
    refine Sc.seq ?_
    refine Sc.region ?_
    refine Sl.calm (Cm.move rfl) rfl ?_
    refine Sl.calm (Cm.len sl25 rfl) rfl ?_
    refine Sl.calm (Cm.move rfl) rfl ?_
    refine Sl.nil ?_
    refine At.go ?_
    refine Sc.block ?_
    refine Sc.loop (β := Nat × List (SK × Value)) (fun ⟨k, m⟩ => [(0, .slice lo Ls.length lc), (3, .slice o gs.length c), (6, .map (some g)), (9, .slice lo Ls.length lc), (10, .int .i64 Ls.length), (11, .int .i64 i), (16, .slice h.a ps.length h.c), (17, .int .i64 ps.length), (18, .int .i64 k)]) (fun ⟨k, m⟩ w => k ≤ ps.length ∧ MapL enS w.heap g m ∧ IxM (ps.take k) m ∧ Foot (· = g) w3 w) (fun ⟨k, m⟩ => ps.length - k) ⟨0, []⟩ ⟨rfl, rfl, rfl, rfl, rfl, rfl, rfl, rfl, rfl, trivial⟩ ⟨Nat.zero_le _, hm3, by rw [List.take_zero]; exact IxM.nil, Foot.refl _ _⟩ ?_
    rintro ⟨k, m⟩ w4 ⟨hk, hm4, hix, hF4⟩
    refine Sc.seq ?_
    refine Sc.region ?_
    refine Sl.fork (Cm.lss rfl rfl) rfl (fun h19 => ?_) (fun h19 => ?_)
    ·
      have hkl : k < ps.length := by omega
      obtain ⟨p, hp⟩ : ∃ p, ps[k]? = some p := ⟨_, List.getElem?_eq_getElem hkl⟩
      have hpm := List.mem_of_getElem? hp
      have hv4 := hvn.keep (hf3.trans_to hF4 (fun k e => .inr (by have e : k = g := e; omega))) (fun _ _ => id) (fun _ _ _ => id)
      obtain ⟨hn1, hn2, hn3, hn4⟩ := gd_names hgp hpm
      refine Sl.nil ?_
      refine At.go ?_
      refine Sc.seq ?_
      refine Sc.cond_t rfl ?_
      refine Sc.skip ?_
      refine At.go ?_
      refine Sc.seq ?_
      refine Sc.block ?_
      refine Sc.seq ?_
      refine Sc.region ?_
      refine Sl.calm (Cm.move rfl) rfl ?_
      refine Sl.calm (Cm.indexAddr sl25 rfl rfl hv4.1.non (by omega)) rfl ?_
      refine Sl.calm (Cm.ldM (cs := encN p) agg35 rfl (fun j v hj => hv4.1.rowZ k rfl hp j v hj)) rfl ?_
      refine Sl.allocC zc35 rfl ?_
      intro w5 hg5 hs5 hf5
      obtain ⟨r, er⟩ : ∃ r, r = w4.heap.size := ⟨_, rfl⟩
      rw [← er] at hg5 ⊢
      refine Sl.calm (Cm.assign rfl) rfl ?_
      refine Sl.storeAll (vs := encN p) agg35 rfl rfl (encN_cells p).2 hg5 rfl ?_
      intro w6 hg6 hs6 hf6
      have hf46 : Foot nob w4 w6 := hf5.trans_to hf6 (fun k e => .inr (by have e : k = r := e; omega))
      have hnm := (hv4.2 p hpm).1.keep hf46 (fun _ _ => id)
      have hm6 := hm4.keep hf46 id
      refine Sl.nil ?_
      refine At.weak [(0, _), (3, _), (6, _), (7, _), (8, _), (9, _), (10, _), (11, _), (16, _), (17, _), (18, _), (19, _)] ⟨rfl, rfl, rfl, rfl, rfl, rfl, rfl, rfl, rfl, rfl, rfl, rfl, trivial⟩ ?_
      refine At.go ?_
      refine Sc.region ?_
      refine Sl.calm (Cm.move rfl) rfl ?_
      refine Sl.calm (Cm.field fld35_0 rfl) rfl ?_
      refine Sl.calm (Cm.ofEq (u := .slice p.1.names.a p.2.names.length p.1.names.c) (Cm.ld sca29 rfl (cellF hg6 rfl)) (by rw [← hnm.1]; rfl)) rfl ?_
      refine Sl.call fn32 rfl (nJoin_ok p.1.names.a p.1.names.c p.2.names w6 hnm.2.1 hn2 hn3) rfl ?_
      rintro _ w7 ⟨rfl, hf7⟩
      have hm7 := hm6.keep hf7 id
      refine Sl.calm (Cm.move rfl) rfl ?_
      refine Sl.mapUpdate mpSI keyS (a := (⟨pathL p.2.names, hn4⟩ : SK)) rfl rfl rfl hm7 ?_
      intro w8 hm8 hs8 hf8
      have hF48 : Foot (· = g) w4 w8 := ((hf46.trans hf7).mono (fun _ h => h.elim)).trans hf8
      refine Sl.nil ?_
      refine At.block_normal ?_
      refine At.weak [(0, _), (3, _), (6, _), (7, _), (8, _), (9, _), (10, _), (11, _), (16, _), (17, _), (18, _), (19, _)] ⟨rfl, rfl, rfl, rfl, rfl, rfl, rfl, rfl, rfl, rfl, rfl, rfl, trivial⟩ ?_
      refine At.go ?_
      refine Sc.region ?_
      refine Sl.calm (Cm.add64 rfl rfl (by omega)) rfl ?_
      refine Sl.calm (Cm.move rfl) rfl ?_
      refine Sl.nil ?_
      exact At.again ⟨k + 1, _⟩ ⟨rfl, rfl, rfl, rfl, rfl, rfl, rfl, rfl, rfl, trivial⟩ ⟨by omega, hm8, hix.snoc hp hgp.tw hn1 hn4, hF4.trans hF48⟩ (by show ps.length - (k + 1) < ps.length - k; omega)
    ·
      have hke : k = ps.length := by omega
      subst hke
      rw [List.take_length] at hix
      refine Sl.nil ?_
      refine At.go ?_
      refine Sc.seq ?_
      refine Sc.cond_f rfl ?_
      refine Sc.exit ?_
      refine At.then_exit ?_
      refine At.then_exit ?_
      refine At.block_hit ?_
      refine At.go ?_
      refine Sc.region ?_
      refine Sl.calm (Cm.move rfl) rfl ?_
      refine Sl.calm (Cm.move rfl) rfl ?_
      refine Sl.lit1 (enc := mpV) (u := g) sl54 (mpV_one _) rfl rfl ?_
      intro w5 ho5 hs5 hf5
      have ho4 := ho3.keep hF4 (fun a ha e => own_neMap hm3 ho3 ⟨a, ha, e⟩)
      refine Sl.append mpV_one sl54 rfl rfl (ho4.grow hf5) ho5.vw (by simp only [List.length_singleton]; omega) (by simp only [List.length_singleton]; unfold maxLen; omega) rfl ?_
      intro o6 c6 w6 ho6 hf6 hr6 hn6
      have hF26 : Foot (blk o) w2 w6 := (((hf3.trans_to hF4 (fun k e => .inr (by have e : k = g := e; omega))).trans hf5).mono (fun _ h => h.elim)).trans hf6
      have hF6 : Foot nob W w6 := hF2.trans_to hF26 hfo.step
      have hfo6 : Fr W.heap.size o6 := fr_app hfo hr6 (by have := hF2.size; have := hf3.size; have := hF4.size; have := hf5.size; omega)
      have hm6 := (hm4.keep hf5 id).keep hf6 (own_neMap (hm4.keep hf5 id) (ho4.grow hf5))
      refine Sl.calm (Cm.assign rfl) rfl ?_
      refine Sl.nil ?_
      refine At.block_normal ?_
      refine At.weak [(0, _), (3, _), (6, _), (9, _), (10, _), (11, _), (16, _), (17, _), (18, _), (19, _)] ⟨rfl, rfl, rfl, rfl, rfl, rfl, rfl, rfl, rfl, rfl, trivial⟩ ?_
      refine At.go ?_
      refine Sc.region ?_
      refine Sl.calm (Cm.add64 rfl rfl (by omega)) rfl ?_
      refine Sl.calm (Cm.move rfl) rfl ?_
      refine Sl.nil ?_
      refine At.again ⟨i + 1, o6, c6, gs ++ [g]⟩ ⟨rfl, rfl, rfl, rfl, rfl, trivial⟩ ⟨by omega, by simp [hgl], ho6, hfo6, fun j q hq => ?_, hF6⟩ (by show Ls.length - (i + 1) < Ls.length - i; omega)
      by_cases e : j < gs.length
      · rw [List.getElem?_append_left e] at hq
        obtain ⟨m1, q1, q2⟩ := hgs j q hq
        exact ⟨m1, q1.keep hF26 (own_neMap q1 ho2), q2⟩
      · have hj := (List.getElem?_eq_some_iff.1 hq).1
        have e2 : j = gs.length := by simp at hj; omega
        subst e2
        rw [List.getElem?_append_right (Nat.le_refl _), Nat.sub_self] at hq
        cases hq
        exact ⟨m, hm6, by rw [hgl, ← ep]; exact hix⟩
  ·
    have hie : i = Ls.length := by omega
    subst hie
    refine Sl.nil ?_
    refine At.go ?_
    refine Sc.seq ?_
    refine Sc.cond_f rfl ?_
    refine Sc.exit ?_
    refine At.then_exit ?_
    refine At.then_exit ?_
    refine At.block_hit ?_
    refine At.go ?_
    refine Sc.seq ?_
    refine Sc.region ?_
    refine Sl.calm (Cm.move rfl) rfl ?_
    refine Sl.calm (Cm.assign rfl) rfl ?_
    refine Sl.nil ?_
    refine At.weak [(0, _), (2, _), (3, _), (9, _), (10, _), (11, _), (12, _)] ⟨rfl, rfl, rfl, rfl, rfl, rfl, rfl, trivial⟩ ?_
    refine At.go ?_
    refine Sc.ret ?_
    refine At.ret1 rfl rfl ?_
    exact ⟨_, rfl, o, c, gs, rfl, ⟨ho2.vw, hgl, hgs⟩, hF2⟩
end Go.Proofs.Ytpamandneifemaa
/- merge: of which layers names are made, by the program. No condition beyond the bounds that each states. -/
namespace Go.Proofs.Ytpamandneifemaa
open Go Go.RowKit Go.Maps
set_option linter.unusedVariables false

def nN (i : Nat) : Value := .int .i64 (i : Int)
theorem nN_one : ∀ i, (nN i).oneCell' = true := fun _ => rfl
def inL (Ls : Lys) (s : List (List UInt8)) : Nat → List Nat
  | 0 => List.range Ls.length
  | n + 1 => srcL Ls s n
section
variable {Ls : Lys} {s : List (List UInt8)} {i : Nat} {r out : List Nat}
theorem inL_mem {n x : Nat} (h : x ∈ inL Ls s n) : x < Ls.length := by
  cases n with
  | zero => exact List.mem_range.1 h
  | succ n => exact (srcL_mem h).1
theorem srcL_in {n : Nat} (h : 0 < n → dirB Ls (s.take (n - 1)) (srcL Ls s (n - 1)) = true) : srcL Ls s n = scanL Ls (s.take n) (inL Ls s n) [] := by
  cases n with
  | zero => rw [List.take_zero]; rfl
  | succ n =>
    have := h (by omega)
    rw [Nat.add_sub_cancel] at this
    conv => lhs; unfold srcL
    rw [if_pos this]; rfl
theorem scan_skip (h : kAt Ls i s < 0) : scanL Ls s (i :: r) out = scanL Ls s r out := by
  conv => lhs; unfold scanL
  rw [if_pos h]
theorem scan_dir (h0 : ¬ kAt Ls i s < 0) (h1 : (nAt Ls i s).2.kind = 1) (h2 : ¬ (nAt Ls i s).2.opq = true) : scanL Ls s (i :: r) out = scanL Ls s r (out ++ [i]) := by
  conv => lhs; unfold scanL
  rw [if_neg h0, if_pos h1, if_neg h2]
theorem scan_opq (h0 : ¬ kAt Ls i s < 0) (h1 : (nAt Ls i s).2.kind = 1) (h2 : (nAt Ls i s).2.opq = true) : scanL Ls s (i :: r) out = out ++ [i] := by
  conv => lhs; unfold scanL
  rw [if_neg h0, if_pos h1, if_pos h2]
theorem scan_one (h0 : ¬ kAt Ls i s < 0) (h1 : ¬ (nAt Ls i s).2.kind = 1) (h2 : out = []) (h3 : (nAt Ls i s).2.kind ≠ 4) : scanL Ls s (i :: r) out = out ++ [i] := by
  conv => lhs; unfold scanL
  rw [if_neg h0, if_neg h1, if_pos ⟨h2, h3⟩]
theorem scan_stop (h0 : ¬ kAt Ls i s < 0) (h1 : ¬ (nAt Ls i s).2.kind = 1) (h2 : ¬ (out = [] ∧ (nAt Ls i s).2.kind ≠ 4)) : scanL Ls s (i :: r) out = out := by
  conv => lhs; unfold scanL
  rw [if_neg h0, if_neg h1, if_neg h2]
theorem scan_len : ∀ {r out : List Nat}, (scanL Ls s r out).length ≤ out.length + r.length
  | [], out => Nat.le_refl _
  | i :: r, out => by
    unfold scanL
    have h1 := scan_len (r := r) (out := out)
    have h2 := scan_len (r := r) (out := out ++ [i])
    rw [List.length_append, List.length_singleton] at h2
    rw [List.length_cons]
    split
    · omega
    · split
      · split
        · rw [List.length_append, List.length_singleton]; omega
        · omega
      · split
        · rw [List.length_append, List.length_singleton]; omega
        · omega
theorem srcL_len : ∀ {n : Nat}, (srcL Ls s n).length ≤ Ls.length
  | 0 => by
    have := scan_len (Ls := Ls) (s := []) (r := List.range Ls.length) (out := [])
    rw [List.length_range, List.length_nil, Nat.zero_add] at this; exact this
  | n + 1 => by
    unfold srcL
    split
    · have := scan_len (Ls := Ls) (s := s.take (n + 1)) (r := srcL Ls s n) (out := [])
      have h := srcL_len (n := n)
      rw [List.length_nil] at this; omega
    · exact Nat.zero_le _
theorem inL_len {n : Nat} : (inL Ls s n).length ≤ Ls.length := by
  cases n with
  | zero => show (List.range Ls.length).length ≤ _; rw [List.length_range]; exact Nat.le_refl _
  | succ n => exact srcL_len
theorem scan_nil : scanL Ls s [] out = out := rfl
/-- what holds of a list of layers, all of directories -/
def allD (Ls : Lys) (s : List (List UInt8)) (out : List Nat) (d : Bool) : Prop := d = dirB Ls s out ∧ (out ≠ [] → d = true)
theorem allD.nil : allD Ls s [] false := ⟨rfl, fun h => absurd rfl h⟩
theorem allD.dir {d : Bool} (h : allD Ls s out d) (h1 : (nAt Ls i s).2.kind = 1) : allD Ls s (out ++ [i]) true := ⟨by
  cases out with
  | nil => show true = decide _; rw [decide_eq_true h1]
  | cons a b => rw [← h.2 (by simp)]; exact h.1, fun _ => rfl⟩
theorem allD.one {d : Bool} (h : allD Ls s out d) (h1 : ¬ (nAt Ls i s).2.kind = 1) (h2 : out = []) : d = dirB Ls s (out ++ [i]) := by
  subst h2
  rw [h.1]
  show false = decide _
  rw [decide_eq_false h1]
theorem names_dirs (hg : GdA Ls) {n : Nat} (hn : n ≤ s.length) (h : dirB Ls (s.take n) (srcL Ls s n) = true) : n ≤ 16 := by
  rcases e : srcL Ls s n with _ | ⟨i, r⟩
  · rw [e] at h; cases h
  · have hm := srcL_mem (Ls := Ls) (s := s) (n := n) (x := i) (by rw [e]; simp)
    have ha := nAt_mem hm.2
    have := ((hg.at i).nm ha.1).2
    rw [ha.2, List.length_take] at this
    omega
end
variable {D : Nat → Prop}
set_option maxHeartbeats 8000000 in
theorem sources_ok (xo : Option Addr) (xc : Nat) (gs : List Nat) (lo : Option Addr) (lc : Nat) (hs : List Hd) (Ls : Lys) (so : Option Addr) (sc : Nat) (s : List (List UInt8)) (W : World) (hx : IdxV W.heap xo xc gs Ls) (hv : LysV D W.heap lo lc hs Ls) (hg : GdA Ls) (hL : Ls.length ≤ 1000)
    (hsv : Vw strE W.heap so sc s) (hsn : ∀ t ∈ s, vErr t = 0) :
    Calls Try.prog 36 [.slice xo gs.length xc, .slice lo Ls.length lc, .slice so s.length sc].toArray W (Ret fun v w' => ∃ o c, v = .slice o (srcs Ls s).length c ∧ Own nN 3 w'.heap o c (srcs Ls s) ∧ Fr W.heap.size o ∧ Foot nob W w') := by
  have hs63 := hsv.len63
  refine calls_of_sc 88 [(0, _), (1, _), (2, _)] Try.func36 rfl rfl rfl (enter_slots ⟨rfl, rfl, rfl, trivial⟩) ?_
  refine Sc.seq ?_
  refine Sc.region ?_
  refine Sl.calm (Cm.assign rfl) rfl ?_
  refine Sl.nil ?_
  refine At.go ?_
  refine Sc.seq ?_
  refine Sc.region ?_
  refine Sl.calm (Cm.assign rfl) rfl ?_
  refine Sl.nil ?_
  refine At.go ?_
  refine Sc.seq ?_
  refine Sc.seq ?_
  refine Sc.region ?_
  refine Sl.calm (Cm.move rfl) rfl ?_
  refine Sl.calm (Cm.len sl22 rfl) rfl ?_
  refine Sl.calm (Cm.move rfl) rfl ?_
  refine Sl.nil ?_
  refine At.weak [(0, _), (1, _), (2, _), (6, _), (7, _), (19, _), (20, _)] ⟨rfl, rfl, rfl, rfl, rfl, rfl, rfl, trivial⟩ ?_
  refine At.go ?_
  refine Sc.block ?_
  refine Sc.loop (β := Nat × Option Addr × Nat) (fun ⟨i, o, c⟩ => [(0, .slice xo gs.length xc), (1, .slice lo Ls.length lc), (2, .slice so s.length sc), (7, .slice o (List.range i).length c), (19, .int .i64 Ls.length), (20, .int .i64 i)]) (fun ⟨i, o, c⟩ w => i ≤ Ls.length ∧ Own nN 3 w.heap o c (List.range i) ∧ Fr W.heap.size o ∧ Foot nob W w) (fun ⟨i, o, c⟩ => Ls.length - i) ⟨0, none, 0⟩ ⟨rfl, rfl, rfl, rfl, rfl, rfl, trivial⟩ ⟨Nat.zero_le _, Own.nil, Fr.none, Foot.refl _ _⟩ ?_
  rintro ⟨i, o, c⟩ w2 ⟨hi, ho2, hfo, hF2⟩
  refine Sc.seq ?_
  refine Sc.region ?_
  refine Sl.fork (Cm.lss rfl rfl) rfl (fun h21 => ?_) (fun h21 => ?_)
  ·
    have hil : i < Ls.length := by omega
    refine Sl.nil ?_
    refine At.go ?_
    refine Sc.seq ?_
    refine Sc.cond_t rfl ?_
    refine Sc.skip ?_
    refine At.go ?_
    refine Sc.seq ?_
    refine Sc.block ?_
    refine Sc.seq ?_
    refine Sc.region ?_
    refine Sl.calm (Cm.move rfl) rfl ?_
    refine Sl.calm (Cm.assign rfl) rfl ?_
    refine Sl.nil ?_
    refine At.weak [(0, _), (1, _), (2, _), (7, _), (8, _), (19, _), (20, _), (21, _)] ⟨rfl, rfl, rfl, rfl, rfl, rfl, rfl, rfl, trivial⟩ ?_
    refine At.go ?_
    refine Sc.region ?_
    refine Sl.calm (Cm.move rfl) rfl ?_
    refine Sl.calm (Cm.move rfl) rfl ?_
    refine Sl.lit1 (enc := nN) (u := i) sl45 (nN_one _) rfl rfl ?_
    intro w3 ho3 hs3 hf3
    refine Sl.append nN_one sl45 rfl rfl (ho2.grow hf3) ho3.vw (by simp only [List.length_singleton, List.length_range]; omega) (by simp only [List.length_singleton, List.length_range]; unfold maxLen; omega) rfl ?_
    intro o4 c4 w4 ho4 hf4 hr4 hn4
    rw [← List.range_succ] at ho4 ⊢
    have hF4 : Foot nob W w4 := (hF2.trans hf3).trans_to hf4 hfo.step
    have hfo4 : Fr W.heap.size o4 := fr_app hfo hr4 (by have := hF2.size; have := hf3.size; omega)
    refine Sl.calm (Cm.assign rfl) rfl ?_
    refine Sl.nil ?_
    refine At.block_normal ?_
    refine At.weak [(0, _), (1, _), (2, _), (7, _), (8, _), (19, _), (20, _), (21, _)] ⟨rfl, rfl, rfl, rfl, rfl, rfl, rfl, rfl, trivial⟩ ?_
    refine At.go ?_
    refine Sc.region ?_
    refine Sl.calm (Cm.add64 rfl rfl (by omega)) rfl ?_
    refine Sl.calm (Cm.move rfl) rfl ?_
    refine Sl.nil ?_
    exact At.again ⟨i + 1, o4, c4⟩ ⟨rfl, rfl, rfl, rfl, rfl, rfl, trivial⟩ ⟨by omega, ho4, hfo4, hF4⟩ (by show Ls.length - (i + 1) < Ls.length - i; omega)
  ·
    have hie : i = Ls.length := by omega
    subst hie
    refine Sl.nil ?_
    refine At.go ?_
    refine Sc.seq ?_
    refine Sc.cond_f rfl ?_
    refine Sc.exit ?_
    refine At.then_exit ?_
    refine At.then_exit ?_
    refine At.block_hit ?_
    refine At.go ?_
    refine Sc.seq ?_
    refine Sc.region ?_
    refine Sl.calm (Cm.assign rfl) rfl ?_
    refine Sl.nil ?_
    refine At.go ?_
    refine Sc.block ?_
    refine Sc.loop (β := Nat × Option Addr × Nat × List Nat) (fun ⟨n, o, c, ins⟩ => [(0, .slice xo gs.length xc), (1, .slice lo Ls.length lc), (2, .slice so s.length sc), (7, .slice o ins.length c), (9, .int .i64 n)]) (fun ⟨n, o, c, ins⟩ w => ins = inL Ls s n ∧ n ≤ s.length ∧ (0 < n → dirB Ls (s.take (n - 1)) (srcL Ls s (n - 1)) = true) ∧ Own nN 3 w.heap o c ins ∧ Foot nob W w) (fun ⟨n, o, c, ins⟩ => s.length - n) ⟨0, o, c, List.range Ls.length⟩ ⟨rfl, rfl, rfl, rfl, rfl, trivial⟩ ⟨rfl, Nat.zero_le _, fun h => absurd h (Nat.lt_irrefl _), ho2, hF2⟩ ?_
    rintro ⟨n, o, c, ins⟩ w5 ⟨ei, hn, hdn, ho5, hF5⟩
    refine Sc.seq ?_
    refine Sc.block ?_
    refine Sc.seq ?_
    refine Sc.region ?_
    refine Sl.calm (Cm.move rfl) rfl ?_
    refine Sl.calm (Cm.move rfl) rfl ?_
    have hn17 : n ≤ 17 := by
      by_cases h0 : n = 0
      · omega
      · have := names_dirs hg (n := n - 1) (by omega) (hdn (by omega)); omega
    obtain ⟨t, et⟩ : ∃ t, t = s.take n := ⟨_, rfl⟩
    have htl : t.length = n := by rw [et, List.length_take]; omega
    have htn : ∀ x ∈ t, vErr x = 0 := fun x hx => hsn x (by rw [et] at hx; exact List.mem_of_mem_take hx)
    have ht255 : ∀ x ∈ t, x.length ≤ 255 := fun x hx => (vErr_ok (htn x hx)).1
    have hto : okPath t := fun x hx => ⟨(vErr_ok (htn x hx)).2.1, (vErr_ok (htn x hx)).2.2.2⟩
    have htp : (pathL t).length ≤ maxLen := by have := join_len ht255; unfold pathL maxLen; rw [List.length_cons]; omega
    have hsv5 := hsv.grow hF5
    have hcap := hsv.le
    refine Sl.calm (Cm.ofEq (u := .slice so t.length sc) (Cm.sliceH sl29 rfl rfl (by omega)) (by rw [cutAo_zero, htl]; rfl)) rfl ?_
    refine Sl.call fn32 rfl (nJoin_ok so sc t w5 (by rw [et]; exact hsv5.take n) (by omega) ht255) rfl ?_
    rintro _ w6 ⟨rfl, hf6⟩
    have hin := srcL_in (Ls := Ls) (s := s) hdn
    rw [← et] at hin
    have ho6 := ho5.grow hf6
    rw [← ei] at hin
    have hi63 := ho6.vw.len63
    have hinl : ins.length ≤ Ls.length := by rw [ei]; exact inL_len
    have hF6 := hF5.trans hf6
    refine Sl.calm (Cm.assign rfl) rfl ?_
    refine Sl.nil ?_
    refine At.weak [(0, _), (1, _), (2, _), (7, _), (9, _), (10, _)] ⟨rfl, rfl, rfl, rfl, rfl, rfl, trivial⟩ ?_
    refine At.go ?_
    refine Sc.seq ?_
    refine Sc.region ?_
    refine Sl.calm (Cm.assign rfl) rfl ?_
    refine Sl.nil ?_
    refine At.go ?_
    refine Sc.seq ?_
    refine Sc.region ?_
    refine Sl.calm (Cm.assign rfl) rfl ?_
    refine Sl.nil ?_
    refine At.go ?_
    refine Sc.cut (β := Option Addr × Nat × Bool) (fun ⟨oe, ce, de⟩ => [(0, .slice xo gs.length xc), (1, .slice lo Ls.length lc), (2, .slice so s.length sc), (9, .int .i64 n), (11, .slice oe (srcL Ls s n).length ce), (12, .bool de)]) (fun ⟨oe, ce, de⟩ w => Own nN 3 w.heap oe ce (srcL Ls s n) ∧ de = dirB Ls t (srcL Ls s n) ∧ Fr w6.heap.size oe ∧ Foot nob w6 w) ?_ ?_
    ·
      refine Sc.seq ?_
      refine Sc.region ?_
      refine Sl.calm (Cm.move rfl) rfl ?_
      refine Sl.calm (Cm.len sl45 rfl) rfl ?_
      refine Sl.calm (Cm.move rfl) rfl ?_
      refine Sl.nil ?_
      refine At.go ?_
      refine Sc.block ?_
      refine Sc.loop (β := Nat × Option Addr × Nat × List Nat × Bool) (fun ⟨j, oo, co, out, d⟩ => [(0, .slice xo gs.length xc), (1, .slice lo Ls.length lc), (2, .slice so s.length sc), (9, .int .i64 n), (10, .string (bs (pathL t))), (11, .slice oo out.length co), (12, .bool d), (34, .slice o ins.length c), (35, .int .i64 ins.length), (36, .int .i64 j)]) (fun ⟨j, oo, co, out, d⟩ w => j ≤ ins.length ∧ Own nN 3 w.heap oo co out ∧ Fr w6.heap.size oo ∧ out.length ≤ j ∧ scanL Ls t (ins.drop j) out = scanL Ls t ins [] ∧ allD Ls t out d ∧ Foot nob w6 w) (fun ⟨j, oo, co, out, d⟩ => ins.length - j) ⟨0, none, 0, [], false⟩ ⟨rfl, rfl, rfl, rfl, rfl, rfl, rfl, rfl, rfl, rfl, trivial⟩ ⟨Nat.zero_le _, Own.nil, Fr.none, Nat.le_refl _, rfl, allD.nil, Foot.refl _ _⟩ ?_
      rintro ⟨j, oo, co, out, d⟩ w7 ⟨hj, hoo, hfoo, hol0, hsc, hall, hF67⟩
      refine Sc.seq ?_
      refine Sc.region ?_
      refine Sl.fork (Cm.lss rfl rfl) rfl (fun h37 => ?_) (fun h37 => ?_)
      ·
        have hjl : j < ins.length := by omega
        obtain ⟨i, hij⟩ : ∃ i, ins[j]? = some i := ⟨_, List.getElem?_eq_getElem hjl⟩
        have hil : i < Ls.length := inL_mem (by rw [← ei]; exact List.mem_of_getElem? hij)
        have ho7i := (ho6.grow hF67).vw
        have hF7 := hF6.trans hF67
        have hx7 := hx.grow hF7
        have hv7 := hv.grow hF7
        obtain ⟨g, hgi⟩ : ∃ g, gs[i]? = some g := ⟨_, List.getElem?_eq_getElem (by rw [hx.2.1]; exact hil)⟩
        obtain ⟨m, hm, hix⟩ := hx7.2.2 i g hgi
        have hixt := hix t htp hto
        have hgl := hx.2.1
        have hsc7 := hsc
        rw [drop_at hij] at hsc7
        refine Sl.nil ?_
        refine At.go ?_
        refine Sc.seq ?_
        refine Sc.cond_t rfl ?_
        refine Sc.skip ?_
        refine At.go ?_
        refine Sc.seq ?_
        refine Sc.block ?_
        refine Sc.seq ?_
        refine Sc.region ?_
        refine Sl.calm (Cm.indexAddr1 sl45 rfl rfl ho7i.non (by omega)) rfl ?_
        refine Sl.calm (Cm.ofEq (u := .int .i64 (i : Nat)) (Cm.ld sca3 rfl (ho7i.get j i hij)) rfl) rfl ?_
        refine Sl.calm (Cm.assign rfl) rfl ?_
        refine Sl.nil ?_
        refine At.weak [(0, _), (1, _), (2, _), (9, _), (10, _), (11, _), (12, _), (14, _), (34, _), (35, _), (36, _), (37, _)] ⟨rfl, rfl, rfl, rfl, rfl, rfl, rfl, rfl, rfl, rfl, rfl, rfl, trivial⟩ ?_
        refine At.go ?_
        refine Sc.seq ?_
        refine Sc.region ?_
        refine Sl.calm (Cm.move rfl) rfl ?_
        refine Sl.calm (Cm.move rfl) rfl ?_
        refine Sl.calm (Cm.indexAddr1 sl54 rfl rfl hx7.1.non (by omega)) rfl ?_
        refine Sl.calm (Cm.ofEq (u := .map (some g)) (Cm.ld sca64 rfl (hx7.1.get i g hgi)) rfl) rfl ?_
        refine Sl.calm (Cm.move rfl) rfl ?_
        refine Sl.calm (Cm.ofEq (u := .tuple [.int .i64 (if 0 ≤ kAt Ls i t then kAt Ls i t else 0), .bool (decide (0 ≤ kAt Ls i t))].toArray) (Cm.lookupOk mpSI (keyS) (a := (⟨pathL t, htp⟩ : SK)) rfl rfl (fun _ e => by rw [e]; exact hm)) (by rw [hixt]; show _ = _; unfold kAt; split <;> simp_all)) rfl ?_
        refine Sl.calm (Cm.move rfl) rfl ?_
        refine Sl.calm (Cm.extract rfl rfl) rfl ?_
        refine Sl.calm (Cm.extract rfl rfl) rfl ?_
        refine Sl.calm (Cm.assign rfl) rfl ?_
        refine Sl.calm (Cm.assign rfl) rfl ?_
        refine Sl.nil ?_
        refine At.weak [(0, _), (1, _), (2, _), (9, _), (10, _), (11, _), (12, _), (14, _), (15, _), (16, _), (34, _), (35, _), (36, _), (37, _)] ⟨rfl, rfl, rfl, rfl, rfl, rfl, rfl, rfl, rfl, rfl, rfl, rfl, rfl, rfl, trivial⟩ ?_
        refine At.go ?_
        refine Sc.seq ?_
        refine Sc.seq ?_
        refine Sc.region ?_
        refine Sl.calm (Cm.move rfl) rfl ?_
        refine Sl.fork (Cm.notB rfl) rfl (fun h50 => ?_) (fun h50 => ?_)
        ·
          have hk0 : kAt Ls i t < 0 := by have := of_decide_eq_false h50; omega
          rw [scan_skip hk0] at hsc7
          refine Sl.nil ?_
          refine At.weak [(0, _), (1, _), (2, _), (9, _), (10, _), (11, _), (12, _), (14, _), (15, _), (16, _), (34, _), (35, _), (36, _), (37, _), (50, _)] ⟨rfl, rfl, rfl, rfl, rfl, rfl, rfl, rfl, rfl, rfl, rfl, rfl, rfl, rfl, rfl, trivial⟩ ?_
          refine At.go ?_
          refine Sc.cond_t rfl ?_
          refine Sc.exit ?_
          refine At.then_exit ?_
          refine At.block_hit ?_
          refine At.go ?_
          refine Sc.region ?_
          refine Sl.calm (Cm.add64 rfl rfl (by omega)) rfl ?_
          refine Sl.calm (Cm.move rfl) rfl ?_
          refine Sl.nil ?_
          first
            | exact At.again ⟨j + 1, oB, cB, out ++ [i], true⟩ ⟨rfl, rfl, rfl, rfl, rfl, rfl, rfl, rfl, rfl, rfl, trivial⟩ ⟨by omega, hoB, hfoB, by simp; omega, hsc7, hall.dir hk2, hFB⟩ (by show ins.length - (j + 1) < ins.length - j; omega)
            | exact At.again ⟨j + 1, oo, co, out, d⟩ ⟨rfl, rfl, rfl, rfl, rfl, rfl, rfl, rfl, rfl, rfl, trivial⟩ ⟨by omega, hoo, hfoo, by omega, hsc7, hall, hF67⟩ (by show ins.length - (j + 1) < ins.length - j; omega)
        ·
          have hk0 : 0 ≤ kAt Ls i t := by apply Classical.byContradiction; intro h; exact h50 (decide_eq_false h)
          have hk1 : ¬ kAt Ls i t < 0 := by omega
          rw [if_pos hk0]
          obtain ⟨h, hh, hps, hn, hvn⟩ := hv7.lay hil
          obtain ⟨p, hp1, hp2, hp3⟩ := find_at (ps := lyA Ls i) (s := t) hk0
          have hnp : nAt Ls i t = p := hp3
          have hpl := (List.getElem?_eq_some_iff.1 hp1).1
          refine Sl.nil ?_
          refine At.weak [(0, _), (1, _), (2, _), (9, _), (10, _), (11, _), (12, _), (14, _), (15, _), (16, _), (34, _), (35, _), (36, _), (37, _), (50, _)] ⟨rfl, rfl, rfl, rfl, rfl, rfl, rfl, rfl, rfl, rfl, rfl, rfl, rfl, rfl, rfl, trivial⟩ ?_
          refine At.go ?_
          refine Sc.cond_f rfl ?_
          refine Sc.skip ?_
          refine At.go ?_
          refine Sc.seq ?_
          refine Sc.region ?_
          refine Sl.calm (Cm.move rfl) rfl ?_
          refine Sl.calm (Cm.move rfl) rfl ?_
          refine Sl.calm (Cm.indexAddr1 sl22 rfl rfl hv7.non (by omega)) rfl ?_
          refine Sl.calm (Cm.ofEq (u := .slice h.a (lyA Ls i).length h.c) (Cm.ld sca25 rfl (hv7.1.get i h hh)) (by rw [← hn]; rfl)) rfl ?_
          refine Sl.calm (Cm.move rfl) rfl ?_
          refine Sl.calm (Cm.indexAddr sl25 rfl rfl hvn.1.non (by show 0 ≤ kAt Ls i t ∧ kAt Ls i t < _; unfold kAt at *; omega)) rfl ?_
          refine Sl.calm (Cm.ldM (cs := encN p) agg35 rfl (fun j v hj => hvn.1.rowZ (kAt Ls i t).toNat (by omega) hp1 j v hj)) rfl ?_
          refine Sl.allocC zc35 rfl ?_
          intro w8 hg8 hs8 hf8
          obtain ⟨r, er⟩ : ∃ r, r = w7.heap.size := ⟨_, rfl⟩
          rw [← er] at hg8 ⊢
          refine Sl.storeAll (vs := encN p) agg35 rfl rfl (encN_cells p).2 hg8 rfl ?_
          intro w9 hg9 hs9 hf9
          have hf79 : Foot nob w7 w9 := hf8.trans_to hf9 (fun k e => .inr (by have e : k = r := e; omega))
          have hF9 := hF67.trans hf79
          have hoo9 := hoo.grow hf79
          have hol := hoo.vw.len63
          refine Sl.nil ?_
          refine At.weak [(0, _), (1, _), (2, _), (9, _), (10, _), (11, _), (12, _), (14, _), (15, _), (16, _), (17, _), (34, _), (35, _), (36, _), (37, _), (50, _)] ⟨rfl, rfl, rfl, rfl, rfl, rfl, rfl, rfl, rfl, rfl, rfl, rfl, rfl, rfl, rfl, rfl, trivial⟩ ?_
          refine At.go ?_
          refine Sc.seq ?_
          refine Sc.seq ?_
          refine Sc.region ?_
          refine Sl.calm (Cm.field fld35_2 rfl) rfl ?_
          refine Sl.calm (Cm.ld sca3 rfl (cellF hg9 rfl)) rfl ?_
          refine Sl.fork (Cm.neq rfl rfl) rfl (fun h60 => ?_) (fun h60 => ?_)
          ·
            have hk2 : ¬ (nAt Ls i t).2.kind = 1 := by rw [hnp]; exact h60
            refine Sl.nil ?_
            refine At.weak [(0, _), (1, _), (2, _), (9, _), (10, _), (11, _), (12, _), (14, _), (15, _), (16, _), (17, _), (34, _), (35, _), (36, _), (37, _), (50, _), (60, _)] ⟨rfl, rfl, rfl, rfl, rfl, rfl, rfl, rfl, rfl, rfl, rfl, rfl, rfl, rfl, rfl, rfl, rfl, trivial⟩ ?_
            refine At.go ?_
            refine Sc.cond_t rfl ?_
            refine Sc.seq ?_
            refine Sc.seq ?_
            refine Sc.region ?_
            refine Sl.calm (Cm.move rfl) rfl ?_
            refine Sl.calm (Cm.len sl45 rfl) rfl ?_
            refine Sl.fork (Cm.eql rfl rfl) rfl (fun h63 => ?_) (fun h63 => ?_)
            ·
              have hoe : out = [] := List.length_eq_zero_iff.1 (by omega)
              refine Sl.calm (Cm.move rfl) rfl ?_
              refine Sl.want rfl rfl (Cm.field fld35_2 rfl) rfl ?_
              refine Sl.want rfl rfl (Cm.ld sca3 rfl (cellF hg9 rfl)) rfl ?_
              refine Sl.forkWant rfl rfl (Cm.neq rfl rfl) rfl (fun h67 => ?_) (fun h67 => ?_)
              ·
                rw [scan_one hk1 hk2 hoe (by rw [hnp]; exact h67)] at hsc7
                refine Sl.calm (Cm.pick_t rfl rfl) rfl ?_
                refine Sl.nil ?_
                refine At.weak [(0, _), (1, _), (2, _), (9, _), (10, _), (11, _), (12, _), (14, _), (15, _), (16, _), (17, _), (34, _), (35, _), (36, _), (37, _), (50, _), (60, _), (68, _)] ⟨rfl, rfl, rfl, rfl, rfl, rfl, rfl, rfl, rfl, rfl, rfl, rfl, rfl, rfl, rfl, rfl, rfl, rfl, trivial⟩ ?_
                refine At.go ?_
                refine Sc.cond_t rfl ?_
                refine Sc.region ?_
                refine Sl.calm (Cm.move rfl) rfl ?_
                refine Sl.calm (Cm.move rfl) rfl ?_
                refine Sl.lit1 (enc := nN) (u := i) sl45 (nN_one _) rfl rfl ?_
                intro wA hoA hsA hfA
                refine Sl.append nN_one sl45 rfl rfl (hoo9.grow hfA) hoA.vw (by simp only [List.length_singleton]; omega) (by simp only [List.length_singleton]; unfold maxLen; omega) rfl ?_
                intro oB cB wB hoB hfB hrB hnB
                have hFB : Foot nob w6 wB := (hF9.trans hfA).trans_to hfB hfoo.step
                have hfoB : Fr w6.heap.size oB := fr_app hfoo hrB (by have := hF67.size; have := hf79.size; have := hfA.size; omega)
                refine Sl.calm (Cm.assign rfl) rfl ?_
                refine Sl.nil ?_
                refine At.weak [(0, _), (1, _), (2, _), (9, _), (10, _), (11, _), (12, _), (14, _), (15, _), (16, _), (17, _), (34, _), (35, _), (36, _), (37, _), (50, _), (60, _), (68, _)] ⟨rfl, rfl, rfl, rfl, rfl, rfl, rfl, rfl, rfl, rfl, rfl, rfl, rfl, rfl, rfl, rfl, rfl, rfl, trivial⟩ ?_
                refine At.go ?_
                refine Sc.exit ?_
                refine At.then_exit ?_
                refine At.block_miss rfl ?_
                refine At.then_exit ?_
                refine At.then_exit ?_
                refine At.block_hit ?_
                skip
                first
                  | exact At.cut ⟨oo, co, d⟩ ⟨rfl, rfl, rfl, rfl, by rw [hin, ← hsc]; rfl, rfl, trivial⟩ ⟨by rw [hin, ← hsc]; exact hoo, by rw [hin, ← hsc]; exact hall.1, hfoo, hF67⟩
                  | exact At.cut ⟨oB, cB, true⟩ ⟨rfl, rfl, rfl, rfl, by rw [hin, ← hsc7]; rfl, rfl, trivial⟩ ⟨by rw [hin, ← hsc7]; exact hoB, by rw [hin, ← hsc7]; exact (hall.dir hk2).1, hfoB, hFB⟩
                  | exact At.cut ⟨oB, cB, d⟩ ⟨rfl, rfl, rfl, rfl, by rw [hin, ← hsc7]; rfl, rfl, trivial⟩ ⟨by rw [hin, ← hsc7]; exact hoB, by rw [hin, ← hsc7]; exact hall.one hk2 hoe, hfoB, hFB⟩
                  | exact At.cut ⟨oo, co, d⟩ ⟨rfl, rfl, rfl, rfl, by rw [hin, ← hsc7]; rfl, rfl, trivial⟩ ⟨by rw [hin, ← hsc7]; exact hoo9, by rw [hin, ← hsc7]; exact hall.1, hfoo, hF9⟩
              ·
                have hoe2 : ¬ (out = [] ∧ (nAt Ls i t).2.kind ≠ 4) := fun h => h67 (by have := h.2; rw [hnp] at this; exact this)
                rw [scan_stop hk1 hk2 hoe2] at hsc7
                refine Sl.calm (Cm.pick_t rfl rfl) rfl ?_
                refine Sl.nil ?_
                refine At.weak [(0, _), (1, _), (2, _), (9, _), (10, _), (11, _), (12, _), (14, _), (15, _), (16, _), (17, _), (34, _), (35, _), (36, _), (37, _), (50, _), (60, _), (68, _)] ⟨rfl, rfl, rfl, rfl, rfl, rfl, rfl, rfl, rfl, rfl, rfl, rfl, rfl, rfl, rfl, rfl, rfl, rfl, trivial⟩ ?_
                refine At.go ?_
                refine Sc.cond_f rfl ?_
                refine Sc.skip ?_
                refine At.go ?_
                refine Sc.exit ?_
                refine At.then_exit ?_
                refine At.block_miss rfl ?_
                refine At.then_exit ?_
                refine At.then_exit ?_
                refine At.block_hit ?_
                skip
                first
                  | exact At.cut ⟨oo, co, d⟩ ⟨rfl, rfl, rfl, rfl, by rw [hin, ← hsc]; rfl, rfl, trivial⟩ ⟨by rw [hin, ← hsc]; exact hoo, by rw [hin, ← hsc]; exact hall.1, hfoo, hF67⟩
                  | exact At.cut ⟨oB, cB, true⟩ ⟨rfl, rfl, rfl, rfl, by rw [hin, ← hsc7]; rfl, rfl, trivial⟩ ⟨by rw [hin, ← hsc7]; exact hoB, by rw [hin, ← hsc7]; exact (hall.dir hk2).1, hfoB, hFB⟩
                  | exact At.cut ⟨oB, cB, d⟩ ⟨rfl, rfl, rfl, rfl, by rw [hin, ← hsc7]; rfl, rfl, trivial⟩ ⟨by rw [hin, ← hsc7]; exact hoB, by rw [hin, ← hsc7]; exact hall.one hk2 hoe, hfoB, hFB⟩
                  | exact At.cut ⟨oo, co, d⟩ ⟨rfl, rfl, rfl, rfl, by rw [hin, ← hsc7]; rfl, rfl, trivial⟩ ⟨by rw [hin, ← hsc7]; exact hoo9, by rw [hin, ← hsc7]; exact hall.1, hfoo, hF9⟩
            ·
              have hoe : ¬ (out = [] ∧ (nAt Ls i t).2.kind ≠ 4) := fun h => h63 (by rw [h.1]; rfl)
              rw [scan_stop hk1 hk2 hoe] at hsc7
              refine Sl.calm (Cm.move rfl) rfl ?_
              refine Sl.skip rfl rfl rfl rfl ?_
              refine Sl.skip rfl rfl rfl rfl ?_
              refine Sl.skip rfl rfl rfl rfl ?_
              refine Sl.calm (Cm.pick_f rfl rfl) rfl ?_
              refine Sl.nil ?_
              refine At.weak [(0, _), (1, _), (2, _), (9, _), (10, _), (11, _), (12, _), (14, _), (15, _), (16, _), (17, _), (34, _), (35, _), (36, _), (37, _), (50, _), (60, _), (68, _)] ⟨rfl, rfl, rfl, rfl, rfl, rfl, rfl, rfl, rfl, rfl, rfl, rfl, rfl, rfl, rfl, rfl, rfl, rfl, trivial⟩ ?_
              refine At.go ?_
              refine Sc.cond_f rfl ?_
              refine Sc.skip ?_
              refine At.go ?_
              refine Sc.exit ?_
              refine At.then_exit ?_
              refine At.block_miss rfl ?_
              refine At.then_exit ?_
              refine At.then_exit ?_
              refine At.block_hit ?_
              skip
              first
                | exact At.cut ⟨oo, co, d⟩ ⟨rfl, rfl, rfl, rfl, by rw [hin, ← hsc]; rfl, rfl, trivial⟩ ⟨by rw [hin, ← hsc]; exact hoo, by rw [hin, ← hsc]; exact hall.1, hfoo, hF67⟩
                | exact At.cut ⟨oB, cB, true⟩ ⟨rfl, rfl, rfl, rfl, by rw [hin, ← hsc7]; rfl, rfl, trivial⟩ ⟨by rw [hin, ← hsc7]; exact hoB, by rw [hin, ← hsc7]; exact (hall.dir hk2).1, hfoB, hFB⟩
                | exact At.cut ⟨oB, cB, d⟩ ⟨rfl, rfl, rfl, rfl, by rw [hin, ← hsc7]; rfl, rfl, trivial⟩ ⟨by rw [hin, ← hsc7]; exact hoB, by rw [hin, ← hsc7]; exact hall.one hk2 hoe, hfoB, hFB⟩
                | exact At.cut ⟨oo, co, d⟩ ⟨rfl, rfl, rfl, rfl, by rw [hin, ← hsc7]; rfl, rfl, trivial⟩ ⟨by rw [hin, ← hsc7]; exact hoo9, by rw [hin, ← hsc7]; exact hall.1, hfoo, hF9⟩
          ·
            have hk2 : (nAt Ls i t).2.kind = 1 := by rw [hnp]; exact Classical.not_not.1 h60
            refine Sl.nil ?_
            refine At.weak [(0, _), (1, _), (2, _), (9, _), (10, _), (11, _), (12, _), (14, _), (15, _), (16, _), (17, _), (34, _), (35, _), (36, _), (37, _), (50, _), (60, _)] ⟨rfl, rfl, rfl, rfl, rfl, rfl, rfl, rfl, rfl, rfl, rfl, rfl, rfl, rfl, rfl, rfl, rfl, trivial⟩ ?_
            refine At.go ?_
            refine Sc.cond_f rfl ?_
            refine Sc.skip ?_
            refine At.go ?_
            refine Sc.seq ?_
            refine Sc.region ?_
            refine Sl.calm (Cm.move rfl) rfl ?_
            refine Sl.calm (Cm.move rfl) rfl ?_
            refine Sl.lit1 (enc := nN) (u := i) sl45 (nN_one _) rfl rfl ?_
            intro wA hoA hsA hfA
            refine Sl.append nN_one sl45 rfl rfl (hoo9.grow hfA) hoA.vw (by simp only [List.length_singleton]; omega) (by simp only [List.length_singleton]; unfold maxLen; omega) rfl ?_
            intro oB cB wB hoB hfB hrB hnB
            have hFB : Foot nob w6 wB := (hF9.trans hfA).trans_to hfB hfoo.step
            have hfoB : Fr w6.heap.size oB := fr_app hfoo hrB (by have := hF67.size; have := hf79.size; have := hfA.size; omega)
            have hgB : wB.heap[r]? = some (.cells (encN p).toArray 35 (0, 0)) := (hfB.obj (hfA.obj hg9 id) (fun ⟨a, ha, e⟩ => by have := hoo.lt a ha; omega))
            refine Sl.calm (Cm.assign rfl) rfl ?_
            refine Sl.calm (Cm.assign rfl) rfl ?_
            refine Sl.nil ?_
            refine At.weak [(0, _), (1, _), (2, _), (9, _), (10, _), (11, _), (12, _), (14, _), (15, _), (16, _), (17, _), (34, _), (35, _), (36, _), (37, _), (50, _), (60, _)] ⟨rfl, rfl, rfl, rfl, rfl, rfl, rfl, rfl, rfl, rfl, rfl, rfl, rfl, rfl, rfl, rfl, rfl, trivial⟩ ?_
            refine At.go ?_
            refine Sc.seq ?_
            refine Sc.region ?_
            refine Sl.calm (Cm.field fld35_7 rfl) rfl ?_
            refine Sl.calm (Cm.ofEq (u := .bool (decide (p.2.opq = true))) (Cm.ld sca4 rfl (cellF hgB rfl)) (by simp)) rfl ?_
            by_cases h78 : p.2.opq = true
            ·
              rw [decide_eq_true h78]
              rw [scan_opq hk1 hk2 (by rw [hnp]; exact h78)] at hsc7
              refine Sl.nil ?_
              refine At.weak [(0, _), (1, _), (2, _), (9, _), (10, _), (11, _), (12, _), (14, _), (15, _), (16, _), (17, _), (34, _), (35, _), (36, _), (37, _), (50, _), (60, _), (78, _)] ⟨rfl, rfl, rfl, rfl, rfl, rfl, rfl, rfl, rfl, rfl, rfl, rfl, rfl, rfl, rfl, rfl, rfl, rfl, trivial⟩ ?_
              refine At.go ?_
              refine Sc.cond_t rfl ?_
              refine Sc.exit ?_
              refine At.block_miss rfl ?_
              refine At.then_exit ?_
              refine At.then_exit ?_
              refine At.block_hit ?_
              skip
              first
                | exact At.cut ⟨oo, co, d⟩ ⟨rfl, rfl, rfl, rfl, by rw [hin, ← hsc]; rfl, rfl, trivial⟩ ⟨by rw [hin, ← hsc]; exact hoo, by rw [hin, ← hsc]; exact hall.1, hfoo, hF67⟩
                | exact At.cut ⟨oB, cB, true⟩ ⟨rfl, rfl, rfl, rfl, by rw [hin, ← hsc7]; rfl, rfl, trivial⟩ ⟨by rw [hin, ← hsc7]; exact hoB, by rw [hin, ← hsc7]; exact (hall.dir hk2).1, hfoB, hFB⟩
                | exact At.cut ⟨oB, cB, d⟩ ⟨rfl, rfl, rfl, rfl, by rw [hin, ← hsc7]; rfl, rfl, trivial⟩ ⟨by rw [hin, ← hsc7]; exact hoB, by rw [hin, ← hsc7]; exact hall.one hk2 hoe, hfoB, hFB⟩
                | exact At.cut ⟨oo, co, d⟩ ⟨rfl, rfl, rfl, rfl, by rw [hin, ← hsc7]; rfl, rfl, trivial⟩ ⟨by rw [hin, ← hsc7]; exact hoo9, by rw [hin, ← hsc7]; exact hall.1, hfoo, hF9⟩
            ·
              rw [decide_eq_false h78]
              rw [scan_dir hk1 hk2 (by rw [hnp]; exact h78)] at hsc7
              refine Sl.nil ?_
              refine At.weak [(0, _), (1, _), (2, _), (9, _), (10, _), (11, _), (12, _), (14, _), (15, _), (16, _), (17, _), (34, _), (35, _), (36, _), (37, _), (50, _), (60, _), (78, _)] ⟨rfl, rfl, rfl, rfl, rfl, rfl, rfl, rfl, rfl, rfl, rfl, rfl, rfl, rfl, rfl, rfl, rfl, rfl, trivial⟩ ?_
              refine At.go ?_
              refine Sc.cond_f rfl ?_
              refine Sc.skip ?_
              refine At.block_normal ?_
              refine At.go ?_
              refine Sc.region ?_
              refine Sl.calm (Cm.add64 rfl rfl (by omega)) rfl ?_
              refine Sl.calm (Cm.move rfl) rfl ?_
              refine Sl.nil ?_
              first
                | exact At.again ⟨j + 1, oB, cB, out ++ [i], true⟩ ⟨rfl, rfl, rfl, rfl, rfl, rfl, rfl, rfl, rfl, rfl, trivial⟩ ⟨by omega, hoB, hfoB, by simp; omega, hsc7, hall.dir hk2, hFB⟩ (by show ins.length - (j + 1) < ins.length - j; omega)
                | exact At.again ⟨j + 1, oo, co, out, d⟩ ⟨rfl, rfl, rfl, rfl, rfl, rfl, rfl, rfl, rfl, rfl, trivial⟩ ⟨by omega, hoo, hfoo, by omega, hsc7, hall, hF67⟩ (by show ins.length - (j + 1) < ins.length - j; omega)
      ·
        have hje : j = ins.length := by omega
        subst hje
        rw [List.drop_length] at hsc
        rw [scan_nil] at hsc
        refine Sl.nil ?_
        refine At.go ?_
        refine Sc.seq ?_
        refine Sc.cond_f rfl ?_
        refine Sc.exit ?_
        refine At.then_exit ?_
        refine At.then_exit ?_
        refine At.block_hit ?_
        skip
        first
          | exact At.cut ⟨oo, co, d⟩ ⟨rfl, rfl, rfl, rfl, by rw [hin, ← hsc]; rfl, rfl, trivial⟩ ⟨by rw [hin, ← hsc]; exact hoo, by rw [hin, ← hsc]; exact hall.1, hfoo, hF67⟩
          | exact At.cut ⟨oB, cB, true⟩ ⟨rfl, rfl, rfl, rfl, by rw [hin, ← hsc7]; rfl, rfl, trivial⟩ ⟨by rw [hin, ← hsc7]; exact hoB, by rw [hin, ← hsc7]; exact (hall.dir hk2).1, hfoB, hFB⟩
          | exact At.cut ⟨oB, cB, d⟩ ⟨rfl, rfl, rfl, rfl, by rw [hin, ← hsc7]; rfl, rfl, trivial⟩ ⟨by rw [hin, ← hsc7]; exact hoB, by rw [hin, ← hsc7]; exact hall.one hk2 hoe, hfoB, hFB⟩
          | exact At.cut ⟨oo, co, d⟩ ⟨rfl, rfl, rfl, rfl, by rw [hin, ← hsc7]; rfl, rfl, trivial⟩ ⟨by rw [hin, ← hsc7]; exact hoo9, by rw [hin, ← hsc7]; exact hall.1, hfoo, hF9⟩
    ·
      rintro ⟨oe, ce, de⟩ we ⟨hoe, hde, hfe, hFe⟩
      refine Sc.seq ?_
      refine Sc.seq ?_
      refine Sc.region ?_
      refine Sl.calm (Cm.move rfl) rfl ?_
      refine Sl.calm (Cm.move rfl) rfl ?_
      refine Sl.calm (Cm.len sl29 rfl) rfl ?_
      refine Sl.fork (Cm.eql rfl rfl) rfl (fun h83 => ?_) (fun h83 => ?_)
      ·
        refine Sl.nil ?_
        refine At.weak [(0, _), (1, _), (2, _), (9, _), (11, _), (12, _), (83, _)] ⟨rfl, rfl, rfl, rfl, rfl, rfl, rfl, trivial⟩ ?_
        refine At.go ?_
        refine Sc.cond_t rfl ?_
        refine Sc.seq ?_
        refine Sc.region ?_
        refine Sl.calm (Cm.move rfl) rfl ?_
        refine Sl.calm (Cm.assign rfl) rfl ?_
        refine Sl.nil ?_
        refine At.weak [(0, _), (1, _), (2, _), (6, _), (9, _), (11, _), (12, _), (83, _)] ⟨rfl, rfl, rfl, rfl, rfl, rfl, rfl, rfl, trivial⟩ ?_
        refine At.go ?_
        refine Sc.ret ?_
        refine At.then_ret ?_
        refine At.block_ret ?_
        refine At.then_ret ?_
        refine At.then_ret ?_
        refine At.block_ret ?_
        refine At.ret1 rfl rfl ?_
        first
          | (have hne : n = s.length := by omega
             subst hne
             exact ⟨_, rfl, oe, ce, rfl, hoe, hfe.mono hF6.size, hF6.trans hFe⟩)
          | (have hd := srcL_dead (Ls := Ls) (s := s) (n := n) (by rw [← et, ← hde]; simpa using h86) (s.length - (n + 1))
             rw [show n + 1 + (s.length - (n + 1)) = s.length by omega] at hd
             have hd2 : srcs Ls s = [] := hd
             rw [hd2]
             exact ⟨_, rfl, none, 0, rfl, Own.nil, Fr.none, hF6.trans hFe⟩)
      ·
        refine Sl.nil ?_
        refine At.weak [(0, _), (1, _), (2, _), (9, _), (11, _), (12, _), (83, _)] ⟨rfl, rfl, rfl, rfl, rfl, rfl, rfl, trivial⟩ ?_
        refine At.go ?_
        refine Sc.cond_f rfl ?_
        refine Sc.skip ?_
        refine At.go ?_
        refine Sc.seq ?_
        refine Sc.seq ?_
        refine Sc.region ?_
        refine Sl.calm (Cm.move rfl) rfl ?_
        refine Sl.fork (Cm.notB rfl) rfl (fun h86 => ?_) (fun h86 => ?_)
        ·
          refine Sl.nil ?_
          refine At.weak [(0, _), (1, _), (2, _), (9, _), (11, _), (12, _), (83, _), (86, _)] ⟨rfl, rfl, rfl, rfl, rfl, rfl, rfl, rfl, trivial⟩ ?_
          refine At.go ?_
          refine Sc.cond_t rfl ?_
          refine Sc.seq ?_
          refine Sc.region ?_
          refine Sl.calm (Cm.assign rfl) rfl ?_
          refine Sl.nil ?_
          refine At.go ?_
          refine Sc.ret ?_
          refine At.then_ret ?_
          refine At.block_ret ?_
          refine At.then_ret ?_
          refine At.then_ret ?_
          refine At.block_ret ?_
          refine At.ret1 rfl rfl ?_
          first
            | (have hne : n = s.length := by omega
               subst hne
               exact ⟨_, rfl, oe, ce, rfl, hoe, hfe.mono hF6.size, hF6.trans hFe⟩)
            | (have hd := srcL_dead (Ls := Ls) (s := s) (n := n) (by rw [← et, ← hde]; simpa using h86) (s.length - (n + 1))
               rw [show n + 1 + (s.length - (n + 1)) = s.length by omega] at hd
               have hd2 : srcs Ls s = [] := hd
               rw [hd2]
               exact ⟨_, rfl, none, 0, rfl, Own.nil, Fr.none, hF6.trans hFe⟩)
        ·
          refine Sl.nil ?_
          refine At.weak [(0, _), (1, _), (2, _), (9, _), (11, _), (12, _), (83, _), (86, _)] ⟨rfl, rfl, rfl, rfl, rfl, rfl, rfl, rfl, trivial⟩ ?_
          refine At.go ?_
          refine Sc.cond_f rfl ?_
          refine Sc.skip ?_
          refine At.go ?_
          refine Sc.region ?_
          refine Sl.calm (Cm.move rfl) rfl ?_
          refine Sl.calm (Cm.assign rfl) rfl ?_
          refine Sl.nil ?_
          refine At.block_normal ?_
          refine At.weak [(0, _), (1, _), (2, _), (7, _), (9, _), (11, _), (12, _), (83, _), (86, _)] ⟨rfl, rfl, rfl, rfl, rfl, rfl, rfl, rfl, rfl, trivial⟩ ?_
          refine At.go ?_
          refine Sc.region ?_
          refine Sl.calm (Cm.move rfl) rfl ?_
          refine Sl.calm (Cm.add64 rfl rfl (by omega)) rfl ?_
          refine Sl.calm (Cm.assign rfl) rfl ?_
          refine Sl.nil ?_
          exact At.again ⟨n + 1, oe, ce, srcL Ls s n⟩ ⟨rfl, rfl, rfl, rfl, rfl, trivial⟩ ⟨rfl, by omega, fun _ => by rw [Nat.add_sub_cancel, ← et, ← hde]; simpa using h86, hoe, hF6.trans hFe⟩ (by show s.length - (n + 1) < s.length - n; omega)
end Go.Proofs.Ytpamandneifemaa
/- merge: of which layers names are made, by the reference; Sources. No condition beyond the bounds that each states. -/
namespace Go.Proofs.Ytpamandneifemaa
open Go Go.RowKit Go.Maps
set_option linter.unusedVariables false

variable {D : Nat → Prop}
theorem msources_ok (lo : Option Addr) (lc : Nat) (hs : List Hd) (Ls : Lys) (so : Option Addr) (sc : Nat) (s : List (List UInt8)) (W : World) (hv : LysV D W.heap lo lc hs Ls) (hg : GdA Ls) (hL : Ls.length ≤ 1000) (hsv : Vw strE W.heap so sc s) (hsn : ∀ t ∈ s, vErr t = 0) :
    Calls Try.prog 22 [.slice lo Ls.length lc, .slice so s.length sc].toArray W (Ret fun v w' => ∃ o c, v = .slice o (srcs Ls s).length c ∧ Own nN 3 w'.heap o c (srcs Ls s) ∧ Fr W.heap.size o ∧ Foot nob W w') := by
  refine calls_of_sc 10 [(0, _), (1, _)] Try.func22 rfl rfl rfl (enter_slots ⟨rfl, rfl, trivial⟩) ?_
  refine Sc.seq ?_
  refine Sc.region ?_
  refine Sl.calm (Cm.assign rfl) rfl ?_
  refine Sl.nil ?_
  refine At.go ?_
  refine Sc.seq ?_
  refine Sc.region ?_
  refine Sl.calm (Cm.move rfl) rfl ?_
  refine Sl.call fn31 rfl (of_ok lo lc hs Ls W hv hg hL) rfl ?_
  rintro _ w1 ⟨xo, xc, gs, rfl, hx, hf1⟩
  refine Sl.calm (Cm.move rfl) rfl ?_
  refine Sl.calm (Cm.move rfl) rfl ?_
  refine Sl.call fn36 rfl (sources_ok xo xc gs lo lc hs Ls so sc s w1 hx (hv.grow hf1) hg hL (hsv.grow hf1) hsn) rfl ?_
  rintro _ w2 ⟨o, c, rfl, ho, hfo, hf2⟩
  refine Sl.calm (Cm.assign rfl) rfl ?_
  refine Sl.nil ?_
  refine At.weak [(0, _), (1, _), (4, _)] ⟨rfl, rfl, rfl, trivial⟩ ?_
  refine At.go ?_
  refine Sc.ret ?_
  refine At.ret1 rfl rfl ?_
  exact ⟨_, rfl, o, c, rfl, ho, hfo.mono hf1.size, hf1.trans hf2⟩
set_option maxHeartbeats 8000000 in
theorem rsrc_step (lo : Option Addr) (lc : Nat) (hs : List Hd) (Ls : Lys) (hL : Ls.length ≤ 1000) (m : Nat) (IH : ∀ (so : Option Addr) (sc : Nat) (s : List (List UInt8)) (W : World), s.length < m → LysV D W.heap lo lc hs Ls → Vw strE W.heap so sc s →
    Calls Try.prog 23 [.slice lo Ls.length lc, .slice so s.length sc].toArray W (Ret fun v w' => ∃ o c, v = .slice o (srcs Ls s).length c ∧ Own nN 3 w'.heap o c (srcs Ls s) ∧ Fr W.heap.size o ∧ Foot nob W w'))
    (so : Option Addr) (sc : Nat) (s : List (List UInt8)) (W : World) (hm : s.length ≤ m) (hv : LysV D W.heap lo lc hs Ls) (hsv : Vw strE W.heap so sc s) :
    Calls Try.prog 23 [.slice lo Ls.length lc, .slice so s.length sc].toArray W (Ret fun v w' => ∃ o c, v = .slice o (srcs Ls s).length c ∧ Own nN 3 w'.heap o c (srcs Ls s) ∧ Fr W.heap.size o ∧ Foot nob W w') := by
  have hs63 := hsv.len63
  have hcap := hsv.le
  refine calls_of_sc 114 [(0, _), (1, _)] Try.func23 rfl rfl rfl (enter_slots ⟨rfl, rfl, trivial⟩) ?_
  refine Sc.seq ?_
  refine Sc.region ?_
  refine Sl.calm (Cm.assign rfl) rfl ?_
  refine Sl.nil ?_
  refine At.go ?_
  refine Sc.seq ?_
  refine Sc.region ?_
  refine Sl.lit0 nN sl45 rfl ?_
  intro w1 ho1 hs1 hf1
  have hv1 := hv.grow hf1
  have hsv1 := hsv.grow hf1
  refine Sl.calm (Cm.assign rfl) rfl ?_
  refine Sl.nil ?_
  refine At.weak [(0, _), (1, _), (4, _), (5, _)] ⟨rfl, rfl, rfl, rfl, trivial⟩ ?_
  refine At.go ?_
  refine Sc.cut (β := Option Addr × Nat × List Nat) (fun ⟨oi, ci, ins⟩ => [(0, .slice lo Ls.length lc), (1, .slice so s.length sc), (5, .slice oi ins.length ci)]) (fun ⟨oi, ci, ins⟩ w => Own nN 3 w.heap oi ci ins ∧ ins.length ≤ Ls.length ∧ (∀ x ∈ ins, x < Ls.length) ∧ srcs Ls s = scanL Ls s ins [] ∧ Foot nob W w) ?_ ?_
  ·
    refine Sc.seq ?_
    refine Sc.region ?_
    refine Sl.calm (Cm.move rfl) rfl ?_
    refine Sl.calm (Cm.len sl29 rfl) rfl ?_
    refine Sl.fork (Cm.gtr rfl rfl) rfl (fun h15 => ?_) (fun h15 => ?_)
    ·
      have hse : s ≠ [] := fun e => by subst e; simp at h15
      refine Sl.nil ?_
      refine At.weak [(0, _), (1, _), (4, _), (5, _), (15, _)] ⟨rfl, rfl, rfl, rfl, rfl, trivial⟩ ?_
      refine At.go ?_
      refine Sc.cond_t rfl ?_
      refine Sc.seq ?_
      refine Sc.region ?_
      refine Sl.calm (Cm.move rfl) rfl ?_
      refine Sl.calm (Cm.move rfl) rfl ?_
      refine Sl.calm (Cm.len sl29 rfl) rfl ?_
      refine Sl.calm (Cm.sub64 rfl rfl (by omega)) rfl ?_
      refine Sl.calm (Cm.ofEq (u := .slice so s.dropLast.length sc) (Cm.sliceH sl29 rfl rfl (by omega)) (by rw [cutAo_zero, List.length_dropLast]; congr 1; omega)) rfl ?_
      obtain ⟨up, eup⟩ : ∃ up, up = s.dropLast := ⟨_, rfl⟩
      have hsvu : Vw strE w1.heap so sc up := by rw [eup, drop_take]; exact hsv1.take _
      have hupl : up.length < s.length := by rw [eup, List.length_dropLast]; omega
      have hup := srcs_up (Ls := Ls) hse
      rw [← eup] at hup ⊢
      refine Sl.calm (Cm.assign rfl) rfl ?_
      refine Sl.nil ?_
      refine At.weak [(0, _), (1, _), (4, _), (5, _), (6, _), (15, _)] ⟨rfl, rfl, rfl, rfl, rfl, rfl, trivial⟩ ?_
      refine At.go ?_
      refine Sc.seq ?_
      refine Sc.region ?_
      refine Sl.calm (Cm.move rfl) rfl ?_
      refine Sl.calm (Cm.move rfl) rfl ?_
      refine Sl.call fn23 rfl (IH so sc up w1 (by omega) hv1 hsvu) rfl ?_
      rintro _ w2 ⟨o2, c2, rfl, ho2, hfo2, hf2⟩
      obtain ⟨ins, ei⟩ : ∃ ins, ins = srcs Ls up := ⟨_, rfl⟩
      rw [← ei] at ho2 hup ⊢
      have hv2 := hv1.grow hf2
      have hi63 := ho2.vw.len63
      have hins : ∀ x ∈ ins, x < Ls.length ∧ 0 ≤ kAt Ls x up := fun x hx => srcs_mem (by rw [← ei]; exact hx)
      have hinl : ins.length ≤ Ls.length := by rw [ei]; exact srcL_len
      refine Sl.calm (Cm.assign rfl) rfl ?_
      refine Sl.nil ?_
      refine At.weak [(0, _), (1, _), (4, _), (5, _), (6, _), (15, _)] ⟨rfl, rfl, rfl, rfl, rfl, rfl, trivial⟩ ?_
      refine At.go ?_
      refine Sc.seq ?_
      refine Sc.draw 23 (fun H => Vw nN H o2 c2 ins ∧ Vw hd H lo lc hs ∧ ∀ (i : Nat) (h : Hd), hs[i]? = some h → VwM 10 encN H h.a h.c (lyA Ls i)) [17] [0, 1, 2, 3, 4, 5, 6, 7, 8, 9, 10, 11, 12, 13, 14, 15, 16, 17, 18, 19, 20, 21, 22] mixed (by kernel_rfl) (⟨ho2.vw, hv2.1, fun i h hi => (hv2.2.2 i h (lyA Ls i) hi (by unfold lyA; rw [List.getD, List.getElem?_eq_getElem (by have := (List.getElem?_eq_some_iff.1 hi).1; have := hv2.2.1; omega)]; rfl)).2.1⟩) ?_
      refine Sx.calm rfl rfl (Cm.move rfl) rfl ?_
      refine Sx.calm rfl rfl (Cm.len sl45 rfl) rfl ?_
      refine Sx.fork rfl rfl (Cm.eql rfl rfl) rfl (fun h26 => ?_) (fun h26 => ?_)
      ·
        have hie : ins = [] := List.length_eq_zero_iff.1 (by omega)
        refine Sx.calm rfl rfl (Cm.move rfl) rfl ?_
        refine Sx.skip rfl rfl rfl rfl rfl rfl ?_
        refine Sx.skip rfl rfl rfl rfl rfl rfl ?_
        refine Sx.skip rfl rfl rfl rfl rfl rfl ?_
        refine Sx.skip rfl rfl rfl rfl rfl rfl ?_
        refine Sx.skip rfl rfl rfl rfl rfl rfl ?_
        refine Sx.skip rfl rfl rfl rfl rfl rfl ?_
        refine Sx.skip rfl rfl rfl rfl rfl rfl ?_
        refine Sx.skip rfl rfl rfl rfl rfl rfl ?_
        refine Sx.skip rfl rfl rfl rfl rfl rfl ?_
        refine Sx.skip rfl rfl rfl rfl rfl rfl ?_
        refine Sx.skip rfl rfl rfl rfl rfl rfl ?_
        refine Sx.skip rfl rfl rfl rfl rfl rfl ?_
        refine Sx.skip rfl rfl rfl rfl rfl rfl ?_
        refine Sx.eff rfl rfl (Sl.skip rfl rfl rfl rfl ?_)
        refine Sx.on (by exact ⟨ho2.vw, hv2.1, fun i h hi => (hv2.2.2 i h (lyA Ls i) hi (by unfold lyA; rw [List.getD, List.getElem?_eq_getElem (by have := (List.getElem?_eq_some_iff.1 hi).1; have := hv2.2.1; omega)]; rfl)).2.1⟩) ?_
        refine Sx.skip rfl rfl rfl rfl rfl rfl ?_
        refine Sx.skip rfl rfl rfl rfl rfl rfl ?_
        refine Sx.skip rfl rfl rfl rfl rfl rfl ?_
        refine Sx.skip rfl rfl rfl rfl rfl rfl ?_
        refine Sx.calm rfl rfl (Cm.pick_t rfl rfl) rfl ?_
        refine Sx.nil ?_
        refine At.weak [(0, _), (1, _), (4, _), (5, _), (6, _), (15, _), (46, _)] ⟨rfl, rfl, rfl, rfl, rfl, rfl, rfl, trivial⟩ ?_
        refine At.go ?_
        refine Sc.cond_t rfl ?_
        refine Sc.seq ?_
        refine Sc.region ?_
        refine Sl.calm (Cm.assign rfl) rfl ?_
        refine Sl.nil ?_
        refine At.go ?_
        refine Sc.ret ?_
        refine At.then_ret ?_
        refine At.ret1 rfl rfl ?_
        first
          | (rw [hie] at hup
             have e : srcs Ls s = [] := hup
             rw [e]
             exact ⟨_, rfl, none, 0, rfl, Own.nil, Fr.none, (hf1.trans hf2).draws 1⟩)
          | (rw [hdb] at hup
             have e : srcs Ls s = [] := hup
             rw [e]
             exact ⟨_, rfl, none, 0, rfl, Own.nil, Fr.none, (hf1.trans hf2).trans hf3⟩)
          | (rw [hsrc, ← hsc7]
             exact ⟨_, rfl, oC, cC, rfl, hoC, hfoC.mono hF5.size, hF5.trans hFC⟩)
          | (rw [hsrc, ← hsc7]
             exact ⟨_, rfl, oo, co, rfl, hooA, hfoo.mono hF5.size, hF5.trans hFA⟩)
          | (rw [hsrc, ← hsc]
             exact ⟨_, rfl, oo, co, rfl, hoo, hfoo.mono hF5.size, hF5.trans hF67⟩)
      ·
        obtain ⟨i, ri, hic⟩ : ∃ i r, ins = i :: r := by
          rcases ins with _ | ⟨i, r⟩
          · exact absurd rfl h26
          · exact ⟨i, r, rfl⟩
        have hi0 : ins[0]? = some i := by rw [hic]; rfl
        have hik := hins i (by rw [hic]; simp)
        obtain ⟨h, hh, hps, hn, hvn⟩ := hv2.lay hik.1
        obtain ⟨p, hp1, hp2, hp3⟩ := find_at (ps := lyA Ls i) (s := up) hik.2
        have hnp : nAt Ls i up = p := hp3
        have hpl := (List.getElem?_eq_some_iff.1 hp1).1
        have hk0 := hik.2
        unfold kAt at hk0
        refine Sx.calm rfl rfl (Cm.move rfl) rfl ?_
        refine Sx.want rfl rfl rfl rfl (Cm.move rfl) rfl ?_
        refine Sx.want rfl rfl rfl rfl (Cm.move rfl) rfl ?_
        refine Sx.want rfl rfl rfl rfl (Cm.indexAddr1 sl45 rfl rfl ho2.vw.non (by rw [hic]; simp)) rfl ?_
        refine Sx.want rfl rfl rfl rfl (Cm.ofEq (u := .int .i64 (i : Nat)) (Cm.load sca3 rfl (fun H hH => hH.1.get 0 i hi0)) rfl) rfl ?_
        refine Sx.want rfl rfl rfl rfl (Cm.indexAddr1 sl22 rfl rfl hv2.non (by omega)) rfl ?_
        refine Sx.want rfl rfl rfl rfl (Cm.ofEq (u := .slice h.a (lyA Ls i).length h.c) (Cm.load sca25 rfl (fun H hH => hH.2.1.get i h hh)) (by rw [← hn]; rfl)) rfl ?_
        refine Sx.want rfl rfl rfl rfl (Cm.move rfl) rfl ?_
        refine Sx.want rfl rfl rfl rfl (Cm.move rfl) rfl ?_
        refine Sx.want rfl rfl rfl rfl (Cm.indexAddr1 sl45 rfl rfl ho2.vw.non (by rw [hic]; simp)) rfl ?_
        refine Sx.want rfl rfl rfl rfl (Cm.ofEq (u := .int .i64 (i : Nat)) (Cm.load sca3 rfl (fun H hH => hH.1.get 0 i hi0)) rfl) rfl ?_
        refine Sx.want rfl rfl rfl rfl (Cm.indexAddr1 sl22 rfl rfl hv2.non (by omega)) rfl ?_
        refine Sx.want rfl rfl rfl rfl (Cm.ofEq (u := .slice h.a (lyA Ls i).length h.c) (Cm.load sca25 rfl (fun H hH => hH.2.1.get i h hh)) (by rw [← hn]; rfl)) rfl ?_
        refine Sx.want rfl rfl rfl rfl (Cm.move rfl) rfl ?_
        refine Sx.eff rfl rfl (Sl.callWant rfl rfl fn17 rfl (rfind_ok h.a h.c (lyA Ls i) so sc up _ (hvn.grow (Foot.ofDraws 1)) ((hsvu.grow hf2).grow (Foot.ofDraws 1))) rfl ?_)
        rintro _ w3 ⟨rfl, hf3⟩
        have hf3 := hf3.undraw
        have hv3 := hv2.grow hf3
        refine Sx.on (by exact ⟨ho2.vw.grow hf3, hv3.1, fun i h hi => (hv3.2.2 i h (lyA Ls i) hi (by unfold lyA; rw [List.getD, List.getElem?_eq_getElem (by have := (List.getElem?_eq_some_iff.1 hi).1; have := hv2.2.1; omega)]; rfl)).2.1⟩) ?_
        refine Sx.want rfl rfl rfl rfl (Cm.indexAddr sl25 rfl rfl hvn.1.non (by omega)) rfl ?_
        refine Sx.want rfl rfl rfl rfl (Cm.field fld35_2 rfl) rfl ?_
        refine Sx.want rfl rfl rfl rfl (Cm.load sca3 rfl (fun H hH => (hH.2.2 i h hh).rowZ (findP (lyA Ls i) up).toNat (by omega) hp1 2 _ rfl)) rfl ?_
        refine Sx.forkWant rfl rfl rfl rfl (Cm.neq rfl rfl) rfl (fun h45 => ?_) (fun h45 => ?_)
        ·
          have hdb : dirB Ls up ins = false := by rw [hic]; show decide _ = false; rw [hnp, decide_eq_false h45]
          refine Sx.calm rfl rfl (Cm.pick_f rfl rfl) rfl ?_
          refine Sx.nil ?_
          refine At.weak [(0, _), (1, _), (4, _), (5, _), (6, _), (15, _), (46, _)] ⟨rfl, rfl, rfl, rfl, rfl, rfl, rfl, trivial⟩ ?_
          refine At.go ?_
          refine Sc.cond_t rfl ?_
          refine Sc.seq ?_
          refine Sc.region ?_
          refine Sl.calm (Cm.assign rfl) rfl ?_
          refine Sl.nil ?_
          refine At.go ?_
          refine Sc.ret ?_
          refine At.then_ret ?_
          refine At.ret1 rfl rfl ?_
          first
            | (rw [hie] at hup
               have e : srcs Ls s = [] := hup
               rw [e]
               exact ⟨_, rfl, none, 0, rfl, Own.nil, Fr.none, (hf1.trans hf2).draws 1⟩)
            | (rw [hdb] at hup
               have e : srcs Ls s = [] := hup
               rw [e]
               exact ⟨_, rfl, none, 0, rfl, Own.nil, Fr.none, (hf1.trans hf2).trans hf3⟩)
            | (rw [hsrc, ← hsc7]
               exact ⟨_, rfl, oC, cC, rfl, hoC, hfoC.mono hF5.size, hF5.trans hFC⟩)
            | (rw [hsrc, ← hsc7]
               exact ⟨_, rfl, oo, co, rfl, hooA, hfoo.mono hF5.size, hF5.trans hFA⟩)
            | (rw [hsrc, ← hsc]
               exact ⟨_, rfl, oo, co, rfl, hoo, hfoo.mono hF5.size, hF5.trans hF67⟩)
        ·
          have hdb : dirB Ls up ins = true := by rw [hic]; show decide _ = true; rw [hnp, decide_eq_true (Classical.not_not.1 h45)]
          rw [if_pos hdb] at hup
          refine Sx.calm rfl rfl (Cm.pick_f rfl rfl) rfl ?_
          refine Sx.nil ?_
          refine At.weak [(0, _), (1, _), (4, _), (5, _), (6, _), (15, _), (46, _)] ⟨rfl, rfl, rfl, rfl, rfl, rfl, rfl, trivial⟩ ?_
          refine At.go ?_
          refine Sc.cond_f rfl ?_
          refine Sc.skip ?_
          first
            | exact At.cut ⟨o2, c2, ins⟩ ⟨rfl, rfl, rfl, trivial⟩ ⟨ho2.grow hf3, hinl, fun x hx => (hins x hx).1, hup, (hf1.trans hf2).trans hf3⟩
            | exact At.cut ⟨o, c, List.range Ls.length⟩ ⟨rfl, rfl, rfl, trivial⟩ ⟨ho2, by rw [List.length_range]; exact Nat.le_refl _, fun x hx => List.mem_range.1 hx, by rw [hse]; rfl, hF2⟩
    ·
      have hse : s = [] := List.length_eq_zero_iff.1 (by omega)
      refine Sl.nil ?_
      refine At.weak [(0, _), (1, _), (4, _), (5, _), (15, _)] ⟨rfl, rfl, rfl, rfl, rfl, trivial⟩ ?_
      refine At.go ?_
      refine Sc.cond_f rfl ?_
      refine Sc.seq ?_
      refine Sc.region ?_
      refine Sl.calm (Cm.assign rfl) rfl ?_
      refine Sl.nil ?_
      refine At.go ?_
      refine Sc.block ?_
      refine Sc.loop (β := Nat × Option Addr × Nat) (fun ⟨i, o, c⟩ => [(0, .slice lo Ls.length lc), (1, .slice so s.length sc), (5, .slice o (List.range i).length c), (7, .int .i64 i)]) (fun ⟨i, o, c⟩ w => i ≤ Ls.length ∧ Own nN 3 w.heap o c (List.range i) ∧ Fr W.heap.size o ∧ Foot nob W w) (fun ⟨i, o, c⟩ => Ls.length - i) ⟨0, some ⟨W.heap.size, 0, none⟩, 0⟩ ⟨rfl, rfl, rfl, rfl, trivial⟩ ⟨Nat.zero_le _, ho1, fun a ha => by cases ha; exact Nat.le_refl _, hf1⟩ ?_
      rintro ⟨i, o, c⟩ w2 ⟨hi, ho2, hfo, hF2⟩
      refine Sc.seq ?_
      refine Sc.seq ?_
      refine Sc.region ?_
      refine Sl.calm (Cm.move rfl) rfl ?_
      refine Sl.calm (Cm.move rfl) rfl ?_
      refine Sl.calm (Cm.len sl22 rfl) rfl ?_
      refine Sl.fork (Cm.lss rfl rfl) rfl (fun h50 => ?_) (fun h50 => ?_)
      ·
        have hil : i < Ls.length := by omega
        refine Sl.nil ?_
        refine At.weak [(0, _), (1, _), (5, _), (7, _), (50, _)] ⟨rfl, rfl, rfl, rfl, rfl, trivial⟩ ?_
        refine At.go ?_
        refine Sc.cond_t rfl ?_
        refine Sc.skip ?_
        refine At.go ?_
        refine Sc.seq ?_
        refine Sc.block ?_
        refine Sc.region ?_
        refine Sl.calm (Cm.move rfl) rfl ?_
        refine Sl.calm (Cm.move rfl) rfl ?_
        refine Sl.lit1 (enc := nN) (u := i) sl45 (nN_one _) rfl rfl ?_
        intro w3 ho3 hs3 hf3
        refine Sl.append nN_one sl45 rfl rfl (ho2.grow hf3) ho3.vw (by simp only [List.length_singleton, List.length_range]; omega) (by simp only [List.length_singleton, List.length_range]; unfold maxLen; omega) rfl ?_
        intro o4 c4 w4 ho4 hf4 hr4 hn4
        rw [← List.range_succ] at ho4 ⊢
        have hF4 : Foot nob W w4 := (hF2.trans hf3).trans_to hf4 hfo.step
        have hfo4 : Fr W.heap.size o4 := fr_app hfo hr4 (by have := hF2.size; have := hf3.size; omega)
        refine Sl.calm (Cm.assign rfl) rfl ?_
        refine Sl.nil ?_
        refine At.block_normal ?_
        refine At.weak [(0, _), (1, _), (5, _), (7, _), (50, _)] ⟨rfl, rfl, rfl, rfl, rfl, trivial⟩ ?_
        refine At.go ?_
        refine Sc.region ?_
        refine Sl.calm (Cm.move rfl) rfl ?_
        refine Sl.calm (Cm.add64 rfl rfl (by omega)) rfl ?_
        refine Sl.calm (Cm.assign rfl) rfl ?_
        refine Sl.nil ?_
        exact At.again ⟨i + 1, o4, c4⟩ ⟨rfl, rfl, rfl, rfl, trivial⟩ ⟨by omega, ho4, hfo4, hF4⟩ (by show Ls.length - (i + 1) < Ls.length - i; omega)
      ·
        have hie : i = Ls.length := by omega
        subst hie
        refine Sl.nil ?_
        refine At.weak [(0, _), (1, _), (5, _), (7, _), (50, _)] ⟨rfl, rfl, rfl, rfl, rfl, trivial⟩ ?_
        refine At.go ?_
        refine Sc.cond_f rfl ?_
        refine Sc.exit ?_
        refine At.then_exit ?_
        refine At.then_exit ?_
        refine At.block_hit ?_
        first
          | exact At.cut ⟨o2, c2, ins⟩ ⟨rfl, rfl, rfl, trivial⟩ ⟨ho2.grow hf3, hinl, fun x hx => (hins x hx).1, hup, (hf1.trans hf2).trans hf3⟩
          | exact At.cut ⟨o, c, List.range Ls.length⟩ ⟨rfl, rfl, rfl, trivial⟩ ⟨ho2, by rw [List.length_range]; exact Nat.le_refl _, fun x hx => List.mem_range.1 hx, by rw [hse]; rfl, hF2⟩
  ·
    rintro ⟨oi, ci, ins⟩ w5 ⟨hoi, hinl, hins, hsrc, hF5⟩
    refine Sc.seq ?_
    refine Sc.region ?_
    refine Sl.lit0 nN sl45 rfl ?_
    intro w6 ho6 hs6 hf6
    have hi63 := hoi.vw.len63
    refine Sl.calm (Cm.assign rfl) rfl ?_
    refine Sl.nil ?_
    refine At.weak [(0, _), (1, _), (5, _), (8, _)] ⟨rfl, rfl, rfl, rfl, trivial⟩ ?_
    refine At.go ?_
    refine Sc.seq ?_
    refine Sc.seq ?_
    refine Sc.region ?_
    refine Sl.calm (Cm.assign rfl) rfl ?_
    refine Sl.nil ?_
    refine At.go ?_
    refine Sc.block ?_
    refine Sc.loop (β := Nat × Option Addr × Nat × List Nat) (fun ⟨j, oo, co, out⟩ => [(0, .slice lo Ls.length lc), (1, .slice so s.length sc), (5, .slice oi ins.length ci), (8, .slice oo out.length co), (9, .int .i64 j)]) (fun ⟨j, oo, co, out⟩ w => j ≤ ins.length ∧ Own nN 3 w.heap oo co out ∧ Fr w5.heap.size oo ∧ out.length ≤ j ∧ scanL Ls s (ins.drop j) out = scanL Ls s ins [] ∧ Foot nob w5 w) (fun ⟨j, oo, co, out⟩ => ins.length - j) ⟨0, some ⟨w5.heap.size, 0, none⟩, 0, []⟩ ⟨rfl, rfl, rfl, rfl, rfl, trivial⟩ ⟨Nat.zero_le _, ho6, fun a ha => by cases ha; exact Nat.le_refl _, Nat.le_refl _, rfl, hf6⟩ ?_
    rintro ⟨j, oo, co, out⟩ w7 ⟨hj, hoo, hfoo, hol0, hsc, hF67⟩
    refine Sc.seq ?_
    refine Sc.seq ?_
    refine Sc.region ?_
    refine Sl.calm (Cm.move rfl) rfl ?_
    refine Sl.calm (Cm.move rfl) rfl ?_
    refine Sl.calm (Cm.len sl45 rfl) rfl ?_
    refine Sl.fork (Cm.lss rfl rfl) rfl (fun h61 => ?_) (fun h61 => ?_)
    ·
      have hjl : j < ins.length := by omega
      obtain ⟨i, hij⟩ : ∃ i, ins[j]? = some i := ⟨_, List.getElem?_eq_getElem hjl⟩
      have hil : i < Ls.length := hins i (List.mem_of_getElem? hij)
      have hf67 := hF67
      have ho7i := (hoi.grow hF67).vw
      have hF7 := hF5.trans hF67
      have hv7 := hv.grow hF7
      have hsv7 := hsv.grow hF7
      have hsc7 := hsc
      rw [drop_at hij] at hsc7
      obtain ⟨h, hh, hps, hn, hvn⟩ := hv7.lay hil
      refine Sl.nil ?_
      refine At.weak [(0, _), (1, _), (5, _), (8, _), (9, _), (61, _)] ⟨rfl, rfl, rfl, rfl, rfl, rfl, trivial⟩ ?_
      refine At.go ?_
      refine Sc.cond_t rfl ?_
      refine Sc.skip ?_
      refine At.go ?_
      refine Sc.seq ?_
      refine Sc.block ?_
      refine Sc.seq ?_
      refine Sc.region ?_
      refine Sl.calm (Cm.move rfl) rfl ?_
      refine Sl.calm (Cm.move rfl) rfl ?_
      refine Sl.calm (Cm.move rfl) rfl ?_
      refine Sl.calm (Cm.indexAddr1 sl45 rfl rfl ho7i.non (by omega)) rfl ?_
      refine Sl.calm (Cm.ofEq (u := .int .i64 (i : Nat)) (Cm.ld sca3 rfl (ho7i.get j i hij)) rfl) rfl ?_
      refine Sl.calm (Cm.indexAddr1 sl22 rfl rfl hv7.non (by omega)) rfl ?_
      refine Sl.calm (Cm.ofEq (u := .slice h.a (lyA Ls i).length h.c) (Cm.ld sca25 rfl (hv7.1.get i h hh)) (by rw [← hn]; rfl)) rfl ?_
      refine Sl.calm (Cm.move rfl) rfl ?_
      refine Sl.call fn17 rfl (rfind_ok h.a h.c (lyA Ls i) so sc s w7 hvn hsv7) rfl ?_
      rintro _ w8 ⟨rfl, hf8⟩
      have hv8 := hvn.grow hf8
      have hv8l := hv7.grow hf8
      have ho8i := ho7i.grow hf8
      refine Sl.calm (Cm.assign rfl) rfl ?_
      refine Sl.nil ?_
      refine At.weak [(0, _), (1, _), (5, _), (8, _), (9, _), (10, _), (61, _)] ⟨rfl, rfl, rfl, rfl, rfl, rfl, rfl, trivial⟩ ?_
      refine At.go ?_
      refine Sc.seq ?_
      refine Sc.seq ?_
      refine Sc.region ?_
      refine Sl.calm (Cm.move rfl) rfl ?_
      refine Sl.fork (Cm.lss rfl rfl) rfl (fun h74 => ?_) (fun h74 => ?_)
      ·
        have hk0 : kAt Ls i s < 0 := h74
        rw [scan_skip hk0] at hsc7
        have hoo8 := hoo.grow hf8
        have hF8 := hF67.trans hf8
        refine Sl.nil ?_
        refine At.weak [(0, _), (1, _), (5, _), (8, _), (9, _), (10, _), (61, _), (74, _)] ⟨rfl, rfl, rfl, rfl, rfl, rfl, rfl, rfl, trivial⟩ ?_
        refine At.go ?_
        refine Sc.cond_t rfl ?_
        refine Sc.exit ?_
        refine At.then_exit ?_
        refine At.block_hit ?_
        refine At.go ?_
        refine Sc.region ?_
        refine Sl.calm (Cm.move rfl) rfl ?_
        refine Sl.calm (Cm.add64 rfl rfl (by omega)) rfl ?_
        refine Sl.calm (Cm.assign rfl) rfl ?_
        refine Sl.nil ?_
        first
          | exact At.again ⟨j + 1, oC, cC, out ++ [i]⟩ ⟨rfl, rfl, rfl, rfl, rfl, trivial⟩ ⟨by omega, hoC, fr_app hfoo hrC (by have := hF67.size; have := hf7A.size; have := hfB.size; omega), by simp; omega, hsc7, hFC⟩ (by show ins.length - (j + 1) < ins.length - j; omega)
          | exact At.again ⟨j + 1, oo, co, out⟩ ⟨rfl, rfl, rfl, rfl, rfl, trivial⟩ ⟨by omega, hoo8, hfoo, by omega, hsc7, hF8⟩ (by show ins.length - (j + 1) < ins.length - j; omega)
      ·
        have hk1 : ¬ kAt Ls i s < 0 := h74
        have hk0 : 0 ≤ findP (lyA Ls i) s := by omega
        obtain ⟨p, hp1, hp2, hp3⟩ := find_at (ps := lyA Ls i) (s := s) hk0
        have hnp : nAt Ls i s = p := hp3
        have hpl := (List.getElem?_eq_some_iff.1 hp1).1
        refine Sl.nil ?_
        refine At.weak [(0, _), (1, _), (5, _), (8, _), (9, _), (10, _), (61, _), (74, _)] ⟨rfl, rfl, rfl, rfl, rfl, rfl, rfl, rfl, trivial⟩ ?_
        refine At.go ?_
        refine Sc.cond_f rfl ?_
        refine Sc.skip ?_
        refine At.go ?_
        refine Sc.seq ?_
        refine Sc.region ?_
        refine Sl.calm (Cm.move rfl) rfl ?_
        refine Sl.calm (Cm.move rfl) rfl ?_
        refine Sl.calm (Cm.move rfl) rfl ?_
        refine Sl.calm (Cm.indexAddr1 sl45 rfl rfl ho8i.non (by omega)) rfl ?_
        refine Sl.calm (Cm.ofEq (u := .int .i64 (i : Nat)) (Cm.ld sca3 rfl (ho8i.get j i hij)) rfl) rfl ?_
        refine Sl.calm (Cm.indexAddr1 sl22 rfl rfl hv8l.non (by omega)) rfl ?_
        refine Sl.calm (Cm.ofEq (u := .slice h.a (lyA Ls i).length h.c) (Cm.ld sca25 rfl (hv8l.1.get i h hh)) (by rw [← hn]; rfl)) rfl ?_
        refine Sl.calm (Cm.move rfl) rfl ?_
        refine Sl.calm (Cm.indexAddr sl25 rfl rfl hv8.1.non (by omega)) rfl ?_
        refine Sl.calm (Cm.ldM (cs := encN p) agg35 rfl (fun j v hj => hv8.1.rowZ (findP (lyA Ls i) s).toNat (by omega) hp1 j v hj)) rfl ?_
        refine Sl.allocC zc35 rfl ?_
        intro w9 hg9 hs9 hf9
        obtain ⟨r, er⟩ : ∃ r, r = w8.heap.size := ⟨_, rfl⟩
        rw [← er] at hg9 ⊢
        refine Sl.storeAll (vs := encN p) agg35 rfl rfl (encN_cells p).2 hg9 rfl ?_
        intro wA hgA hsA hfA
        have hf7A : Foot nob w7 wA := hf8.trans (hf9.trans_to hfA (fun k e => .inr (by have e : k = r := e; omega)))
        have hFA := hF67.trans hf7A
        have hooA := hoo.grow hf7A
        have hol := hoo.vw.len63
        have hoAi := ho7i.grow hf7A
        refine Sl.nil ?_
        refine At.weak [(0, _), (1, _), (5, _), (8, _), (9, _), (10, _), (11, _), (61, _), (74, _)] ⟨rfl, rfl, rfl, rfl, rfl, rfl, rfl, rfl, rfl, trivial⟩ ?_
        refine At.go ?_
        refine Sc.seq ?_
        refine Sc.seq ?_
        refine Sc.region ?_
        refine Sl.calm (Cm.field fld35_2 rfl) rfl ?_
        refine Sl.calm (Cm.ld sca3 rfl (cellF hgA rfl)) rfl ?_
        refine Sl.fork (Cm.eql rfl rfl) rfl (fun h87 => ?_) (fun h87 => ?_)
        ·
          have hk4 : (nAt Ls i s).2.kind = 4 := by rw [hnp]; exact h87
          rw [scan_stop hk1 (by rw [hk4]; decide) (fun h => h.2 hk4)] at hsc7
          refine Sl.nil ?_
          refine At.weak [(0, _), (1, _), (5, _), (8, _), (9, _), (10, _), (11, _), (61, _), (74, _), (87, _)] ⟨rfl, rfl, rfl, rfl, rfl, rfl, rfl, rfl, rfl, rfl, trivial⟩ ?_
          refine At.go ?_
          refine Sc.cond_t rfl ?_
          refine Sc.seq ?_
          refine Sc.region ?_
          refine Sl.calm (Cm.move rfl) rfl ?_
          refine Sl.calm (Cm.assign rfl) rfl ?_
          refine Sl.nil ?_
          refine At.weak [(0, _), (1, _), (4, _), (5, _), (8, _), (9, _), (10, _), (11, _), (61, _), (74, _), (87, _)] ⟨rfl, rfl, rfl, rfl, rfl, rfl, rfl, rfl, rfl, rfl, rfl, trivial⟩ ?_
          refine At.go ?_
          refine Sc.ret ?_
          refine At.then_ret ?_
          refine At.block_ret ?_
          refine At.then_ret ?_
          refine At.then_ret ?_
          refine At.block_ret ?_
          refine At.then_ret ?_
          refine At.ret1 rfl rfl ?_
          first
            | (rw [hie] at hup
               have e : srcs Ls s = [] := hup
               rw [e]
               exact ⟨_, rfl, none, 0, rfl, Own.nil, Fr.none, (hf1.trans hf2).draws 1⟩)
            | (rw [hdb] at hup
               have e : srcs Ls s = [] := hup
               rw [e]
               exact ⟨_, rfl, none, 0, rfl, Own.nil, Fr.none, (hf1.trans hf2).trans hf3⟩)
            | (rw [hsrc, ← hsc7]
               exact ⟨_, rfl, oC, cC, rfl, hoC, hfoC.mono hF5.size, hF5.trans hFC⟩)
            | (rw [hsrc, ← hsc7]
               exact ⟨_, rfl, oo, co, rfl, hooA, hfoo.mono hF5.size, hF5.trans hFA⟩)
            | (rw [hsrc, ← hsc]
               exact ⟨_, rfl, oo, co, rfl, hoo, hfoo.mono hF5.size, hF5.trans hF67⟩)
        ·
          have hk4 : (nAt Ls i s).2.kind ≠ 4 := by rw [hnp]; exact h87
          refine Sl.nil ?_
          refine At.weak [(0, _), (1, _), (5, _), (8, _), (9, _), (10, _), (11, _), (61, _), (74, _), (87, _)] ⟨rfl, rfl, rfl, rfl, rfl, rfl, rfl, rfl, rfl, rfl, trivial⟩ ?_
          refine At.go ?_
          refine Sc.cond_f rfl ?_
          refine Sc.skip ?_
          refine At.go ?_
          refine Sc.seq ?_
          refine Sc.seq ?_
          refine Sc.region ?_
          refine Sl.calm (Cm.field fld35_2 rfl) rfl ?_
          refine Sl.calm (Cm.ld sca3 rfl (cellF hgA rfl)) rfl ?_
          refine Sl.fork (Cm.neq rfl rfl) rfl (fun h91 => ?_) (fun h91 => ?_)
          ·
            have hk2 : ¬ (nAt Ls i s).2.kind = 1 := by rw [hnp]; exact h91
            refine Sl.nil ?_
            refine At.weak [(0, _), (1, _), (5, _), (8, _), (9, _), (10, _), (11, _), (61, _), (74, _), (87, _), (91, _)] ⟨rfl, rfl, rfl, rfl, rfl, rfl, rfl, rfl, rfl, rfl, rfl, trivial⟩ ?_
            refine At.go ?_
            refine Sc.cond_t rfl ?_
            refine Sc.seq ?_
            refine Sc.seq ?_
            refine Sc.region ?_
            refine Sl.calm (Cm.move rfl) rfl ?_
            refine Sl.calm (Cm.len sl45 rfl) rfl ?_
            refine Sl.fork (Cm.eql rfl rfl) rfl (fun h94 => ?_) (fun h94 => ?_)
            ·
              have hoe : out = [] := List.length_eq_zero_iff.1 (by omega)
              rw [scan_one hk1 hk2 hoe hk4] at hsc7
              refine Sl.nil ?_
              refine At.weak [(0, _), (1, _), (5, _), (8, _), (9, _), (10, _), (11, _), (61, _), (74, _), (87, _), (91, _), (94, _)] ⟨rfl, rfl, rfl, rfl, rfl, rfl, rfl, rfl, rfl, rfl, rfl, rfl, trivial⟩ ?_
              refine At.go ?_
              refine Sc.cond_t rfl ?_
              refine Sc.region ?_
              refine Sl.calm (Cm.move rfl) rfl ?_
              refine Sl.calm (Cm.move rfl) rfl ?_
              refine Sl.calm (Cm.move rfl) rfl ?_
              refine Sl.calm (Cm.indexAddr1 sl45 rfl rfl hoAi.non (by omega)) rfl ?_
              refine Sl.calm (Cm.ofEq (u := .int .i64 (i : Nat)) (Cm.ld sca3 rfl (hoAi.get j i hij)) rfl) rfl ?_
              refine Sl.lit1 (enc := nN) (u := i) sl45 (nN_one _) rfl rfl ?_
              intro wB hoB hsB hfB
              refine Sl.append nN_one sl45 rfl rfl (hooA.grow hfB) hoB.vw (by simp only [List.length_singleton]; omega) (by simp only [List.length_singleton]; unfold maxLen; omega) rfl ?_
              intro oC cC wC hoC hfC hrC hnC
              have hFC : Foot nob w5 wC := (hFA.trans hfB).trans_to hfC hfoo.step
              have hfoC : Fr w5.heap.size oC := fr_app hfoo hrC (by have := hF67.size; have := hf7A.size; have := hfB.size; omega)
              refine Sl.calm (Cm.assign rfl) rfl ?_
              refine Sl.nil ?_
              refine At.weak [(0, _), (1, _), (5, _), (8, _), (9, _), (10, _), (11, _), (61, _), (74, _), (87, _), (91, _), (94, _)] ⟨rfl, rfl, rfl, rfl, rfl, rfl, rfl, rfl, rfl, rfl, rfl, rfl, trivial⟩ ?_
              refine At.go ?_
              refine Sc.seq ?_
              refine Sc.region ?_
              refine Sl.calm (Cm.move rfl) rfl ?_
              refine Sl.calm (Cm.assign rfl) rfl ?_
              refine Sl.nil ?_
              refine At.weak [(0, _), (1, _), (4, _), (5, _), (8, _), (9, _), (10, _), (11, _), (61, _), (74, _), (87, _), (91, _), (94, _)] ⟨rfl, rfl, rfl, rfl, rfl, rfl, rfl, rfl, rfl, rfl, rfl, rfl, rfl, trivial⟩ ?_
              refine At.go ?_
              refine Sc.ret ?_
              refine At.then_ret ?_
              refine At.block_ret ?_
              refine At.then_ret ?_
              refine At.then_ret ?_
              refine At.block_ret ?_
              refine At.then_ret ?_
              refine At.ret1 rfl rfl ?_
              first
                | (rw [hie] at hup
                   have e : srcs Ls s = [] := hup
                   rw [e]
                   exact ⟨_, rfl, none, 0, rfl, Own.nil, Fr.none, (hf1.trans hf2).draws 1⟩)
                | (rw [hdb] at hup
                   have e : srcs Ls s = [] := hup
                   rw [e]
                   exact ⟨_, rfl, none, 0, rfl, Own.nil, Fr.none, (hf1.trans hf2).trans hf3⟩)
                | (rw [hsrc, ← hsc7]
                   exact ⟨_, rfl, oC, cC, rfl, hoC, hfoC.mono hF5.size, hF5.trans hFC⟩)
                | (rw [hsrc, ← hsc7]
                   exact ⟨_, rfl, oo, co, rfl, hooA, hfoo.mono hF5.size, hF5.trans hFA⟩)
                | (rw [hsrc, ← hsc]
                   exact ⟨_, rfl, oo, co, rfl, hoo, hfoo.mono hF5.size, hF5.trans hF67⟩)
            ·
              have hoe : ¬ (out = [] ∧ (nAt Ls i s).2.kind ≠ 4) := fun h => h94 (by rw [h.1]; rfl)
              rw [scan_stop hk1 hk2 hoe] at hsc7
              refine Sl.nil ?_
              refine At.weak [(0, _), (1, _), (5, _), (8, _), (9, _), (10, _), (11, _), (61, _), (74, _), (87, _), (91, _), (94, _)] ⟨rfl, rfl, rfl, rfl, rfl, rfl, rfl, rfl, rfl, rfl, rfl, rfl, trivial⟩ ?_
              refine At.go ?_
              refine Sc.cond_f rfl ?_
              refine Sc.skip ?_
              refine At.go ?_
              refine Sc.seq ?_
              refine Sc.region ?_
              refine Sl.calm (Cm.move rfl) rfl ?_
              refine Sl.calm (Cm.assign rfl) rfl ?_
              refine Sl.nil ?_
              refine At.weak [(0, _), (1, _), (4, _), (5, _), (8, _), (9, _), (10, _), (11, _), (61, _), (74, _), (87, _), (91, _), (94, _)] ⟨rfl, rfl, rfl, rfl, rfl, rfl, rfl, rfl, rfl, rfl, rfl, rfl, rfl, trivial⟩ ?_
              refine At.go ?_
              refine Sc.ret ?_
              refine At.then_ret ?_
              refine At.block_ret ?_
              refine At.then_ret ?_
              refine At.then_ret ?_
              refine At.block_ret ?_
              refine At.then_ret ?_
              refine At.ret1 rfl rfl ?_
              first
                | (rw [hie] at hup
                   have e : srcs Ls s = [] := hup
                   rw [e]
                   exact ⟨_, rfl, none, 0, rfl, Own.nil, Fr.none, (hf1.trans hf2).draws 1⟩)
                | (rw [hdb] at hup
                   have e : srcs Ls s = [] := hup
                   rw [e]
                   exact ⟨_, rfl, none, 0, rfl, Own.nil, Fr.none, (hf1.trans hf2).trans hf3⟩)
                | (rw [hsrc, ← hsc7]
                   exact ⟨_, rfl, oC, cC, rfl, hoC, hfoC.mono hF5.size, hF5.trans hFC⟩)
                | (rw [hsrc, ← hsc7]
                   exact ⟨_, rfl, oo, co, rfl, hooA, hfoo.mono hF5.size, hF5.trans hFA⟩)
                | (rw [hsrc, ← hsc]
                   exact ⟨_, rfl, oo, co, rfl, hoo, hfoo.mono hF5.size, hF5.trans hF67⟩)
          ·
            have hk2 : (nAt Ls i s).2.kind = 1 := by rw [hnp]; exact Classical.not_not.1 h91
            refine Sl.nil ?_
            refine At.weak [(0, _), (1, _), (5, _), (8, _), (9, _), (10, _), (11, _), (61, _), (74, _), (87, _), (91, _)] ⟨rfl, rfl, rfl, rfl, rfl, rfl, rfl, rfl, rfl, rfl, rfl, trivial⟩ ?_
            refine At.go ?_
            refine Sc.cond_f rfl ?_
            refine Sc.skip ?_
            refine At.go ?_
            refine Sc.seq ?_
            refine Sc.region ?_
            refine Sl.calm (Cm.move rfl) rfl ?_
            refine Sl.calm (Cm.move rfl) rfl ?_
            refine Sl.calm (Cm.move rfl) rfl ?_
            refine Sl.calm (Cm.indexAddr1 sl45 rfl rfl hoAi.non (by omega)) rfl ?_
            refine Sl.calm (Cm.ofEq (u := .int .i64 (i : Nat)) (Cm.ld sca3 rfl (hoAi.get j i hij)) rfl) rfl ?_
            refine Sl.lit1 (enc := nN) (u := i) sl45 (nN_one _) rfl rfl ?_
            intro wB hoB hsB hfB
            refine Sl.append nN_one sl45 rfl rfl (hooA.grow hfB) hoB.vw (by simp only [List.length_singleton]; omega) (by simp only [List.length_singleton]; unfold maxLen; omega) rfl ?_
            intro oC cC wC hoC hfC hrC hnC
            have hFC : Foot nob w5 wC := (hFA.trans hfB).trans_to hfC hfoo.step
            have hfoC : Fr w5.heap.size oC := fr_app hfoo hrC (by have := hF67.size; have := hf7A.size; have := hfB.size; omega)
            have hgB : wC.heap[r]? = some (.cells (encN p).toArray 35 (0, 0)) := (hfC.obj (hfB.obj hgA id) (fun ⟨a, ha, e⟩ => by have := hoo.lt a ha; have := hf8.size; omega))
            refine Sl.calm (Cm.assign rfl) rfl ?_
            refine Sl.nil ?_
            refine At.weak [(0, _), (1, _), (5, _), (8, _), (9, _), (10, _), (11, _), (61, _), (74, _), (87, _), (91, _)] ⟨rfl, rfl, rfl, rfl, rfl, rfl, rfl, rfl, rfl, rfl, rfl, trivial⟩ ?_
            refine At.go ?_
            refine Sc.seq ?_
            refine Sc.region ?_
            refine Sl.calm (Cm.field fld35_7 rfl) rfl ?_
            refine Sl.calm (Cm.ofEq (u := .bool (decide (p.2.opq = true))) (Cm.ld sca4 rfl (cellF hgB rfl)) (by simp)) rfl ?_
            by_cases h111 : p.2.opq = true
            ·
              rw [decide_eq_true h111]
              rw [scan_opq hk1 hk2 (by rw [hnp]; exact h111)] at hsc7
              refine Sl.nil ?_
              refine At.weak [(0, _), (1, _), (5, _), (8, _), (9, _), (10, _), (11, _), (61, _), (74, _), (87, _), (91, _), (111, _)] ⟨rfl, rfl, rfl, rfl, rfl, rfl, rfl, rfl, rfl, rfl, rfl, rfl, trivial⟩ ?_
              refine At.go ?_
              refine Sc.cond_t rfl ?_
              refine Sc.seq ?_
              refine Sc.region ?_
              refine Sl.calm (Cm.move rfl) rfl ?_
              refine Sl.calm (Cm.assign rfl) rfl ?_
              refine Sl.nil ?_
              refine At.weak [(0, _), (1, _), (4, _), (5, _), (8, _), (9, _), (10, _), (11, _), (61, _), (74, _), (87, _), (91, _), (111, _)] ⟨rfl, rfl, rfl, rfl, rfl, rfl, rfl, rfl, rfl, rfl, rfl, rfl, rfl, trivial⟩ ?_
              refine At.go ?_
              refine Sc.ret ?_
              refine At.block_ret ?_
              refine At.then_ret ?_
              refine At.then_ret ?_
              refine At.block_ret ?_
              refine At.then_ret ?_
              refine At.ret1 rfl rfl ?_
              first
                | (rw [hie] at hup
                   have e : srcs Ls s = [] := hup
                   rw [e]
                   exact ⟨_, rfl, none, 0, rfl, Own.nil, Fr.none, (hf1.trans hf2).draws 1⟩)
                | (rw [hdb] at hup
                   have e : srcs Ls s = [] := hup
                   rw [e]
                   exact ⟨_, rfl, none, 0, rfl, Own.nil, Fr.none, (hf1.trans hf2).trans hf3⟩)
                | (rw [hsrc, ← hsc7]
                   exact ⟨_, rfl, oC, cC, rfl, hoC, hfoC.mono hF5.size, hF5.trans hFC⟩)
                | (rw [hsrc, ← hsc7]
                   exact ⟨_, rfl, oo, co, rfl, hooA, hfoo.mono hF5.size, hF5.trans hFA⟩)
                | (rw [hsrc, ← hsc]
                   exact ⟨_, rfl, oo, co, rfl, hoo, hfoo.mono hF5.size, hF5.trans hF67⟩)
            ·
              rw [decide_eq_false h111]
              rw [scan_dir hk1 hk2 (by rw [hnp]; exact h111)] at hsc7
              refine Sl.nil ?_
              refine At.weak [(0, _), (1, _), (5, _), (8, _), (9, _), (10, _), (11, _), (61, _), (74, _), (87, _), (91, _), (111, _)] ⟨rfl, rfl, rfl, rfl, rfl, rfl, rfl, rfl, rfl, rfl, rfl, rfl, trivial⟩ ?_
              refine At.go ?_
              refine Sc.cond_f rfl ?_
              refine Sc.skip ?_
              refine At.block_normal ?_
              refine At.go ?_
              refine Sc.region ?_
              refine Sl.calm (Cm.move rfl) rfl ?_
              refine Sl.calm (Cm.add64 rfl rfl (by omega)) rfl ?_
              refine Sl.calm (Cm.assign rfl) rfl ?_
              refine Sl.nil ?_
              first
                | exact At.again ⟨j + 1, oC, cC, out ++ [i]⟩ ⟨rfl, rfl, rfl, rfl, rfl, trivial⟩ ⟨by omega, hoC, fr_app hfoo hrC (by have := hF67.size; have := hf7A.size; have := hfB.size; omega), by simp; omega, hsc7, hFC⟩ (by show ins.length - (j + 1) < ins.length - j; omega)
                | exact At.again ⟨j + 1, oo, co, out⟩ ⟨rfl, rfl, rfl, rfl, rfl, trivial⟩ ⟨by omega, hoo8, hfoo, by omega, hsc7, hF8⟩ (by show ins.length - (j + 1) < ins.length - j; omega)
    ·
      have hje : j = ins.length := by omega
      subst hje
      rw [List.drop_length] at hsc
      rw [scan_nil] at hsc
      refine Sl.nil ?_
      refine At.weak [(0, _), (1, _), (5, _), (8, _), (9, _), (61, _)] ⟨rfl, rfl, rfl, rfl, rfl, rfl, trivial⟩ ?_
      refine At.go ?_
      refine Sc.cond_f rfl ?_
      refine Sc.exit ?_
      refine At.then_exit ?_
      refine At.then_exit ?_
      refine At.block_hit ?_
      refine At.go ?_
      refine Sc.seq ?_
      refine Sc.region ?_
      refine Sl.calm (Cm.move rfl) rfl ?_
      refine Sl.calm (Cm.assign rfl) rfl ?_
      refine Sl.nil ?_
      refine At.weak [(0, _), (1, _), (4, _), (5, _), (8, _), (9, _), (61, _)] ⟨rfl, rfl, rfl, rfl, rfl, rfl, rfl, trivial⟩ ?_
      refine At.go ?_
      refine Sc.ret ?_
      refine At.ret1 rfl rfl ?_
      first
        | (rw [hie] at hup
           have e : srcs Ls s = [] := hup
           rw [e]
           exact ⟨_, rfl, none, 0, rfl, Own.nil, Fr.none, (hf1.trans hf2).draws 1⟩)
        | (rw [hdb] at hup
           have e : srcs Ls s = [] := hup
           rw [e]
           exact ⟨_, rfl, none, 0, rfl, Own.nil, Fr.none, (hf1.trans hf2).trans hf3⟩)
        | (rw [hsrc, ← hsc7]
           exact ⟨_, rfl, oC, cC, rfl, hoC, hfoC.mono hF5.size, hF5.trans hFC⟩)
        | (rw [hsrc, ← hsc7]
           exact ⟨_, rfl, oo, co, rfl, hooA, hfoo.mono hF5.size, hF5.trans hFA⟩)
        | (rw [hsrc, ← hsc]
           exact ⟨_, rfl, oo, co, rfl, hoo, hfoo.mono hF5.size, hF5.trans hF67⟩)
set_option maxHeartbeats 8000000 in
theorem rsources_ok (lo : Option Addr) (lc : Nat) (hs : List Hd) (Ls : Lys) (hL : Ls.length ≤ 1000) : ∀ (m : Nat) (so : Option Addr) (sc : Nat) (s : List (List UInt8)) (W : World), s.length ≤ m → LysV D W.heap lo lc hs Ls → Vw strE W.heap so sc s →
    Calls Try.prog 23 [.slice lo Ls.length lc, .slice so s.length sc].toArray W (Ret fun v w' => ∃ o c, v = .slice o (srcs Ls s).length c ∧ Own nN 3 w'.heap o c (srcs Ls s) ∧ Fr W.heap.size o ∧ Foot nob W w') := by
  intro m
  induction m with
  | zero => exact rsrc_step lo lc hs Ls hL 0 (fun so sc s W h => absurd h (Nat.not_lt_zero _))
  | succ m ih => exact rsrc_step lo lc hs Ls hL (m + 1) (fun so sc s W h => ih so sc s W (Nat.le_of_lt_succ h))
end Go.Proofs.Ytpamandneifemaa
/- merge: Top, Below. No condition beyond the bounds that each states. -/
namespace Go.Proofs.Ytpamandneifemaa
open Go Go.RowKit Go.Maps
set_option linter.unusedVariables false

def topZ (Ls : Lys) (s : List (List UInt8)) : Int × Int := match srcs Ls s with
  | [] => (-1, -1)
  | i :: _ => ((i : Int), kAt Ls i s)
theorem topZ_nil {Ls : Lys} {s : List (List UInt8)} (h : srcs Ls s = []) : topZ Ls s = (-1, -1) := by unfold topZ; rw [h]
theorem topZ_cons {Ls : Lys} {s : List (List UInt8)} {i : Nat} {r : List Nat} (h : srcs Ls s = i :: r) : topZ Ls s = ((i : Int), kAt Ls i s) := by unfold topZ; rw [h]
def belI (Ls : Lys) (s : List (List UInt8)) (ly : Int) (i : Nat) : Prop := ly < (i : Int) ∧ 0 ≤ kAt Ls i s
instance (Ls : Lys) (s : List (List UInt8)) (ly : Int) (i : Nat) : Decidable (belI Ls s ly i) := by unfold belI; exact inferInstance
def belS (Ls : Lys) (s : List (List UInt8)) (ly : Int) : Prop := s ≠ [] ∧ ∃ i ∈ srcs Ls s.dropLast, belI Ls s ly i
instance (Ls : Lys) (s : List (List UInt8)) (ly : Int) : Decidable (belS Ls s ly) := by unfold belS; exact inferInstance
theorem LysV.vwm {D : Nat → Prop} {H : Array Obj} {ao : Option Addr} {cap : Nat} {hs : List Hd} {Ls : Lys} (v : LysV D H ao cap hs Ls) : ∀ (i : Nat) (h : Hd), hs[i]? = some h → VwM 10 encN H h.a h.c (lyA Ls i) := fun i h hi => by
  have hl := (List.getElem?_eq_some_iff.1 hi).1
  obtain ⟨h', h1, _, _, h4⟩ := v.lay (i := i) (by have := v.2.1; omega)
  rw [hi] at h1; cases h1; exact h4.1
variable {D : Nat → Prop}
set_option maxHeartbeats 2000000 in
theorem mtop_ok (lo : Option Addr) (lc : Nat) (hs : List Hd) (Ls : Lys) (th : Hd) (s : List (List UInt8)) (W : World) (hv : LysV D W.heap lo lc hs Ls) (hg : GdA Ls) (hL : Ls.length ≤ 1000) (hsv : NmV D W.heap th s) (hsn : ∀ t ∈ s, vErr t = 0) :
    Calls Try.prog 24 [.slice lo Ls.length lc, .slice th.a s.length th.c].toArray W (Ret fun v w' => v = .tuple [.int .i64 (topZ Ls s).1, .int .i64 (topZ Ls s).2].toArray ∧ Foot nob W w') := by
  refine calls_of_sc 24 [(0, _), (1, _)] Try.func24 rfl rfl rfl (enter_slots ⟨rfl, rfl, trivial⟩) ?_
  refine Sc.seq ?_
  refine Sc.region ?_
  refine Sl.calm (Cm.assign rfl) rfl ?_
  refine Sl.calm (Cm.assign rfl) rfl ?_
  refine Sl.nil ?_
  refine At.go ?_
  refine Sc.seq ?_
  refine Sc.region ?_
  refine Sl.calm (Cm.move rfl) rfl ?_
  refine Sl.calm (Cm.move rfl) rfl ?_
  refine Sl.call fn22 rfl (msources_ok lo lc hs Ls th.a th.c s W hv hg hL hsv.2.1 hsn) rfl ?_
  rintro _ w1 ⟨o, c, rfl, ho, hfo, hf1⟩
  obtain ⟨ys, ey⟩ : ∃ ys, ys = srcs Ls s := ⟨_, rfl⟩
  rw [← ey] at ho ⊢
  have hv1 := hv.grow hf1
  have hs1 := hsv.keep hf1 (fun _ _ => id)
  refine Sl.calm (Cm.assign rfl) rfl ?_
  refine Sl.nil ?_
  refine At.weak [(0, _), (1, _), (4, _), (5, _), (6, _)] ⟨rfl, rfl, rfl, rfl, rfl, trivial⟩ ?_
  refine At.go ?_
  refine Sc.seq ?_
  refine Sc.seq ?_
  refine Sc.region ?_
  refine Sl.calm (Cm.move rfl) rfl ?_
  refine Sl.calm (Cm.len sl45 rfl) rfl ?_
  refine Sl.fork (Cm.eql rfl rfl) rfl (fun h12 => ?_) (fun h12 => ?_)
  ·
    have hye : srcs Ls s = [] := by rw [← ey]; exact List.length_eq_zero_iff.1 (by omega)
    refine Sl.nil ?_
    refine At.weak [(0, _), (1, _), (4, _), (5, _), (6, _), (12, _)] ⟨rfl, rfl, rfl, rfl, rfl, rfl, trivial⟩ ?_
    refine At.go ?_
    refine Sc.cond_t rfl ?_
    refine Sc.seq ?_
    refine Sc.region ?_
    refine Sl.calm (Cm.assign rfl) rfl ?_
    refine Sl.calm (Cm.assign rfl) rfl ?_
    refine Sl.nil ?_
    refine At.go ?_
    refine Sc.ret ?_
    refine At.then_ret ?_
    refine At.ret2 rfl rfl rfl ?_
    first
      | exact ⟨_, rfl, by rw [topZ_nil hye], hf1⟩
      | exact ⟨_, rfl, by rw [topZ_cons (by rw [← ey, hyc])]; rfl, hf1.trans hf2⟩
  ·
    obtain ⟨i, r, hyc⟩ : ∃ i r, ys = i :: r := by
      rcases ys with _ | ⟨i, r⟩
      · exact absurd rfl h12
      · exact ⟨i, r, rfl⟩
    have hy0 : ys[0]? = some i := by rw [hyc]; rfl
    have hik := srcs_mem (Ls := Ls) (s := s) (x := i) (by rw [← ey, hyc]; simp)
    obtain ⟨h, hh, hps, hn, hvn⟩ := hv1.lay hik.1
    refine Sl.nil ?_
    refine At.weak [(0, _), (1, _), (4, _), (5, _), (6, _), (12, _)] ⟨rfl, rfl, rfl, rfl, rfl, rfl, trivial⟩ ?_
    refine At.go ?_
    refine Sc.cond_f rfl ?_
    refine Sc.skip ?_
    refine At.go ?_
    refine Sc.seq ?_
    refine Sc.draw 13 (fun H => Vw nN H o c ys ∧ Vw hd H lo lc hs) [10] [0, 1, 2, 3, 4, 5, 6, 7, 8, 9, 10, 11, 12] mixed (by kernel_rfl) (⟨ho.vw, hv1.1⟩) ?_
    refine Sx.calm rfl rfl (Cm.move rfl) rfl ?_
    refine Sx.calm rfl rfl (Cm.indexAddr1 sl45 rfl rfl ho.vw.non (by rw [hyc]; simp)) rfl ?_
    refine Sx.calm rfl rfl (Cm.ofEq (u := .int .i64 (i : Nat)) (Cm.load sca3 rfl (fun H hH => hH.1.get 0 i hy0)) rfl) rfl ?_
    refine Sx.calm rfl rfl (Cm.move rfl) rfl ?_
    refine Sx.calm rfl rfl (Cm.move rfl) rfl ?_
    refine Sx.calm rfl rfl (Cm.indexAddr1 sl45 rfl rfl ho.vw.non (by rw [hyc]; simp)) rfl ?_
    refine Sx.calm rfl rfl (Cm.ofEq (u := .int .i64 (i : Nat)) (Cm.load sca3 rfl (fun H hH => hH.1.get 0 i hy0)) rfl) rfl ?_
    refine Sx.calm rfl rfl (Cm.indexAddr1 sl22 rfl rfl hv1.non (by omega)) rfl ?_
    refine Sx.calm rfl rfl (Cm.ofEq (u := .slice h.a (lyA Ls i).length h.c) (Cm.load sca25 rfl (fun H hH => hH.2.get i h hh)) (by rw [← hn]; rfl)) rfl ?_
    refine Sx.calm rfl rfl (Cm.move rfl) rfl ?_
    refine Sx.eff rfl rfl (Sl.call fn43 rfl ((by have := find_ok (D := D) h.a h.c (lyA Ls i) th s (w1.drewN 1) (hvn.grow (Foot.ofDraws 1)) (hs1.keep (Foot.ofDraws 1) (fun _ _ => id)); unfold hd at this; rw [hs1.1] at this; exact this)) rfl ?_)
    rintro _ w2 ⟨rfl, hf2⟩
    have hf2 := hf2.undraw
    refine Sx.on (by exact ⟨ho.vw.grow hf2, (hv1.grow hf2).1⟩) ?_
    refine Sx.calm rfl rfl (Cm.assign rfl) rfl ?_
    refine Sx.calm rfl rfl (Cm.assign rfl) rfl ?_
    refine Sx.nil ?_
    refine At.weak [(0, _), (1, _), (4, _), (5, _), (6, _), (12, _)] ⟨rfl, rfl, rfl, rfl, rfl, rfl, trivial⟩ ?_
    refine At.go ?_
    refine Sc.ret ?_
    refine At.ret2 rfl rfl rfl ?_
    first
      | exact ⟨_, rfl, by rw [topZ_nil hye], hf1⟩
      | exact ⟨_, rfl, by rw [topZ_cons (by rw [← ey, hyc])]; rfl, hf1.trans hf2⟩
set_option maxHeartbeats 2000000 in
theorem rtop_ok (lo : Option Addr) (lc : Nat) (hs : List Hd) (Ls : Lys) (so : Option Addr) (sc : Nat) (s : List (List UInt8)) (W : World) (hv : LysV D W.heap lo lc hs Ls) (hL : Ls.length ≤ 1000) (hsv : Vw strE W.heap so sc s) :
    Calls Try.prog 25 [.slice lo Ls.length lc, .slice so s.length sc].toArray W (Ret fun v w' => v = .tuple [.int .i64 (topZ Ls s).1, .int .i64 (topZ Ls s).2].toArray ∧ Foot nob W w') := by
  refine calls_of_sc 24 [(0, _), (1, _)] Try.func25 rfl rfl rfl (enter_slots ⟨rfl, rfl, trivial⟩) ?_
  refine Sc.seq ?_
  refine Sc.region ?_
  refine Sl.calm (Cm.assign rfl) rfl ?_
  refine Sl.calm (Cm.assign rfl) rfl ?_
  refine Sl.nil ?_
  refine At.go ?_
  refine Sc.seq ?_
  refine Sc.region ?_
  refine Sl.calm (Cm.move rfl) rfl ?_
  refine Sl.calm (Cm.move rfl) rfl ?_
  refine Sl.call fn23 rfl (rsources_ok lo lc hs Ls hL s.length so sc s W (Nat.le_refl _) hv hsv) rfl ?_
  rintro _ w1 ⟨o, c, rfl, ho, hfo, hf1⟩
  obtain ⟨ys, ey⟩ : ∃ ys, ys = srcs Ls s := ⟨_, rfl⟩
  rw [← ey] at ho ⊢
  have hv1 := hv.grow hf1
  have hs1 := hsv.grow hf1
  refine Sl.calm (Cm.assign rfl) rfl ?_
  refine Sl.nil ?_
  refine At.weak [(0, _), (1, _), (4, _), (5, _), (6, _)] ⟨rfl, rfl, rfl, rfl, rfl, trivial⟩ ?_
  refine At.go ?_
  refine Sc.seq ?_
  refine Sc.seq ?_
  refine Sc.region ?_
  refine Sl.calm (Cm.move rfl) rfl ?_
  refine Sl.calm (Cm.len sl45 rfl) rfl ?_
  refine Sl.fork (Cm.eql rfl rfl) rfl (fun h12 => ?_) (fun h12 => ?_)
  ·
    have hye : srcs Ls s = [] := by rw [← ey]; exact List.length_eq_zero_iff.1 (by omega)
    refine Sl.nil ?_
    refine At.weak [(0, _), (1, _), (4, _), (5, _), (6, _), (12, _)] ⟨rfl, rfl, rfl, rfl, rfl, rfl, trivial⟩ ?_
    refine At.go ?_
    refine Sc.cond_t rfl ?_
    refine Sc.seq ?_
    refine Sc.region ?_
    refine Sl.calm (Cm.assign rfl) rfl ?_
    refine Sl.calm (Cm.assign rfl) rfl ?_
    refine Sl.nil ?_
    refine At.go ?_
    refine Sc.ret ?_
    refine At.then_ret ?_
    refine At.ret2 rfl rfl rfl ?_
    first
      | exact ⟨_, rfl, by rw [topZ_nil hye], hf1⟩
      | exact ⟨_, rfl, by rw [topZ_cons (by rw [← ey, hyc])]; rfl, hf1.trans hf2⟩
  ·
    obtain ⟨i, r, hyc⟩ : ∃ i r, ys = i :: r := by
      rcases ys with _ | ⟨i, r⟩
      · exact absurd rfl h12
      · exact ⟨i, r, rfl⟩
    have hy0 : ys[0]? = some i := by rw [hyc]; rfl
    have hik := srcs_mem (Ls := Ls) (s := s) (x := i) (by rw [← ey, hyc]; simp)
    obtain ⟨h, hh, hps, hn, hvn⟩ := hv1.lay hik.1
    refine Sl.nil ?_
    refine At.weak [(0, _), (1, _), (4, _), (5, _), (6, _), (12, _)] ⟨rfl, rfl, rfl, rfl, rfl, rfl, trivial⟩ ?_
    refine At.go ?_
    refine Sc.cond_f rfl ?_
    refine Sc.skip ?_
    refine At.go ?_
    refine Sc.seq ?_
    refine Sc.draw 13 (fun H => Vw nN H o c ys ∧ Vw hd H lo lc hs) [10] [0, 1, 2, 3, 4, 5, 6, 7, 8, 9, 10, 11, 12] mixed (by kernel_rfl) (⟨ho.vw, hv1.1⟩) ?_
    refine Sx.calm rfl rfl (Cm.move rfl) rfl ?_
    refine Sx.calm rfl rfl (Cm.indexAddr1 sl45 rfl rfl ho.vw.non (by rw [hyc]; simp)) rfl ?_
    refine Sx.calm rfl rfl (Cm.ofEq (u := .int .i64 (i : Nat)) (Cm.load sca3 rfl (fun H hH => hH.1.get 0 i hy0)) rfl) rfl ?_
    refine Sx.calm rfl rfl (Cm.move rfl) rfl ?_
    refine Sx.calm rfl rfl (Cm.move rfl) rfl ?_
    refine Sx.calm rfl rfl (Cm.indexAddr1 sl45 rfl rfl ho.vw.non (by rw [hyc]; simp)) rfl ?_
    refine Sx.calm rfl rfl (Cm.ofEq (u := .int .i64 (i : Nat)) (Cm.load sca3 rfl (fun H hH => hH.1.get 0 i hy0)) rfl) rfl ?_
    refine Sx.calm rfl rfl (Cm.indexAddr1 sl22 rfl rfl hv1.non (by omega)) rfl ?_
    refine Sx.calm rfl rfl (Cm.ofEq (u := .slice h.a (lyA Ls i).length h.c) (Cm.load sca25 rfl (fun H hH => hH.2.get i h hh)) (by rw [← hn]; rfl)) rfl ?_
    refine Sx.calm rfl rfl (Cm.move rfl) rfl ?_
    refine Sx.eff rfl rfl (Sl.call fn17 rfl (rfind_ok h.a h.c (lyA Ls i) so sc s (w1.drewN 1) (hvn.grow (Foot.ofDraws 1)) (hs1.grow (Foot.ofDraws 1))) rfl ?_)
    rintro _ w2 ⟨rfl, hf2⟩
    have hf2 := hf2.undraw
    refine Sx.on (by exact ⟨ho.vw.grow hf2, (hv1.grow hf2).1⟩) ?_
    refine Sx.calm rfl rfl (Cm.assign rfl) rfl ?_
    refine Sx.calm rfl rfl (Cm.assign rfl) rfl ?_
    refine Sx.nil ?_
    refine At.weak [(0, _), (1, _), (4, _), (5, _), (6, _), (12, _)] ⟨rfl, rfl, rfl, rfl, rfl, rfl, trivial⟩ ?_
    refine At.go ?_
    refine Sc.ret ?_
    refine At.ret2 rfl rfl rfl ?_
    first
      | exact ⟨_, rfl, by rw [topZ_nil hye], hf1⟩
      | exact ⟨_, rfl, by rw [topZ_cons (by rw [← ey, hyc])]; rfl, hf1.trans hf2⟩
/-! Below -/
section
variable {R : Nat → Prop} [DecidablePred R]
theorem idxI_ok (f : FuncId) (cs : List Value) (hf : fnB Try.prog f = true) (lo : Option Addr) (lc : Nat) (xs : List Nat) (W : World) (hv : Vw nN W.heap lo lc xs)
    (hc : ∀ (w : World) (x : Nat), x ∈ xs → Foot nob W w → Calls Try.prog f ([nN x] ++ cs).toArray w (Ret fun v w' => v = .bool (decide (R x)) ∧ Foot nob w w')) :
    Calls Try.prog 59 [.slice lo xs.length lc, .func (.func f) #[] cs.toArray].toArray W (Ret fun v w' => (∃ z : Int, v = .int .i64 z ∧ (0 ≤ z ↔ ∃ x ∈ xs, R x)) ∧ Foot nob W w') := by
  have h63 := hv.len63
  refine calls_of_sc 19 [(0, _), (1, _)] Try.func59 rfl rfl rfl (enter_slots ⟨rfl, rfl, trivial⟩) ?_
  refine Sc.seq ?_
  refine Sc.region ?_
  refine Sl.calm (Cm.assign rfl) rfl ?_
  refine Sl.nil ?_
  refine At.go ?_
  refine Sc.seq ?_
  refine Sc.seq ?_
  refine Sc.region ?_
  refine Sl.calm (Cm.move rfl) rfl ?_
  refine Sl.calm (Cm.len sl45 rfl) rfl ?_
  refine Sl.calm (Cm.move rfl) rfl ?_
  refine Sl.nil ?_
  refine At.weak [(0, _), (1, _), (4, _), (7, _), (8, _)] ⟨rfl, rfl, rfl, rfl, rfl, trivial⟩ ?_
  refine At.go ?_
  refine Sc.block ?_
  refine Sc.loop (β := Nat) (fun i => [(0, .slice lo xs.length lc), (1, .func (.func f) #[] cs.toArray), (7, .int .i64 xs.length), (8, .int .i64 i)]) (fun i w => i ≤ xs.length ∧ (∀ (j : Nat) (q : Nat), j < i → xs[j]? = some q → ¬ R q) ∧ Foot nob W w) (fun i => xs.length - i) 0 ⟨rfl, rfl, rfl, rfl, trivial⟩ ⟨Nat.zero_le _, fun j q hj => by omega, Foot.refl _ _⟩ ?_
  rintro i w2 ⟨hi, hno, hF2⟩
  refine Sc.seq ?_
  refine Sc.region ?_
  refine Sl.fork (Cm.lss rfl rfl) rfl (fun h9 => ?_) (fun h9 => ?_)
  ·
    have hil : i < xs.length := by omega
    obtain ⟨x, hx⟩ : ∃ x, xs[i]? = some x := ⟨_, List.getElem?_eq_getElem hil⟩
    have hxm := List.mem_of_getElem? hx
    have hv2 := hv.grow hF2
    refine Sl.nil ?_
    refine At.go ?_
    refine Sc.seq ?_
    refine Sc.cond_t rfl ?_
    refine Sc.skip ?_
    refine At.go ?_
    refine Sc.seq ?_
    refine Sc.block ?_
    refine Sc.seq ?_
    refine Sc.region ?_
    refine Sl.calm (Cm.move rfl) rfl ?_
    refine Sl.calm (Cm.assign rfl) rfl ?_
    refine Sl.nil ?_
    refine At.weak [(0, _), (1, _), (5, _), (7, _), (8, _), (9, _)] ⟨rfl, rfl, rfl, rfl, rfl, rfl, trivial⟩ ?_
    refine At.go ?_
    refine Sc.seq ?_
    refine Sc.region ?_
    refine Sl.calm (Cm.move rfl) rfl ?_
    refine Sl.calm (Cm.move rfl) rfl ?_
    refine Sl.calm (Cm.move rfl) rfl ?_
    refine Sl.calm (Cm.indexAddr1 sl45 rfl rfl hv2.non (by omega)) rfl ?_
    refine Sl.calm (Cm.ofEq (u := nN x) (Cm.ld sca3 rfl (hv2.get i x hx)) rfl) rfl ?_
    refine Sl.callC hf rfl rfl (hc w2 x hxm hF2) rfl ?_
    intro v3 w3 hr3
    obtain ⟨rfl, hf3⟩ := hr3
    by_cases h16 : R x
    ·
      rw [decide_eq_true h16]
      refine Sl.nil ?_
      refine At.weak [(0, _), (1, _), (5, _), (7, _), (8, _), (9, _), (16, _)] ⟨rfl, rfl, rfl, rfl, rfl, rfl, rfl, trivial⟩ ?_
      refine At.go ?_
      refine Sc.cond_t rfl ?_
      refine Sc.seq ?_
      refine Sc.region ?_
      refine Sl.calm (Cm.move rfl) rfl ?_
      refine Sl.calm (Cm.assign rfl) rfl ?_
      refine Sl.nil ?_
      refine At.weak [(0, _), (1, _), (4, _), (5, _), (7, _), (8, _), (9, _), (16, _)] ⟨rfl, rfl, rfl, rfl, rfl, rfl, rfl, rfl, trivial⟩ ?_
      refine At.go ?_
      refine Sc.ret ?_
      refine At.block_ret ?_
      refine At.then_ret ?_
      refine At.then_ret ?_
      refine At.block_ret ?_
      refine At.then_ret ?_
      refine At.ret1 rfl rfl ?_
      exact ⟨_, rfl, ⟨_, rfl, ⟨fun _ => ⟨x, hxm, h16⟩, fun _ => by omega⟩⟩, hF2.trans hf3⟩
    ·
      rw [decide_eq_false h16]
      refine Sl.nil ?_
      refine At.weak [(0, _), (1, _), (5, _), (7, _), (8, _), (9, _), (16, _)] ⟨rfl, rfl, rfl, rfl, rfl, rfl, rfl, trivial⟩ ?_
      refine At.go ?_
      refine Sc.cond_f rfl ?_
      refine Sc.skip ?_
      refine At.block_normal ?_
      refine At.go ?_
      refine Sc.region ?_
      refine Sl.calm (Cm.add64 rfl rfl (by omega)) rfl ?_
      refine Sl.calm (Cm.move rfl) rfl ?_
      refine Sl.nil ?_
      refine At.again (i + 1) ⟨rfl, rfl, rfl, rfl, trivial⟩ ⟨by omega, fun j q hj hq => ?_, hF2.trans hf3⟩ (by show xs.length - (i + 1) < xs.length - i; omega)
      by_cases e : j = i
      · subst e; rw [hx] at hq; cases hq; exact h16
      · exact hno j q (by omega) hq
  ·
    have hie : i = xs.length := by omega
    subst hie
    refine Sl.nil ?_
    refine At.go ?_
    refine Sc.seq ?_
    refine Sc.cond_f rfl ?_
    refine Sc.exit ?_
    refine At.then_exit ?_
    refine At.then_exit ?_
    refine At.block_hit ?_
    refine At.go ?_
    refine Sc.seq ?_
    refine Sc.region ?_
    refine Sl.calm (Cm.assign rfl) rfl ?_
    refine Sl.nil ?_
    refine At.go ?_
    refine Sc.ret ?_
    refine At.ret1 rfl rfl ?_
    refine ⟨_, rfl, ⟨_, rfl, ⟨fun h => absurd h (by decide), fun ⟨q, hq, hr⟩ => ?_⟩⟩, hF2⟩
    obtain ⟨j, hj⟩ := List.getElem?_of_mem hq
    exact absurd hr (hno j q (List.getElem?_eq_some_iff.1 hj).1 hj)
theorem conI_ok (f : FuncId) (cs : List Value) (hf : fnB Try.prog f = true) (lo : Option Addr) (lc : Nat) (xs : List Nat) (W : World) (hv : Vw nN W.heap lo lc xs)
    (hc : ∀ (w : World) (x : Nat), x ∈ xs → Foot nob W w → Calls Try.prog f ([nN x] ++ cs).toArray w (Ret fun v w' => v = .bool (decide (R x)) ∧ Foot nob w w')) :
    Calls Try.prog 44 [.slice lo xs.length lc, .func (.func f) #[] cs.toArray].toArray W (Ret fun v w' => v = .bool (decide (∃ x ∈ xs, R x)) ∧ Foot nob W w') := by
  refine calls_of_sc 9 [(0, _), (1, _)] Try.func44 rfl rfl rfl (enter_slots ⟨rfl, rfl, trivial⟩) ?_
  refine Sc.seq ?_
  refine Sc.region ?_
  refine Sl.calm (Cm.assign rfl) rfl ?_
  refine Sl.nil ?_
  refine At.go ?_
  refine Sc.seq ?_
  refine Sc.region ?_
  refine Sl.calm (Cm.move rfl) rfl ?_
  refine Sl.calm (Cm.move rfl) rfl ?_
  refine Sl.call fn59 rfl (idxI_ok (R := R) f cs hf lo lc xs W hv hc) rfl ?_
  rintro _ w2 ⟨⟨z, rfl, hz⟩, hf2⟩
  refine Sl.calm (Cm.geq rfl rfl) rfl ?_
  refine Sl.calm (Cm.assign rfl) rfl ?_
  refine Sl.nil ?_
  refine At.weak [(0, _), (1, _), (4, _)] ⟨rfl, rfl, rfl, trivial⟩ ?_
  refine At.go ?_
  refine Sc.ret ?_
  refine At.ret1 rfl rfl ?_
  exact ⟨_, rfl, congrArg _ (decide_eq_decide.2 hz), hf2⟩
end
set_option maxHeartbeats 2000000 in
theorem below1_ok (lo : Option Addr) (lc : Nat) (hs : List Hd) (Ls : Lys) (th : Hd) (s : List (List UInt8)) (ly : Int) (gy gl gs : Nat) (x : Nat) (W : World) (hv : LysV D W.heap lo lc hs Ls) (hsv : NmV D W.heap th s)
    (h1 : W.heap[gy]? = some (.cells [Value.int .i64 ly].toArray 3 (0, 0))) (h2 : W.heap[gl]? = some (.cells [Value.slice lo Ls.length lc].toArray 22 (0, 0))) (h3 : W.heap[gs]? = some (.cells [hd th].toArray 29 (0, 0))) (hx : x < Ls.length) :
    Calls Try.prog 45 ([nN x] ++ [Value.pointer (some ⟨gy, 0, none⟩), .pointer (some ⟨gl, 0, none⟩), .pointer (some ⟨gs, 0, none⟩)]).toArray W (Ret fun v w' => v = .bool (decide (belI Ls s ly x)) ∧ Foot nob W w') := by
  obtain ⟨h, hh, hps, hn, hvn⟩ := hv.lay hx
  show Calls _ _ [nN x, Value.pointer (some ⟨gy, 0, none⟩), .pointer (some ⟨gl, 0, none⟩), .pointer (some ⟨gs, 0, none⟩)].toArray _ _
  show Calls _ _ [Value.int .i64 (x : Int), Value.pointer (some ⟨gy, 0, none⟩), .pointer (some ⟨gl, 0, none⟩), .pointer (some ⟨gs, 0, none⟩)].toArray _ _
  refine calls_of_sc 18 [(0, _), (1, _), (2, _), (3, _)] Try.func45 rfl rfl rfl (enter_slots ⟨rfl, rfl, rfl, rfl, trivial⟩) ?_
  refine Sc.seq ?_
  refine Sc.region ?_
  refine Sl.calm (Cm.assign rfl) rfl ?_
  refine Sl.nil ?_
  refine At.go ?_
  refine Sc.seq ?_
  refine Sc.draw 13 (fun H => H[gy]? = some (.cells [Value.int .i64 ly].toArray 3 (0, 0)) ∧ H[gl]? = some (.cells [Value.slice lo Ls.length lc].toArray 22 (0, 0)) ∧ H[gs]? = some (.cells [hd th].toArray 29 (0, 0)) ∧ Vw hd H lo lc hs) [9] [0, 1, 2, 3, 4, 5, 6, 7, 8, 9, 10, 11, 12] mixed (by kernel_rfl) (⟨h1, h2, h3, hv.1⟩) ?_
  refine Sx.calm rfl rfl (Cm.move rfl) rfl ?_
  refine Sx.calm rfl rfl (Cm.load sca3 rfl (fun H hH => cellF0 hH.1 rfl)) rfl ?_
  refine Sx.fork rfl rfl (Cm.gtr rfl rfl) rfl (fun h8 => ?_) (fun h8 => ?_)
  ·
    refine Sx.calm rfl rfl (Cm.move rfl) rfl ?_
    refine Sx.want rfl rfl rfl rfl (Cm.ofEq (u := .slice lo Ls.length lc) (Cm.load sca22 rfl (fun H hH => cellF0 hH.2.1 rfl)) rfl) rfl ?_
    refine Sx.want rfl rfl rfl rfl (Cm.move rfl) rfl ?_
    refine Sx.want rfl rfl rfl rfl (Cm.indexAddr1 sl22 rfl rfl hv.non (by omega)) rfl ?_
    refine Sx.want rfl rfl rfl rfl (Cm.ofEq (u := .slice h.a (lyA Ls x).length h.c) (Cm.load sca25 rfl (fun H hH => hH.2.2.2.get x h hh)) (by rw [← hn]; rfl)) rfl ?_
    refine Sx.want rfl rfl rfl rfl (Cm.ofEq (u := hd th) (Cm.load sca29 rfl (fun H hH => cellF0 hH.2.2.1 rfl)) rfl) rfl ?_
    refine Sx.eff rfl rfl (Sl.callWant rfl rfl fn43 rfl (find_ok (D := D) h.a h.c (lyA Ls x) th s _ (hvn.grow (Foot.ofDraws 1)) (hsv.keep (Foot.ofDraws 1) (fun _ _ => id))) rfl ?_)
    rintro _ w2 ⟨rfl, hf2⟩
    have hf2 := hf2.undraw
    refine Sx.on (by exact ⟨hf2.obj h1 id, hf2.obj h2 id, hf2.obj h3 id, (hv.grow hf2).1⟩) ?_
    refine Sx.want rfl rfl rfl rfl (Cm.geq rfl rfl) rfl ?_
    refine Sx.calm rfl rfl (Cm.pick_t rfl rfl) rfl ?_
    refine Sx.calm rfl rfl (Cm.assign rfl) rfl ?_
    refine Sx.nil ?_
    refine At.weak [(0, _), (1, _), (2, _), (3, _), (5, _)] ⟨rfl, rfl, rfl, rfl, rfl, trivial⟩ ?_
    refine At.go ?_
    refine Sc.ret ?_
    refine At.ret1 rfl rfl ?_
    first
      | exact ⟨_, rfl, congrArg _ (decide_eq_decide.2 ⟨fun g => ⟨by omega, g⟩, fun g => g.2⟩), hf2⟩
      | exact ⟨_, rfl, by rw [decide_eq_false (fun g : belI Ls s ly x => by have := g.1; omega)], (Foot.refl _ _).draws 1⟩
  ·
    refine Sx.calm rfl rfl (Cm.move rfl) rfl ?_
    refine Sx.skip rfl rfl rfl rfl rfl rfl ?_
    refine Sx.skip rfl rfl rfl rfl rfl rfl ?_
    refine Sx.skip rfl rfl rfl rfl rfl rfl ?_
    refine Sx.skip rfl rfl rfl rfl rfl rfl ?_
    refine Sx.skip rfl rfl rfl rfl rfl rfl ?_
    refine Sx.eff rfl rfl (Sl.skip rfl rfl rfl rfl ?_)
    refine Sx.on (by exact ⟨h1, h2, h3, hv.1⟩) ?_
    refine Sx.skip rfl rfl rfl rfl rfl rfl ?_
    refine Sx.calm rfl rfl (Cm.pick_f rfl rfl) rfl ?_
    refine Sx.calm rfl rfl (Cm.assign rfl) rfl ?_
    refine Sx.nil ?_
    refine At.weak [(0, _), (1, _), (2, _), (3, _), (5, _)] ⟨rfl, rfl, rfl, rfl, rfl, trivial⟩ ?_
    refine At.go ?_
    refine Sc.ret ?_
    refine At.ret1 rfl rfl ?_
    first
      | exact ⟨_, rfl, congrArg _ (decide_eq_decide.2 ⟨fun g => ⟨by omega, g⟩, fun g => g.2⟩), hf2⟩
      | exact ⟨_, rfl, by rw [decide_eq_false (fun g : belI Ls s ly x => by have := g.1; omega)], (Foot.refl _ _).draws 1⟩
set_option maxHeartbeats 2000000 in
theorem mbelow_ok (lo : Option Addr) (lc : Nat) (hs : List Hd) (Ls : Lys) (th : Hd) (s : List (List UInt8)) (ly : Int) (W : World) (hv : LysV D W.heap lo lc hs Ls) (hg : GdA Ls) (hL : Ls.length ≤ 1000) (hsv : NmV D W.heap th s) (hsn : ∀ t ∈ s, vErr t = 0) :
    Calls Try.prog 27 [.slice lo Ls.length lc, hd th, .int .i64 ly].toArray W (Ret fun v w' => v = .bool (decide (belS Ls s ly)) ∧ Foot nob W w') := by
  have hs63 := hsv.2.1.len63
  have hcap := hsv.2.1.le
  refine calls_of_sc 19 [(0, _), (1, _), (2, _)] Try.func27 rfl rfl rfl (enter_slots ⟨rfl, rfl, rfl, trivial⟩) ?_
  refine Sc.seq ?_
  refine Sc.region ?_
  refine Sl.box rfl rfl ?_
  intro w1 hg1 hs1 hf1
  obtain ⟨gl, el⟩ : ∃ g, g = W.heap.size := ⟨_, rfl⟩
  rw [← el] at hg1 ⊢
  replace hg1 : w1.heap[gl]? = some (.cells [Value.slice lo Ls.length lc].toArray 22 (0, 0)) := hg1
  refine Sl.box rfl rfl ?_
  intro w2 hg2 hs2 hf2
  obtain ⟨gs, es⟩ : ∃ g, g = w1.heap.size := ⟨_, rfl⟩
  rw [← es] at hg2 ⊢
  replace hg2 : w2.heap[gs]? = some (.cells [hd th].toArray 29 (0, 0)) := hg2
  refine Sl.box rfl rfl ?_
  intro w3 hg3 hs3 hf3
  obtain ⟨gy, ey⟩ : ∃ g, g = w2.heap.size := ⟨_, rfl⟩
  rw [← ey] at hg3 ⊢
  replace hg3 : w3.heap[gy]? = some (.cells [Value.int .i64 ly].toArray 3 (0, 0)) := hg3
  have hF3 := (hf1.trans hf2).trans hf3
  have hgl := (hf2.trans hf3).obj hg1 id
  have hgs := hf3.obj hg2 id
  have hv3 := hv.grow hF3
  have hsv3 := hsv.keep hF3 (fun _ _ => id)
  refine Sl.calm (Cm.assign rfl) rfl ?_
  refine Sl.nil ?_
  refine At.go ?_
  refine Sc.seq ?_
  refine Sc.seq ?_
  refine Sc.region ?_
  refine Sl.calm (Cm.ofEq (u := .slice th.a s.length th.c) (Cm.ld sca29 rfl (cellF0 hgs rfl)) (by rw [← hsv.1]; rfl)) rfl ?_
  refine Sl.calm (Cm.len sl29 rfl) rfl ?_
  refine Sl.fork (Cm.eql rfl rfl) rfl (fun h9 => ?_) (fun h9 => ?_)
  ·
    have hse : s = [] := List.length_eq_zero_iff.1 (by omega)
    refine Sl.nil ?_
    refine At.weak [(0, _), (1, _), (2, _), (3, _), (4, _), (5, _), (6, _), (9, _)] ⟨rfl, rfl, rfl, rfl, rfl, rfl, rfl, rfl, trivial⟩ ?_
    refine At.go ?_
    refine Sc.cond_t rfl ?_
    refine Sc.seq ?_
    refine Sc.region ?_
    refine Sl.calm (Cm.assign rfl) rfl ?_
    refine Sl.nil ?_
    refine At.go ?_
    refine Sc.ret ?_
    refine At.then_ret ?_
    refine At.ret1 rfl rfl ?_
    first
      | exact ⟨_, rfl, by rw [decide_eq_false (fun g : belS Ls s ly => g.1 hse)], hF3⟩
      | exact ⟨_, rfl, congrArg _ (decide_eq_decide.2 ⟨fun g => ⟨hse, g⟩, fun g => g.2⟩), (hF3.trans hf4).trans hf5⟩
  ·
    have hse : s ≠ [] := fun e => h9 (by rw [e]; rfl)
    have hl0 := List.length_pos_iff.2 hse
    refine Sl.nil ?_
    refine At.weak [(0, _), (1, _), (2, _), (3, _), (4, _), (5, _), (6, _), (9, _)] ⟨rfl, rfl, rfl, rfl, rfl, rfl, rfl, rfl, trivial⟩ ?_
    refine At.go ?_
    refine Sc.cond_f rfl ?_
    refine Sc.skip ?_
    refine At.go ?_
    refine Sc.seq ?_
    refine Sc.draw 10 (fun H => H[gl]? = some (.cells [Value.slice lo Ls.length lc].toArray 22 (0, 0)) ∧ H[gs]? = some (.cells [hd th].toArray 29 (0, 0))) [6, 8] [0, 1, 2, 3, 4, 5, 7, 6, 8, 9] mixed (by kernel_rfl) (⟨hgl, hgs⟩) ?_
    refine Sx.calm rfl rfl (Cm.ofEq (u := .slice lo Ls.length lc) (Cm.load sca22 rfl (fun H hH => cellF0 hH.1 rfl)) rfl) rfl ?_
    refine Sx.calm rfl rfl (Cm.ofEq (u := .slice th.a s.length th.c) (Cm.load sca29 rfl (fun H hH => cellF0 hH.2 rfl)) (by rw [← hsv.1]; rfl)) rfl ?_
    refine Sx.calm rfl rfl (Cm.ofEq (u := .slice th.a s.length th.c) (Cm.load sca29 rfl (fun H hH => cellF0 hH.2 rfl)) (by rw [← hsv.1]; rfl)) rfl ?_
    refine Sx.calm rfl rfl (Cm.len sl29 rfl) rfl ?_
    refine Sx.calm rfl rfl (Cm.sub64 rfl rfl (by omega)) rfl ?_
    refine Sx.calm rfl rfl (Cm.ofEq (u := .slice th.a s.dropLast.length th.c) (Cm.sliceH sl29 rfl rfl (by omega)) (by rw [cutAo_zero, List.length_dropLast]; congr 1; omega)) rfl ?_
    refine Sx.calm rfl rfl (Cm.makeFunc (vs := [.pointer (some ⟨gy, 0, none⟩), .pointer (some ⟨gl, 0, none⟩), .pointer (some ⟨gs, 0, none⟩)]) rfl) rfl ?_
    refine Sx.eff rfl rfl (Sl.call fn22 rfl (msources_ok lo lc hs Ls th.a th.c s.dropLast (w3.drewN 1) (hv3.grow (Foot.ofDraws 1)) hg hL (by rw [drop_take]; exact (hsv3.2.1.take _).grow (Foot.ofDraws 1)) (fun t ht => hsn t ((List.dropLast_sublist s).subset ht))) rfl ?_)
    rintro _ w4 ⟨o, c, rfl, ho, hfo, hf4⟩
    have hf4 := hf4.undraw
    refine Sx.on (by exact ⟨hf4.obj hgl id, hf4.obj hgs id⟩) ?_
    refine Sx.eff rfl rfl (Sl.call fn44 rfl (conI_ok (R := belI Ls s ly) 45 [.pointer (some ⟨gy, 0, none⟩), .pointer (some ⟨gl, 0, none⟩), .pointer (some ⟨gs, 0, none⟩)] fn45 o c (srcs Ls s.dropLast) w4 ho.vw (fun w x hx hf => below1_ok lo lc hs Ls th s ly gy gl gs x w ((hv3.grow hf4).grow hf) ((hsv3.keep hf4 (fun _ _ => id)).keep hf (fun _ _ => id)) ((hf4.trans hf).obj hg3 id) ((hf4.trans hf).obj hgl id) ((hf4.trans hf).obj hgs id) (srcs_mem hx).1)) rfl ?_)
    rintro _ w5 ⟨rfl, hf5⟩
    refine Sx.on (by exact ⟨(hf4.trans hf5).obj hgl id, (hf4.trans hf5).obj hgs id⟩) ?_
    refine Sx.calm rfl rfl (Cm.assign rfl) rfl ?_
    refine Sx.nil ?_
    refine At.weak [(0, _), (1, _), (2, _), (3, _), (4, _), (5, _), (6, _), (9, _)] ⟨rfl, rfl, rfl, rfl, rfl, rfl, rfl, rfl, trivial⟩ ?_
    refine At.go ?_
    refine Sc.ret ?_
    refine At.ret1 rfl rfl ?_
    first
      | exact ⟨_, rfl, by rw [decide_eq_false (fun g : belS Ls s ly => g.1 hse)], hF3⟩
      | exact ⟨_, rfl, congrArg _ (decide_eq_decide.2 ⟨fun g => ⟨hse, g⟩, fun g => g.2⟩), (hF3.trans hf4).trans hf5⟩
set_option maxHeartbeats 2000000 in
theorem rbelow_ok (lo : Option Addr) (lc : Nat) (hs : List Hd) (Ls : Lys) (so : Option Addr) (sc : Nat) (s : List (List UInt8)) (ly : Int) (W : World) (hv : LysV D W.heap lo lc hs Ls) (hL : Ls.length ≤ 1000) (hsv : Vw strE W.heap so sc s) :
    Calls Try.prog 28 [.slice lo Ls.length lc, .slice so s.length sc, .int .i64 ly].toArray W (Ret fun v w' => v = .bool (decide (belS Ls s ly)) ∧ Foot nob W w') := by
  have hs63 := hsv.len63
  have hcap := hsv.le
  refine calls_of_sc 43 [(0, _), (1, _), (2, _)] Try.func28 rfl rfl rfl (enter_slots ⟨rfl, rfl, rfl, trivial⟩) ?_
  refine Sc.seq ?_
  refine Sc.region ?_
  refine Sl.calm (Cm.assign rfl) rfl ?_
  refine Sl.nil ?_
  refine At.go ?_
  refine Sc.seq ?_
  refine Sc.seq ?_
  refine Sc.region ?_
  refine Sl.calm (Cm.move rfl) rfl ?_
  refine Sl.calm (Cm.len sl29 rfl) rfl ?_
  refine Sl.fork (Cm.eql rfl rfl) rfl (fun h11 => ?_) (fun h11 => ?_)
  ·
    have hse : s = [] := List.length_eq_zero_iff.1 (by omega)
    refine Sl.nil ?_
    refine At.weak [(0, _), (1, _), (2, _), (6, _), (11, _)] ⟨rfl, rfl, rfl, rfl, rfl, trivial⟩ ?_
    refine At.go ?_
    refine Sc.cond_t rfl ?_
    refine Sc.seq ?_
    refine Sc.region ?_
    refine Sl.calm (Cm.assign rfl) rfl ?_
    refine Sl.nil ?_
    refine At.go ?_
    refine Sc.ret ?_
    refine At.then_ret ?_
    refine At.ret1 rfl rfl ?_
    first
      | exact ⟨_, rfl, by rw [decide_eq_false (fun g : belS Ls s ly => g.1 hse)], Foot.refl _ _⟩
      | exact ⟨_, rfl, by rw [decide_eq_true (show belS Ls s ly from ⟨hse, i, by rw [← ey]; exact him, hyb⟩)], hf1.trans (hF2.trans hf3)⟩
      | (refine ⟨_, rfl, ?_, hf1.trans hF2⟩
         rw [decide_eq_false]
         rintro ⟨_, x, hx, hb⟩
         rw [← ey] at hx
         obtain ⟨k, hk⟩ := List.getElem?_of_mem hx
         exact hno k x (by have := (List.getElem?_eq_some_iff.1 hk).1; omega) hk hb)
  ·
    have hse : s ≠ [] := fun e => h11 (by rw [e]; rfl)
    have hl0 := List.length_pos_iff.2 hse
    refine Sl.nil ?_
    refine At.weak [(0, _), (1, _), (2, _), (6, _), (11, _)] ⟨rfl, rfl, rfl, rfl, rfl, trivial⟩ ?_
    refine At.go ?_
    refine Sc.cond_f rfl ?_
    refine Sc.skip ?_
    refine At.go ?_
    refine Sc.seq ?_
    refine Sc.region ?_
    refine Sl.calm (Cm.move rfl) rfl ?_
    refine Sl.calm (Cm.move rfl) rfl ?_
    refine Sl.calm (Cm.move rfl) rfl ?_
    refine Sl.calm (Cm.len sl29 rfl) rfl ?_
    refine Sl.calm (Cm.sub64 rfl rfl (by omega)) rfl ?_
    refine Sl.calm (Cm.ofEq (u := .slice so s.dropLast.length sc) (Cm.sliceH sl29 rfl rfl (by omega)) (by rw [cutAo_zero, List.length_dropLast]; congr 1; omega)) rfl ?_
    refine Sl.call fn23 rfl (rsources_ok lo lc hs Ls hL s.dropLast.length so sc s.dropLast W (Nat.le_refl _) hv (by rw [drop_take]; exact hsv.take _)) rfl ?_
    rintro _ w1 ⟨o, c, rfl, ho, hfo, hf1⟩
    obtain ⟨ys, ey⟩ : ∃ ys, ys = srcs Ls s.dropLast := ⟨_, rfl⟩
    rw [← ey] at ho ⊢
    have hi63 := ho.vw.len63
    refine Sl.calm (Cm.assign rfl) rfl ?_
    refine Sl.nil ?_
    refine At.weak [(0, _), (1, _), (2, _), (6, _), (7, _), (11, _)] ⟨rfl, rfl, rfl, rfl, rfl, rfl, trivial⟩ ?_
    refine At.go ?_
    refine Sc.seq ?_
    refine Sc.seq ?_
    refine Sc.region ?_
    refine Sl.calm (Cm.assign rfl) rfl ?_
    refine Sl.nil ?_
    refine At.go ?_
    refine Sc.block ?_
    refine Sc.loop (β := Nat) (fun j => [(0, .slice lo Ls.length lc), (1, .slice so s.length sc), (2, .int .i64 ly), (7, .slice o ys.length c), (8, .int .i64 j)]) (fun j w => j ≤ ys.length ∧ (∀ (k x : Nat), k < j → ys[k]? = some x → ¬ belI Ls s ly x) ∧ Foot nob w1 w) (fun j => ys.length - j) 0 ⟨rfl, rfl, rfl, rfl, rfl, trivial⟩ ⟨Nat.zero_le _, fun k x h => by omega, Foot.refl _ _⟩ ?_
    rintro j w2 ⟨hj, hno, hF2⟩
    refine Sc.seq ?_
    refine Sc.seq ?_
    refine Sc.region ?_
    refine Sl.calm (Cm.move rfl) rfl ?_
    refine Sl.calm (Cm.move rfl) rfl ?_
    refine Sl.calm (Cm.len sl45 rfl) rfl ?_
    refine Sl.fork (Cm.lss rfl rfl) rfl (fun h22 => ?_) (fun h22 => ?_)
    ·
      have hjl : j < ys.length := by omega
      obtain ⟨i, hij⟩ : ∃ i, ys[j]? = some i := ⟨_, List.getElem?_eq_getElem hjl⟩
      have him := List.mem_of_getElem? hij
      have hil : i < Ls.length := (srcs_mem (by rw [← ey]; exact him)).1
      have ho2 := (ho.grow hF2).vw
      have hv2 := (hv.grow hf1).grow hF2
      have hs2 := (hsv.grow hf1).grow hF2
      obtain ⟨h, hh, hps, hn, hvn⟩ := hv2.lay hil
      refine Sl.nil ?_
      refine At.weak [(0, _), (1, _), (2, _), (7, _), (8, _), (22, _)] ⟨rfl, rfl, rfl, rfl, rfl, rfl, trivial⟩ ?_
      refine At.go ?_
      refine Sc.cond_t rfl ?_
      refine Sc.skip ?_
      refine At.go ?_
      refine Sc.seq ?_
      refine Sc.block ?_
      refine Sc.seq ?_
      refine Sc.region ?_
      refine Sl.calm (Cm.move rfl) rfl ?_
      refine Sl.calm (Cm.move rfl) rfl ?_
      refine Sl.calm (Cm.indexAddr1 sl45 rfl rfl ho2.non (by omega)) rfl ?_
      refine Sl.calm (Cm.ofEq (u := .int .i64 (i : Nat)) (Cm.ld sca3 rfl (ho2.get j i hij)) rfl) rfl ?_
      refine Sl.calm (Cm.move rfl) rfl ?_
      refine Sl.fork (Cm.gtr rfl rfl) rfl (fun h30 => ?_) (fun h30 => ?_)
      ·
        refine Sl.calm (Cm.move rfl) rfl ?_
        refine Sl.want rfl rfl (Cm.move rfl) rfl ?_
        refine Sl.want rfl rfl (Cm.move rfl) rfl ?_
        refine Sl.want rfl rfl (Cm.move rfl) rfl ?_
        refine Sl.want rfl rfl (Cm.indexAddr1 sl45 rfl rfl ho2.non (by omega)) rfl ?_
        refine Sl.want rfl rfl (Cm.ofEq (u := .int .i64 (i : Nat)) (Cm.ld sca3 rfl (ho2.get j i hij)) rfl) rfl ?_
        refine Sl.want rfl rfl (Cm.indexAddr1 sl22 rfl rfl hv2.non (by omega)) rfl ?_
        refine Sl.want rfl rfl (Cm.ofEq (u := .slice h.a (lyA Ls i).length h.c) (Cm.ld sca25 rfl (hv2.1.get i h hh)) (by rw [← hn]; rfl)) rfl ?_
        refine Sl.want rfl rfl (Cm.move rfl) rfl ?_
        refine Sl.callWant rfl rfl fn17 rfl (rfind_ok h.a h.c (lyA Ls i) so sc s w2 hvn hs2) rfl ?_
        rintro _ w3 ⟨rfl, hf3⟩
        refine Sl.forkWant rfl rfl (Cm.geq rfl rfl) rfl (fun h41 => ?_) (fun h41 => ?_)
        ·
          have hyb : belI Ls s ly i := ⟨by omega, h41⟩
          refine Sl.calm (Cm.pick_t rfl rfl) rfl ?_
          refine Sl.nil ?_
          refine At.weak [(0, _), (1, _), (2, _), (7, _), (8, _), (22, _), (42, _)] ⟨rfl, rfl, rfl, rfl, rfl, rfl, rfl, trivial⟩ ?_
          refine At.go ?_
          refine Sc.cond_t rfl ?_
          refine Sc.seq ?_
          refine Sc.region ?_
          refine Sl.calm (Cm.assign rfl) rfl ?_
          refine Sl.nil ?_
          refine At.go ?_
          refine Sc.ret ?_
          refine At.block_ret ?_
          refine At.then_ret ?_
          refine At.then_ret ?_
          refine At.block_ret ?_
          refine At.then_ret ?_
          refine At.ret1 rfl rfl ?_
          first
            | exact ⟨_, rfl, by rw [decide_eq_false (fun g : belS Ls s ly => g.1 hse)], Foot.refl _ _⟩
            | exact ⟨_, rfl, by rw [decide_eq_true (show belS Ls s ly from ⟨hse, i, by rw [← ey]; exact him, hyb⟩)], hf1.trans (hF2.trans hf3)⟩
            | (refine ⟨_, rfl, ?_, hf1.trans hF2⟩
               rw [decide_eq_false]
               rintro ⟨_, x, hx, hb⟩
               rw [← ey] at hx
               obtain ⟨k, hk⟩ := List.getElem?_of_mem hx
               exact hno k x (by have := (List.getElem?_eq_some_iff.1 hk).1; omega) hk hb)
        ·
          have hnb : ¬ belI Ls s ly i := fun g => h41 g.2
          refine Sl.calm (Cm.pick_t rfl rfl) rfl ?_
          refine Sl.nil ?_
          refine At.weak [(0, _), (1, _), (2, _), (7, _), (8, _), (22, _), (42, _)] ⟨rfl, rfl, rfl, rfl, rfl, rfl, rfl, trivial⟩ ?_
          refine At.go ?_
          refine Sc.cond_f rfl ?_
          refine Sc.skip ?_
          refine At.block_normal ?_
          refine At.go ?_
          refine Sc.region ?_
          refine Sl.calm (Cm.move rfl) rfl ?_
          refine Sl.calm (Cm.add64 rfl rfl (by omega)) rfl ?_
          refine Sl.calm (Cm.assign rfl) rfl ?_
          refine Sl.nil ?_
          have hno2 : ∀ (k x : Nat), k < j + 1 → ys[k]? = some x → ¬ belI Ls s ly x := fun k x hk hx => by
            by_cases e : k = j
            · subst e; rw [hij] at hx; cases hx; exact hnb
            · exact hno k x (by omega) hx
          first
            | exact At.again (j + 1) ⟨rfl, rfl, rfl, rfl, rfl, trivial⟩ ⟨by omega, hno2, hF2.trans hf3⟩ (by show ys.length - (j + 1) < ys.length - j; omega)
            | exact At.again (j + 1) ⟨rfl, rfl, rfl, rfl, rfl, trivial⟩ ⟨by omega, hno2, hF2⟩ (by show ys.length - (j + 1) < ys.length - j; omega)
      ·
        have hnb : ¬ belI Ls s ly i := fun g => h30 (by have := g.1; omega)
        refine Sl.calm (Cm.move rfl) rfl ?_
        refine Sl.skip rfl rfl rfl rfl ?_
        refine Sl.skip rfl rfl rfl rfl ?_
        refine Sl.skip rfl rfl rfl rfl ?_
        refine Sl.skip rfl rfl rfl rfl ?_
        refine Sl.skip rfl rfl rfl rfl ?_
        refine Sl.skip rfl rfl rfl rfl ?_
        refine Sl.skip rfl rfl rfl rfl ?_
        refine Sl.skip rfl rfl rfl rfl ?_
        refine Sl.skip rfl rfl rfl rfl ?_
        refine Sl.skip rfl rfl rfl rfl ?_
        refine Sl.calm (Cm.pick_f rfl rfl) rfl ?_
        refine Sl.nil ?_
        refine At.weak [(0, _), (1, _), (2, _), (7, _), (8, _), (22, _), (42, _)] ⟨rfl, rfl, rfl, rfl, rfl, rfl, rfl, trivial⟩ ?_
        refine At.go ?_
        refine Sc.cond_f rfl ?_
        refine Sc.skip ?_
        refine At.block_normal ?_
        refine At.go ?_
        refine Sc.region ?_
        refine Sl.calm (Cm.move rfl) rfl ?_
        refine Sl.calm (Cm.add64 rfl rfl (by omega)) rfl ?_
        refine Sl.calm (Cm.assign rfl) rfl ?_
        refine Sl.nil ?_
        have hno2 : ∀ (k x : Nat), k < j + 1 → ys[k]? = some x → ¬ belI Ls s ly x := fun k x hk hx => by
          by_cases e : k = j
          · subst e; rw [hij] at hx; cases hx; exact hnb
          · exact hno k x (by omega) hx
        first
          | exact At.again (j + 1) ⟨rfl, rfl, rfl, rfl, rfl, trivial⟩ ⟨by omega, hno2, hF2.trans hf3⟩ (by show ys.length - (j + 1) < ys.length - j; omega)
          | exact At.again (j + 1) ⟨rfl, rfl, rfl, rfl, rfl, trivial⟩ ⟨by omega, hno2, hF2⟩ (by show ys.length - (j + 1) < ys.length - j; omega)
    ·
      refine Sl.nil ?_
      refine At.weak [(0, _), (1, _), (2, _), (7, _), (8, _), (22, _)] ⟨rfl, rfl, rfl, rfl, rfl, rfl, trivial⟩ ?_
      refine At.go ?_
      refine Sc.cond_f rfl ?_
      refine Sc.exit ?_
      refine At.then_exit ?_
      refine At.then_exit ?_
      refine At.block_hit ?_
      refine At.go ?_
      refine Sc.seq ?_
      refine Sc.region ?_
      refine Sl.calm (Cm.assign rfl) rfl ?_
      refine Sl.nil ?_
      refine At.go ?_
      refine Sc.ret ?_
      refine At.ret1 rfl rfl ?_
      first
        | exact ⟨_, rfl, by rw [decide_eq_false (fun g : belS Ls s ly => g.1 hse)], Foot.refl _ _⟩
        | exact ⟨_, rfl, by rw [decide_eq_true (show belS Ls s ly from ⟨hse, i, by rw [← ey]; exact him, hyb⟩)], hf1.trans (hF2.trans hf3)⟩
        | (refine ⟨_, rfl, ?_, hf1.trans hF2⟩
           rw [decide_eq_false]
           rintro ⟨_, x, hx, hb⟩
           rw [← ey] at hx
           obtain ⟨k, hk⟩ := List.getElem?_of_mem hx
           exact hno k x (by have := (List.getElem?_eq_some_iff.1 hk).1; omega) hk hb)
end Go.Proofs.Ytpamandneifemaa
