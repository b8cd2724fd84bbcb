/- meta: the program's Read and Next. No condition beyond the bounds that each states. -/
import Derived.Test.YtlpfahmkjgompaaMtC
namespace Go.Proofs.Ytlpfahmkjgompaa
open Go Go.RowKit
set_option linter.unusedVariables false

theorem HoP.any {D : Nat → Prop} {r : Option (List UInt8 × Int)} {v : Value} {H : Array Obj} (h : HoP D r v H) : ∃ bo bl bc nx ok, v = .tuple #[.agg (hvC bo bl bc nx).toArray, .bool ok] ∧
    (ok = false → r = none ∧ bl = 0) ∧ (ok = true → ∃ b, bl = b.length ∧ r = some (b, nx) ∧ Vw b8 H bo bc b ∧ ∀ k, blk bo k → D k) := by
  unfold HoP at h
  split at h
  · exact ⟨none, 0, 0, 0, false, h, (fun _ => ⟨rfl, rfl⟩), (fun h => by cases h)⟩
  · rename_i b nx
    obtain ⟨bo, bc, h1, h2, h3⟩ := h
    exact ⟨bo, b.length, bc, nx, true, h1, (fun h => by cases h), (fun _ => ⟨b, rfl, rfl, h2, h3⟩)⟩
section
variable {D : Nat → Prop} {g p : Nat} {im : List UInt8} {fr to : Int}
theorem MrO.mono {D' : Nat → Prop} {H : Array Obj} (h : MrO D H g p im fr to) (hd : ∀ k, D k → D' k) (hp : ¬ D' p) : MrO D' H g p im fr to := by
  obtain ⟨io, ic, gm, m, hg, h1, h2, h3, h4, h5, h6, h7, h8⟩ := h
  exact ⟨io, ic, gm, m, hg, h1, h2, fun a v hv => (by obtain ⟨bo, bc, b, nx, e, k1, k2, k3⟩ := h3 a v hv; exact ⟨bo, bc, b, nx, e, k1, k2, fun k hk => hd k (k3 k hk)⟩), hd _ h4, hd _ h5, fun k hk => hd k (h6 k hk), h7, hp⟩
theorem MrO.tab {H : Array Obj} (h : MrO D H g p im fr to) : TbV H p ∧ ¬ D p := by obtain ⟨io, ic, gm, m, hg, h1, h2, h3, h4, h5, h6, h7, h8⟩ := h; exact ⟨h7, h8⟩
/-- a row beside it grows -/
theorem MrO.beside {w w' : World} {o o' : Option Addr} {c' : Nat} {x' : List UInt8} (h : MrO (fun k => D k ∧ ¬ blk o k) w.heap g p im fr to) (hf : Foot (blk o) w w') (hr : ∀ a, o' = some a → o = some a ∨ w.heap.size ≤ a.block) (ho : Own b8 5 w'.heap o' c' x') (hp : ¬ D p) (hpo : ¬ blk o p) :
    MrO (fun k => D k ∧ ¬ blk o' k) w'.heap g p im fr to := by
  refine (h.shrink hf (fun k hk => hk.2) hpo).mono (fun k hk => ⟨hk.1.1, fun ⟨a, ha, hb⟩ => ?_⟩) (fun h => hp h.1)
  have := ho.lt a ha
  rcases hr a ha with h1 | h1
  · exact hk.1.2 ⟨a, h1, hb⟩
  · rcases hk.2 with h2 | h2 <;> omega
end
/-- bytes, a number and an error that a reader hands back; what it has stays beside them -/
def MrP (D : Nat → Prop) (W : World) (g p : Nat) (im : List UInt8) (fr to : Int) (r : List UInt8 × Int × Int) : Value → World → Prop := fun v w' =>
  ∃ o c, v = .tuple #[.slice o r.1.length c, .int .i64 r.2.1, .int .i64 r.2.2] ∧ Own b8 5 w'.heap o c r.1 ∧ Fr W.heap.size o ∧ MrO (fun k => D k ∧ ¬ blk o k) w'.heap g p im fr to ∧ Foot D W w'

set_option maxHeartbeats 4000000 in
theorem mread_ok (D : Nat → Prop) (g p : Nat) (im : List UInt8) (fr to ref n : Int) (W : World) (hM : MrO D W.heap g p im fr to) (hD : ∀ k, W.heap.size ≤ k → D k) (him : im.length ≤ 1099511627776) (href : -9223372036854775808 ≤ ref ∧ ref ≤ 9223372036854775807) (hn : n ≤ 1099511627776) :
    Calls Try.prog 31 [.pointer (some ⟨g, 0, none⟩), .int .i64 ref, .int .i64 n].toArray W (Ret (MrP D W g p im fr to (readS im fr to ref n))) := by
  have hM00 : ∀ w' : World, MrO D w'.heap g p im fr to → MrO (fun k => D k ∧ ¬ blk none k) w'.heap g p im fr to := fun w' h => h.mono (fun k hk => ⟨hk, fun ⟨a, ha, _⟩ => by cases ha⟩) (fun hp => h.tab.2 hp.1)
  obtain ⟨htb, hpD⟩ := hM.tab
  have hpl := (Array.getElem?_eq_some_iff.1 htb).1
  refine calls_of_sc 85 [(0, _), (1, _), (2, _)] Try.func31 rfl rfl rfl (enter_slots ⟨rfl, rfl, rfl, trivial⟩) ?_
  refine Sc.seq ?_
  refine Sc.region ?_
  refine Sl.calm (Cm.assign rfl) rfl ?_
  refine Sl.calm (Cm.assign rfl) rfl ?_
  refine Sl.calm (Cm.assign rfl) rfl ?_
  refine Sl.nil ?_
  refine At.go ?_
  refine Sc.seq ?_
  refine Sc.block ?_
  refine Sc.seq ?_
  refine Sc.region ?_
  refine Sl.calm (Cm.move rfl) rfl ?_
  refine Sl.fork (Cm.lss rfl rfl) rfl (fun h17 => ?_) (fun h17 => ?_)
  ·
    have e : readS im fr to ref n = ([], 0, 1) := by unfold readS; rw [if_pos (by omega)]
    refine Sl.calm (Cm.move rfl) rfl ?_
    refine Sl.skip rfl rfl rfl rfl ?_
    refine Sl.skip rfl rfl rfl rfl ?_
    refine Sl.calm (Cm.pick_t rfl rfl) rfl ?_
    refine Sl.calm (Cm.assign rfl) rfl ?_
    refine Sl.nil ?_
    refine At.weak [(0, _), (1, _), (2, _), (6, _), (7, _), (8, _), (15, _)] ⟨rfl, rfl, rfl, rfl, rfl, rfl, rfl, trivial⟩ ?_
    refine At.go ?_
    refine Sc.cond_t rfl ?_
    refine Sc.seq ?_
    refine Sc.region ?_
    refine Sl.calm (Cm.assign rfl) rfl ?_
    refine Sl.calm (Cm.assign rfl) rfl ?_
    refine Sl.calm (Cm.assign rfl) rfl ?_
    refine Sl.nil ?_
    refine At.go ?_
    refine Sc.ret ?_
    refine At.block_ret ?_
    refine At.then_ret ?_
    refine At.ret3 rfl rfl rfl rfl ?_
    first
      | exact ⟨_, rfl, none, 0, by rw [e]; rfl, by rw [e]; exact Own.nil, Fr.none, hM00 _ hM, Foot.refl _ _⟩
      | exact ⟨_, rfl, none, 0, by rw [e]; rfl, by rw [e]; exact Own.nil, Fr.none, hM00 _ (hM.grow hf1), hf1.any⟩
      | (rw [hbad] at hj; exact ⟨_, rfl, none, 0, by rw [← hj]; rfl, by rw [← hj]; exact Own.nil, Fr.none, hM00 _ (hM5.mono (fun k h => h.1) hpD), hF5⟩)
      | (rw [hbad] at hj; exact ⟨_, rfl, none, 0, by rw [← hj]; rfl, by rw [← hj]; exact Own.nil, Fr.none, hM00 _ (hM6.mono (fun k h => h.1) hpD), hF6⟩)
      | exact ⟨_, rfl, o, c, by rw [← hj], by rw [← hj]; exact ho2, hfr2, hM2, hF2⟩
  ·
    refine Sl.calm (Cm.move rfl) rfl ?_
    refine Sl.want rfl rfl (Cm.move rfl) rfl ?_
    refine Sl.forkWant rfl rfl (Cm.lss rfl rfl) rfl (fun h20 => ?_) (fun h20 => ?_)
    ·
      have e : readS im fr to ref n = ([], 0, 1) := by unfold readS; rw [if_pos (by omega)]
      refine Sl.calm (Cm.pick_f rfl rfl) rfl ?_
      refine Sl.calm (Cm.assign rfl) rfl ?_
      refine Sl.nil ?_
      refine At.weak [(0, _), (1, _), (2, _), (6, _), (7, _), (8, _), (15, _)] ⟨rfl, rfl, rfl, rfl, rfl, rfl, rfl, trivial⟩ ?_
      refine At.go ?_
      refine Sc.cond_t rfl ?_
      refine Sc.seq ?_
      refine Sc.region ?_
      refine Sl.calm (Cm.assign rfl) rfl ?_
      refine Sl.calm (Cm.assign rfl) rfl ?_
      refine Sl.calm (Cm.assign rfl) rfl ?_
      refine Sl.nil ?_
      refine At.go ?_
      refine Sc.ret ?_
      refine At.block_ret ?_
      refine At.then_ret ?_
      refine At.ret3 rfl rfl rfl rfl ?_
      first
        | exact ⟨_, rfl, none, 0, by rw [e]; rfl, by rw [e]; exact Own.nil, Fr.none, hM00 _ hM, Foot.refl _ _⟩
        | exact ⟨_, rfl, none, 0, by rw [e]; rfl, by rw [e]; exact Own.nil, Fr.none, hM00 _ (hM.grow hf1), hf1.any⟩
        | (rw [hbad] at hj; exact ⟨_, rfl, none, 0, by rw [← hj]; rfl, by rw [← hj]; exact Own.nil, Fr.none, hM00 _ (hM5.mono (fun k h => h.1) hpD), hF5⟩)
        | (rw [hbad] at hj; exact ⟨_, rfl, none, 0, by rw [← hj]; rfl, by rw [← hj]; exact Own.nil, Fr.none, hM00 _ (hM6.mono (fun k h => h.1) hpD), hF6⟩)
        | exact ⟨_, rfl, o, c, by rw [← hj], by rw [← hj]; exact ho2, hfr2, hM2, hF2⟩
    ·
      obtain ⟨m, rfl⟩ : ∃ m : Nat, n = m := ⟨n.toNat, by omega⟩
      refine Sl.calm (Cm.pick_f rfl rfl) rfl ?_
      refine Sl.calm (Cm.assign rfl) rfl ?_
      refine Sl.nil ?_
      refine At.weak [(0, _), (1, _), (2, _), (6, _), (7, _), (8, _), (15, _)] ⟨rfl, rfl, rfl, rfl, rfl, rfl, rfl, trivial⟩ ?_
      refine At.go ?_
      refine Sc.cond_f rfl ?_
      refine Sc.seq ?_
      refine Sc.region ?_
      refine Sl.calm (Cm.move rfl) rfl ?_
      refine Sl.call fn55 rfl (mmay_ok D g p im fr to W hM) rfl ?_
      rintro _ w1 ⟨rfl, hf1⟩
      refine Sl.fork (Cm.notB rfl) rfl (fun h25 => ?_) (fun h25 => ?_)
      ·
        have e : readS im fr to ref m = ([], 0, 2) := by unfold readS; rw [if_neg (by omega), if_pos h25]
        refine Sl.calm (Cm.assign rfl) rfl ?_
        refine Sl.nil ?_
        refine At.weak [(0, _), (1, _), (2, _), (6, _), (7, _), (8, _), (15, _), (22, _)] ⟨rfl, rfl, rfl, rfl, rfl, rfl, rfl, rfl, trivial⟩ ?_
        refine At.go ?_
        refine Sc.cond_t rfl ?_
        refine Sc.seq ?_
        refine Sc.region ?_
        refine Sl.calm (Cm.assign rfl) rfl ?_
        refine Sl.calm (Cm.assign rfl) rfl ?_
        refine Sl.calm (Cm.assign rfl) rfl ?_
        refine Sl.nil ?_
        refine At.go ?_
        refine Sc.ret ?_
        refine At.block_ret ?_
        refine At.then_ret ?_
        refine At.ret3 rfl rfl rfl rfl ?_
        first
          | exact ⟨_, rfl, none, 0, by rw [e]; rfl, by rw [e]; exact Own.nil, Fr.none, hM00 _ hM, Foot.refl _ _⟩
          | exact ⟨_, rfl, none, 0, by rw [e]; rfl, by rw [e]; exact Own.nil, Fr.none, hM00 _ (hM.grow hf1), hf1.any⟩
          | (rw [hbad] at hj; exact ⟨_, rfl, none, 0, by rw [← hj]; rfl, by rw [← hj]; exact Own.nil, Fr.none, hM00 _ (hM5.mono (fun k h => h.1) hpD), hF5⟩)
          | (rw [hbad] at hj; exact ⟨_, rfl, none, 0, by rw [← hj]; rfl, by rw [← hj]; exact Own.nil, Fr.none, hM00 _ (hM6.mono (fun k h => h.1) hpD), hF6⟩)
          | exact ⟨_, rfl, o, c, by rw [← hj], by rw [← hj]; exact ho2, hfr2, hM2, hF2⟩
      ·
        have hmay : mayS im fr to = true := by simpa using h25
        obtain ⟨hm1, hm2, hm3⟩ : 0 ≤ fr ∧ fr ≤ to ∧ to ≤ im.length := by
          have hmay := hmay
          unfold mayS at hmay
          simp only [Bool.and_eq_true, decide_eq_true_eq] at hmay; omega
        have e : readS im fr to ref m = rdL im fr to m (ref / 256) (ref % 256).toNat [] := by unfold readS; rw [if_neg (by omega), if_neg h25, Int.toNat_natCast]
        refine Sl.calm (Cm.assign rfl) rfl ?_
        refine Sl.nil ?_
        refine At.weak [(0, _), (1, _), (2, _), (6, _), (7, _), (8, _), (15, _), (22, _)] ⟨rfl, rfl, rfl, rfl, rfl, rfl, rfl, rfl, trivial⟩ ?_
        refine At.go ?_
        refine Sc.cond_f rfl ?_
        refine Sc.skip ?_
        refine At.block_normal ?_
        refine At.go ?_
        refine Sc.seq ?_
        refine Sc.region ?_
        refine Sl.calm (Cm.assign rfl) rfl ?_
        refine Sl.nil ?_
        refine At.go ?_
        refine Sc.seq ?_
        refine Sc.region ?_
        refine Sl.calm (Cm.move rfl) rfl ?_
        refine Sl.calm (Cm.quo64 rfl rfl (by omega) (by decide)) rfl ?_
        refine Sl.calm (Cm.move rfl) rfl ?_
        refine Sl.calm (Cm.rem64 rfl rfl (by omega) (by decide)) rfl ?_
        refine Sl.calm (Cm.assign rfl) rfl ?_
        refine Sl.calm (Cm.assign rfl) rfl ?_
        refine Sl.nil ?_
        refine At.weak [(0, _), (1, _), (2, _), (6, _), (7, _), (8, _), (9, _), (10, _), (11, _), (15, _), (22, _)] ⟨rfl, rfl, rfl, rfl, rfl, rfl, rfl, rfl, rfl, rfl, rfl, trivial⟩ ?_
        refine At.go ?_
        refine Sc.seq ?_
        refine Sc.block ?_
        refine Sc.loop (β := (Int × Nat) × (List UInt8 × (Option Addr × Nat))) (fun ⟨⟨at_, i⟩, ⟨out, ⟨o, c⟩⟩⟩ => [(0, .pointer (some ⟨g, 0, none⟩)), (2, .int .i64 m), (9, .slice o out.length c), (10, .int .i64 at_), (11, .int .i64 i)]) (fun ⟨⟨at_, i⟩, ⟨out, ⟨o, c⟩⟩⟩ w => rdL im fr to m at_ i out = readS im fr to ref m ∧ out.length ≤ m ∧ 0 ≤ at_ ∧ 256 * at_ + i ≤ 9223372036854775807 ∧ i ≤ 255 ∧ Own b8 5 w.heap o c out ∧ Fr W.heap.size o ∧ MrO (fun k => D k ∧ ¬ blk o k) w.heap g p im fr to ∧ Foot D W w) (fun ⟨⟨at_, i⟩, ⟨out, ⟨o, c⟩⟩⟩ => m - out.length) ⟨⟨ref / 256, (ref % 256).toNat⟩, ⟨[], ⟨none, 0⟩⟩⟩ ⟨rfl, rfl, rfl, rfl, (by show some (Value.int .i64 _) = some (Value.int .i64 _); congr 2; omega), trivial⟩ ⟨e.symm, Nat.zero_le _, by omega, by omega, by omega, Own.nil, Fr.none, hM00 _ (hM.grow hf1), hf1.any⟩ ?_
        rintro ⟨⟨at_, i⟩, ⟨out, ⟨o, c⟩⟩⟩ w2 ⟨hj, hol, hat, hai, hi8, ho2, hfr2, hM2, hF2⟩
        refine Sc.seq ?_
        refine Sc.seq ?_
        refine Sc.region ?_
        refine Sl.calm (Cm.move rfl) rfl ?_
        refine Sl.calm (Cm.len sl22 rfl) rfl ?_
        refine Sl.calm (Cm.move rfl) rfl ?_
        refine Sl.fork (Cm.lss rfl rfl) rfl (fun h33 => ?_) (fun h33 => ?_)
        ·
          have hon : out.length < m := by omega
          refine Sl.nil ?_
          refine At.weak [(0, _), (2, _), (9, _), (10, _), (11, _), (33, _)] ⟨rfl, rfl, rfl, rfl, rfl, rfl, trivial⟩ ?_
          refine At.go ?_
          refine Sc.cond_t rfl ?_
          refine Sc.skip ?_
          refine At.go ?_
          refine Sc.block ?_
          refine Sc.seq ?_
          refine Sc.region ?_
          refine Sl.calm (Cm.move rfl) rfl ?_
          refine Sl.calm (Cm.move rfl) rfl ?_
          refine Sl.call fn56 rfl (mholds_ok _ g p im fr to at_ w2 hM2 (fun k hk => ⟨hD k (Nat.le_trans hF2.size hk), fun ⟨a, ha, hb⟩ => by have := ho2.lt a ha; omega⟩) hmay him ⟨hat, by omega⟩) rfl ?_
          rintro _ w3 ⟨hP, hM3, hF3⟩
          obtain ⟨bo, bl, bc, nx, ok, rfl, hno, hyes⟩ := hP.any
          have ho3 := ho2.keep hF3 (fun a ha h => h.2 ⟨a, ha, rfl⟩)
          have hz3 := hF3.size
          refine Sl.calm (Cm.move rfl) rfl ?_
          refine Sl.calm (Cm.extract rfl rfl) rfl ?_
          refine Sl.calm (Cm.extract rfl rfl) rfl ?_
          refine Sl.allocC zc99 rfl ?_
          intro w4 hg4 hs4 hf4
          refine Sl.storeAll (vs := (hvC bo bl bc nx)) agg99 rfl rfl (hvC_one _ _ _ _) hg4 rfl ?_
          intro w5 hg5 hs5 hf5
          have hF35 : Foot nob w3 w5 := hf4.trans_to hf5 (fun k hk => .inr (by have h : k = w3.heap.size := hk; omega))
          have ho5 := ho3.grow hF35
          have hM5 := hM3.grow hF35
          have hF5 : Foot D W w5 := (hF2.trans (hF3.mono (fun k h => h.1))).trans hF35.any
          refine Sl.calm (Cm.assign rfl) rfl ?_
          refine Sl.nil ?_
          refine At.weak [(0, _), (2, _), (9, _), (10, _), (11, _), (12, _), (13, _), (33, _)] ⟨rfl, rfl, rfl, rfl, rfl, rfl, rfl, rfl, trivial⟩ ?_
          refine At.go ?_
          refine Sc.seq ?_
          refine Sc.seq ?_
          refine Sc.region ?_
          refine Sl.calm (Cm.move rfl) rfl ?_
          refine Sl.fork (Cm.notB rfl) rfl (fun h41 => ?_) (fun h41 => ?_)
          ·
            have hbad : rdL im fr to m at_ i out = ([], 0, 2) := rdL_none hon (hno h41).1
            refine Sl.calm (Cm.move rfl) rfl ?_
            refine Sl.skip rfl rfl rfl rfl ?_
            refine Sl.skip rfl rfl rfl rfl ?_
            refine Sl.skip rfl rfl rfl rfl ?_
            refine Sl.skip rfl rfl rfl rfl ?_
            refine Sl.skip rfl rfl rfl rfl ?_
            refine Sl.calm (Cm.pick_t rfl rfl) rfl ?_
            refine Sl.nil ?_
            refine At.weak [(0, _), (2, _), (9, _), (10, _), (11, _), (12, _), (13, _), (33, _), (48, _)] ⟨rfl, rfl, rfl, rfl, rfl, rfl, rfl, rfl, rfl, trivial⟩ ?_
            refine At.go ?_
            refine Sc.cond_t rfl ?_
            refine Sc.seq ?_
            refine Sc.region ?_
            refine Sl.calm (Cm.assign rfl) rfl ?_
            refine Sl.calm (Cm.assign rfl) rfl ?_
            refine Sl.calm (Cm.assign rfl) rfl ?_
            refine Sl.nil ?_
            refine At.go ?_
            refine Sc.ret ?_
            refine At.then_ret ?_
            refine At.block_ret ?_
            refine At.then_ret ?_
            refine At.block_ret ?_
            refine At.then_ret ?_
            refine At.ret3 rfl rfl rfl rfl ?_
            first
              | exact ⟨_, rfl, none, 0, by rw [e]; rfl, by rw [e]; exact Own.nil, Fr.none, hM00 _ hM, Foot.refl _ _⟩
              | exact ⟨_, rfl, none, 0, by rw [e]; rfl, by rw [e]; exact Own.nil, Fr.none, hM00 _ (hM.grow hf1), hf1.any⟩
              | (rw [hbad] at hj; exact ⟨_, rfl, none, 0, by rw [← hj]; rfl, by rw [← hj]; exact Own.nil, Fr.none, hM00 _ (hM5.mono (fun k h => h.1) hpD), hF5⟩)
              | (rw [hbad] at hj; exact ⟨_, rfl, none, 0, by rw [← hj]; rfl, by rw [← hj]; exact Own.nil, Fr.none, hM00 _ (hM6.mono (fun k h => h.1) hpD), hF6⟩)
              | exact ⟨_, rfl, o, c, by rw [← hj], by rw [← hj]; exact ho2, hfr2, hM2, hF2⟩
          ·
            have hok : ok = true := by simpa using h41
            obtain ⟨b, hbl, hh, hvb, hbD⟩ := hyes hok
            subst hbl
            have hs := holdsS_some hh
            refine Sl.calm (Cm.move rfl) rfl ?_
            refine Sl.want rfl rfl (Cm.move rfl) rfl ?_
            refine Sl.want rfl rfl (Cm.field fld99_0 rfl) rfl ?_
            refine Sl.want rfl rfl (Cm.ld sca22 rfl (cellF hg5 rfl)) rfl ?_
            refine Sl.want rfl rfl (Cm.len sl22 rfl) rfl ?_
            refine Sl.forkWant rfl rfl (Cm.geq rfl rfl) rfl (fun h47 => ?_) (fun h47 => ?_)
            ·
              have hbad : rdL im fr to m at_ i out = ([], 0, 2) := rdL_out hon hh (by omega)
              refine Sl.calm (Cm.pick_f rfl rfl) rfl ?_
              refine Sl.nil ?_
              refine At.weak [(0, _), (2, _), (9, _), (10, _), (11, _), (12, _), (13, _), (33, _), (48, _)] ⟨rfl, rfl, rfl, rfl, rfl, rfl, rfl, rfl, rfl, trivial⟩ ?_
              refine At.go ?_
              refine Sc.cond_t rfl ?_
              refine Sc.seq ?_
              refine Sc.region ?_
              refine Sl.calm (Cm.assign rfl) rfl ?_
              refine Sl.calm (Cm.assign rfl) rfl ?_
              refine Sl.calm (Cm.assign rfl) rfl ?_
              refine Sl.nil ?_
              refine At.go ?_
              refine Sc.ret ?_
              refine At.then_ret ?_
              refine At.block_ret ?_
              refine At.then_ret ?_
              refine At.block_ret ?_
              refine At.then_ret ?_
              refine At.ret3 rfl rfl rfl rfl ?_
              first
                | exact ⟨_, rfl, none, 0, by rw [e]; rfl, by rw [e]; exact Own.nil, Fr.none, hM00 _ hM, Foot.refl _ _⟩
                | exact ⟨_, rfl, none, 0, by rw [e]; rfl, by rw [e]; exact Own.nil, Fr.none, hM00 _ (hM.grow hf1), hf1.any⟩
                | (rw [hbad] at hj; exact ⟨_, rfl, none, 0, by rw [← hj]; rfl, by rw [← hj]; exact Own.nil, Fr.none, hM00 _ (hM5.mono (fun k h => h.1) hpD), hF5⟩)
                | (rw [hbad] at hj; exact ⟨_, rfl, none, 0, by rw [← hj]; rfl, by rw [← hj]; exact Own.nil, Fr.none, hM00 _ (hM6.mono (fun k h => h.1) hpD), hF6⟩)
                | exact ⟨_, rfl, o, c, by rw [← hj], by rw [← hj]; exact ho2, hfr2, hM2, hF2⟩
            ·
              have hib : ¬ b.length ≤ i := by omega
              have hlb := hvb.le
              obtain ⟨x, hx⟩ : ∃ x, x = (b.drop i).take (m - out.length) := ⟨_, rfl⟩
              have hxl : x.length = min (b.length - i) (m - out.length) := by rw [hx, List.length_take, List.length_drop]; omega
              refine Sl.calm (Cm.pick_f rfl rfl) rfl ?_
              refine Sl.nil ?_
              refine At.weak [(0, _), (2, _), (9, _), (10, _), (11, _), (12, _), (13, _), (33, _), (48, _)] ⟨rfl, rfl, rfl, rfl, rfl, rfl, rfl, rfl, rfl, trivial⟩ ?_
              refine At.go ?_
              refine Sc.cond_f rfl ?_
              refine Sc.skip ?_
              refine At.go ?_
              refine Sc.seq ?_
              refine Sc.region ?_
              refine Sl.calm (Cm.field fld99_0 rfl) rfl ?_
              refine Sl.calm (Cm.ld sca22 rfl (cellF hg5 rfl)) rfl ?_
              refine Sl.calm (Cm.move rfl) rfl ?_
              refine Sl.calm (Cm.field fld99_0 rfl) rfl ?_
              refine Sl.calm (Cm.ld sca22 rfl (cellF hg5 rfl)) rfl ?_
              refine Sl.calm (Cm.len sl22 rfl) rfl ?_
              refine Sl.calm (Cm.move rfl) rfl ?_
              refine Sl.calm (Cm.move rfl) rfl ?_
              refine Sl.calm (Cm.add64 rfl rfl (by omega)) rfl ?_
              refine Sl.calm (Cm.move rfl) rfl ?_
              refine Sl.calm (Cm.len sl22 rfl) rfl ?_
              refine Sl.calm (Cm.sub64 rfl rfl (by omega)) rfl ?_
              refine Sl.calm (Cm.min2 rfl rfl) rfl ?_
              refine Sl.calm (Cm.ofEq (u := .slice (cutAo bo bc i 1) x.length (bc - i)) (Cm.sliceLH sl22 rfl rfl rfl (by omega) (by omega)) (by rw [hxl]; congr 1; omega)) rfl ?_
              have hvx : Vw b8 w5.heap (cutAo bo bc i 1) (bc - i) x := by
                have := (hvb.grow hF35).cut (l := i) (h := i + x.length) (m := bc) (by omega) (by omega) (by omega) (Nat.le_refl _)
                rw [show i + x.length - i = x.length by omega] at this
                rwa [show (b.drop i).take x.length = x by rw [hxl, hx]; apply List.ext_getElem?; intro j; rw [List.getElem?_take, List.getElem?_take]; by_cases hj1 : j < m - out.length <;> by_cases hj2 : j < b.length - i <;> simp [hj1, hj2] <;> omega] at this
              refine Sl.calm (Cm.assign rfl) rfl ?_
              refine Sl.nil ?_
              refine At.weak [(0, _), (2, _), (9, _), (10, _), (11, _), (12, _), (13, _), (14, _), (33, _), (48, _)] ⟨rfl, rfl, rfl, rfl, rfl, rfl, rfl, rfl, rfl, rfl, trivial⟩ ?_
              refine At.go ?_
              refine Sc.seq ?_
              refine Sc.region ?_
              refine Sl.calm (Cm.move rfl) rfl ?_
              refine Sl.calm (Cm.move rfl) rfl ?_
              refine Sl.append b8_one sl22 rfl rfl ho5 hvx (by omega) (by unfold maxLen; omega) rfl ?_
              intro o6 c6 w6 ho6 hf6 hr6 hn6
              have hM6 := hM5.beside hf6 hr6 ho6 hpD (fun ⟨a, ha, hb⟩ => by have := hfr2 a ha; omega)
              have hF6 : Foot D W w6 := hF5.trans_to hf6 hfr2.step
              have hfr6 := fr_next hfr2 hr6 hF5.size
              have hg6 := hf6.obj hg5 (fun ⟨a, ha, hb⟩ => by have := ho3.lt a ha; omega)
              have hal : (out ++ x).length = out.length + x.length := List.length_append
              have hxb : x.length = ((b.drop i).take (m - out.length)).length := by rw [hx]
              refine Sl.calm (Cm.move rfl) rfl ?_
              refine Sl.calm (Cm.move rfl) rfl ?_
              refine Sl.calm (Cm.len sl22 rfl) rfl ?_
              refine Sl.calm (Cm.add64 rfl rfl (by omega)) rfl ?_
              refine Sl.calm (Cm.assign rfl) rfl ?_
              refine Sl.calm (Cm.assign rfl) rfl ?_
              refine Sl.nil ?_
              refine At.weak [(0, _), (2, _), (9, _), (10, _), (11, _), (12, _), (13, _), (14, _), (33, _), (48, _)] ⟨rfl, rfl, rfl, rfl, rfl, rfl, rfl, rfl, rfl, rfl, trivial⟩ ?_
              refine At.go ?_
              refine Sc.block ?_
              refine Sc.seq ?_
              refine Sc.region ?_
              refine Sl.calm (Cm.move rfl) rfl ?_
              refine Sl.fork (Cm.eql rfl rfl) rfl (fun h72 => ?_) (fun h72 => ?_)
              ·
                have hgo := rdL_next (i := i) (n := m) hon hh hib (by rw [← hxb]; omega)
                rw [← hx, hj] at hgo
                refine Sl.calm (Cm.assign rfl) rfl ?_
                refine Sl.nil ?_
                refine At.weak [(0, _), (2, _), (9, _), (10, _), (11, _), (12, _), (13, _), (14, _), (33, _), (48, _), (70, _)] ⟨rfl, rfl, rfl, rfl, rfl, rfl, rfl, rfl, rfl, rfl, rfl, trivial⟩ ?_
                refine At.go ?_
                refine Sc.cond_t rfl ?_
                refine Sc.region ?_
                refine Sl.calm (Cm.field fld99_1 rfl) rfl ?_
                refine Sl.calm (Cm.ld sca3 rfl (cellF hg6 rfl)) rfl ?_
                refine Sl.calm (Cm.assign rfl) rfl ?_
                refine Sl.calm (Cm.assign rfl) rfl ?_
                refine Sl.nil ?_
                refine At.block_normal ?_
                refine At.block_normal ?_
                exact At.again ⟨⟨nx, 0⟩, ⟨out ++ x, ⟨o6, c6⟩⟩⟩ ⟨rfl, rfl, rfl, rfl, rfl, trivial⟩ ⟨hgo.symm, by omega, by omega, by omega, by omega, ho6, hfr6, hM6, hF6⟩ (by show m - (out ++ x).length < m - out.length; omega)
              ·
                have h128 : ¬ i + ((b.drop i).take (m - out.length)).length = 128 := by rw [← hxb]; omega
                refine Sl.calm (Cm.assign rfl) rfl ?_
                refine Sl.nil ?_
                refine At.weak [(0, _), (2, _), (9, _), (10, _), (11, _), (12, _), (13, _), (14, _), (33, _), (48, _), (70, _)] ⟨rfl, rfl, rfl, rfl, rfl, rfl, rfl, rfl, rfl, rfl, rfl, trivial⟩ ?_
                refine At.go ?_
                refine Sc.cond_f rfl ?_
                refine Sc.seq ?_
                refine Sc.region ?_
                refine Sl.calm (Cm.move rfl) rfl ?_
                refine Sl.calm (Cm.len sl22 rfl) rfl ?_
                refine Sl.calm (Cm.move rfl) rfl ?_
                refine Sl.fork (Cm.lss rfl rfl) rfl (fun h79 => ?_) (fun h79 => ?_)
                ·
                  have hbad : rdL im fr to m at_ i out = ([], 0, 2) := rdL_bad hon hh hib h128 (by rw [← hx]; omega)
                  refine Sl.calm (Cm.assign rfl) rfl ?_
                  refine Sl.nil ?_
                  refine At.weak [(0, _), (2, _), (9, _), (10, _), (11, _), (12, _), (13, _), (14, _), (33, _), (48, _), (70, _), (75, _)] ⟨rfl, rfl, rfl, rfl, rfl, rfl, rfl, rfl, rfl, rfl, rfl, rfl, trivial⟩ ?_
                  refine At.go ?_
                  refine Sc.cond_t rfl ?_
                  refine Sc.seq ?_
                  refine Sc.region ?_
                  refine Sl.calm (Cm.assign rfl) rfl ?_
                  refine Sl.calm (Cm.assign rfl) rfl ?_
                  refine Sl.calm (Cm.assign rfl) rfl ?_
                  refine Sl.nil ?_
                  refine At.go ?_
                  refine Sc.ret ?_
                  refine At.block_ret ?_
                  refine At.block_ret ?_
                  refine At.then_ret ?_
                  refine At.block_ret ?_
                  refine At.then_ret ?_
                  refine At.ret3 rfl rfl rfl rfl ?_
                  first
                    | exact ⟨_, rfl, none, 0, by rw [e]; rfl, by rw [e]; exact Own.nil, Fr.none, hM00 _ hM, Foot.refl _ _⟩
                    | exact ⟨_, rfl, none, 0, by rw [e]; rfl, by rw [e]; exact Own.nil, Fr.none, hM00 _ (hM.grow hf1), hf1.any⟩
                    | (rw [hbad] at hj; exact ⟨_, rfl, none, 0, by rw [← hj]; rfl, by rw [← hj]; exact Own.nil, Fr.none, hM00 _ (hM5.mono (fun k h => h.1) hpD), hF5⟩)
                    | (rw [hbad] at hj; exact ⟨_, rfl, none, 0, by rw [← hj]; rfl, by rw [← hj]; exact Own.nil, Fr.none, hM00 _ (hM6.mono (fun k h => h.1) hpD), hF6⟩)
                    | exact ⟨_, rfl, o, c, by rw [← hj], by rw [← hj]; exact ho2, hfr2, hM2, hF2⟩
                ·
                  have hgo := rdL_on (i := i) (n := m) hon hh hib h128 (by rw [← hx]; omega)
                  rw [← hx, hj] at hgo
                  refine Sl.calm (Cm.assign rfl) rfl ?_
                  refine Sl.nil ?_
                  refine At.weak [(0, _), (2, _), (9, _), (10, _), (11, _), (12, _), (13, _), (14, _), (33, _), (48, _), (70, _), (75, _)] ⟨rfl, rfl, rfl, rfl, rfl, rfl, rfl, rfl, rfl, rfl, rfl, rfl, trivial⟩ ?_
                  refine At.go ?_
                  refine Sc.cond_f rfl ?_
                  refine Sc.skip ?_
                  refine At.block_normal ?_
                  refine At.block_normal ?_
                  exact At.again ⟨⟨at_, i + x.length⟩, ⟨out ++ x, ⟨o6, c6⟩⟩⟩ ⟨rfl, rfl, rfl, rfl, rfl, trivial⟩ ⟨hgo.symm, by omega, hat, by omega, by omega, ho6, hfr6, hM6, hF6⟩ (by show m - (out ++ x).length < m - out.length; omega)
        ·
          have hon : ¬ out.length < m := by omega
          rw [rdL_end hon] at hj
          refine Sl.nil ?_
          refine At.weak [(0, _), (2, _), (9, _), (10, _), (11, _), (33, _)] ⟨rfl, rfl, rfl, rfl, rfl, rfl, trivial⟩ ?_
          refine At.go ?_
          refine Sc.cond_f rfl ?_
          refine Sc.exit ?_
          refine At.then_exit ?_
          refine At.then_exit ?_
          refine At.block_hit ?_
          refine At.go ?_
          refine Sc.seq ?_
          refine Sc.region ?_
          refine Sl.calm (Cm.move rfl) rfl ?_
          refine Sl.calm (Cm.move rfl) rfl ?_
          refine Sl.calm (Cm.mul64 rfl rfl (by omega)) rfl ?_
          refine Sl.calm (Cm.move rfl) rfl ?_
          refine Sl.calm (Cm.add64 rfl rfl (by omega)) rfl ?_
          refine Sl.calm (Cm.assign rfl) rfl ?_
          refine Sl.calm (Cm.assign rfl) rfl ?_
          refine Sl.calm (Cm.assign rfl) rfl ?_
          refine Sl.nil ?_
          refine At.weak [(0, _), (2, _), (6, _), (7, _), (8, _), (9, _), (10, _), (11, _), (33, _)] ⟨rfl, rfl, rfl, rfl, rfl, rfl, rfl, rfl, rfl, trivial⟩ ?_
          refine At.go ?_
          refine Sc.ret ?_
          refine At.ret3 rfl rfl rfl rfl ?_
          first
            | exact ⟨_, rfl, none, 0, by rw [e]; rfl, by rw [e]; exact Own.nil, Fr.none, hM00 _ hM, Foot.refl _ _⟩
            | exact ⟨_, rfl, none, 0, by rw [e]; rfl, by rw [e]; exact Own.nil, Fr.none, hM00 _ (hM.grow hf1), hf1.any⟩
            | (rw [hbad] at hj; exact ⟨_, rfl, none, 0, by rw [← hj]; rfl, by rw [← hj]; exact Own.nil, Fr.none, hM00 _ (hM5.mono (fun k h => h.1) hpD), hF5⟩)
            | (rw [hbad] at hj; exact ⟨_, rfl, none, 0, by rw [← hj]; rfl, by rw [← hj]; exact Own.nil, Fr.none, hM00 _ (hM6.mono (fun k h => h.1) hpD), hF6⟩)
            | exact ⟨_, rfl, o, c, by rw [← hj], by rw [← hj]; exact ho2, hfr2, hM2, hF2⟩
set_option maxHeartbeats 2000000 in
theorem mnext_ok (D : Nat → Prop) (g p : Nat) (im : List UInt8) (fr to ref : Int) (W : World) (hM : MrO D W.heap g p im fr to) (him : im.length ≤ 1099511627776) (href : -9223372036854775808 ≤ ref ∧ ref ≤ 9223372036854775807) :
    Calls Try.prog 33 [.pointer (some ⟨g, 0, none⟩), .int .i64 ref].toArray W (Ret fun v w' => v = .tuple #[.int .i64 (nextS im fr to ref).1, .int .i64 (nextS im fr to ref).2] ∧ Foot nob W w') := by
  have hM0 := hM
  obtain ⟨io, ic, gm, mm, hg, h1, h2, h3, h4, h5, h6, h7, h8⟩ := hM
  refine calls_of_sc 61 [(0, _), (1, _)] Try.func33 rfl rfl rfl (enter_slots ⟨rfl, rfl, trivial⟩) ?_
  refine Sc.seq ?_
  refine Sc.region ?_
  refine Sl.calm (Cm.assign rfl) rfl ?_
  refine Sl.calm (Cm.assign rfl) rfl ?_
  refine Sl.nil ?_
  refine At.go ?_
  refine Sc.seq ?_
  refine Sc.block ?_
  refine Sc.seq ?_
  refine Sc.region ?_
  refine Sl.calm (Cm.move rfl) rfl ?_
  refine Sl.fork (Cm.lss rfl rfl) rfl (fun h10 => ?_) (fun h10 => ?_)
  ·
    have e : nextS im fr to ref = (0, 1) := by unfold nextS; rw [if_pos (by omega)]
    refine Sl.calm (Cm.assign rfl) rfl ?_
    refine Sl.nil ?_
    refine At.weak [(0, _), (1, _), (4, _), (5, _), (8, _)] ⟨rfl, rfl, rfl, rfl, rfl, trivial⟩ ?_
    refine At.go ?_
    refine Sc.cond_t rfl ?_
    refine Sc.seq ?_
    refine Sc.region ?_
    refine Sl.calm (Cm.assign rfl) rfl ?_
    refine Sl.calm (Cm.assign rfl) rfl ?_
    refine Sl.nil ?_
    refine At.go ?_
    refine Sc.ret ?_
    refine At.block_ret ?_
    refine At.then_ret ?_
    refine At.ret2 rfl rfl rfl ?_
    rw [e]
    first
      | exact ⟨_, rfl, rfl, Foot.refl _ _⟩
      | exact ⟨_, rfl, rfl, hf1⟩
      | exact ⟨_, rfl, rfl, hf1.trans hf2⟩
  ·
    refine Sl.calm (Cm.assign rfl) rfl ?_
    refine Sl.nil ?_
    refine At.weak [(0, _), (1, _), (4, _), (5, _), (8, _)] ⟨rfl, rfl, rfl, rfl, rfl, trivial⟩ ?_
    refine At.go ?_
    refine Sc.cond_f rfl ?_
    refine Sc.seq ?_
    refine Sc.draw 18 (fun H => H[g]? = some (.cells (mrC p io im.length ic fr to gm).toArray 97 (0, 0))) [1] [0, 1, 2, 3, 4, 5, 6, 7, 8, 9, 10, 11, 12, 13, 14, 15, 16, 17] mixed (by kernel_rfl) (hg) ?_
    refine Sx.calm rfl rfl (Cm.move rfl) rfl ?_
    refine Sx.eff rfl rfl (Sl.call fn55 rfl (mmay_ok D g p im fr to _ (hM0.grow (Foot.ofDraws 1))) rfl ?_)
    rintro _ w1 ⟨rfl, hf1⟩
    refine Sx.on (by exact hf1.undraw.obj hg id) ?_
    have hf1 := hf1.undraw
    have hg1 := hf1.obj hg id
    refine Sx.fork rfl rfl (Cm.notB rfl) rfl (fun h14 => ?_) (fun h14 => ?_)
    ·
      have e : nextS im fr to ref = (0, 2) := by unfold nextS; rw [if_neg (by omega), if_pos (.inl h14)]
      refine Sx.calm rfl rfl (Cm.move rfl) rfl ?_
      refine Sx.skip rfl rfl rfl rfl rfl rfl ?_
      refine Sx.skip rfl rfl rfl rfl rfl rfl ?_
      refine Sx.skip rfl rfl rfl rfl rfl rfl ?_
      refine Sx.skip rfl rfl rfl rfl rfl rfl ?_
      refine Sx.skip rfl rfl rfl rfl rfl rfl ?_
      refine Sx.skip rfl rfl rfl rfl rfl rfl ?_
      refine Sx.skip rfl rfl rfl rfl rfl rfl ?_
      refine Sx.skip rfl rfl rfl rfl rfl rfl ?_
      refine Sx.skip rfl rfl rfl rfl rfl rfl ?_
      refine Sx.skip rfl rfl rfl rfl rfl rfl ?_
      refine Sx.skip rfl rfl rfl rfl rfl rfl ?_
      refine Sx.skip rfl rfl rfl rfl rfl rfl ?_
      refine Sx.calm rfl rfl (Cm.pick_t rfl rfl) rfl ?_
      refine Sx.calm rfl rfl (Cm.assign rfl) rfl ?_
      refine Sx.nil ?_
      refine At.weak [(0, _), (1, _), (4, _), (5, _), (8, _), (11, _)] ⟨rfl, rfl, rfl, rfl, rfl, rfl, trivial⟩ ?_
      refine At.go ?_
      refine Sc.cond_t rfl ?_
      refine Sc.seq ?_
      refine Sc.region ?_
      refine Sl.calm (Cm.assign rfl) rfl ?_
      refine Sl.calm (Cm.assign rfl) rfl ?_
      refine Sl.nil ?_
      refine At.go ?_
      refine Sc.ret ?_
      refine At.block_ret ?_
      refine At.then_ret ?_
      refine At.ret2 rfl rfl rfl ?_
      rw [e]
      first
        | exact ⟨_, rfl, rfl, Foot.refl _ _⟩
        | exact ⟨_, rfl, rfl, hf1⟩
        | exact ⟨_, rfl, rfl, hf1.trans hf2⟩
    ·
      have hmay : mayS im fr to = true := by simpa using h14
      obtain ⟨hm1, hm2, hm3⟩ : 0 ≤ fr ∧ fr ≤ to ∧ to ≤ im.length := by
        have hmay := hmay
        unfold mayS at hmay
        simp only [Bool.and_eq_true, decide_eq_true_eq] at hmay; omega
      refine Sx.calm rfl rfl (Cm.move rfl) rfl ?_
      refine Sx.want rfl rfl rfl rfl (Cm.move rfl) rfl ?_
      refine Sx.want rfl rfl rfl rfl (Cm.quo64 rfl rfl (by omega) (by decide)) rfl ?_
      refine Sx.want rfl rfl rfl rfl (Cm.move rfl) rfl ?_
      refine Sx.want rfl rfl rfl rfl (Cm.nilCheck rfl) rfl ?_
      refine Sx.want rfl rfl rfl rfl (Cm.field fld97_3 rfl) rfl ?_
      refine Sx.want rfl rfl rfl rfl (Cm.load sca3 rfl (fun H hH => cellF hH rfl)) rfl ?_
      refine Sx.want rfl rfl rfl rfl (Cm.move rfl) rfl ?_
      refine Sx.want rfl rfl rfl rfl (Cm.nilCheck rfl) rfl ?_
      refine Sx.want rfl rfl rfl rfl (Cm.field fld97_2 rfl) rfl ?_
      refine Sx.want rfl rfl rfl rfl (Cm.load sca3 rfl (fun H hH => cellF hH rfl)) rfl ?_
      refine Sx.want rfl rfl rfl rfl (Cm.sub64 rfl rfl (by omega)) rfl ?_
      refine Sx.forkWant rfl rfl rfl rfl (Cm.gtr rfl rfl) rfl (fun h27 => ?_) (fun h27 => ?_)
      ·
        have e : nextS im fr to ref = (0, 2) := by unfold nextS; rw [if_neg (by omega), if_pos (.inr (by omega))]
        refine Sx.calm rfl rfl (Cm.pick_f rfl rfl) rfl ?_
        refine Sx.calm rfl rfl (Cm.assign rfl) rfl ?_
        refine Sx.nil ?_
        refine At.weak [(0, _), (1, _), (4, _), (5, _), (8, _), (11, _)] ⟨rfl, rfl, rfl, rfl, rfl, rfl, trivial⟩ ?_
        refine At.go ?_
        refine Sc.cond_t rfl ?_
        refine Sc.seq ?_
        refine Sc.region ?_
        refine Sl.calm (Cm.assign rfl) rfl ?_
        refine Sl.calm (Cm.assign rfl) rfl ?_
        refine Sl.nil ?_
        refine At.go ?_
        refine Sc.ret ?_
        refine At.block_ret ?_
        refine At.then_ret ?_
        refine At.ret2 rfl rfl rfl ?_
        rw [e]
        first
          | exact ⟨_, rfl, rfl, Foot.refl _ _⟩
          | exact ⟨_, rfl, rfl, hf1⟩
          | exact ⟨_, rfl, rfl, hf1.trans hf2⟩
      ·
        have e : nextS im fr to ref = if (skipS im (fr + ref / 256)).2 ≠ 0 ∨ to < (skipS im (fr + ref / 256)).1 then (0, 2) else (256 * ((skipS im (fr + ref / 256)).1 - fr), 0) := by
          unfold nextS
          rw [if_neg (by omega), if_neg (by rintro (h | h); exact h14 h; omega)]
        refine Sx.calm rfl rfl (Cm.pick_f rfl rfl) rfl ?_
        refine Sx.calm rfl rfl (Cm.assign rfl) rfl ?_
        refine Sx.nil ?_
        refine At.weak [(0, _), (1, _), (4, _), (5, _), (8, _), (11, _)] ⟨rfl, rfl, rfl, rfl, rfl, rfl, trivial⟩ ?_
        refine At.go ?_
        refine Sc.cond_f rfl ?_
        refine Sc.skip ?_
        refine At.block_normal ?_
        refine At.go ?_
        refine Sc.seq ?_
        refine Sc.draw 17 (fun H => H[g]? = some (.cells (mrC p io im.length ic fr to gm).toArray 97 (0, 0))) [11] [0, 1, 2, 3, 4, 5, 6, 7, 8, 9, 10, 11, 12, 13, 14, 15, 16] mixed (by kernel_rfl) (hg1) ?_
        refine Sx.calm rfl rfl (Cm.move rfl) rfl ?_
        refine Sx.calm rfl rfl (Cm.nilCheck rfl) rfl ?_
        refine Sx.calm rfl rfl (Cm.field fld97_1 rfl) rfl ?_
        refine Sx.calm rfl rfl (Cm.load sca22 rfl (fun H hH => cellF hH rfl)) rfl ?_
        refine Sx.calm rfl rfl (Cm.move rfl) rfl ?_
        refine Sx.calm rfl rfl (Cm.nilCheck rfl) rfl ?_
        refine Sx.calm rfl rfl (Cm.field fld97_2 rfl) rfl ?_
        refine Sx.calm rfl rfl (Cm.load sca3 rfl (fun H hH => cellF hH rfl)) rfl ?_
        refine Sx.calm rfl rfl (Cm.move rfl) rfl ?_
        refine Sx.calm rfl rfl (Cm.quo64 rfl rfl (by omega) (by decide)) rfl ?_
        refine Sx.calm rfl rfl (Cm.add64 rfl rfl (by omega)) rfl ?_
        refine Sx.eff rfl rfl (Sl.call fn21 rfl (fskip_ok io ic im (fr + ref / 256) _ (h1.vw.grow (hf1.draws 1)) him (by omega)) rfl ?_)
        rintro _ w2 ⟨rfl, hf2⟩
        refine Sx.on (by exact hf2.undraw.obj hg1 id) ?_
        have hf2 := hf2.undraw
        have hg2 := hf2.obj hg1 id
        obtain ⟨t, hT⟩ : ∃ t, t = skipS im (fr + ref / 256) := ⟨_, rfl⟩
        rw [← hT]
        rw [← hT] at e
        have htk : t.2 = 0 → fr + ref / 256 ≤ t.1 := by
          intro h0
          rw [hT] at h0 ⊢
          unfold skipS at h0 ⊢
          split
          · rename_i hc; rw [hc] at h0; cases h0
          · simp only; omega
        refine Sx.calm rfl rfl (Cm.move rfl) rfl ?_
        refine Sx.calm rfl rfl (Cm.extract rfl rfl) rfl ?_
        refine Sx.calm rfl rfl (Cm.extract rfl rfl) rfl ?_
        refine Sx.calm rfl rfl (Cm.assign rfl) rfl ?_
        refine Sx.calm rfl rfl (Cm.assign rfl) rfl ?_
        refine Sx.nil ?_
        refine At.weak [(0, _), (1, _), (4, _), (5, _), (6, _), (7, _), (8, _), (11, _)] ⟨rfl, rfl, rfl, rfl, rfl, rfl, rfl, rfl, trivial⟩ ?_
        refine At.go ?_
        refine Sc.seq ?_
        refine Sc.seq ?_
        refine Sc.region ?_
        refine Sl.calm (Cm.move rfl) rfl ?_
        refine Sl.fork (Cm.neq rfl rfl) rfl (fun h45 => ?_) (fun h45 => ?_)
        ·
          rw [if_pos (.inl h45)] at e
          refine Sl.calm (Cm.move rfl) rfl ?_
          refine Sl.skip rfl rfl rfl rfl ?_
          refine Sl.skip rfl rfl rfl rfl ?_
          refine Sl.skip rfl rfl rfl rfl ?_
          refine Sl.skip rfl rfl rfl rfl ?_
          refine Sl.skip rfl rfl rfl rfl ?_
          refine Sl.skip rfl rfl rfl rfl ?_
          refine Sl.calm (Cm.pick_t rfl rfl) rfl ?_
          refine Sl.nil ?_
          refine At.weak [(0, _), (1, _), (4, _), (5, _), (6, _), (7, _), (8, _), (11, _), (53, _)] ⟨rfl, rfl, rfl, rfl, rfl, rfl, rfl, rfl, rfl, trivial⟩ ?_
          refine At.go ?_
          refine Sc.cond_t rfl ?_
          refine Sc.seq ?_
          refine Sc.region ?_
          refine Sl.calm (Cm.assign rfl) rfl ?_
          refine Sl.calm (Cm.assign rfl) rfl ?_
          refine Sl.nil ?_
          refine At.go ?_
          refine Sc.ret ?_
          refine At.then_ret ?_
          refine At.ret2 rfl rfl rfl ?_
          rw [e]
          first
            | exact ⟨_, rfl, rfl, Foot.refl _ _⟩
            | exact ⟨_, rfl, rfl, hf1⟩
            | exact ⟨_, rfl, rfl, hf1.trans hf2⟩
        ·
          have htk := htk (Decidable.not_not.1 h45)
          refine Sl.calm (Cm.move rfl) rfl ?_
          refine Sl.want rfl rfl (Cm.move rfl) rfl ?_
          refine Sl.want rfl rfl (Cm.move rfl) rfl ?_
          refine Sl.want rfl rfl (Cm.nilCheck rfl) rfl ?_
          refine Sl.want rfl rfl (Cm.field fld97_3 rfl) rfl ?_
          refine Sl.want rfl rfl (Cm.ld sca3 rfl (cellF hg2 rfl)) rfl ?_
          refine Sl.forkWant rfl rfl (Cm.gtr rfl rfl) rfl (fun h52 => ?_) (fun h52 => ?_)
          ·
            rw [if_pos (.inr h52)] at e
            refine Sl.calm (Cm.pick_f rfl rfl) rfl ?_
            refine Sl.nil ?_
            refine At.weak [(0, _), (1, _), (4, _), (5, _), (6, _), (7, _), (8, _), (11, _), (53, _)] ⟨rfl, rfl, rfl, rfl, rfl, rfl, rfl, rfl, rfl, trivial⟩ ?_
            refine At.go ?_
            refine Sc.cond_t rfl ?_
            refine Sc.seq ?_
            refine Sc.region ?_
            refine Sl.calm (Cm.assign rfl) rfl ?_
            refine Sl.calm (Cm.assign rfl) rfl ?_
            refine Sl.nil ?_
            refine At.go ?_
            refine Sc.ret ?_
            refine At.then_ret ?_
            refine At.ret2 rfl rfl rfl ?_
            rw [e]
            first
              | exact ⟨_, rfl, rfl, Foot.refl _ _⟩
              | exact ⟨_, rfl, rfl, hf1⟩
              | exact ⟨_, rfl, rfl, hf1.trans hf2⟩
          ·
            rw [if_neg (by rintro (h | h); exact h45 h; omega)] at e
            refine Sl.calm (Cm.pick_f rfl rfl) rfl ?_
            refine Sl.nil ?_
            refine At.weak [(0, _), (1, _), (4, _), (5, _), (6, _), (7, _), (8, _), (11, _), (53, _)] ⟨rfl, rfl, rfl, rfl, rfl, rfl, rfl, rfl, rfl, trivial⟩ ?_
            refine At.go ?_
            refine Sc.cond_f rfl ?_
            refine Sc.skip ?_
            refine At.go ?_
            refine Sc.seq ?_
            refine Sc.region ?_
            refine Sl.calm (Cm.move rfl) rfl ?_
            refine Sl.calm (Cm.move rfl) rfl ?_
            refine Sl.calm (Cm.nilCheck rfl) rfl ?_
            refine Sl.calm (Cm.field fld97_2 rfl) rfl ?_
            refine Sl.calm (Cm.ld sca3 rfl (cellF hg2 rfl)) rfl ?_
            refine Sl.calm (Cm.sub64 rfl rfl (by omega)) rfl ?_
            refine Sl.calm (Cm.mul64 rfl rfl (by omega)) rfl ?_
            refine Sl.calm (Cm.assign rfl) rfl ?_
            refine Sl.calm (Cm.assign rfl) rfl ?_
            refine Sl.nil ?_
            refine At.weak [(0, _), (1, _), (4, _), (5, _), (6, _), (7, _), (8, _), (11, _), (53, _)] ⟨rfl, rfl, rfl, rfl, rfl, rfl, rfl, rfl, rfl, trivial⟩ ?_
            refine At.go ?_
            refine Sc.ret ?_
            refine At.ret2 rfl rfl rfl ?_
            rw [e]
            first
              | exact ⟨_, rfl, rfl, Foot.refl _ _⟩
              | exact ⟨_, rfl, rfl, hf1⟩
              | exact ⟨_, rfl, rfl, hf1.trans hf2⟩
end Go.Proofs.Ytlpfahmkjgompaa
