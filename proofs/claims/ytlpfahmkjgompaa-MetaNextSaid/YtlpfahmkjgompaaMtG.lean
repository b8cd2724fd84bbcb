/- meta: the laws' head; the law on what is written. No condition beyond the bounds that each states. -/
import Derived.Test.YtlpfahmkjgompaaMtF
namespace Go.Proofs.Ytlpfahmkjgompaa
open Go Go.RowKit
set_option linter.unusedVariables false

theorem mnewT_ok (p : Nat) (W : World) (ht : TbV W.heap p) :
    Calls Try.prog 25 [.pointer (some ⟨p, 0, none⟩)].toArray W (Ret fun v w' => v = .pointer (some ⟨W.heap.size, 0, none⟩) ∧ MwO (fun k => W.heap.size ≤ k ∧ k < w'.heap.size) w'.heap W.heap.size p (cutW [] []).1 (cutW [] []).2 ∧ Foot nob W w') := by
  refine (mnew_ok p W ht).mono ?_
  rintro e w' ⟨v, rfl, rfl, h1, h2⟩
  exact ⟨_, rfl, rfl, by rw [cutW_small (show ([] : List UInt8).length < 128 by decide)]; exact h1.tight, h2⟩
theorem mopenA_ok (p : Nat) (ao : Option Addr) (c : Nat) (im : List UInt8) (fr to : Int) (W : World) (ht : TbV W.heap p) (hv : Vw b8 W.heap ao c im) (hb : im.length ≤ 140737488355328) :
    Calls Try.prog 30 [.pointer (some ⟨p, 0, none⟩), .slice ao im.length c, .int .i64 fr, .int .i64 to].toArray W (Ret fun v w' => ∃ g, v = .pointer (some ⟨g, 0, none⟩) ∧ W.heap.size ≤ g ∧ MrO (fun k => W.heap.size ≤ k ∧ k < w'.heap.size) w'.heap g p im fr to ∧ Foot nob W w') := by
  refine (mopen_ok p ao c im fr to W ht hv hb).mono ?_
  rintro e w' ⟨v, rfl, g, rfl, h0, h1, h2⟩
  exact ⟨_, rfl, g, rfl, h0, h1.tight, h2⟩
theorem read_W0 {T : List UInt8} {o m : Nat} (h : o + m ≤ T.length) : readS (frW T (nF T)) 0 ((frW T (nF T)).length : Nat) (refT T o : Nat) (m : Nat) = ((T.drop o).take m, ((refT T (o + m) : Nat) : Int), 0) := by
  have := read_W T [] [] h
  rwa [imW_nil, toW_nil] at this
theorem read_past0 {T : List UInt8} {o m : Nat} (ho : o ≤ T.length) (h : T.length < o + m) : readS (frW T (nF T)) 0 ((frW T (nF T)).length : Nat) (refT T o : Nat) (m : Nat) = ([], 0, 2) := by
  have := read_past T [] [] ho h
  rwa [imW_nil, toW_nil] at this
def exM : List UInt8 := [97, 98, 99, 100, 101]
theorem ex_read1 : readS (frW exM (nF exM)) 0 ((frW exM (nF exM)).length : Nat) 1 3 = ([98, 99, 100], 4, 0) := read_W0 (T := exM) (o := 1) (m := 3) (by decide)
theorem ex_read2 : readS (frW exM (nF exM)) 0 ((frW exM (nF exM)).length : Nat) 4 2 = ([], 0, 2) := read_past0 (T := exM) (o := 4) (m := 2) (by decide) (by decide)
theorem exM_len : (frW exM (nF exM)).length ≤ 135 := frW_le exM 1

set_option maxHeartbeats 2000000 in
theorem shown05_ok (W : World) : Calls Try.prog 23 [].toArray W (Ret fun v w' => v = .bool true ∧ Foot nob W w') := by
  have hexl := exM_len
  refine calls_of_sc 68 [] Try.func23 rfl rfl rfl (enter_slots trivial) ?_
  refine Sc.seq ?_
  refine Sc.region ?_
  refine Sl.calm (Cm.assign rfl) rfl ?_
  refine Sl.nil ?_
  refine At.go ?_
  refine Sc.seq ?_
  refine Sc.region ?_
  refine Sl.call fn16 rfl (crcnew_ok W) rfl ?_
  rintro _ w1 ⟨rfl, hf1⟩
  refine Sl.allocC zc27 rfl ?_
  intro w2 hg2 hs2 hf2
  refine Sl.storeAll (vs := tab) aggTab rfl rfl tab_one hg2 (by rw [tab_len, List.length_replicate]) ?_
  intro w3 hg3 hs3 hf3
  obtain ⟨p, hp⟩ : ∃ p, p = w1.heap.size := ⟨_, rfl⟩
  have hF3 : Foot nob W w3 := (hf1.trans hf2).trans_to hf3 (fun k hk => .inr (by have h : k = w1.heap.size := hk; have := hf1.size; omega))
  rw [← hp] at hg3 ⊢
  have ht3 : TbV w3.heap p := hg3
  refine Sl.nil ?_
  refine At.weak [(0, _), (1, _)] ⟨rfl, rfl, trivial⟩ ?_
  refine At.go ?_
  refine Sc.seq ?_
  refine Sc.region ?_
  refine Sl.call fn25 rfl (mnewT_ok p w3 ht3) rfl ?_
  rintro _ w4 ⟨rfl, hM4, hf4⟩
  obtain ⟨g, hg⟩ : ∃ g, g = w3.heap.size := ⟨_, rfl⟩
  rw [← hg]
  rw [← hg] at hM4
  obtain ⟨A, hA⟩ : ∃ A : Nat → Prop, A = fun k => g ≤ k ∧ k < w4.heap.size := ⟨_, rfl⟩
  rw [← hA] at hM4
  have hAW : ∀ k, A k → w3.heap.size ≤ k := by rw [hA]; rintro k ⟨h, _⟩; omega
  refine Sl.calm (Cm.assign rfl) rfl ?_
  refine Sl.nil ?_
  refine At.weak [(0, _), (1, _), (2, _)] ⟨rfl, rfl, rfl, trivial⟩ ?_
  refine At.go ?_
  refine Sc.seq ?_
  refine Sc.seq ?_
  refine Sc.region ?_
  refine Sl.calm (Cm.move rfl) rfl ?_
  refine Sl.calm (Cm.eqlPtrNil ptr47 rfl rfl) rfl ?_
  refine Sl.nil ?_
  refine At.weak [(0, _), (1, _), (2, _), (16, _)] ⟨rfl, rfl, rfl, rfl, trivial⟩ ?_
  refine At.go ?_
  refine Sc.cond_f rfl ?_
  refine Sc.skip ?_
  refine At.go ?_
  refine Sc.seq ?_
  refine Sc.region ?_
  refine Sl.calm (Cm.move rfl) rfl ?_
  refine Sl.litG sl22 (cs := ([97, 98, 99].map b8).toArray) zc5 rfl rfl rfl (by kernel_rfl) rfl ?_
  intro w5 hg5 hs5 hf5
  have ho5 := own_new (e := 5) (enc := b8) (xs := [97, 98, 99]) hg5 (by decide)
  refine Sl.markB sl22 ty5 (xs := [97, 98, 99]) rfl hg5 ho5.vw rfl ?_
  intro w6 hv6 hs6 hf6
  have hf46 : Foot nob w4 w6 := hf5.trans_to hf6 (fun k hk => .inr (by have h : k = w4.heap.size := hk; omega))
  refine Sl.call fn26 rfl (maddT_ok A g p [] _ _ [97, 98, 99] w6 (hM4.grow hf46) hv6 (by decide)) rfl ?_
  rintro _ w7 ⟨rfl, hM7, hF7⟩
  have hF37 : Foot nob w3 w7 := (hf4.trans hf46).trans_to hF7 (fun k hk => .inr (hAW k hk))
  have hz7 := hF37.size
  have hz6 := (hf4.trans hf46).size
  refine Sl.calm (Cm.assign rfl) rfl ?_
  refine Sl.nil ?_
  refine At.weak [(0, _), (1, _), (2, _), (3, _), (16, _)] ⟨rfl, rfl, rfl, rfl, rfl, trivial⟩ ?_
  refine At.go ?_
  refine Sc.seq ?_
  refine Sc.region ?_
  refine Sl.calm (Cm.move rfl) rfl ?_
  refine Sl.lit2 (enc := b8) (u := (100 : UInt8)) (u' := (101 : UInt8)) sl22 b8_one rfl rfl rfl ?_
  intro w8 ho8 hs8 hf8
  obtain ⟨cur, hcur⟩ := ho8.obj
  refine Sl.markB sl22 ty5 (xs := [100, 101]) rfl hcur ho8.vw rfl ?_
  intro w9 hv9 hs9 hf9
  have hf79 : Foot nob w7 w9 := hf8.trans_to hf9 (fun k hk => .inr (by have h : k = w7.heap.size := hk; omega))
  refine Sl.call fn26 rfl (maddT_ok (Nx A w6 w7) g p [97, 98, 99] _ _ [100, 101] w9 (hM7.grow hf79) hv9 (by decide)) rfl ?_
  rintro _ w10 ⟨rfl, hM10, hF10⟩
  have hF310 : Foot nob w3 w10 := (hF37.trans hf79).trans_to hF10 (fun k hk => .inr (by rcases hk with h | h; exact hAW k h; omega))
  refine Sl.calm (Cm.assign rfl) rfl ?_
  refine Sl.nil ?_
  refine At.weak [(0, _), (1, _), (2, _), (3, _), (4, _), (16, _)] ⟨rfl, rfl, rfl, rfl, rfl, rfl, trivial⟩ ?_
  refine At.go ?_
  refine Sc.seq ?_
  refine Sc.region ?_
  refine Sl.calm (Cm.move rfl) rfl ?_
  refine Sl.call fn28 rfl (mdoneT_ok _ g p exM w10 hM10 (by decide)) rfl ?_
  rintro _ w11 ⟨o11, c11, rfl, ho11, hfr11, hf11⟩
  have hF311 := hF310.trans hf11
  refine Sl.calm (Cm.assign rfl) rfl ?_
  refine Sl.nil ?_
  refine At.weak [(0, _), (1, _), (2, _), (3, _), (4, _), (5, _), (16, _)] ⟨rfl, rfl, rfl, rfl, rfl, rfl, rfl, trivial⟩ ?_
  refine At.go ?_
  refine Sc.seq ?_
  refine Sc.region ?_
  refine Sl.calm (Cm.move rfl) rfl ?_
  refine Sl.calm (Cm.move rfl) rfl ?_
  refine Sl.calm (Cm.len sl22 rfl) rfl ?_
  refine Sl.call fn30 rfl (mopenA_ok p o11 c11 (frW exM (nF exM)) 0 ((frW exM (nF exM)).length : Nat) w11 (hF311.obj ht3 id) ho11.vw (by omega)) rfl ?_
  rintro _ w12 ⟨h, rfl, hh, hR12, hf12⟩
  have hz12 := hf12.size
  refine Sl.calm (Cm.assign rfl) rfl ?_
  refine Sl.nil ?_
  refine At.weak [(0, _), (1, _), (2, _), (3, _), (4, _), (5, _), (6, _), (16, _)] ⟨rfl, rfl, rfl, rfl, rfl, rfl, rfl, rfl, trivial⟩ ?_
  refine At.go ?_
  refine Sc.seq ?_
  refine Sc.seq ?_
  refine Sc.region ?_
  refine Sl.calm (Cm.move rfl) rfl ?_
  refine Sl.calm (Cm.eqlPtrNil ptr55 rfl rfl) rfl ?_
  refine Sl.nil ?_
  refine At.weak [(0, _), (1, _), (2, _), (3, _), (4, _), (5, _), (6, _), (16, _), (32, _)] ⟨rfl, rfl, rfl, rfl, rfl, rfl, rfl, rfl, rfl, trivial⟩ ?_
  refine At.go ?_
  refine Sc.cond_f rfl ?_
  refine Sc.skip ?_
  refine At.go ?_
  refine Sc.seq ?_
  refine Sc.region ?_
  refine Sl.calm (Cm.move rfl) rfl ?_
  refine Sl.call fn31 rfl (mreadA_ok _ h p (frW exM (nF exM)) 0 ((frW exM (nF exM)).length : Nat) 1 3 w12 hR12 (by omega) (by decide) (by decide)) rfl ?_
  rw [ex_read1]
  rintro _ w13 ⟨o13, c13, rfl, ho13, hfr13, hR13, hF13⟩
  refine Sl.calm (Cm.move rfl) rfl ?_
  refine Sl.calm (Cm.extract rfl rfl) rfl ?_
  refine Sl.calm (Cm.extract rfl rfl) rfl ?_
  refine Sl.calm (Cm.extract rfl rfl) rfl ?_
  refine Sl.calm (Cm.assign rfl) rfl ?_
  refine Sl.calm (Cm.assign rfl) rfl ?_
  refine Sl.calm (Cm.assign rfl) rfl ?_
  refine Sl.nil ?_
  refine At.weak [(0, _), (1, _), (2, _), (3, _), (4, _), (5, _), (6, _), (7, _), (8, _), (9, _), (16, _), (32, _)] ⟨rfl, rfl, rfl, rfl, rfl, rfl, rfl, rfl, rfl, rfl, rfl, rfl, trivial⟩ ?_
  refine At.go ?_
  refine Sc.seq ?_
  refine Sc.region ?_
  refine Sl.calm (Cm.move rfl) rfl ?_
  refine Sl.call fn31 rfl (mreadA_ok _ h p (frW exM (nF exM)) 0 ((frW exM (nF exM)).length : Nat) 4 2 w13 hR13 (by omega) (by decide) (by decide)) rfl ?_
  rw [ex_read2]
  rintro _ w14 ⟨o14, c14, rfl, ho14, hfr14, hR14, hF14⟩
  have ho13 := ho13.keep hF14 (fun a ha h => h.2 ⟨a, ha, rfl⟩)
  refine Sl.calm (Cm.move rfl) rfl ?_
  refine Sl.calm (Cm.extract rfl rfl) rfl ?_
  refine Sl.calm (Cm.extract rfl rfl) rfl ?_
  refine Sl.calm (Cm.extract rfl rfl) rfl ?_
  refine Sl.calm (Cm.assign rfl) rfl ?_
  refine Sl.calm (Cm.assign rfl) rfl ?_
  refine Sl.calm (Cm.assign rfl) rfl ?_
  refine Sl.nil ?_
  refine At.weak [(0, _), (1, _), (2, _), (3, _), (4, _), (5, _), (6, _), (7, _), (8, _), (9, _), (12, _), (16, _), (32, _)] ⟨rfl, rfl, rfl, rfl, rfl, rfl, rfl, rfl, rfl, rfl, rfl, rfl, rfl, trivial⟩ ?_
  refine At.go ?_
  refine Sc.seq ?_
  refine Sc.region ?_
  refine Sl.calm (Cm.move rfl) rfl ?_
  refine Sl.calm (Cm.yes (Cm.eql rfl rfl) rfl) rfl ?_
  refine Sl.calm (Cm.move rfl) rfl ?_
  refine Sl.want rfl rfl (Cm.move rfl) rfl ?_
  refine Sl.want rfl rfl (Cm.yes (Cm.eql rfl rfl) rfl) rfl ?_
  refine Sl.calm (Cm.pick_t rfl rfl) rfl ?_
  refine Sl.calm (Cm.move rfl) rfl ?_
  refine Sl.want rfl rfl (Cm.move rfl) rfl ?_
  refine Sl.want rfl rfl (Cm.strIn sl22 ty5 ty9 rfl ho13.vw) rfl ?_
  refine Sl.want rfl rfl (Cm.yes (Cm.eqlBs rfl rfl) rfl) rfl ?_
  refine Sl.calm (Cm.pick_t rfl rfl) rfl ?_
  refine Sl.calm (Cm.move rfl) rfl ?_
  refine Sl.want rfl rfl (Cm.move rfl) rfl ?_
  refine Sl.want rfl rfl (Cm.yes (Cm.eql rfl rfl) rfl) rfl ?_
  refine Sl.calm (Cm.pick_t rfl rfl) rfl ?_
  refine Sl.calm (Cm.move rfl) rfl ?_
  refine Sl.want rfl rfl (Cm.move rfl) rfl ?_
  refine Sl.want rfl rfl (Cm.yes (Cm.eql rfl rfl) rfl) rfl ?_
  refine Sl.calm (Cm.pick_t rfl rfl) rfl ?_
  refine Sl.calm (Cm.move rfl) rfl ?_
  refine Sl.want rfl rfl (Cm.move rfl) rfl ?_
  refine Sl.want rfl rfl (Cm.yes (Cm.eql rfl rfl) rfl) rfl ?_
  refine Sl.calm (Cm.pick_t rfl rfl) rfl ?_
  refine Sl.calm (Cm.assign rfl) rfl ?_
  refine Sl.nil ?_
  refine At.weak [(0, _), (1, _), (2, _), (3, _), (4, _), (5, _), (6, _), (7, _), (8, _), (9, _), (12, _), (16, _), (32, _)] ⟨rfl, rfl, rfl, rfl, rfl, rfl, rfl, rfl, rfl, rfl, rfl, rfl, rfl, trivial⟩ ?_
  refine At.go ?_
  refine Sc.ret ?_
  refine At.ret1 rfl rfl ?_
  exact ⟨_, rfl, rfl, ((hF3.trans hF311).trans hf12).trans_to ((hF13.mono (fun k h => show w11.heap.size ≤ k from h.1)).trans (hF14.mono (fun k h => by rcases h.1 with h | h; exact h.1; show w11.heap.size ≤ k; omega))) (fun k h => .inr (Nat.le_trans (hF3.trans hF311).size h))⟩
theorem RwO.zero {H : Array Obj} {g : Nat} (h : H[g]? = some (.cells #[.slice none 0 0, .slice none 0 0] 51 (0, 0))) : RwO (· = g) H g (cutW [] []).1 (cutW [] []).2 := by
  rw [cutW_small (show ([] : List UInt8).length < 128 by decide)]
  exact ⟨none, 0, none, 0, h, Own.nil, Own.nil, (fun ⟨a, ha, _⟩ => by cases ha), (fun ⟨a, ha, _⟩ => by cases ha), Ap.none_left, rfl, (fun k ⟨a, ha, _⟩ => by cases ha), (fun k ⟨a, ha, _⟩ => by cases ha)⟩

set_option maxHeartbeats 4000000 in
theorem metaWrites_ok (D0 : Nat → Prop) (ao : Option Addr) (cap : Nat) (hs : List Hd) (L : List (List UInt8)) (W : World) (hv : Vw hd W.heap ao cap hs) (hr : RowsV D0 W.heap hs L) (hD0 : ∀ k, D0 k → k < W.heap.size) :
    Calls Try.prog 9 [.slice ao hs.length cap].toArray W (Ret fun v w' => v = .bool true ∧ Foot nob W w') := by
  obtain ⟨M, hM⟩ : ∃ M, M = M40 L := ⟨_, rfl⟩
  have hMl : M.length = min 20 L.length := by rw [hM, M40_len]
  have hMs : ∀ b ∈ M, b.length ≤ 400 := by rw [hM]; exact M40_small L
  have hMf : ∀ i, (M.take i).flatten.length ≤ 8000 := by rw [hM]; exact M40_flat L
  refine calls_of_sc 70 [(0, _)] Try.func9 rfl rfl rfl (enter_slots ⟨rfl, trivial⟩) ?_
  refine Sc.seq ?_
  refine Sc.region ?_
  refine Sl.calm (Cm.assign rfl) rfl ?_
  refine Sl.nil ?_
  refine At.go ?_
  refine Sc.seq ?_
  refine Sc.region ?_
  refine Sl.call fn23 rfl (shown05_ok W) rfl ?_
  rintro _ w1 ⟨rfl, hf1⟩
  refine Sl.calm (Cm.assign rfl) rfl ?_
  refine Sl.nil ?_
  refine At.weak [(0, _), (2, _), (3, _)] ⟨rfl, rfl, rfl, trivial⟩ ?_
  refine At.go ?_
  refine Sc.seq ?_
  refine Sc.region ?_
  refine Sl.calm (Cm.move rfl) rfl ?_
  refine Sl.call fn24 rfl (rows_ok D0 ao cap hs L w1 (hv.grow hf1) (hr.keep hf1 (fun _ _ => id))) rfl ?_
  rintro _ w2 ⟨ro, rc, gs, rfl, hro2, hgs2, hrf2, hf2⟩
  rw [← hM] at hgs2
  have hgl := hgs2.1
  have hz1 := hf1.size
  have hz2 := hf2.size
  refine Sl.calm (Cm.assign rfl) rfl ?_
  refine Sl.nil ?_
  refine At.weak [(0, _), (2, _), (3, _)] ⟨rfl, rfl, rfl, trivial⟩ ?_
  refine At.go ?_
  refine Sc.seq ?_
  refine Sc.region ?_
  refine Sl.call fn16 rfl (crcnew_ok w2) rfl ?_
  rintro _ w3 ⟨rfl, hf3⟩
  refine Sl.allocC zc27 rfl ?_
  intro w4 hg4 hs4 hf4
  refine Sl.storeAll (vs := tab) aggTab rfl rfl tab_one hg4 (by rw [tab_len, List.length_replicate]) ?_
  intro w5 hg5 hs5 hf5
  obtain ⟨p, hp⟩ : ∃ p, p = w3.heap.size := ⟨_, rfl⟩
  have hF25 : Foot nob w2 w5 := (hf3.trans hf4).trans_to hf5 (fun k hk => .inr (by have h : k = w3.heap.size := hk; have := hf3.size; omega))
  rw [← hp] at hg5 ⊢
  have ht5 : TbV w5.heap p := hg5
  have hF5 := (hf1.trans hf2).trans hF25
  refine Sl.nil ?_
  refine At.weak [(0, _), (2, _), (3, _), (4, _)] ⟨rfl, rfl, rfl, rfl, trivial⟩ ?_
  refine At.go ?_
  refine Sc.seq ?_
  refine Sc.region ?_
  refine Sl.call fn25 rfl (mnewT_ok p w5 ht5) rfl ?_
  rintro _ w6 ⟨rfl, hM6, hf6⟩
  obtain ⟨g, hg⟩ : ∃ g, g = w5.heap.size := ⟨_, rfl⟩
  rw [← hg]
  rw [← hg] at hM6
  have hz6 := hf6.size
  refine Sl.calm (Cm.assign rfl) rfl ?_
  refine Sl.nil ?_
  refine At.weak [(0, _), (2, _), (3, _), (4, _), (5, _)] ⟨rfl, rfl, rfl, rfl, rfl, trivial⟩ ?_
  refine At.go ?_
  refine Sc.seq ?_
  refine Sc.region ?_
  refine Sl.calm (Cm.build (cs := #[.slice none 0 0, .slice none 0 0]) plc51 zc51 rfl (by kernel_rfl)) rfl ?_
  refine Sl.box rfl rfl ?_
  intro w7 hg7 hs7 hf7
  obtain ⟨h, hh⟩ : ∃ h, h = w6.heap.size := ⟨_, rfl⟩
  rw [← hh] at hg7 ⊢
  have hR7 := RwO.zero hg7
  have hM7 := hM6.grow hf7
  have hF57 := hf6.trans hf7
  refine Sl.calm (Cm.assign rfl) rfl ?_
  refine Sl.nil ?_
  refine At.weak [(0, _), (2, _), (3, _), (4, _), (5, _), (6, _)] ⟨rfl, rfl, rfl, rfl, rfl, rfl, trivial⟩ ?_
  refine At.go ?_
  refine Sc.seq ?_
  refine Sc.seq ?_
  refine Sc.region ?_
  refine Sl.calm (Cm.move rfl) rfl ?_
  refine Sl.calm (Cm.not rfl) rfl ?_
  refine Sl.calm (Cm.move rfl) rfl ?_
  refine Sl.want rfl rfl (Cm.move rfl) rfl ?_
  refine Sl.want rfl rfl (Cm.eqlPtrNil ptr47 rfl rfl) rfl ?_
  refine Sl.calm (Cm.pick_f rfl rfl) rfl ?_
  refine Sl.nil ?_
  refine At.weak [(0, _), (2, _), (3, _), (4, _), (5, _), (6, _), (22, _)] ⟨rfl, rfl, rfl, rfl, rfl, rfl, rfl, trivial⟩ ?_
  refine At.go ?_
  refine Sc.cond_f rfl ?_
  refine Sc.skip ?_
  refine At.go ?_
  refine Sc.seq ?_
  refine Sc.seq ?_
  refine Sc.region ?_
  refine Sl.calm (Cm.assign rfl) rfl ?_
  refine Sl.nil ?_
  refine At.go ?_
  refine Sc.block ?_
  refine Sc.loop (β := Nat × ((Nat → Prop) × (Nat → Prop))) (fun ⟨i, ⟨A, B⟩⟩ => [(0, .slice ro gs.length rc), (3, .bool true), (5, .pointer (some ⟨g, 0, none⟩)), (6, .pointer (some ⟨h, 0, none⟩)), (7, .int .i64 i)]) (fun ⟨i, ⟨A, B⟩⟩ w => i ≤ M.length ∧ MwO A w.heap g p (cutW [] (M.take i).flatten).1 (cutW [] (M.take i).flatten).2 ∧ RwO B w.heap h (cutW [] (M.take i).flatten).1 (cutW [] (M.take i).flatten).2 ∧ (∀ k, A k → w5.heap.size ≤ k ∧ k < w.heap.size) ∧ (∀ k, B k → w5.heap.size ≤ k ∧ k < w.heap.size) ∧ (∀ k, A k → ¬ B k) ∧ Foot nob w5 w) (fun ⟨i, ⟨A, B⟩⟩ => M.length - i) ⟨0, ⟨fun k => g ≤ k ∧ k < w6.heap.size, (· = h)⟩⟩ ⟨rfl, rfl, rfl, rfl, rfl, trivial⟩ ⟨Nat.zero_le _, by simpa using hM7, by simpa using hR7, (fun k hk => ⟨by omega, by have := hk.2; omega⟩), (fun k hk => ⟨by omega, by omega⟩), (fun k h1 h2 => by have := h1.2; omega), hF57⟩ ?_
  rintro ⟨i, ⟨A, B⟩⟩ w8 ⟨hi, hM8, hR8, hA, hB, hAB, hF8⟩
  refine Sc.seq ?_
  refine Sc.seq ?_
  refine Sc.region ?_
  refine Sl.calm (Cm.move rfl) rfl ?_
  refine Sl.calm (Cm.move rfl) rfl ?_
  refine Sl.calm (Cm.len sl44 rfl) rfl ?_
  refine Sl.fork (Cm.lss rfl rfl) rfl (fun h26 => ?_) (fun h26 => ?_)
  ·
    have hiM : i < M.length := by omega
    obtain ⟨x, hx, hxn, hxv, hxD⟩ := hgs2.at hiM
    have hxl := hMs (M.getD i []) (by rw [List.getD, List.getElem?_eq_getElem hiM]; exact List.getElem_mem _)
    have hhd : hd x = .slice x.a (M.getD i []).length x.c := by unfold hd; rw [hxn]
    have hcl0 := hro2.vw.get i x hx
    rw [hhd] at hcl0
    have hn8 := hMf i
    refine Sl.nil ?_
    refine At.weak [(0, _), (3, _), (5, _), (6, _), (7, _), (26, _)] ⟨rfl, rfl, rfl, rfl, rfl, rfl, trivial⟩ ?_
    refine At.go ?_
    refine Sc.cond_t rfl ?_
    refine Sc.skip ?_
    refine At.go ?_
    refine Sc.seq ?_
    refine Sc.block ?_
    refine Sc.seq ?_
    refine Sc.region ?_
    refine Sl.lit0 b8 sl22 rfl ?_
    intro w9 ho9 hs9 hf9
    refine Sl.calm (Cm.move rfl) rfl ?_
    refine Sl.calm (Cm.move rfl) rfl ?_
    refine Sl.calm (Cm.indexAddr1 sl44 rfl rfl (hro2.vw.non) (by omega)) rfl ?_
    refine Sl.calm (Cm.ld sca22 rfl (by rw [Int.toNat_natCast]; exact (cellH_keep (cellH_keep (cellH_keep hcl0 hF25 id) hF8 id) hf9 id))) rfl ?_
    refine Sl.append b8_one sl22 rfl rfl ho9 (((hxv.grow hF25).grow hF8).grow hf9) (by simp only [List.length_nil]; omega) (by simp only [List.length_nil]; unfold maxLen; omega) rfl ?_
    intro o10 c10 w10 ho10 hf10 hr10 hn10
    rw [List.nil_append] at ho10 ⊢
    have hF810 : Foot nob w8 w10 := hf9.trans_to hf10 (fr_at _).step
    have hfr10 : Fr w8.heap.size o10 := fr_next (fr_at _) hr10 hf9.size
    have hF10 := hF8.trans hF810
    have hz10 := hF810.size
    refine Sl.calm (Cm.assign rfl) rfl ?_
    refine Sl.nil ?_
    refine At.weak [(0, _), (3, _), (5, _), (6, _), (7, _), (8, _), (26, _)] ⟨rfl, rfl, rfl, rfl, rfl, rfl, rfl, trivial⟩ ?_
    refine At.go ?_
    refine Sc.seq ?_
    refine Sc.seq ?_
    refine Sc.draw 19 (fun H => cellH H (adr ro i) = some (.slice x.a (M.getD i []).length x.c)) [2, 8, 12, 15] [0, 1, 3, 4, 5, 6, 7, 2, 8, 9, 10, 11, 14, 12, 13, 15, 16, 17, 18] mixed (by kernel_rfl) (cellH_keep (cellH_keep hcl0 hF25 id) hF10 id) ?_
    refine Sx.calm rfl rfl (Cm.move rfl) rfl ?_
    refine Sx.calm rfl rfl (Cm.move rfl) rfl ?_
    refine Sx.calm rfl rfl (Cm.move rfl) rfl ?_
    refine Sx.calm rfl rfl (Cm.move rfl) rfl ?_
    refine Sx.calm rfl rfl (Cm.move rfl) rfl ?_
    refine Sx.calm rfl rfl (Cm.indexAddr1 sl44 rfl rfl (hro2.vw.non) (by omega)) rfl ?_
    refine Sx.calm rfl rfl (Cm.load sca22 rfl (fun H hH => by rw [Int.toNat_natCast]; exact hH)) rfl ?_
    refine Sx.eff rfl rfl (Sl.call fn26 rfl (maddT_ok A g p (M.take i).flatten o10 c10 (M.getD i []) _ ((hM8.grow hF810).grow (Foot.ofDraws 1)) ho10.vw (by omega)) rfl ?_)
    rintro _ w11 ⟨rfl, hM11, hF11⟩
    have hF11 := hF11.undraw
    refine Sx.on (by exact cellH_keep (cellH_keep (cellH_keep hcl0 hF25 id) hF10 id) hF11 (fun e => by have := hA _ e; have := cellH_lt hcl0; have := hF25.size; omega)) ?_
    have hz11 := hF11.size
    have hR11 := (hR8.grow hF810).keep hF11 (fun k h1 h2 => hAB k h2 h1)
    have hF711 : Foot nob w5 w11 := hF10.trans_to hF11 (fun k hk => .inr (hA k hk).1)
    have ho11 := ho10.keep hF11 (fun a ha e => by have := hfr10 a ha; have := (hA _ e).2; omega)
    refine Sx.eff rfl rfl (Sl.call fn27 rfl (rmaddT_ok B h (M.take i).flatten x.a x.c (M.getD i []) w11 hR11 ((hxv.grow hF25).grow hF711) (fun hne k hk e => by have h1 := hxD hne k hk; have := hD0 k h1; have := (hB k e).1; have := hF25.size; omega) (by omega)) rfl ?_)
    rintro _ w12 ⟨rfl, hR12, hF12⟩
    refine Sx.on (by exact cellH_keep (cellH_keep (cellH_keep (cellH_keep hcl0 hF25 id) hF10 id) hF11 (fun e => by have := hA _ e; have := cellH_lt hcl0; have := hF25.size; omega)) hF12 (fun e => by have := hB _ e; have := cellH_lt hcl0; have := hF25.size; omega)) ?_
    have hz12 := hF12.size
    have hM12 := hM11.keep hF12 (fun k h1 h2 => by rcases h1 with h1 | h1; exact hAB k h1 h2; have := (hB k h2).2; have : w10.heap.size ≤ k := h1.1; omega) (fun e => by have := (hB p e).1; omega)
    have ho12 := ho11.keep hF12 (fun a ha e => by have := hfr10 a ha; have := (hB _ e).2; omega)
    have hF712 : Foot nob w5 w12 := hF711.trans_to hF12 (fun k hk => .inr (hB k hk).1)
    rw [← flat_take hiM] at hM12 hR12
    have hn9 := hMf (i + 1)
    refine Sx.calm rfl rfl (Cm.no (Cm.neq rfl rfl) (fun h => h rfl)) rfl ?_
    refine Sx.calm rfl rfl (Cm.move rfl) rfl ?_
    refine Sx.want rfl rfl rfl rfl (Cm.move rfl) rfl ?_
    refine Sx.want rfl rfl rfl rfl (Cm.move rfl) rfl ?_
    refine Sx.eff rfl rfl (Sl.callWant rfl rfl fn28 rfl (mdoneT_ok _ g p (M.take (i + 1)).flatten w12 hM12 (by omega)) rfl ?_)
    rintro _ w13 ⟨o13, c13, rfl, ho13, hfr13, hf13⟩
    refine Sx.add (fun H => Vw b8 H o13 c13 (frW (M.take (i + 1)).flatten (nF (M.take (i + 1)).flatten))) (by exact cellH_keep (cellH_keep (cellH_keep (cellH_keep (cellH_keep hcl0 hF25 id) hF10 id) hF11 (fun e => by have := hA _ e; have := cellH_lt hcl0; have := hF25.size; omega)) hF12 (fun e => by have := hB _ e; have := cellH_lt hcl0; have := hF25.size; omega)) hf13 id) (by exact ho13.vw) ?_
    refine Sx.want rfl rfl rfl rfl (Cm.str sl22 ty5 ty9 rfl (fun H hH => hH.2)) rfl ?_
    refine Sx.eff rfl rfl (Sl.callWant rfl rfl fn29 rfl (rmdoneT_ok _ h (M.take (i + 1)).flatten w13 (hR12.grow hf13) (by omega)) rfl ?_)
    rintro _ w14 ⟨o14, c14, rfl, ho14, hfr14, hf14⟩
    refine Sx.add (fun H => Vw b8 H o14 c14 (frW (M.take (i + 1)).flatten (nF (M.take (i + 1)).flatten))) (by exact ⟨cellH_keep (cellH_keep (cellH_keep (cellH_keep (cellH_keep (cellH_keep hcl0 hF25 id) hF10 id) hF11 (fun e => by have := hA _ e; have := cellH_lt hcl0; have := hF25.size; omega)) hF12 (fun e => by have := hB _ e; have := cellH_lt hcl0; have := hF25.size; omega)) hf13 id) hf14 id, ho13.vw.grow hf14⟩) (by exact ho14.vw) ?_
    refine Sx.want rfl rfl rfl rfl (Cm.str sl22 ty5 ty9 rfl (fun H hH => hH.2)) rfl ?_
    refine Sx.want rfl rfl rfl rfl (Cm.no (Cm.neqBs rfl rfl) (fun h => h rfl)) rfl ?_
    refine Sx.calm rfl rfl (Cm.pick_f rfl rfl) rfl ?_
    refine Sx.nil ?_
    refine At.weak [(0, _), (3, _), (5, _), (6, _), (7, _), (8, _), (26, _), (53, _)] ⟨rfl, rfl, rfl, rfl, rfl, rfl, rfl, rfl, trivial⟩ ?_
    refine At.go ?_
    refine Sc.cond_f rfl ?_
    refine Sc.skip ?_
    refine At.go ?_
    refine Sc.seq ?_
    refine Sc.region ?_
    refine Sl.calm (Cm.assign rfl) rfl ?_
    refine Sl.nil ?_
    refine At.go ?_
    refine Sc.block ?_
    refine Sc.loop (β := Nat × List UInt8) (fun ⟨k, Y⟩ => [(0, .slice ro gs.length rc), (3, .bool true), (5, .pointer (some ⟨g, 0, none⟩)), (6, .pointer (some ⟨h, 0, none⟩)), (7, .int .i64 i), (8, .slice o10 Y.length c10), (9, .int .i64 k)]) (fun ⟨k, Y⟩ w => k ≤ Y.length ∧ Y.length = (M.getD i []).length ∧ Own b8 5 w.heap o10 c10 Y ∧ Foot (blk o10) w14 w) (fun ⟨k, Y⟩ => Y.length - k) ⟨0, M.getD i []⟩ ⟨rfl, rfl, rfl, rfl, rfl, rfl, rfl, trivial⟩ ⟨Nat.zero_le _, rfl, (ho12.grow hf13).grow hf14, Foot.refl _ _⟩ ?_
    rintro ⟨k, Y⟩ w15 ⟨hk, hYl, ho15, hF15⟩
    refine Sc.seq ?_
    refine Sc.seq ?_
    refine Sc.region ?_
    refine Sl.calm (Cm.move rfl) rfl ?_
    refine Sl.calm (Cm.move rfl) rfl ?_
    refine Sl.calm (Cm.len sl22 rfl) rfl ?_
    refine Sl.fork (Cm.lss rfl rfl) rfl (fun h57 => ?_) (fun h57 => ?_)
    ·
      refine Sl.nil ?_
      refine At.weak [(0, _), (3, _), (5, _), (6, _), (7, _), (8, _), (9, _), (57, _)] ⟨rfl, rfl, rfl, rfl, rfl, rfl, rfl, rfl, trivial⟩ ?_
      refine At.go ?_
      refine Sc.cond_t rfl ?_
      refine Sc.skip ?_
      refine At.go ?_
      refine Sc.seq ?_
      refine Sc.block ?_
      refine Sc.region ?_
      refine Sl.calm (Cm.move rfl) rfl ?_
      refine Sl.calm (Cm.move rfl) rfl ?_
      refine Sl.calm (Cm.indexAddr1 sl22 rfl rfl ho15.vw.non (by omega)) rfl ?_
      refine Sl.storeRow b8_one sca5 (z := (k : Int)) (u := (99 : UInt8)) rfl rfl ho15 (by omega) ?_
      intro w16 ho16 hs16 hf16
      refine Sl.nil ?_
      refine At.block_normal ?_
      refine At.weak [(0, _), (3, _), (5, _), (6, _), (7, _), (8, _), (9, _), (57, _)] ⟨rfl, rfl, rfl, rfl, rfl, rfl, rfl, rfl, trivial⟩ ?_
      refine At.go ?_
      refine Sc.region ?_
      refine Sl.calm (Cm.move rfl) rfl ?_
      refine Sl.calm (Cm.add64 rfl rfl (by omega)) rfl ?_
      refine Sl.calm (Cm.assign rfl) rfl ?_
      refine Sl.nil ?_
      exact At.again ⟨k + 1, Y.set k 99⟩ ⟨rfl, rfl, rfl, rfl, rfl, by show some (Value.slice o10 _ c10) = some _; rw [List.length_set], rfl, trivial⟩ ⟨by rw [List.length_set]; omega, by rw [List.length_set]; exact hYl, ho16, hF15.trans hf16⟩ (by show (Y.set k 99).length - (k + 1) < Y.length - k; rw [List.length_set]; omega)
    ·
      refine Sl.nil ?_
      refine At.weak [(0, _), (3, _), (5, _), (6, _), (7, _), (8, _), (9, _), (57, _)] ⟨rfl, rfl, rfl, rfl, rfl, rfl, rfl, rfl, trivial⟩ ?_
      refine At.go ?_
      refine Sc.cond_f rfl ?_
      refine Sc.exit ?_
      refine At.then_exit ?_
      refine At.then_exit ?_
      refine At.block_hit ?_
      refine At.block_normal ?_
      refine At.go ?_
      refine Sc.region ?_
      refine Sl.calm (Cm.move rfl) rfl ?_
      refine Sl.calm (Cm.add64 rfl rfl (by omega)) rfl ?_
      refine Sl.calm (Cm.assign rfl) rfl ?_
      refine Sl.nil ?_
      have hF1215 : Foot (blk o10) w12 w15 := (hf13.trans hf14).any.trans hF15
      have hz15 := hF1215.size
      have hz8 := hF8.size
      have hpl := (Array.getElem?_eq_some_iff.1 ht5).1
      have hl10 := ho10.lt
      have hM15 := hM12.keep hF1215 (fun k h1 ⟨a, ha, e⟩ => by have h2 := hfr10 a ha; have h3 := hl10 a ha; rcases h1 with h1 | h1; have := (hA k h1).2; omega; have h4 : w10.heap.size ≤ k := h1.1; omega) (fun ⟨a, ha, e⟩ => by have h2 := hfr10 a ha; omega)
      have hR15 := hR12.keep hF1215 (fun k h1 ⟨a, ha, e⟩ => by have h2 := hfr10 a ha; have h3 := hl10 a ha; rcases h1 with h1 | h1; have := (hB k h1).2; omega; have h4 := h1.1; omega)
      have hF515 : Foot nob w5 w15 := hF712.trans_to hF1215 (fun k ⟨a, ha, e⟩ => .inr (by have h2 := hfr10 a ha; omega))
      exact At.again ⟨i + 1, ⟨Nx A w10 w11, Nx B w11 w12⟩⟩ ⟨rfl, rfl, rfl, rfl, rfl, trivial⟩ ⟨by omega, hM15, hR15, (fun k h1 => by rcases h1 with h1 | h1; have := hA k h1; exact ⟨this.1, by omega⟩; have h4 : w10.heap.size ≤ k := h1.1; have h5 := h1.2; exact ⟨by omega, by omega⟩), (fun k h1 => by rcases h1 with h1 | h1; have := hB k h1; exact ⟨this.1, by omega⟩; have h4 := h1.1; have h5 := h1.2; exact ⟨by omega, by omega⟩), (fun k h1 h2 => by rcases h1 with h1 | h1 <;> rcases h2 with h2 | h2; exact hAB k h1 h2; have := (hA k h1).2; have := h2.1; omega; have := (hB k h2).2; have h4 : w10.heap.size ≤ k := h1.1; omega; have := h1.2; have := h2.1; omega), hF515⟩ (by show M.length - (i + 1) < M.length - i; omega)
  ·
    refine Sl.nil ?_
    refine At.weak [(0, _), (3, _), (5, _), (6, _), (7, _), (26, _)] ⟨rfl, rfl, rfl, rfl, rfl, rfl, trivial⟩ ?_
    refine At.go ?_
    refine Sc.cond_f rfl ?_
    refine Sc.exit ?_
    refine At.then_exit ?_
    refine At.then_exit ?_
    refine At.block_hit ?_
    refine At.go ?_
    refine Sc.seq ?_
    refine Sc.draw 8 (fun _ => True) [1, 4] [0, 3, 1, 2, 4, 5, 6, 7] mixed (by kernel_rfl) (trivial) ?_
    refine Sx.calm rfl rfl (Cm.move rfl) rfl ?_
    refine Sx.calm rfl rfl (Cm.move rfl) rfl ?_
    have hiM : i = M.length := by omega
    subst hiM
    rw [List.take_length] at hM8 hR8
    have hn7 := hMf M.length
    rw [List.take_length] at hn7
    refine Sx.eff rfl rfl (Sl.call fn28 rfl (mdoneT_ok _ g p M.flatten _ (hM8.grow (Foot.ofDraws 1)) (by omega)) rfl ?_)
    rintro _ w13 ⟨o13, c13, rfl, ho13, hfr13, hf13⟩
    have hf13 := hf13.undraw
    refine Sx.add (fun H => Vw b8 H o13 c13 (frW M.flatten (nF M.flatten))) (by exact trivial) (by exact ho13.vw) ?_
    refine Sx.calm rfl rfl (Cm.str sl22 ty5 ty9 rfl (fun H hH => hH.2)) rfl ?_
    refine Sx.eff rfl rfl (Sl.call fn29 rfl (rmdoneT_ok _ h M.flatten w13 (hR8.grow hf13) (by omega)) rfl ?_)
    rintro _ w14 ⟨o14, c14, rfl, ho14, hfr14, hf14⟩
    refine Sx.add (fun H => Vw b8 H o14 c14 (frW M.flatten (nF M.flatten))) (by exact ⟨trivial, ho13.vw.grow hf14⟩) (by exact ho14.vw) ?_
    refine Sx.calm rfl rfl (Cm.str sl22 ty5 ty9 rfl (fun H hH => hH.2)) rfl ?_
    refine Sx.calm rfl rfl (Cm.yes (Cm.eqlBs rfl rfl) rfl) rfl ?_
    refine Sx.calm rfl rfl (Cm.assign rfl) rfl ?_
    refine Sx.nil ?_
    refine At.weak [(0, _), (2, _), (3, _), (5, _), (6, _), (7, _), (26, _)] ⟨rfl, rfl, rfl, rfl, rfl, rfl, rfl, trivial⟩ ?_
    refine At.go ?_
    refine Sc.ret ?_
    refine At.ret1 rfl rfl ?_
    exact ⟨_, rfl, rfl, (hF5.trans hF8).trans (hf13.trans hf14)⟩
end Go.Proofs.Ytlpfahmkjgompaa
