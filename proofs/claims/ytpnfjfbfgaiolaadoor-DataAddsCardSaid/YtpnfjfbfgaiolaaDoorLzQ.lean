/- lz: the plain law: what is packed, unpacked; that what was packed is unpacked as it was; how long it is. No condition. -/
import Derived.Test.YtpnfjfbfgaiolaaDoorLzP
namespace Go.Proofs.YtpnfjfbfgaiolaaDoor
open Go Go.RowKit
set_option linter.unusedVariables false

/-! ### runs, packing -/
def rn (out l : List UInt8) : List UInt8 :=
  if h : l.length = 0 then out else rn (out ++ (UInt8.ofNat (min l.length 128 - 1) :: l.take (min l.length 128))) (l.drop (min l.length 128))
termination_by l.length
decreasing_by simp; omega
theorem rn_nil (out : List UInt8) : rn out [] = out := by rw [rn]; rfl
theorem rn_step {out l : List UInt8} (h : 0 < l.length) : rn out l = rn (out ++ (UInt8.ofNat (min l.length 128 - 1) :: l.take (min l.length 128))) (l.drop (min l.length 128)) := by
  rw [rn, dif_neg (by omega)]
def pk (b : List UInt8) (a : Nat) (run out : List UInt8) : List UInt8 :=
  if h : a < b.length then
    if hn : (mt b a).1 = 0 then pk b (a + 1) (run ++ [b.getD a 0]) out
    else pk b (a + (mt b a).1) [] (rn out run ++ [UInt8.ofNat ((mt b a).1 + 125), UInt8.ofNat ((mt b a).2 - 1)])
  else rn out run
termination_by b.length - a
def pkS (b : List UInt8) : List UInt8 := pk b 0 [] []
theorem pk_end {b : List UInt8} {a : Nat} (h : ¬ a < b.length) (run out : List UInt8) : pk b a run out = rn out run := by rw [pk, dif_neg h]
theorem pk_one {b : List UInt8} {a : Nat} (h : a < b.length) (hn : (mt b a).1 = 0) (run out : List UInt8) : pk b a run out = pk b (a + 1) (run ++ [b.getD a 0]) out := by rw [pk, dif_pos h, dif_pos hn]
theorem pk_copy {b : List UInt8} {a : Nat} (hn : (mt b a).1 ≠ 0) (run out : List UInt8) : pk b a run out = pk b (a + (mt b a).1) [] (rn out run ++ [UInt8.ofNat ((mt b a).1 + 125), UInt8.ofNat ((mt b a).2 - 1)]) := by
  rw [pk, dif_pos (mt_spec hn).1, dif_neg hn]

/-! ### unpacking -/
def cp (out : List UInt8) (back : Nat) : Nat → List UInt8
  | 0 => out
  | n + 1 => cp (out ++ [out.getD (out.length - back) 0]) back n
def up (most : Int) (b out : List UInt8) : List UInt8 × Int :=
  match b with
  | [] => (out, 0)
  | t :: r =>
    if t.toNat < 128 then
      if r.length < t.toNat + 1 then ([], 2)
      else if most - out.length < t.toNat + 1 then ([], 3)
      else up most (r.drop (t.toNat + 1)) (out ++ r.take (t.toNat + 1))
    else match r with
      | [] => ([], 2)
      | c :: r' => if out.length < c.toNat + 1 then ([], 2) else if most - out.length < (t.toNat : Int) - 125 then ([], 3) else up most r' (cp out (c.toNat + 1) (t.toNat - 125))
termination_by b.length
decreasing_by
  · simp; omega
  · simp; omega
def upS (b : List UInt8) (most : Int) : List UInt8 × Int := if most < 0 then ([], 1) else up most b []
theorem up_nil (most : Int) (out : List UInt8) : up most [] out = (out, 0) := by rw [up]
theorem up_run {most : Int} {t : UInt8} {r out : List UInt8} (h : t.toNat < 128) : up most (t :: r) out = if r.length < t.toNat + 1 then ([], 2) else if most - out.length < t.toNat + 1 then ([], 3) else up most (r.drop (t.toNat + 1)) (out ++ r.take (t.toNat + 1)) := by
  rw [up.eq_def]
  simp only
  rw [if_pos h]
theorem up_copy0 {most : Int} {t : UInt8} {out : List UInt8} (h : ¬ t.toNat < 128) : up most [t] out = ([], 2) := by rw [up, if_neg h]
theorem up_copy {most : Int} {t c : UInt8} {r out : List UInt8} (h : ¬ t.toNat < 128) : up most (t :: c :: r) out = if out.length < c.toNat + 1 then ([], 2) else if most - out.length < (t.toNat : Int) - 125 then ([], 3) else up most r (cp out (c.toNat + 1) (t.toNat - 125)) := by
  rw [up, if_neg h]
theorem cp_len (back : Nat) : ∀ (n : Nat) (out : List UInt8), (cp out back n).length = out.length + n
  | 0, out => rfl
  | n + 1, out => by unfold cp; rw [cp_len back n]; simp; omega
theorem cp_snoc (back : Nat) : ∀ (n : Nat) (out : List UInt8), cp out back (n + 1) = cp out back n ++ [(cp out back n).getD ((cp out back n).length - back) 0]
  | 0, out => rfl
  | n + 1, out => by
    have h := cp_snoc back n (out ++ [out.getD (out.length - back) 0])
    exact h
theorem cp_pre (back : Nat) (pre : List UInt8) : ∀ (n : Nat) (out : List UInt8), back ≤ out.length → 1 ≤ back → cp (pre ++ out) back n = pre ++ cp out back n
  | 0, out, _, _ => rfl
  | n + 1, out, h, h1 => by
    unfold cp
    have e : (pre ++ out).getD ((pre ++ out).length - back) 0 = out.getD (out.length - back) 0 := by
      rw [List.getD, List.getD, List.length_append, List.getElem?_append_right (by omega)]; congr 2; omega
    rw [e, List.append_assoc, cp_pre back pre n _ (by simp; omega) h1]
theorem cp_ext (back : Nat) : ∀ (n : Nat) (out : List UInt8), ∃ l, cp out back n = out ++ l
  | 0, out => ⟨[], by simp [cp]⟩
  | n + 1, out => by
    obtain ⟨l, hl⟩ := cp_ext back n (out ++ [out.getD (out.length - back) 0])
    exact ⟨_, by unfold cp; rw [hl, List.append_assoc]⟩
theorem cp_match {b : List UInt8} {a back : Nat} (h1 : 1 ≤ back) (hb : back ≤ a) : ∀ n, (∀ i, i < n → CL b a (a - back) i) → cp (b.take a) back n = b.take (a + n)
  | 0, _ => rfl
  | n + 1, h => by
    rw [cp_snoc, cp_match h1 hb n (fun i hi => h i (by omega))]
    obtain ⟨c1, c2, c3⟩ := h n (by omega)
    have e1 : (b.take (a + n)).length = a + n := by rw [List.length_take]; omega
    rw [e1, ← Nat.add_assoc, List.take_succ_eq_append_getElem (by omega)]
    congr 2
    have e2 : (b.take (a + n)).getD (a + n - back) 0 = b.getD (a + n - back) 0 := by rw [List.getD, List.getD, List.getElem?_take, if_pos (by omega)]
    rw [e2, show a + n - back = a - back + n by omega, ← c3]
    rw [List.getD, List.getElem?_eq_getElem c2]; rfl

/-! ### rows of tokens -/
/-- x are tokens that lead from o0 to o1, behind whatever; a part of them leads to a part, or is none -/
structure En (x o0 o1 : List UInt8) : Prop where
  pre : ∃ l, o1 = o0 ++ l
  yes : ∀ (p rest : List UInt8) (most : Int), (p.length : Int) + o1.length ≤ most → up most (x ++ rest) (p ++ o0) = up most rest (p ++ o1)
  big : ∀ (p rest : List UInt8) (most : Int), (p.length : Int) + o0.length ≤ most → most < (p.length : Int) + o1.length → up most (x ++ rest) (p ++ o0) = ([], 3)
  cut : ∀ (p : List UInt8) (most : Int) (n : Nat), (p.length : Int) + o1.length ≤ most → n < x.length → up most (x.take n) (p ++ o0) = ([], 2) ∨ ∃ o l, o1 = o ++ l ∧ up most (x.take n) (p ++ o0) = (p ++ o, 0)
theorem En.nil (o : List UInt8) : En [] o o := ⟨⟨[], by simp⟩, fun _ _ _ _ => rfl, fun _ _ _ h1 h2 => by omega, fun _ _ _ _ h => by simp at h⟩
theorem En.trans {x y a b c : List UInt8} (h : En x a b) (k : En y b c) : En (x ++ y) a c := by
  obtain ⟨l1, hl1⟩ := h.pre
  obtain ⟨l2, hl2⟩ := k.pre
  have e1 : b.length = a.length + l1.length := by rw [hl1]; simp
  have e2 : c.length = b.length + l2.length := by rw [hl2]; simp
  refine ⟨⟨l1 ++ l2, by rw [hl2, hl1]; simp⟩, fun p rest most hm => ?_, fun p rest most h1 h2 => ?_, fun p most n hm hn => ?_⟩
  · rw [List.append_assoc, h.yes p _ most (by omega), k.yes p rest most hm]
  · rw [List.append_assoc]
    by_cases hb : (p.length : Int) + b.length ≤ most
    · rw [h.yes p _ most hb, k.big p rest most hb h2]
    · exact h.big p _ most h1 (by omega)
  · rw [List.length_append] at hn
    by_cases hx : n < x.length
    · rw [List.take_append_of_le_length (by omega)]
      rcases h.cut p most n (by omega) hx with h1 | ⟨o, l, h1, h2⟩
      · exact .inl h1
      · exact .inr ⟨o, l ++ l2, by rw [hl2, h1]; simp, h2⟩
    · rw [List.take_append, List.take_of_length_le (by omega : x.length ≤ n), h.yes p _ most (by omega)]
      exact k.cut p most _ hm (by omega)
theorem En.run {l : List UInt8} (o : List UInt8) (h0 : 0 < l.length) (h1 : l.length ≤ 128) : En (UInt8.ofNat (l.length - 1) :: l) o (o ++ l) := by
  have ht : (UInt8.ofNat (l.length - 1)).toNat = l.length - 1 := by rw [UInt8.toNat_ofNat']; omega
  have ht2 : l.length - 1 + 1 = l.length := by omega
  refine ⟨⟨l, rfl⟩, fun p rest most hm => ?_, fun p rest most h1 h2 => ?_, fun p most n hm hn => ?_⟩
  · rw [List.length_append] at hm
    rw [List.cons_append, up_run (by omega), ht, ht2, if_neg (by simp), if_neg (by simp; omega), List.drop_left' rfl, List.take_left' rfl, List.append_assoc]
  · rw [List.length_append] at h2
    rw [List.cons_append, up_run (by omega), ht, ht2, if_neg (by simp), if_pos (by simp; omega)]
  · cases n with
    | zero => exact .inr ⟨o, l, rfl, by rw [List.take_zero, up_nil]⟩
    | succ n =>
      rw [List.length_cons] at hn
      left
      rw [List.take_succ_cons, up_run (by omega), ht, ht2, if_pos (by rw [List.length_take]; omega)]
theorem En.copy {o : List UInt8} {n back : Nat} (h3 : 3 ≤ n) (hn : n ≤ 130) (h1 : 1 ≤ back) (h2 : back ≤ 256) (hb : back ≤ o.length) : En [UInt8.ofNat (n + 125), UInt8.ofNat (back - 1)] o (cp o back n) := by
  have ht : (UInt8.ofNat (n + 125)).toNat = n + 125 := by rw [UInt8.toNat_ofNat']; omega
  have hc : (UInt8.ofNat (back - 1)).toNat = back - 1 := by rw [UInt8.toNat_ofNat']; omega
  have hc2 : back - 1 + 1 = back := by omega
  have hl := cp_len back n o
  obtain ⟨l, he⟩ := cp_ext back n o
  refine ⟨⟨l, he⟩, fun p rest most hm => ?_, fun p rest most h1 h2 => ?_, fun p most k hm hk => ?_⟩
  · rw [List.cons_append, List.cons_append, List.nil_append, up_copy (by omega), ht, hc, hc2, if_neg (by simp; omega), if_neg (by simp; omega), show n + 125 - 125 = n by omega, cp_pre _ _ _ _ hb h1]
  · rw [List.cons_append, List.cons_append, List.nil_append, up_copy (by omega), ht, hc, hc2, if_neg (by simp; omega), if_pos (by simp; omega)]
  · match k, hk with
    | 0, _ => exact .inr ⟨o, l, he, by rw [List.take_zero, up_nil]⟩
    | 1, _ => exact .inl (by show up most [UInt8.ofNat (n + 125)] _ = _; rw [up_copy0 (by omega)])
theorem En.rn : ∀ (k : Nat) (l out o0 o : List UInt8), l.length = k → En out o0 o → En (rn out l) o0 (o ++ l) := by
  intro k
  induction k using Nat.strongRecOn with
  | ind k ih =>
    intro l out o0 o hk h
    by_cases h0 : l.length = 0
    · have : l = [] := List.eq_nil_of_length_eq_zero h0
      subst this
      rw [rn_nil, List.append_nil]; exact h
    · rw [rn_step (by omega)]
      have hm : (l.take (min l.length 128)).length = min l.length 128 := by rw [List.length_take]; omega
      have ht := En.run (l := l.take (min l.length 128)) o (by omega) (by omega)
      rw [hm] at ht
      have := ih _ (by omega) (l.drop (min l.length 128)) _ o0 _ (List.length_drop ..) (h.trans ht)
      rwa [List.append_assoc, List.take_append_drop] at this
theorem En.pk (b : List UInt8) : ∀ (k a : Nat) (run out o : List UInt8), b.length - a = k → a ≤ b.length → En out [] o → o ++ run = b.take a → En (pk b a run out) [] b := by
  intro k
  induction k using Nat.strongRecOn with
  | ind k ih =>
    intro a run out o hk ha h ho
    by_cases hlt : a < b.length
    · by_cases hn : (mt b a).1 = 0
      · rw [pk_one hlt hn]
        refine ih (b.length - (a + 1)) (by omega) (a + 1) _ out o rfl (by omega) h ?_
        rw [← List.append_assoc, ho, List.take_succ_eq_append_getElem hlt, List.getD, List.getElem?_eq_getElem hlt]; rfl
      · rw [pk_copy hn]
        obtain ⟨m1, m2, m3, m4, m5, m6, m7, m8, m9⟩ := mt_spec hn
        have hr := En.rn run.length run out [] o rfl h
        rw [ho] at hr
        have hl : (b.take a).length = a := by rw [List.length_take]; omega
        have hc := En.copy (o := b.take a) m2 m3 m5 m6 (by omega)
        rw [cp_match m5 m7 _ (fun i hi => (lik_spec b a _).1 i (by rw [m8]; exact hi))] at hc
        exact ih _ (by omega) _ [] _ _ rfl m4 (hr.trans hc) (by simp)
    · rw [pk_end hlt]
      have hr := En.rn run.length run out [] o rfl h
      rw [ho, List.take_of_length_le (by omega)] at hr
      exact hr
theorem En.pkS (b : List UInt8) : En (pkS b) [] b := En.pk b _ 0 [] [] [] rfl (Nat.zero_le _) (En.nil _) (by simp)

theorem unpack_pack (b : List UInt8) : upS (pkS b) b.length = (b, 0) := by
  have h := (En.pkS b).yes [] [] b.length (by simp)
  unfold upS
  rw [if_neg (by omega)]
  simpa [up_nil] using h
theorem unpack_less (b : List UInt8) : upS (pkS b) ((b.length : Int) - 1) = ([], if b.length = 0 then 1 else 3) := by
  unfold upS
  by_cases h0 : b.length = 0
  · rw [if_pos (by omega), if_pos h0]
  · rw [if_neg (by omega), if_neg h0]
    have h := (En.pkS b).big [] [] ((b.length : Int) - 1) (by simp; omega) (by simp; omega)
    simpa using h
theorem unpack_two (a b : List UInt8) : upS (pkS a ++ pkS b) ((a.length : Int) + b.length) = (a ++ b, 0) := by
  unfold upS
  rw [if_neg (by omega)]
  have h1 := (En.pkS a).yes [] (pkS b) ((a.length : Int) + b.length) (by simp; omega)
  have h2 := (En.pkS b).yes a [] ((a.length : Int) + b.length) (by omega)
  simp only [List.nil_append, List.append_nil, up_nil] at h1 h2
  rw [h1, h2]
theorem unpack_cut (a : List UInt8) {n : Nat} (h : n < (pkS a).length) : upS ((pkS a).take n) a.length = ([], 2) ∨ ∃ o l, a = o ++ l ∧ upS ((pkS a).take n) a.length = (o, 0) := by
  unfold upS
  rw [if_neg (by omega)]
  simpa using (En.pkS a).cut [] a.length n (by simp) h

/-! ### how long it is -/
theorem rn_len : ∀ (k : Nat) (l out : List UInt8), l.length = k → (rn out l).length = out.length + l.length + (l.length + 127) / 128 := by
  intro k
  induction k using Nat.strongRecOn with
  | ind k ih =>
    intro l out hk
    by_cases h0 : l.length = 0
    · have : l = [] := List.eq_nil_of_length_eq_zero h0
      subst this
      rw [rn_nil]; simp
    · rw [rn_step (by omega), ih _ (by omega) _ _ (List.length_drop ..)]
      simp only [List.length_append, List.length_cons, List.length_take, List.length_drop]
      omega
theorem pk_len (b : List UInt8) : ∀ (k a : Nat) (run out : List UInt8), b.length - a = k → a ≤ b.length → run.length ≤ a → out.length ≤ (a - run.length) + (a - run.length) / 128 → (pk b a run out).length ≤ b.length + (b.length + 127) / 128 := by
  intro k
  induction k using Nat.strongRecOn with
  | ind k ih =>
    intro a run out hk ha hr ho
    by_cases hlt : a < b.length
    · by_cases hn : (mt b a).1 = 0
      · rw [pk_one hlt hn]
        refine ih (b.length - (a + 1)) (by omega) (a + 1) _ out rfl (by omega) (by simp; omega) ?_
        rw [List.length_append, List.length_singleton, show a + 1 - (run.length + 1) = a - run.length by omega]; exact ho
      · rw [pk_copy hn]
        obtain ⟨m1, m2, m3, m4, m5, m6, m7, m8, m9⟩ := mt_spec hn
        refine ih _ (by omega) _ [] _ rfl m4 (by simp) ?_
        rw [List.length_append, rn_len _ _ _ rfl]
        simp only [List.length_cons, List.length_nil, Nat.sub_zero]
        omega
    · rw [pk_end hlt, rn_len _ _ _ rfl]
      omega
theorem pkS_len (b : List UInt8) : (pkS b).length ≤ b.length + (b.length + 127) / 128 := pk_len b _ 0 [] [] rfl (Nat.zero_le _) (by simp) (by simp)

/-! bytes that are all the same -/
theorem same_get {c : UInt8} {k i : Nat} (h : i < k) : (List.replicate k c).getD i 0 = c := by rw [List.getD, List.getElem?_replicate, if_pos h]; rfl
theorem same_lik {c : UInt8} {k a o : Nat} (ho : o < a) (ha : a ≤ k) : lik (List.replicate k c) a o = min 130 (k - a) := by
  refine (lik_eq (fun i hi => ⟨by omega, by simp; omega, by rw [same_get (by omega), same_get (by omega)]⟩) (fun h => ?_)).symm
  have h1 := h.1
  have h2 := h.2.1
  simp at h2
  omega
theorem same_bst {c : UInt8} {k a : Nat} (ha : a < k) : ∀ j, 1 ≤ j → j ≤ a → bst (List.replicate k c) a j = (min 130 (k - a), 1)
  | 0, h, _ => by omega
  | j + 1, _, hj => by
    rw [bst_succ _ hj]
    by_cases h0 : j = 0
    · subst h0
      unfold stp
      rw [same_lik (by omega) (by omega)]
      show (if (0 : Nat) < _ then _ else _) = _
      rw [if_pos (by omega), show a - (a - (0 + 1)) = 1 by omega]
    · rw [same_bst ha j (by omega) (by omega)]
      unfold stp
      rw [same_lik (by omega) (by omega), if_neg (by simp only; omega)]
theorem same_mt {c : UInt8} {k a : Nat} (h1 : 1 ≤ a) (ha : a + 3 ≤ k) : mt (List.replicate k c) a = (min 130 (k - a), 1) := by
  unfold mt thr
  rw [if_pos (by simp; omega), same_bst (by omega) _ (by omega) (by omega), if_neg (by simp only; omega)]
theorem same_tail {c : UInt8} {k : Nat} : ∀ (m a : Nat) (run out : List UInt8), k - a = m → m < 3 → a ≤ k → run.length ≤ 1 → (pk (List.replicate k c) a run out).length ≤ out.length + (if m + run.length = 0 then 0 else m + run.length + 1)
  | 0, a, run, out, h, _, ha, hr => by
    rw [pk_end (by simp; omega), rn_len _ _ _ rfl]
    split <;> omega
  | 1, a, run, out, h, _, ha, hr => by
    rw [pk_one (by simp; omega) (by rw [mt_short (by simp; omega)]), pk_end (by simp; omega), rn_len _ _ _ rfl]
    simp only [List.length_append, List.length_cons, List.length_nil]
    split <;> omega
  | 2, a, run, out, h, _, ha, hr => by
    rw [pk_one (by simp; omega) (by rw [mt_short (by simp; omega)]), pk_one (by simp; omega) (by rw [mt_short (by simp; omega)]), pk_end (by simp; omega), rn_len _ _ _ rfl]
    simp only [List.length_append, List.length_cons, List.length_nil]
    split <;> omega
  | m + 3, _, _, _, _, h, _, _ => by omega
theorem same_len {c : UInt8} {k : Nat} : ∀ (m a : Nat) (out : List UInt8), k - a = m → 1 ≤ a → a ≤ k → (pk (List.replicate k c) a [] out).length ≤ out.length + 2 * (m / 130) + (if m % 130 = 0 then 0 else 3) := by
  intro m
  induction m using Nat.strongRecOn with
  | ind m ih =>
    intro a out hm h1 ha
    by_cases h3 : 3 ≤ m
    · have e := same_mt (c := c) h1 (show a + 3 ≤ k by omega)
      rw [pk_copy (by rw [e]; simp only; omega), e, rn_nil]
      simp only
      have := ih (k - (a + min 130 (k - a))) (by omega) (a + min 130 (k - a)) (out ++ [UInt8.ofNat (min 130 (k - a) + 125), UInt8.ofNat (1 - 1)]) rfl (by omega) (by omega)
      rw [List.length_append] at this
      simp only [List.length_cons, List.length_nil] at this
      refine Nat.le_trans this ?_
      by_cases hb : 130 ≤ m
      · rw [show k - (a + min 130 (k - a)) = m - 130 by omega, show (m - 130) % 130 = m % 130 by omega]; omega
      · rw [show k - (a + min 130 (k - a)) = 0 by omega, if_neg (show ¬ m % 130 = 0 by omega)]; simp; omega
    · have := same_tail (c := c) m a [] out hm (by omega) ha (by simp)
      refine Nat.le_trans this ?_
      by_cases h0 : m = 0
      · subst h0; simp
      · rw [if_neg (by simp; omega), if_neg (by omega)]; simp; omega
theorem same_short (c : UInt8) (k : Nat) : (pkS (List.replicate k c)).length ≤ 6 + 2 * (k / 130) + 2 := by
  by_cases h0 : k = 0
  · subst h0; unfold pkS; rw [pk_end (by simp), rn_nil]; simp
  · unfold pkS
    have e0 : (mt (List.replicate k c) 0).1 = 0 := by
      apply Classical.byContradiction
      intro h
      have := mt_spec h
      omega
    rw [pk_one (by simp; omega) e0]
    by_cases h3 : 3 ≤ k - 1
    · have e := same_mt (c := c) (a := 1) (Nat.le_refl _) (show 1 + 3 ≤ k by omega)
      rw [show 0 + 1 = 1 from rfl, pk_copy (by rw [e]; simp only; omega), e]
      simp only
      have := same_len (c := c) (k := k) _ (1 + min 130 (k - 1)) (rn [] ([] ++ [(List.replicate k c).getD 0 0]) ++ [UInt8.ofNat (min 130 (k - 1) + 125), UInt8.ofNat (1 - 1)]) rfl (by omega) (by omega)
      refine Nat.le_trans this ?_
      rw [List.length_append, rn_len _ _ _ rfl]
      simp only [List.length_append, List.length_cons, List.length_nil]
      split <;> omega
    · have := same_tail (c := c) (k := k) (k - 1) 1 ([] ++ [(List.replicate k c).getD 0 0]) [] rfl (by omega) (by omega) (by simp)
      refine Nat.le_trans this ?_
      simp only [List.length_append, List.length_cons, List.length_nil]
      split <;> omega
end Go.Proofs.YtpnfjfbfgaiolaaDoor
