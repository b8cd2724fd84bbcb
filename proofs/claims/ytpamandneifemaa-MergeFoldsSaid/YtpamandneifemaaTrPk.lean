/- tree: what is wrong with a tree, in plain Lean. No condition. -/
import Derived.Test.YtpamandneifemaaNdk
import Derived.Lib.Join
namespace Go.Proofs.Ytpamandneifemaa
open Go Go.RowKit
set_option linter.unusedVariables false

/-! names -/
def vErr (s : List UInt8) : Int := if 255 < s.length then 23 else if s = [] ∨ s = [46] ∨ s = [46, 46] ∨ (0 : UInt8) ∈ s ∨ (47 : UInt8) ∈ s then 22 else 0
theorem vErr_ok {s : List UInt8} (h : vErr s = 0) : s.length ≤ 255 ∧ s ≠ [] ∧ (0 : UInt8) ∉ s ∧ (47 : UInt8) ∉ s := by
  unfold vErr at h
  split at h
  · simp at h
  · split at h
    · simp at h
    · rename_i h1 h2
      simp only [not_or] at h2
      exact ⟨by omega, h2.1, h2.2.2.2.1, h2.2.2.2.2⟩
def nmErr : List (List UInt8) → Int
  | [] => 0
  | s :: r => if vErr s = 0 then nmErr r else vErr s
theorem nmErr_skip : ∀ {A B : List (List UInt8)}, (∀ s ∈ A, vErr s = 0) → nmErr (A ++ B) = nmErr B
  | [], B, _ => rfl
  | a :: A, B, h => by
    show (if vErr a = 0 then nmErr (A ++ B) else vErr a) = _
    rw [if_pos (h a (by simp)), nmErr_skip (fun s hs => h s (by simp [hs]))]
theorem nmErr_hit {A B : List (List UInt8)} {s : List UInt8} (h : ∀ s ∈ A, vErr s = 0) (hs : vErr s ≠ 0) : nmErr (A ++ s :: B) = vErr s := by
  rw [nmErr_skip h]; show (if vErr s = 0 then _ else _) = _; rw [if_neg hs]
theorem nmErr_zero {A : List (List UInt8)} (h : ∀ s ∈ A, vErr s = 0) : nmErr A = 0 := by
  have := nmErr_skip (B := []) h; rw [List.append_nil] at this; exact this
theorem nmErr_zero' {A : List (List UInt8)} (h : nmErr A = 0) : ∀ s ∈ A, vErr s = 0 := by
  induction A with
  | nil => simp
  | cons a A ih =>
    have h : (if vErr a = 0 then nmErr A else vErr a) = 0 := h
    by_cases ha : vErr a = 0
    · rw [if_pos ha] at h
      intro s hs
      rcases List.mem_cons.1 hs with rfl | hs
      · exact ha
      · exact ih h s hs
    · rw [if_neg ha] at h; exact absurd h ha
def allNm (l : List Nd) : List (List UInt8) := l.flatMap (·.names)
theorem nmErr_at {l : List Nd} {n : Nd} {i k : Nat} {s : List UInt8} (hn : l[i]? = some n) (hs : n.names[k]? = some s) (h1 : ∀ s ∈ allNm (l.take i), vErr s = 0) (h2 : ∀ s ∈ n.names.take k, vErr s = 0) (h3 : vErr s ≠ 0) : nmErr (allNm l) = vErr s := by
  have hi := (List.getElem?_eq_some_iff.1 hn).1
  have hk := (List.getElem?_eq_some_iff.1 hs).1
  have e1 : l = l.take i ++ n :: l.drop (i + 1) := by rw [← (List.getElem?_eq_some_iff.1 hn).2, List.getElem_cons_drop, List.take_append_drop]
  have e2 : n.names = n.names.take k ++ s :: n.names.drop (k + 1) := by rw [← (List.getElem?_eq_some_iff.1 hs).2, List.getElem_cons_drop, List.take_append_drop]
  have e3 : allNm l = (allNm (l.take i) ++ n.names.take k) ++ s :: (n.names.drop (k + 1) ++ allNm (l.drop (i + 1))) := by
    conv => lhs; rw [e1]
    simp only [allNm, List.flatMap_append, List.flatMap_cons]
    conv => lhs; rw [e2]
    simp
  rw [e3]
  exact nmErr_hit (fun s hs => (List.mem_append.1 hs).elim (h1 s) (h2 s)) h3
theorem tkL {α : Type} {l : List α} {i : Nat} {x : α} (h : l[i]? = some x) : l.take (i + 1) = l.take i ++ [x] := by
  rw [List.take_succ_eq_append_getElem (List.getElem?_eq_some_iff.1 h).1, (List.getElem?_eq_some_iff.1 h).2]
theorem allNm_snoc (l : List Nd) (n : Nd) : allNm (l ++ [n]) = allNm l ++ n.names := by simp [allNm]

/-! paths -/
def pathL (l : List (List UInt8)) : List UInt8 := 47 :: Lib.join l [47]
def okPath (l : List (List UInt8)) : Prop := ∀ s ∈ l, s ≠ [] ∧ (47 : UInt8) ∉ s
theorem tail_cons (x : List UInt8) (r : List (List UInt8)) : Lib.joinTail [47] (x :: r) = 47 :: (x ++ Lib.joinTail [47] r) := by simp [Lib.joinTail]
theorem pathL_cons (x : List UInt8) (r : List (List UInt8)) : pathL (x :: r) = Lib.joinTail [47] (x :: r) := by rw [pathL, Lib.join_cons, tail_cons]
theorem cut47 : ∀ {x y A B : List UInt8}, (47 : UInt8) ∉ x → (47 : UInt8) ∉ y → (A = [] ∨ ∃ A', A = 47 :: A') → (B = [] ∨ ∃ B', B = 47 :: B') → x ++ A = y ++ B → x = y ∧ A = B
  | [], [], A, B, _, _, _, _, h => ⟨rfl, h⟩
  | [], b :: y, A, B, _, h2, h3, _, h => by
    rcases h3 with rfl | ⟨A', rfl⟩
    · cases h
    · simp only [List.nil_append, List.cons_append, List.cons.injEq] at h
      exact absurd (by rw [h.1]; exact List.mem_cons_self) h2
  | a :: x, [], A, B, h1, _, _, h4, h => by
    rcases h4 with rfl | ⟨B', rfl⟩
    · cases h
    · simp only [List.nil_append, List.cons_append, List.cons.injEq] at h
      exact absurd (by rw [← h.1]; exact List.mem_cons_self) h1
  | a :: x, b :: y, A, B, h1, h2, h3, h4, h => by
    simp only [List.cons_append, List.cons.injEq] at h
    obtain ⟨e1, e2⟩ := cut47 (fun m => h1 (List.mem_cons_of_mem _ m)) (fun m => h2 (List.mem_cons_of_mem _ m)) h3 h4 h.2
    exact ⟨by rw [h.1, e1], e2⟩
theorem tail_head (r : List (List UInt8)) : Lib.joinTail [47] r = [] ∨ ∃ A', Lib.joinTail [47] r = 47 :: A' := by
  cases r with
  | nil => exact .inl rfl
  | cons x r => exact .inr ⟨_, tail_cons x r⟩
theorem tail_inj : ∀ {a b : List (List UInt8)}, okPath a → okPath b → Lib.joinTail [47] a = Lib.joinTail [47] b → a = b
  | [], [], _, _, _ => rfl
  | [], y :: b, _, _, h => by rw [tail_cons] at h; cases h
  | x :: a, [], _, _, h => by rw [tail_cons] at h; cases h
  | x :: a, y :: b, ha, hb, h => by
    rw [tail_cons, tail_cons, List.cons.injEq] at h
    obtain ⟨e1, e2⟩ := cut47 (ha x (by simp)).2 (hb y (by simp)).2 (tail_head a) (tail_head b) h.2
    rw [e1, tail_inj (fun s hs => ha s (by simp [hs])) (fun s hs => hb s (by simp [hs])) e2]
theorem pathL_inj {a b : List (List UInt8)} (ha : okPath a) (hb : okPath b) (h : pathL a = pathL b) : a = b := by
  match a, b with
  | [], [] => rfl
  | [], y :: b =>
    rw [pathL_cons, tail_cons, pathL, Lib.join_nil, List.cons.injEq] at h
    exact absurd (List.append_eq_nil_iff.1 h.2.symm).1 (hb y (by simp)).1
  | x :: a, [] =>
    rw [pathL_cons, tail_cons, pathL, Lib.join_nil, List.cons.injEq] at h
    exact absurd (List.append_eq_nil_iff.1 h.2).1 (ha x (by simp)).1
  | x :: a, y :: b =>
    rw [pathL_cons, pathL_cons] at h
    exact tail_inj ha hb h
theorem tail_len : ∀ {r : List (List UInt8)}, (∀ s ∈ r, s.length ≤ 255) → (Lib.joinTail [47] r).length ≤ 256 * r.length
  | [], _ => by simp [Lib.joinTail]
  | x :: r, h => by
    have ih := tail_len (fun s hs => h s (List.mem_cons_of_mem _ hs))
    have hx := h x (by simp)
    rw [tail_cons]
    simp only [List.length_cons, List.length_append]
    omega
theorem join_len {l : List (List UInt8)} (h : ∀ s ∈ l, s.length ≤ 255) : (Lib.join l [47]).length ≤ 256 * l.length := by
  cases l with
  | nil => simp [Lib.join_nil]
  | cons x r =>
    have ih := tail_len (fun s hs => h s (List.mem_cons_of_mem _ hs))
    have hx := h x (by simp)
    rw [Lib.join_cons]
    simp only [List.length_cons, List.length_append]
    omega

/-! a node -/
def okT (n : Nd) : Prop := if n.kind = 3 then n.tgt ≠ [] ∧ n.tgt.length ≤ 200 ∧ (0 : UInt8) ∉ n.tgt else n.tgt = []
instance (n : Nd) : Decidable (okT n) := by unfold okT; exact inferInstance
def mayN (n : Nd) : Prop := (1 ≤ n.kind ∧ n.kind ≤ 3) ∧ n.opq = false ∧ (0 ≤ n.md ∧ n.md ≤ 511) ∧ (0 ≤ n.ud ∧ n.ud ≤ 65535) ∧ (0 ≤ n.gd ∧ n.gd ≤ 65535) ∧ (n.kind = 2 ∨ n.data = []) ∧ n.data.length ≤ 4096 ∧ okT n ∧ mayX n.xs
instance (n : Nd) : Decidable (mayN n) := by unfold mayN; exact inferInstance
def Alk (a b : Nd) : Prop := a.kind = b.kind ∧ (a.md = b.md ∧ a.ud = b.ud ∧ a.gd = b.gd) ∧ a.tgt = b.tgt ∧ a.opq = b.opq ∧ a.data = b.data ∧ a.xs = b.xs
instance (a b : Nd) : Decidable (Alk a b) := by unfold Alk; exact inferInstance
theorem Alk.refl (a : Nd) : Alk a a := ⟨rfl, ⟨rfl, rfl, rfl⟩, rfl, rfl, rfl, rfl⟩
theorem Alk.symm {a b : Nd} (h : Alk a b) : Alk b a := ⟨h.1.symm, ⟨h.2.1.1.symm, h.2.1.2.1.symm, h.2.1.2.2.symm⟩, h.2.2.1.symm, h.2.2.2.1.symm, h.2.2.2.2.1.symm, h.2.2.2.2.2.symm⟩
theorem Alk.trans {a b c : Nd} (h : Alk a b) (g : Alk b c) : Alk a c :=
  ⟨h.1.trans g.1, ⟨h.2.1.1.trans g.2.1.1, h.2.1.2.1.trans g.2.1.2.1, h.2.1.2.2.trans g.2.1.2.2⟩, h.2.2.1.trans g.2.2.1, h.2.2.2.1.trans g.2.2.2.1, h.2.2.2.2.1.trans g.2.2.2.2.1, h.2.2.2.2.2.trans g.2.2.2.2.2⟩

/-! a tree -/
def twiceL (l : List Nd) : Prop := ¬ l.Pairwise fun a b => a.names ≠ b.names
def dirAt (l : List Nd) (s : List (List UInt8)) : Prop := ∃ n ∈ l, n.names = s ∧ n.kind = 1
def lnkR (b a : Nd) : Prop := a.ino = b.ino → a.kind ≠ 1 ∧ Alk a b
instance (b a : Nd) : Decidable (lnkR b a) := by unfold lnkR; exact inferInstance
instance (l : List Nd) : Decidable (twiceL l) := by unfold twiceL; exact inferInstance
instance (l : List Nd) (s : List (List UInt8)) : Decidable (dirAt l s) := by unfold dirAt; exact inferInstance
def chk (l : List Nd) : Int :=
  if 1024 < l.length then 3 else if nmErr (allNm l) ≠ 0 then nmErr (allNm l) else if ∃ n ∈ l, 16 < n.names.length then 9 else if twiceL l then 6
  else if ¬ dirAt l [] then 4 else if ∃ n ∈ l, n.names ≠ [] ∧ ¬ dirAt l n.names.dropLast then 5 else if ∃ n ∈ l, ¬ mayN n then 7 else if l.Pairwise lnkR then 0 else 8
end Go.Proofs.Ytpamandneifemaa
