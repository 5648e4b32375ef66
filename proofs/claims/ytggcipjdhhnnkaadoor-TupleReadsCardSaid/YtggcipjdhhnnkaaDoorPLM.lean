/- Lemmas of this claim's own proof; conditions: as each states. -/
import Derived.Lib.IndexLaws
import Derived.Lib.IndexBytes
import GoSem.Op.String
namespace Go.Proofs.YtggcipjdhhnnkaaDoor.PL
set_option linter.unusedVariables false
set_option linter.unusedSimpArgs false
/-- A part's bytes in a key. -/
def escL (l : List UInt8) : List UInt8 := l.flatMap fun c => if c = 0 then [0, 255] else [c]
/-- A key's bytes. -/
def putL (l : List (List UInt8)) : List UInt8 := l.flatMap fun p => escL p ++ [0, 0]

theorem escL_nil : escL [] = [] := rfl
theorem escL_cons (c : UInt8) (l : List UInt8) : escL (c :: l) = (if c = 0 then [0, 255] else [c]) ++ escL l := by simp [escL]
theorem escL_append (a b : List UInt8) : escL (a ++ b) = escL a ++ escL b := by simp [escL]
theorem escL_none : ∀ (l : List UInt8), (∀ c ∈ l, c ≠ 0) → escL l = l
  | [], _ => rfl
  | c :: l, h => by rw [escL_cons, escL_none l (fun x hx => h x (List.mem_cons_of_mem _ hx)), if_neg (h c List.mem_cons_self)]; rfl
theorem escL_le (l : List UInt8) : l.length ≤ (escL l).length := by
  induction l with
  | nil => simp [escL]
  | cons c l ih => rw [escL_cons, List.length_append]; split <;> simp <;> omega
theorem escL_length (l : List UInt8) : (escL l).length = l.length + l.count 0 := by
  induction l with
  | nil => simp [escL]
  | cons c l ih =>
    rw [escL_cons, List.length_append, ih]
    by_cases h : c = 0
    · rw [if_pos h, h]; simp; omega
    · rw [if_neg h, List.count_cons_of_ne (by simpa using h)]; simp; omega
theorem putL_nil : putL [] = [] := rfl
theorem putL_cons (p : List UInt8) (l : List (List UInt8)) : putL (p :: l) = escL p ++ [0, 0] ++ putL l := by simp [putL]
theorem putL_append (a b : List (List UInt8)) : putL (a ++ b) = putL a ++ putL b := by simp [putL]

/-- Of a text that has a 0: where the first one is. -/
theorem first_zero {l : List UInt8} (h : l.count 0 ≠ 0) : ∃ j : Nat, Go.Lib.indexByte l 0 = j ∧ j < l.length ∧ escL l = l.take j ++ [0, 255] ++ escL (l.drop (j + 1)) ∧ (l.drop (j + 1)).count 0 + 1 = l.count 0 := by
  have hge := Go.Lib.indexByte_ge l 0
  have hne : Go.Lib.indexByte l 0 ≠ -1 := fun he => h (List.count_eq_zero.2 (fun hm => by
    obtain ⟨k, hk, e⟩ := List.getElem_of_mem hm
    exact Go.Lib.indexByte_none he k (by rw [List.getElem?_eq_getElem hk, e])))
  obtain ⟨j, hj⟩ : ∃ j : Nat, Go.Lib.indexByte l 0 = j := ⟨(Go.Lib.indexByte l 0).toNat, by omega⟩
  obtain ⟨h0, hlt⟩ := Go.Lib.indexByte_some hj
  have hjl : j < l.length := by
    rcases Nat.lt_or_ge j l.length with h' | h'
    · exact h'
    · rw [List.getElem?_eq_none h'] at h0; cases h0
  have e0 : l[j] = 0 := by rw [List.getElem?_eq_getElem hjl] at h0; exact Option.some.inj h0
  have hsplit : l = l.take j ++ (0 :: l.drop (j + 1)) := by
    conv => lhs; rw [← List.take_append_drop j l]
    rw [List.drop_eq_getElem_cons hjl, e0]
  have hno : ∀ c ∈ l.take j, c ≠ 0 := by
    intro c hc e
    obtain ⟨k, hk, e2⟩ := List.getElem_of_mem hc
    rw [List.length_take] at hk
    refine hlt k (by omega) ?_
    rw [List.getElem?_eq_getElem (by omega)]
    rw [List.getElem_take] at e2
    rw [e2, e]
  refine ⟨j, hj, hjl, ?_, ?_⟩
  · conv => lhs; rw [hsplit]
    rw [escL_append, escL_none _ hno, escL_cons, if_pos rfl, List.append_assoc]
  · conv => rhs; rw [hsplit]
    rw [List.count_append, List.count_eq_zero.2 (fun hm => hno 0 hm rfl), List.count_cons_self]
    omega
theorem no_zero {l : List UInt8} (h : l.count 0 = 0) : escL l = l := escL_none l (fun c hc e => (List.count_eq_zero.1 h) (e ▸ hc))

/-- Below, byte by byte. -/
abbrev lt (a b : List UInt8) : Bool := Op.bytesLess a b
theorem lt_nil (a : List UInt8) : lt a [] = false := by cases a <;> rfl
theorem nil_lt (c : UInt8) (b : List UInt8) : lt [] (c :: b) = true := rfl
theorem cons_lt (c d : UInt8) (a b : List UInt8) : lt (c :: a) (d :: b) = (decide (c < d) || (c == d && lt a b)) := rfl
theorem lt_same (c : UInt8) (a b : List UInt8) : lt (c :: a) (c :: b) = lt a b := by
  rw [cons_lt]; have h : ¬ c < c := by rw [UInt8.lt_iff_toNat_lt]; omega
  simp [h]
theorem lt_less {c d : UInt8} (h : c < d) (a b : List UInt8) : lt (c :: a) (d :: b) = true := by rw [cons_lt]; simp [h]
theorem lt_more {c d : UInt8} (h : d < c) (a b : List UInt8) : lt (c :: a) (d :: b) = false := by
  rw [cons_lt]
  have h1 : ¬ c < d := by rw [UInt8.lt_iff_toNat_lt] at *; omega
  have h2 : c ≠ d := by rintro rfl; exact h1 h
  simp [h1, h2]
theorem byte_tri (c d : UInt8) : c < d ∨ c = d ∨ d < c := by
  rcases Nat.lt_trichotomy c.toNat d.toNat with h | h | h
  · exact .inl (UInt8.lt_iff_toNat_lt.2 h)
  · exact .inr (.inl (UInt8.toNat_inj.1 h))
  · exact .inr (.inr (UInt8.lt_iff_toNat_lt.2 h))
theorem lt_irrefl : ∀ a : List UInt8, lt a a = false
  | [] => rfl
  | c :: a => by rw [lt_same]; exact lt_irrefl a
theorem lt_append : ∀ (p a b : List UInt8), lt (p ++ a) (p ++ b) = lt a b
  | [], _, _ => rfl
  | c :: p, a, b => by rw [List.cons_append, List.cons_append, lt_same]; exact lt_append p a b
theorem lt_asymm : ∀ {a b : List UInt8}, lt a b = true → lt b a = false
  | [], [], h => by cases h
  | [], _ :: _, _ => lt_nil _
  | _ :: _, [], h => by rw [lt_nil] at h; cases h
  | c :: a, d :: b, h => by
    rcases byte_tri c d with hc | rfl | hc
    · exact lt_more hc _ _
    · rw [lt_same] at h ⊢; exact lt_asymm h
    · rw [lt_more hc] at h; cases h
theorem lt_total : ∀ {a b : List UInt8}, lt a b = false → lt b a = false → a = b
  | [], [], _, _ => rfl
  | [], _ :: _, h, _ => by cases h
  | _ :: _, [], _, h => by cases h
  | c :: a, d :: b, h, h2 => by
    rcases byte_tri c d with hc | rfl | hc
    · rw [lt_less hc] at h; cases h
    · rw [lt_same] at h h2; rw [lt_total h h2]
    · rw [lt_less hc] at h2; cases h2
theorem lt_trans : ∀ {a b c : List UInt8}, lt a b = true → lt b c = true → lt a c = true
  | _, [], _, h, _ => by rw [lt_nil] at h; cases h
  | _, _ :: _, [], _, h => by rw [lt_nil] at h; cases h
  | [], _ :: _, _ :: _, _, _ => rfl
  | x :: a, y :: b, z :: c, h, h2 => by
    rcases byte_tri x y with hc | rfl | hc
    · rcases byte_tri y z with hd | rfl | hd
      · refine lt_less ?_ _ _; rw [UInt8.lt_iff_toNat_lt] at *; omega
      · exact lt_less hc _ _
      · rw [lt_more hd] at h2; cases h2
    · rcases byte_tri x z with hd | rfl | hd
      · exact lt_less hd _ _
      · rw [lt_same] at *; exact lt_trans h h2
      · rw [lt_more hd] at h2; cases h2
    · rw [lt_more hc] at h; cases h

theorem zero_lt {d : UInt8} (h : d ≠ 0) : (0 : UInt8) < d := by
  rw [UInt8.lt_iff_toNat_lt]
  have : d.toNat ≠ 0 := fun e => h (UInt8.toNat_inj.1 e)
  show 0 < _; omega
/-- Parts come ahead of others. -/
def lessL : List (List UInt8) → List (List UInt8) → Bool
  | _, [] => false
  | [], _ :: _ => true
  | x :: a, y :: b => if x = y then lessL a b else lt x y
theorem esc_order : ∀ (x y r s : List UInt8), x ≠ y → lt (escL x ++ 0 :: 0 :: r) (escL y ++ 0 :: 0 :: s) = lt x y
  | [], [], _, _, h => absurd rfl h
  | [], d :: y, r, s, _ => by
    rw [escL_nil, escL_cons, nil_lt]
    by_cases hd : d = 0
    · rw [if_pos hd]; show lt (0 :: 0 :: r) (0 :: 255 :: _) = true; rw [lt_same]; exact lt_less (by decide) _ _
    · rw [if_neg hd]; exact lt_less (zero_lt hd) _ _
  | c :: x, [], r, s, _ => by
    rw [escL_nil, escL_cons, lt_nil]
    by_cases hc : c = 0
    · rw [if_pos hc]; show lt (0 :: 255 :: _) (0 :: 0 :: s) = false; rw [lt_same]; exact lt_more (by decide) _ _
    · rw [if_neg hc]; exact lt_more (zero_lt hc) _ _
  | c :: x, d :: y, r, s, h => by
    rw [escL_cons, escL_cons]
    by_cases hcd : c = d
    · subst hcd
      have hxy : x ≠ y := fun e => h (by rw [e])
      rw [List.append_assoc, List.append_assoc, lt_append, lt_same]
      exact esc_order x y r s hxy
    · by_cases hc : c = 0
      · subst hc
        have hd : d ≠ 0 := fun e => hcd e.symm
        rw [if_pos rfl, if_neg hd, lt_less (zero_lt hd)]; exact lt_less (zero_lt hd) _ _
      · by_cases hd : d = 0
        · subst hd; rw [if_neg hc, if_pos rfl, lt_more (zero_lt hc)]; exact lt_more (zero_lt hc) _ _
        · rw [if_neg hc, if_neg hd]
          show lt (c :: _) (d :: _) = _
          have hb : (c == d) = false := by simpa using hcd
          rw [cons_lt, cons_lt, hb]; rfl
theorem putL_ne (y : List UInt8) (b : List (List UInt8)) : ∃ c l, putL (y :: b) = c :: l := by
  rw [putL_cons]
  cases y with
  | nil => exact ⟨0, _, rfl⟩
  | cons d y => rw [escL_cons]; by_cases hd : d = 0 <;> simp [hd]
/-- ONE ORDER. -/
theorem put_order : ∀ (a b : List (List UInt8)), lt (putL a) (putL b) = lessL a b
  | a, [] => by rw [putL_nil, lt_nil]; cases a <;> rfl
  | [], y :: b => by obtain ⟨c, l, e⟩ := putL_ne y b; rw [e]; rfl
  | x :: a, y :: b => by
    rw [putL_cons, putL_cons]
    by_cases h : x = y
    · subst h
      rw [List.append_assoc, List.append_assoc, lt_append]
      show lt (0 :: 0 :: putL a) (0 :: 0 :: putL b) = _
      rw [lt_same, lt_same, put_order a b]; simp [lessL]
    · have e : ∀ z c, escL z ++ [0, 0] ++ putL c = escL z ++ 0 :: 0 :: putL c := fun z c => by simp
      rw [e, e, esc_order x y _ _ h]; simp [lessL, h]
theorem esc_inj : ∀ {x y r s : List UInt8}, escL x ++ 0 :: 0 :: r = escL y ++ 0 :: 0 :: s → x = y ∧ r = s
  | [], [], _, _, h => ⟨rfl, by simpa [escL_nil] using h⟩
  | [], d :: y, r, s, h => by
    rw [escL_nil, escL_cons] at h
    by_cases hd : d = 0
    · rw [if_pos hd] at h; simp at h
    · rw [if_neg hd] at h; simp at h; exact absurd h.1.symm hd
  | c :: x, [], r, s, h => by
    rw [escL_nil, escL_cons] at h
    by_cases hc : c = 0
    · rw [if_pos hc] at h; simp at h
    · rw [if_neg hc] at h; simp at h; exact absurd h.1 hc
  | c :: x, d :: y, r, s, h => by
    rw [escL_cons, escL_cons] at h
    by_cases hc : c = 0
    · by_cases hd : d = 0
      · rw [if_pos hc, if_pos hd] at h
        simp only [List.cons_append, List.nil_append, List.cons.injEq, true_and] at h
        obtain ⟨e1, e2⟩ := esc_inj h
        exact ⟨by rw [hc, hd, e1], e2⟩
      · rw [if_pos hc, if_neg hd] at h; simp at h; exact absurd h.1.symm hd
    · by_cases hd : d = 0
      · rw [if_neg hc, if_pos hd] at h; simp at h; exact absurd h.1 hc
      · rw [if_neg hc, if_neg hd] at h
        simp only [List.cons_append, List.nil_append, List.cons.injEq] at h
        obtain ⟨e1, e2⟩ := esc_inj h.2
        exact ⟨by rw [h.1, e1], e2⟩
/-- A key begins with another one just if its parts do. -/
theorem put_prefix : ∀ {a b : List (List UInt8)} {r : List UInt8}, putL a ++ r = putL b → ∃ c, b = a ++ c ∧ r = putL c
  | [], b, r, h => ⟨b, rfl, by simpa [putL_nil] using h⟩
  | x :: a, [], r, h => by obtain ⟨c, l, e⟩ := putL_ne x a; rw [e, putL_nil] at h; simp at h
  | x :: a, y :: b, r, h => by
    rw [putL_cons, putL_cons] at h
    have h2 : escL x ++ 0 :: 0 :: (putL a ++ r) = escL y ++ 0 :: 0 :: putL b := by simpa using h
    obtain ⟨e1, e2⟩ := esc_inj h2
    obtain ⟨c, e3, e4⟩ := put_prefix e2
    exact ⟨c, by rw [e1, e3]; rfl, e4⟩
theorem put_inj {a b : List (List UInt8)} (h : putL a = putL b) : a = b := by
  obtain ⟨c, e, e2⟩ := put_prefix (a := a) (b := b) (r := []) (by rw [List.append_nil, h])
  cases c with
  | nil => rw [e, List.append_nil]
  | cons y c => obtain ⟨d, l, e3⟩ := putL_ne y c; rw [e3] at e2; cases e2
theorem lessL_asymm {a b : List (List UInt8)} (h : lessL a b = true) : lessL b a = false := by rw [← put_order] at *; exact lt_asymm h
theorem lessL_total {a b : List (List UInt8)} (h : lessL a b = false) (h2 : lessL b a = false) : a = b := by rw [← put_order] at *; exact put_inj (lt_total h h2)
theorem lessL_irrefl (a : List (List UInt8)) : lessL a a = false := by rw [← put_order]; exact lt_irrefl _
theorem lessL_trans {a b c : List (List UInt8)} (h : lessL a b = true) (h2 : lessL b c = true) : lessL a c = true := by rw [← put_order] at *; exact lt_trans h h2

/-- What is not below n bytes 255 begins with them. -/
theorem full_order : ∀ (n : Nat) (t : List UInt8), lt t (List.replicate n 255) = !(List.replicate n (255 : UInt8)).isPrefixOf t
  | 0, t => by rw [List.replicate_zero, lt_nil]; rfl
  | n + 1, [] => rfl
  | n + 1, e :: t => by
    rw [List.replicate_succ]
    show _ = !((255 == e) && (List.replicate n (255 : UInt8)).isPrefixOf t)
    by_cases he : e = 255
    · subst he; rw [lt_same, full_order n t]; rfl
    · have h : e < 255 := by
        rw [UInt8.lt_iff_toNat_lt]; have := e.toNat_lt; have : e.toNat ≠ 255 := fun x => he (UInt8.toNat_inj.1 x)
        show _ < 255; omega
      rw [lt_less h]
      have : ((255 : UInt8) == e) = false := by simpa using fun x => he x.symm
      rw [this]; rfl
/-- What is from a text on, and below what is after it, begins with it; and no other. -/
theorem after_order (c c' : UInt8) (hc : c'.toNat = c.toNat + 1) (n : Nat) : ∀ (u t : List UInt8),
    (!lt t (u ++ c :: List.replicate n 255) && lt t (u ++ [c'])) = (u ++ c :: List.replicate n (255 : UInt8)).isPrefixOf t
  | [], [] => rfl
  | [], e :: t => by
    show (!lt (e :: t) (c :: List.replicate n 255) && lt (e :: t) [c']) = ((c == e) && (List.replicate n (255 : UInt8)).isPrefixOf t)
    have hcc : c < c' := by rw [UInt8.lt_iff_toNat_lt]; omega
    rcases byte_tri e c with h | rfl | h
    · have : (c == e) = false := by simpa using fun x => by subst x; rw [UInt8.lt_iff_toNat_lt] at h; omega
      rw [lt_less h, this]; rfl
    · rw [lt_same, lt_less hcc, full_order]; simp
    · have h1 : (c == e) = false := by simpa using fun x => by subst x; rw [UInt8.lt_iff_toNat_lt] at h; omega
      have h2 : lt (e :: t) [c'] = false := by
        rw [cons_lt, lt_nil, Bool.and_false, Bool.or_false]
        simp only [decide_eq_false_iff_not]; rw [UInt8.lt_iff_toNat_lt] at *; omega
      rw [h1, h2]; simp
  | d :: u, [] => rfl
  | d :: u, e :: t => by
    show (!lt (e :: t) (d :: (u ++ c :: List.replicate n 255)) && lt (e :: t) (d :: (u ++ [c']))) = ((d == e) && (u ++ c :: List.replicate n (255 : UInt8)).isPrefixOf t)
    rcases byte_tri e d with h | rfl | h
    · have : (d == e) = false := by simpa using fun x => by subst x; rw [UInt8.lt_iff_toNat_lt] at h; omega
      rw [lt_less h, this]; rfl
    · rw [lt_same, lt_same, after_order c c' hc n u t]; simp
    · have : (d == e) = false := by simpa using fun x => by subst x; rw [UInt8.lt_iff_toNat_lt] at h; omega
      rw [lt_more h (b := u ++ [c']), this]; simp
end Go.Proofs.YtggcipjdhhnnkaaDoor.PL
