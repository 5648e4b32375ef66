/- Checks, texts and their parts, as plain functions; conditions: as each states. -/
import Derived.Test.YtggcipjdhhnnkaaDoorTG0
import Derived.Test.YtggcipjdhhnnkaaDoorPMa
import Derived.Test.YtggcipjdhhnnkaaDoorP11
namespace Go.Proofs.YtggcipjdhhnnkaaDoor.K
set_option linter.unusedVariables false
set_option linter.unusedSimpArgs false
open Go.RowKit Go.Proofs.YtggcipjdhhnnkaaDoorW.PrintWords Go.Proofs.YtggcipjdhhnnkaaDoorW.PrintLast Go.Proofs.YtggcipjdhhnnkaaDoorW.PrintMore
open Go.Proofs.YtggcipjdhhnnkaaDoor.PL

def nameP (s : ByteArray) : Bool := madeB nameC 12 s
def idP (s : ByteArray) : Bool := madeB idC 16 s
def userP (a b c : ByteArray) : Bool := nameP a && idP b && (decide (c.toList = []) || nameP c)
def chkP (a b c d e f : ByteArray) : Bool := nameP a && idP b && nameP c && userP d e f
theorem tname (s : ByteArray) : tuple_Name.f s = some (nameP s) := rfl
theorem tid (s : ByteArray) : tuple_ID.f s = some (idP s) := rfl
theorem tuser (a b c : ByteArray) : tuple_user.f a b c = some (userP a b c) := by
  unfold tuple_user.f userP
  rw [tname, tid, tname]
  cases nameP a <;> cases idP b <;> by_cases h : c.toList = [] <;> simp [h]
theorem tcheck (a b c d e f : ByteArray) : tuple_Check.f a b c d e f = some (if chkP a b c d e f = true then 0 else 111) := by
  unfold tuple_Check.f chkP
  rw [tname, tid, tname, tuser]
  cases nameP a <;> cases idP b <;> cases nameP c <;> cases userP d e f <;> simp
/-! letters -/
def Clean (l : List UInt8) : Prop := ∀ b ∈ l, b ≠ 58 ∧ b ≠ 35 ∧ b ≠ 64 ∧ b ≠ 0
theorem made_parts {is : Nat → Int → Bool} {m : Nat} {s : ByteArray} (h : madeB is m s = true) : (∀ j, j < s.size → is j (bt s j) = true) ∧ 1 ≤ s.size ∧ s.size ≤ m := by
  unfold madeB at h
  simp only [Bool.and_eq_true, decide_eq_true_eq, List.all_eq_true, List.mem_range] at h
  exact ⟨h.1.1, h.1.2, h.2⟩
theorem clean_of {s : ByteArray} (h : ∀ j, j < s.size → bt s j ≠ 58 ∧ bt s j ≠ 35 ∧ bt s j ≠ 64 ∧ bt s j ≠ 0) : Clean s.data.toList := by
  intro b hb
  obtain ⟨j, hj, rfl⟩ := List.getElem_of_mem hb
  have hj2 : j < s.size := by simpa using hj
  have := h j hj2
  rw [btn_at s j hj2] at this
  have e : s.data.toList[j] = s[j]'hj2 := by simp; rfl
  rw [e]
  refine ⟨fun x => this.1 ?_, fun x => this.2.1 ?_, fun x => this.2.2.1 ?_, fun x => this.2.2.2 ?_⟩ <;> (rw [x]; rfl)
theorem nameC_clean {i : Nat} {c : Int} (h : nameC i c = true) : c ≠ 58 ∧ c ≠ 35 ∧ c ≠ 64 ∧ c ≠ 0 := by
  unfold nameC letterB digitB at h
  simp only [Bool.or_eq_true, Bool.and_eq_true, decide_eq_true_eq, beq_iff_eq] at h
  omega
theorem idC_clean {i : Nat} {c : Int} (h : idC i c = true) : c ≠ 58 ∧ c ≠ 35 ∧ c ≠ 64 ∧ c ≠ 0 := by
  unfold idC letterB digitB at h
  simp only [Bool.or_eq_true, Bool.and_eq_true, decide_eq_true_eq, beq_iff_eq] at h
  omega
theorem name_facts {s : ByteArray} (h : nameP s = true) : Clean s.data.toList ∧ 1 ≤ s.size ∧ s.size ≤ 12 :=
  ⟨clean_of fun j hj => nameC_clean ((made_parts h).1 j hj), (made_parts h).2⟩
theorem id_facts {s : ByteArray} (h : idP s = true) : Clean s.data.toList ∧ 1 ≤ s.size ∧ s.size ≤ 16 :=
  ⟨clean_of fun j hj => idC_clean ((made_parts h).1 j hj), (made_parts h).2⟩
theorem nil_iff (s : ByteArray) : s.toList = ([] : List UInt8) ↔ s.data.toList = [] := by rw [ByteArray.toList_eq]
structure UserF (a b c : ByteArray) : Prop where
  ca : Clean a.data.toList
  cb : Clean b.data.toList
  cc : Clean c.data.toList
  sa : a.size ≤ 12
  sb : b.size ≤ 16
  sc : c.size ≤ 12
  na : 1 ≤ a.size
theorem user_facts {a b c : ByteArray} (h : userP a b c = true) : UserF a b c := by
  unfold userP at h
  rw [Bool.and_eq_true, Bool.and_eq_true, Bool.or_eq_true, decide_eq_true_eq] at h
  obtain ⟨⟨h1, h2⟩, h3⟩ := h
  have f1 := name_facts h1
  have f2 := id_facts h2
  rcases h3 with h3 | h3
  · have h4 : c.data.toList = [] := (nil_iff c).1 h3
    have h5 := (tl_nil c).1 h3
    exact ⟨f1.1, f2.1, (by rw [h4]; intro x hx; exact absurd hx (List.not_mem_nil)), f1.2.2, f2.2.2, (by omega), f1.2.1⟩
  · have f3 := name_facts h3
    exact ⟨f1.1, f2.1, f3.1, f1.2.2, f2.2.2, f3.2.2, f1.2.1⟩
theorem chk_parts {a b c d e f : ByteArray} (h : chkP a b c d e f = true) : UserF a b c ∧ UserF d e f ∧ c.data.toList ≠ [] ∧ userP a b c = true ∧ userP d e f = true := by
  unfold chkP at h
  rw [Bool.and_eq_true, Bool.and_eq_true, Bool.and_eq_true] at h
  obtain ⟨⟨⟨h1, h2⟩, h3⟩, h4⟩ := h
  have hu : userP a b c = true := by unfold userP; rw [h1, h2, h3]; simp
  refine ⟨user_facts hu, user_facts h4, ?_, hu, h4⟩
  have := (name_facts h3).2.1
  intro e
  have h5 := congrArg List.length e
  rw [data_length, List.length_nil] at h5
  omega

/-! texts -/
def textL (a b c : List UInt8) : List UInt8 := a ++ 58 :: (b ++ if c = [] then [] else 35 :: c)
theorem lit_data (l : List UInt8) : (⟨l.toArray⟩ : ByteArray).data.toList = l := by simp
theorem lit_size (l : List UInt8) : (⟨l.toArray⟩ : ByteArray).size = l.length := size_mk l
theorem textL_length (a b c : List UInt8) : (textL a b c).length ≤ a.length + b.length + c.length + 2 := by
  unfold textL
  by_cases h : c = [] <;> simp [h] <;> omega
theorem ttext (a b c : ByteArray) (h : a.size + b.size + c.size ≤ 1099511627776) : tuple_text.f a b c = some (mk (textL a.data.toList b.data.toList c.data.toList)) := by
  unfold tuple_text.f textL
  have e1 : (⟨#[58]⟩ : ByteArray).size = 1 := rfl
  have e2 : (⟨#[35]⟩ : ByteArray).size = 1 := rfl
  simp only [ByteArray.size_append, e1, e2]
  rw [if_pos (by omega), if_pos (by omega)]
  by_cases hc : c.toList = []
  · have hc2 := (nil_iff c).1 hc
    rw [if_pos hc, if_pos hc2]
    congr 1; apply data_inj; rw [mk_data]; simp
  · have hc2 : ¬ c.data.toList = [] := fun e => hc ((nil_iff c).2 e)
    rw [if_neg hc, if_neg hc2, if_pos (by omega), if_pos (by omega)]
    congr 1; apply data_inj; rw [mk_data]; simp
def showL (a b c d e f : List UInt8) : List UInt8 := textL a b c ++ 64 :: textL d e f
theorem tshow (a b c d e f : ByteArray) : tuple_Show.f a b c d e f = some (if chkP a b c d e f = true then (mk (showL a.data.toList b.data.toList c.data.toList d.data.toList e.data.toList f.data.toList), 0) else (⟨#[]⟩, 111)) := by
  unfold tuple_Show.f
  rw [tcheck]
  by_cases h : chkP a b c d e f = true
  · obtain ⟨u, v, _⟩ := chk_parts h
    have e3 : (⟨#[64]⟩ : ByteArray).size = 1 := rfl
    have := u.sa; have := u.sb; have := u.sc; have := v.sa; have := v.sb; have := v.sc
    have l1 := textL_length a.data.toList b.data.toList c.data.toList
    have l2 := textL_length d.data.toList e.data.toList f.data.toList
    rw [data_length, data_length, data_length] at l1 l2
    rw [if_pos h, if_pos h]
    simp only [Option.bind_some, if_true]
    rw [ttext a b c (by omega)]
    simp only [Option.bind_some]
    rw [if_pos (by rw [mk_size]; omega), ttext d e f (by omega)]
    simp only [Option.bind_some]
    rw [if_pos (by rw [ByteArray.size_append, mk_size, mk_size, e3]; omega)]
    congr 2; apply data_inj; rw [mk_data]; simp [showL, mk]
  · rw [if_neg h, if_neg h]; rfl
/-! cuts -/
theorem index_at (c : UInt8) (y : List UInt8) : ∀ x : List UInt8, c ∉ x → Lib.indexByte (x ++ c :: y) c = (x.length : Int)
  | [], _ => by simp [Lib.indexByte]
  | b :: x, h => by
    have h1 : ¬ b = c := fun e => h (by rw [e]; exact List.mem_cons_self)
    have h2 : (b == c) = false := by simpa using h1
    have ih := index_at c y x (fun e => h (List.mem_cons_of_mem _ e))
    show Lib.indexByte (b :: (x ++ c :: y)) c = _
    unfold Lib.indexByte
    rw [h2, ih]
    have : ((x.length : Int) == -1) = false := by simp
    rw [this]; simp
theorem index_absent (c : UInt8) : ∀ x : List UInt8, c ∉ x → Lib.indexByte x c = -1
  | [], _ => rfl
  | b :: x, h => by
    have h1 : ¬ b = c := fun e => h (by rw [e]; exact List.mem_cons_self)
    have h2 : (b == c) = false := by simpa using h1
    have ih := index_absent c x (fun e => h (List.mem_cons_of_mem _ e))
    unfold Lib.indexByte
    rw [h2, ih]; rfl
theorem tcut (s : ByteArray) (c : UInt8) (hs : s.size ≤ 1099511627776) : strings_Cut.f s ⟨#[c]⟩ = some (cutAt s (Lib.indexByte s.data.toList c)) := by
  unfold strings_Cut.f; rw [if_pos hs]
theorem cut_at (c : UInt8) (x y : List UInt8) (h : c ∉ x) (hs : x.length + y.length ≤ 549755813888) : strings_Cut.f (mk (x ++ c :: y)) ⟨#[c]⟩ = some (mk x, mk y, true) := by
  rw [tcut _ _ (by rw [mk_size]; simp; omega), mk_data, index_at c y x h]
  unfold cutAt
  rw [if_pos (by omega), Int.toNat_natCast]
  have e1 : (mk (x ++ c :: y)).extract 0 x.length = mk x := by
    apply data_inj; rw [Lib.extract_data, mk_data, mk_data]; simp
  have e2 : (mk (x ++ c :: y)).extract (x.length + 1) (mk (x ++ c :: y)).size = mk y := by
    apply data_inj; rw [Lib.extract_data, mk_data, mk_data, mk_size, List.drop_append]
    have : x.length + 1 - x.length = 1 := by omega
    rw [this, List.drop_of_length_le (by omega)]
    simp
    rw [show x.length + (y.length + 1) - (x.length + 1) = y.length by omega, List.take_length]
  rw [e1, e2]
theorem cut_absent (c : UInt8) (x : List UInt8) (h : c ∉ x) (hs : x.length ≤ 549755813888) : strings_Cut.f (mk x) ⟨#[c]⟩ = some (mk x, mk [], false) := by
  rw [tcut _ _ (by rw [mk_size]; omega), mk_data, index_absent c x h]
  rfl
theorem cut_small (s : ByteArray) (c : UInt8) (hs : s.size ≤ 1099511627776) : ∃ a b t, strings_Cut.f s ⟨#[c]⟩ = some (a, b, t) ∧ a.size ≤ s.size ∧ b.size ≤ s.size := by
  refine ⟨(cutAt s (Lib.indexByte s.data.toList c)).1, (cutAt s (Lib.indexByte s.data.toList c)).2.1, (cutAt s (Lib.indexByte s.data.toList c)).2.2, tcut s c hs, ?_, ?_⟩
  · unfold cutAt; split
    · simp only [ByteArray.size_extract]; omega
    · exact Nat.le_refl _
  · unfold cutAt; split
    · simp only [ByteArray.size_extract]; omega
    · exact Nat.zero_le _
theorem parse_small (s : ByteArray) (hs : s.size ≤ 1099511627776) : ∃ a b c, tuple_parse.f s = some (a, b, c) ∧ a.size ≤ s.size ∧ b.size ≤ s.size ∧ c.size ≤ s.size := by
  obtain ⟨a, r, t, h1, ha, hr⟩ := cut_small s 58 hs
  obtain ⟨b, c, t2, h2, hb, hc⟩ := cut_small r 35 (by omega)
  refine ⟨a, b, c, ?_, ha, by omega, by omega⟩
  unfold tuple_parse.f
  rw [h1]; simp only [Option.bind_some]
  rw [h2]; rfl
theorem clean58 {l : List UInt8} (h : Clean l) : (58 : UInt8) ∉ l := fun e => (h _ e).1 rfl
theorem clean35 {l : List UInt8} (h : Clean l) : (35 : UInt8) ∉ l := fun e => (h _ e).2.1 rfl
theorem clean64 {l : List UInt8} (h : Clean l) : (64 : UInt8) ∉ l := fun e => (h _ e).2.2.1 rfl
theorem parse_text {a b c : ByteArray} (u : UserF a b c) : tuple_parse.f (mk (textL a.data.toList b.data.toList c.data.toList)) = some (a, b, c) := by
  have h1 := u.sa; have h2 := u.sb; have h3 := u.sc
  have l1 := data_length a; have l2 := data_length b; have l3 := data_length c
  unfold tuple_parse.f textL
  by_cases hc : c.data.toList = []
  · rw [if_pos hc, List.append_nil, cut_at 58 _ _ (clean58 u.ca) (by omega)]
    simp only [Option.bind_some]
    rw [cut_absent 35 _ (clean35 u.cb) (by omega)]
    have : c = mk [] := by apply data_inj; rw [hc, mk_data]
    rw [this]
    simp only [Option.bind_some, mk_of]
  · rw [if_neg hc, cut_at 58 _ _ (clean58 u.ca) (by simp only [List.length_append, List.length_cons]; omega)]
    simp only [Option.bind_some]
    rw [cut_at 35 _ _ (clean35 u.cb) (by omega)]
    simp only [Option.bind_some, mk_of]
theorem text64 {a b c : ByteArray} (u : UserF a b c) : (64 : UInt8) ∉ textL a.data.toList b.data.toList c.data.toList := by
  unfold textL
  intro h
  rw [List.mem_append, List.mem_cons, List.mem_append] at h
  rcases h with h | h | h | h
  · exact clean64 u.ca h
  · exact absurd h (by decide)
  · exact clean64 u.cb h
  · by_cases hc : c.data.toList = []
    · rw [if_pos hc] at h; cases h
    · rw [if_neg hc, List.mem_cons] at h
      rcases h with h | h
      · exact absurd h (by decide)
      · exact clean64 u.cc h
theorem read_show {a b c d e f : ByteArray} (h : chkP a b c d e f = true) : tuple_Read.f (mk (showL a.data.toList b.data.toList c.data.toList d.data.toList e.data.toList f.data.toList)) = some (a, b, c, d, e, f, 0) := by
  obtain ⟨u, v, _⟩ := chk_parts h
  have h1 := u.sa; have h2 := u.sb; have h3 := u.sc; have h4 := v.sa; have h5 := v.sb; have h6 := v.sc
  have l1 := textL_length a.data.toList b.data.toList c.data.toList
  have l2 := textL_length d.data.toList e.data.toList f.data.toList
  rw [data_length, data_length, data_length] at l1 l2
  unfold tuple_Read.f
  conv => lhs; rw [show showL a.data.toList b.data.toList c.data.toList d.data.toList e.data.toList f.data.toList = textL a.data.toList b.data.toList c.data.toList ++ 64 :: textL d.data.toList e.data.toList f.data.toList from rfl]
  rw [cut_at 64 _ _ (text64 u) (by omega)]
  simp only [Option.bind_some]
  rw [parse_text u]
  simp only [Option.bind_some]
  rw [parse_text v]
  simp only [Option.bind_some]
  rw [tshow, if_pos h]
  simp [showL]
end Go.Proofs.YtggcipjdhhnnkaaDoor.K
