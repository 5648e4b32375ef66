/- Lemmas of this claim's own proof; conditions: as each states. -/
import Derived.Lib.IndexLaws
import Derived.Lib.IndexBytes
namespace Go.Proofs.YtbecojmhjkhifaaDoor.PL
set_option linter.unusedVariables false
set_option linter.unusedSimpArgs false

/-- A part's bytes in a key. -/
def escL (l : List UInt8) : List UInt8 := l.flatMap fun c => if c = 0 then [0, 255] else [c]
/-- A key's bytes. -/
def putL (l : List (List UInt8)) : List UInt8 := l.flatMap fun p => escL p ++ [0, 0]

theorem escL_nil : escL [] = [] := rfl
theorem escL_cons (c : UInt8) (l : List UInt8) : escL (c :: l) = (if c = 0 then [0, 255] else [c]) ++ escL l := by simp [escL]
theorem escL_append (a b : List UInt8) : escL (a ++ b) = escL a ++ escL b := by simp [escL]
theorem escL_none : ∀ (l : List UInt8), (∀ c ∈ l, c ≠ 0) → escL l = l
  | [], _ => rfl
  | c :: l, h => by rw [escL_cons, escL_none l (fun x hx => h x (List.mem_cons_of_mem _ hx)), if_neg (h c List.mem_cons_self)]; rfl
theorem escL_le (l : List UInt8) : l.length ≤ (escL l).length := by
  induction l with
  | nil => simp [escL]
  | cons c l ih => rw [escL_cons, List.length_append]; split <;> simp <;> omega
theorem escL_length (l : List UInt8) : (escL l).length = l.length + l.count 0 := by
  induction l with
  | nil => simp [escL]
  | cons c l ih =>
    rw [escL_cons, List.length_append, ih]
    by_cases h : c = 0
    · rw [if_pos h, h]; simp; omega
    · rw [if_neg h, List.count_cons_of_ne (by simpa using h)]; simp; omega
theorem putL_nil : putL [] = [] := rfl
theorem putL_cons (p : List UInt8) (l : List (List UInt8)) : putL (p :: l) = escL p ++ [0, 0] ++ putL l := by simp [putL]
theorem putL_append (a b : List (List UInt8)) : putL (a ++ b) = putL a ++ putL b := by simp [putL]

/-- Of a text that has a 0: where the first one is. -/
theorem first_zero {l : List UInt8} (h : l.count 0 ≠ 0) : ∃ j : Nat, Go.Lib.indexByte l 0 = j ∧ j < l.length ∧ escL l = l.take j ++ [0, 255] ++ escL (l.drop (j + 1)) ∧ (l.drop (j + 1)).count 0 + 1 = l.count 0 := by
  have hge := Go.Lib.indexByte_ge l 0
  have hne : Go.Lib.indexByte l 0 ≠ -1 := fun he => h (List.count_eq_zero.2 (fun hm => by
    obtain ⟨k, hk, e⟩ := List.getElem_of_mem hm
    exact Go.Lib.indexByte_none he k (by rw [List.getElem?_eq_getElem hk, e])))
  obtain ⟨j, hj⟩ : ∃ j : Nat, Go.Lib.indexByte l 0 = j := ⟨(Go.Lib.indexByte l 0).toNat, by omega⟩
  obtain ⟨h0, hlt⟩ := Go.Lib.indexByte_some hj
  have hjl : j < l.length := by
    rcases Nat.lt_or_ge j l.length with h' | h'
    · exact h'
    · rw [List.getElem?_eq_none h'] at h0; cases h0
  have e0 : l[j] = 0 := by rw [List.getElem?_eq_getElem hjl] at h0; exact Option.some.inj h0
  have hsplit : l = l.take j ++ (0 :: l.drop (j + 1)) := by
    conv => lhs; rw [← List.take_append_drop j l]
    rw [List.drop_eq_getElem_cons hjl, e0]
  have hno : ∀ c ∈ l.take j, c ≠ 0 := by
    intro c hc e
    obtain ⟨k, hk, e2⟩ := List.getElem_of_mem hc
    rw [List.length_take] at hk
    refine hlt k (by omega) ?_
    rw [List.getElem?_eq_getElem (by omega)]
    rw [List.getElem_take] at e2
    rw [e2, e]
  refine ⟨j, hj, hjl, ?_, ?_⟩
  · conv => lhs; rw [hsplit]
    rw [escL_append, escL_none _ hno, escL_cons, if_pos rfl, List.append_assoc]
  · conv => rhs; rw [hsplit]
    rw [List.count_append, List.count_eq_zero.2 (fun hm => hno 0 hm rfl), List.count_cons_self]
    omega
theorem no_zero {l : List UInt8} (h : l.count 0 = 0) : escL l = l := escL_none l (fun c hc e => (List.count_eq_zero.1 h) (e ▸ hc))
end Go.Proofs.YtbecojmhjkhifaaDoor.PL
