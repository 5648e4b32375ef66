/- Less and Below, as plain functions; conditions: as each states. -/
import Derived.Test.YtggcipjdhhnnkaaDoorTG0
import Derived.Test.YtggcipjdhhnnkaaDoorPMd
import Derived.Test.YtggcipjdhhnnkaaDoorPMe
namespace Go.Proofs.YtggcipjdhhnnkaaDoor.K
set_option linter.unusedVariables false
set_option linter.unusedSimpArgs false
open Go.RowKit Go.Proofs.YtggcipjdhhnnkaaDoorW.PrintWords Go.Proofs.YtggcipjdhhnnkaaDoorW.PrintLast Go.Proofs.YtggcipjdhhnnkaaDoorW.PrintMore
open Go.Proofs.YtggcipjdhhnnkaaDoor.PL

/-! Less -/
def cmpL : List (List UInt8) → List (List UInt8) → Int
  | [], [] => 0
  | [], _ :: _ => -1
  | _ :: _, [] => 1
  | x :: a, y :: b => if x = y then cmpL a b else if lt x y = true then -1 else 1
theorem cmpL_less : ∀ a b, decide (cmpL a b < 0) = lessL a b
  | [], [] => rfl
  | [], _ :: _ => rfl
  | _ :: _, [] => rfl
  | x :: a, y :: b => by
    unfold cmpL lessL
    by_cases h : x = y
    · rw [if_pos h, if_pos h]; exact cmpL_less a b
    · rw [if_neg h, if_neg h]
      cases hl : lt x y with
      | true => rw [if_pos rfl]; rfl
      | false => rw [if_neg (by decide)]; rfl
theorem cmpB_same (x : List UInt8) : cmpB x x = 0 := by
  unfold cmpB
  rw [if_neg (by have := lt_irrefl x; unfold lt at this; rw [this]; decide), if_pos (by simp)]
theorem cmpB_other {x y : List UInt8} (h : x ≠ y) : cmpB x y = if lt x y = true then -1 else 1 := by
  unfold cmpB lt
  cases hl : Op.bytesLess x y with
  | true => rw [if_pos rfl, if_pos rfl]
  | false =>
    rw [if_neg (by decide), if_neg (by simpa using h), if_neg (by decide)]
theorem bytesAll_drop (l : List ByteArray) (i : Nat) : bytesAll (l.drop i) = (bytesAll l).drop i := by simp [bytesAll]
theorem compare_l (a b : List ByteArray) (ha : a.length ≤ 1099511627776) (hb : b.length ≤ 1099511627776) (d : Nat) : ∀ i : Nat, i ≤ a.length → i ≤ b.length → a.length - i = d →
    Ev (fun k => slices_Compare_string_string.l0 k a b a (a.length : Int) (i : Int)) (cmpL (bytesAll (a.drop i)) (bytesAll (b.drop i))) := by
  induction d with
  | zero =>
    intro i hi hi2 hd
    refine Ev.step (f := fun _ => some (cmpL (bytesAll (a.drop i)) (bytesAll (b.drop i)))) (fun k => ?_) (Ev.now _)
    show slices_Compare_string_string.l0 (k + 1) a b a (a.length : Int) (i : Int) = _
    simp only [slices_Compare_string_string.l0]
    rw [if_neg (by omega), List.drop_of_length_le (l := a) (by omega)]
    by_cases h : a.length < b.length
    · rw [if_pos (by omega), List.drop_eq_getElem_cons (l := b) (by omega)]; rfl
    · rw [if_neg (by omega), List.drop_of_length_le (l := b) (by omega)]; rfl
  | succ d ih =>
    intro i hi hi2 hd
    have hlt : i < a.length := by omega
    by_cases hib : i < b.length
    · have ha2 : bytesAll (a.drop i) = a[i].data.toList :: bytesAll (a.drop (i + 1)) := by rw [List.drop_eq_getElem_cons hlt]; rfl
      have hb2 : bytesAll (b.drop i) = b[i].data.toList :: bytesAll (b.drop (i + 1)) := by rw [List.drop_eq_getElem_cons hib]; rfl
      by_cases he : a[i].data.toList = b[i].data.toList
      · refine Ev.step (f := fun k => slices_Compare_string_string.l0 k a b a (a.length : Int) ((i + 1 : Nat) : Int)) (fun k => ?_) ?_
        · show slices_Compare_string_string.l0 (k + 1) a b a (a.length : Int) (i : Int) = _
          simp only [slices_Compare_string_string.l0]
          rw [if_pos (by omega), if_pos (by omega), if_pos (by omega), if_neg (by omega), if_pos (by omega), rd_at hlt, rd_at hib]
          unfold cmp_Compare_string.f
          rw [ByteArray.toList_eq, ByteArray.toList_eq, he, cmpB_same, w64 (by omega) (by omega)]
          simp only [Option.bind_some, if_true]
          rfl
        · have := ih (i + 1) (by omega) (by omega) (by omega)
          rw [ha2, hb2]
          unfold cmpL
          rw [if_pos he]
          exact this
      · refine Ev.step (f := fun _ => some (cmpL (bytesAll (a.drop i)) (bytesAll (b.drop i)))) (fun k => ?_) (Ev.now _)
        show slices_Compare_string_string.l0 (k + 1) a b a (a.length : Int) (i : Int) = _
        simp only [slices_Compare_string_string.l0]
        rw [if_pos (by omega), if_pos (by omega), if_pos (by omega), if_neg (by omega), if_pos (by omega), rd_at hlt, rd_at hib]
        unfold cmp_Compare_string.f
        rw [ByteArray.toList_eq, ByteArray.toList_eq, cmpB_other he, ha2, hb2]
        unfold cmpL
        rw [if_neg he]
        simp only [Option.bind_some]
        cases hl : lt a[i].data.toList b[i].data.toList with
        | true => rw [if_pos rfl, if_neg (by decide)]
        | false => rw [if_neg (by decide), if_neg (by decide)]
    · refine Ev.step (f := fun _ => some 1) (fun k => ?_) ?_
      · show slices_Compare_string_string.l0 (k + 1) a b a (a.length : Int) (i : Int) = _
        simp only [slices_Compare_string_string.l0]
        rw [if_pos (by omega), if_pos (by omega), if_pos (by omega), if_pos (by omega)]
      · rw [List.drop_of_length_le (l := b) (by omega), List.drop_eq_getElem_cons hlt]
        exact Ev.now _
theorem less_ev (a b : List ByteArray) (ha : a.length ≤ 1099511627776) (hb : b.length ≤ 1099511627776) : Ev (fun k => key_Less.f k a b) (lessL (bytesAll a) (bytesAll b)) := by
  unfold key_Less.f slices_Compare_string_string.f
  rw [← cmpL_less]
  have := compare_l a b ha hb a.length 0 (by omega) (by omega) (by omega)
  rw [List.drop_zero, List.drop_zero] at this
  exact Ev.bind this (Ev.now _)

/-! the document's below -/
theorem bt_lt (a b : ByteArray) (i : Nat) (h : i < a.size) (h2 : i < b.size) : (bt a (i : Int) < bt b (i : Int)) ↔ a[i] < b[i] := by
  rw [bt_byte _ _ h, bt_byte _ _ h2, UInt8.lt_iff_toNat_lt]; omega
theorem bt_eq (a b : ByteArray) (i : Nat) (h : i < a.size) (h2 : i < b.size) : (bt a (i : Int) = bt b (i : Int)) ↔ a[i] = b[i] := by
  rw [bt_byte _ _ h, bt_byte _ _ h2]
  exact ⟨fun e => UInt8.toNat_inj.1 (by omega), fun e => by rw [e]⟩
theorem below_l (a b : ByteArray) (ha : a.size ≤ 1099511627776) (hb : b.size ≤ 1099511627776) (d : Nat) : ∀ i : Nat, i ≤ a.size → i ≤ b.size → a.size - i = d →
    Ev (fun k => lunetteref01_below.l0 k a b (i : Int)) (lt (a.data.toList.drop i) (b.data.toList.drop i)) := by
  induction d with
  | zero =>
    intro i hi hi2 hd
    refine Ev.step (f := fun k => lunetteref01_below.j1 k a b (i : Int) false) (fun k => ?_) ?_
    · show lunetteref01_below.l0 (k + 1) a b (i : Int) = _
      simp only [lunetteref01_below.l0]
      rw [if_neg (by omega)]
    · refine Ev.step (f := fun _ => some (decide ((a.size : Int) < (b.size : Int)))) (fun k => ?_) ?_
      · show lunetteref01_below.j1 (k + 1) a b (i : Int) false = _
        simp only [lunetteref01_below.j1]
        rw [if_neg (by decide)]
      · have hz : a.data.toList.drop i = [] := by rw [List.drop_eq_nil_iff, data_length]; omega
        rw [hz]
        by_cases h : i < b.size
        · rw [drop_byte b i h, decide_eq_true (by omega)]; exact Ev.now _
        · have hz2 : b.data.toList.drop i = [] := by rw [List.drop_eq_nil_iff, data_length]; omega
          rw [hz2, decide_eq_false (by omega)]; exact Ev.now _
  | succ d ih =>
    intro i hi hi2 hd
    have hlt : i < a.size := by omega
    refine Ev.step (f := fun k => lunetteref01_below.j1 k a b (i : Int) (decide ((i : Int) < (b.size : Int)))) (fun k => ?_) ?_
    · show lunetteref01_below.l0 (k + 1) a b (i : Int) = _
      simp only [lunetteref01_below.l0]
      rw [if_pos (by omega)]
    · by_cases hib : i < b.size
      · rw [decide_eq_true (by omega), drop_byte a i hlt, drop_byte b i hib]
        by_cases he : a[i] = b[i]
        · refine Ev.step (f := fun k => lunetteref01_below.l0 k a b ((i + 1 : Nat) : Int)) (fun k => ?_) ?_
          · show lunetteref01_below.j1 (k + 1) a b (i : Int) true = _
            simp only [lunetteref01_below.j1]
            rw [if_pos trivial, if_pos (by omega), if_pos (by omega), if_pos (by omega), if_pos ((bt_eq a b i hlt hib).2 he), w64 (by omega) (by omega)]
            rfl
          · rw [he, lt_same]
            exact ih (i + 1) (by omega) (by omega) (by omega)
        · refine Ev.step (f := fun _ => some (decide (bt a (i : Int) < bt b (i : Int)))) (fun k => ?_) ?_
          · show lunetteref01_below.j1 (k + 1) a b (i : Int) true = _
            simp only [lunetteref01_below.j1]
            rw [if_pos trivial, if_pos (by omega), if_pos (by omega), if_pos (by omega), if_neg (fun e => he ((bt_eq a b i hlt hib).1 e))]
          · have : lt (a[i] :: a.data.toList.drop (i + 1)) (b[i] :: b.data.toList.drop (i + 1)) = decide (bt a (i : Int) < bt b (i : Int)) := by
              have hb2 : (a[i] == b[i]) = false := by simpa using he
              rw [cons_lt, hb2, Bool.false_and, Bool.or_false, decide_eq_decide]
              exact (bt_lt a b i hlt hib).symm
            rw [this]; exact Ev.now _
      · rw [decide_eq_false (by omega), drop_byte a i hlt]
        have hz2 : b.data.toList.drop i = [] := by rw [List.drop_eq_nil_iff, data_length]; omega
        rw [hz2, lt_nil]
        refine Ev.step (f := fun _ => some (decide ((a.size : Int) < (b.size : Int)))) (fun k => ?_) ?_
        · show lunetteref01_below.j1 (k + 1) a b (i : Int) false = _
          simp only [lunetteref01_below.j1]
          rw [if_neg (by decide)]
        · rw [decide_eq_false (by omega)]; exact Ev.now _
theorem below0_ev (a b : ByteArray) (ha : a.size ≤ 1099511627776) (hb : b.size ≤ 1099511627776) : Ev (fun k => lunetteref01_below.f k a b) (lt a.data.toList b.data.toList) := by
  have := below_l a b ha hb a.size 0 (by omega) (by omega) (by omega)
  rw [List.drop_zero, List.drop_zero] at this
  exact this
theorem below_ev (a b : ByteArray) (ha : a.size ≤ 1099511627776) (hb : b.size ≤ 1099511627776) : Ev (fun k => lunetteref01_Below.f k a b) (lt a.data.toList b.data.toList) :=
  Ev.bind (below0_ev a b ha hb) (Ev.now _)

/-! the document's Less -/
theorem rless_l (a b : List ByteArray) (ha : a.length ≤ 1099511627776) (hb : b.length ≤ 1099511627776) (hsa : ∀ p ∈ a, p.size ≤ 1099511627776) (hsb : ∀ p ∈ b, p.size ≤ 1099511627776) (d : Nat) : ∀ i : Nat, i ≤ a.length → i ≤ b.length → a.length - i = d →
    Ev (fun k => lunetteref01_Less.l0 k a b (i : Int)) (lessL (bytesAll (a.drop i)) (bytesAll (b.drop i))) := by
  induction d with
  | zero =>
    intro i hi hi2 hd
    refine Ev.step (f := fun k => lunetteref01_Less.j1 k a b (i : Int) false) (fun k => ?_) ?_
    · show lunetteref01_Less.l0 (k + 1) a b (i : Int) = _
      simp only [lunetteref01_Less.l0]
      rw [if_neg (by omega)]
    · refine Ev.step (f := fun _ => some (decide ((a.length : Int) < (b.length : Int)))) (fun k => ?_) ?_
      · show lunetteref01_Less.j1 (k + 1) a b (i : Int) false = _
        simp only [lunetteref01_Less.j1]
        rw [if_neg (by decide)]
      · rw [List.drop_of_length_le (l := a) (by omega)]
        by_cases h : i < b.length
        · rw [List.drop_eq_getElem_cons h, decide_eq_true (by omega)]; exact Ev.now _
        · rw [List.drop_of_length_le (l := b) (by omega), decide_eq_false (by omega)]; exact Ev.now _
  | succ d ih =>
    intro i hi hi2 hd
    have hlt : i < a.length := by omega
    have ha2 : bytesAll (a.drop i) = a[i].data.toList :: bytesAll (a.drop (i + 1)) := by rw [List.drop_eq_getElem_cons hlt]; rfl
    refine Ev.step (f := fun k => lunetteref01_Less.j1 k a b (i : Int) (decide ((i : Int) < (b.length : Int)))) (fun k => ?_) ?_
    · show lunetteref01_Less.l0 (k + 1) a b (i : Int) = _
      simp only [lunetteref01_Less.l0]
      rw [if_pos (by omega)]
    · by_cases hib : i < b.length
      · have hb2 : bytesAll (b.drop i) = b[i].data.toList :: bytesAll (b.drop (i + 1)) := by rw [List.drop_eq_getElem_cons hib]; rfl
        rw [decide_eq_true (by omega), ha2, hb2]
        unfold lessL
        by_cases he : a[i] = b[i]
        · refine Ev.step (f := fun k => lunetteref01_Less.l0 k a b ((i + 1 : Nat) : Int)) (fun k => ?_) ?_
          · show lunetteref01_Less.j1 (k + 1) a b (i : Int) true = _
            simp only [lunetteref01_Less.j1]
            rw [if_pos trivial, if_pos (by omega), if_pos (by omega), if_pos (by omega), rd_at hlt, rd_at hib, if_pos (by rw [he]), w64 (by omega) (by omega)]
            rfl
          · rw [if_pos (by rw [he])]
            exact ih (i + 1) (by omega) (by omega) (by omega)
        · refine Ev.step (f := fun k => (lunetteref01_below.f k a[i] b[i]).bind fun t => some t) (fun k => ?_) ?_
          · show lunetteref01_Less.j1 (k + 1) a b (i : Int) true = _
            simp only [lunetteref01_Less.j1]
            rw [if_pos trivial, if_pos (by omega), if_pos (by omega), if_pos (by omega), rd_at hlt, rd_at hib, if_neg (fun e => he ((tl_iff _ _).1 e))]
          · rw [if_neg (fun e => he (data_inj e))]
            exact Ev.bind (below0_ev _ _ (hsa _ (List.getElem_mem hlt)) (hsb _ (List.getElem_mem hib))) (Ev.now _)
      · rw [decide_eq_false (by omega), ha2, List.drop_of_length_le (l := b) (by omega)]
        refine Ev.step (f := fun _ => some (decide ((a.length : Int) < (b.length : Int)))) (fun k => ?_) ?_
        · show lunetteref01_Less.j1 (k + 1) a b (i : Int) false = _
          simp only [lunetteref01_Less.j1]
          rw [if_neg (by decide)]
        · rw [decide_eq_false (by omega)]; exact Ev.now _
theorem rless_ev (a b : List ByteArray) (ha : a.length ≤ 1099511627776) (hb : b.length ≤ 1099511627776) (hsa : ∀ p ∈ a, p.size ≤ 1099511627776) (hsb : ∀ p ∈ b, p.size ≤ 1099511627776) : Ev (fun k => lunetteref01_Less.f k a b) (lessL (bytesAll a) (bytesAll b)) := by
  have := rless_l a b ha hb hsa hsb a.length 0 (by omega) (by omega) (by omega)
  rw [List.drop_zero, List.drop_zero] at this
  exact this

end Go.Proofs.YtggcipjdhhnnkaaDoor.K
