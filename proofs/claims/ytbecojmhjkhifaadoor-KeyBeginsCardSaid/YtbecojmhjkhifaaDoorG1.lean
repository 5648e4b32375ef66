/- Lemmas of this claim's own proof; conditions: as each states. -/
import Derived.Test.YtbecojmhjkhifaaDoorP1
import Derived.Test.YtbecojmhjkhifaaDoorP6
import Derived.Test.YtbecojmhjkhifaaDoorPL2
namespace Go.Proofs.YtbecojmhjkhifaaDoor.K
set_option linter.unusedVariables false
set_option linter.unusedSimpArgs false
open Go.RowKit Go.Proofs.YtbecojmhjkhifaaDoorW.PrintWords Go.Proofs.YtbecojmhjkhifaaDoorW.PrintLast Go.Proofs.YtbecojmhjkhifaaDoorW.PrintMore
open Go.Proofs.YtbecojmhjkhifaaDoor.PL

theorem w64 {x : Int} (h0 : -9223372036854775808 ≤ x) (h1 : x ≤ 9223372036854775807) : wrap64 x = x := by unfold wrap64; omega
theorem rd_at {l : List ByteArray} {i : Nat} (h : i < l.length) : rdOf ByteArray.empty l (i : Int) = l[i] := by simp [rdOf, h]
theorem bytes_eq {a b : ByteArray} (h : a.toList = b.toList) : a = b := by
  rw [ByteArray.toList_eq, ByteArray.toList_eq] at h
  cases a; cases b; congr; exact Array.ext' h
theorem tl_iff (a b : ByteArray) : a.toList = b.toList ↔ a = b := ⟨bytes_eq, fun h => by rw [h]⟩

/-! few -/
def fewB (l : List ByteArray) : Bool := l.all (fun p => decide (p.size ≤ 200)) && decide (l.length ≤ 20)
theorem few_l (l : List ByteArray) (hl : l.length ≤ 9223372036854775807) (d : Nat) : ∀ (k i : Nat), i ≤ l.length → l.length - i = d → d < k →
    lunettelaw01_few.l0 k l (i : Int) = some ((l.drop i).all (fun p => decide (p.size ≤ 200)) && decide (l.length ≤ 20)) := by
  induction d with
  | zero =>
    intro k i hi hd hk
    obtain ⟨k, rfl⟩ : ∃ m, k = m + 1 := ⟨k - 1, by omega⟩
    simp only [lunettelaw01_few.l0]
    rw [if_neg (by omega), List.drop_of_length_le (by omega)]
    simp
    omega
  | succ d ih =>
    intro k i hi hd hk
    obtain ⟨k, rfl⟩ : ∃ m, k = m + 1 := ⟨k - 1, by omega⟩
    have hlt : i < l.length := by omega
    simp only [lunettelaw01_few.l0]
    rw [if_pos (by omega), if_pos (by omega), rd_at hlt, List.drop_eq_getElem_cons hlt, List.all_cons]
    by_cases h : l[i].size ≤ 200
    · rw [if_neg (by omega), w64 (by omega) (by omega), show (i : Int) + 1 = ((i + 1 : Nat) : Int) by omega, ih k (i + 1) (by omega) (by omega) (by omega), decide_eq_true h, Bool.true_and]
    · rw [if_pos (by omega), decide_eq_false h]; rfl
theorem few_ev (l : List ByteArray) (hl : l.length ≤ 9223372036854775807) : Ev (fun k => lunettelaw01_few.f k l) (fewB l) :=
  ⟨l.length + 1, fun k hk => by
    have := few_l l hl l.length k 0 (by omega) (by omega) (by omega)
    simpa [lunettelaw01_few.f, fewB] using this⟩
theorem few_len {l : List ByteArray} (h : fewB l = true) : l.length ≤ 20 := by
  unfold fewB at h; rw [Bool.and_eq_true] at h; exact of_decide_eq_true h.2
theorem few_size {l : List ByteArray} (h : fewB l = true) : ∀ p ∈ l, p.size ≤ 200 := by
  unfold fewB at h; rw [Bool.and_eq_true, List.all_eq_true] at h
  exact fun p hp => of_decide_eq_true (h.1 p hp)

/-! Same -/
theorem same_l (a b : List ByteArray) (hab : a.length = b.length) (hl : a.length ≤ 9223372036854775807) (d : Nat) : ∀ (k i : Nat), i ≤ a.length → a.length - i = d → d < k →
    lunetteref01_Same.l0 k a b (i : Int) = some (decide (a.drop i = b.drop i)) := by
  induction d with
  | zero =>
    intro k i hi hd hk
    obtain ⟨k, rfl⟩ : ∃ m, k = m + 1 := ⟨k - 1, by omega⟩
    simp only [lunetteref01_Same.l0]
    rw [if_neg (by omega), List.drop_of_length_le (by omega), List.drop_of_length_le (by omega)]
    simp
  | succ d ih =>
    intro k i hi hd hk
    obtain ⟨k, rfl⟩ : ∃ m, k = m + 1 := ⟨k - 1, by omega⟩
    have hlt : i < a.length := by omega
    have hlt2 : i < b.length := by omega
    simp only [lunetteref01_Same.l0]
    rw [if_pos (by omega), if_pos (by omega), if_pos (by omega), rd_at hlt, rd_at hlt2, List.drop_eq_getElem_cons hlt, List.drop_eq_getElem_cons hlt2]
    by_cases h : a[i] = b[i]
    · rw [if_pos (by rw [h]), w64 (by omega) (by omega), show (i : Int) + 1 = ((i + 1 : Nat) : Int) by omega, ih k (i + 1) (by omega) (by omega) (by omega)]
      simp only [List.cons.injEq, h, true_and]
    · rw [if_neg (fun e => h ((tl_iff _ _).1 e))]
      simp only [List.cons.injEq, h, false_and, decide_false]
theorem same_ev (a b : List ByteArray) (hl : a.length ≤ 9223372036854775807) : Ev (fun k => lunetteref01_Same.f k a b) (decide (a = b)) := by
  by_cases hab : a.length = b.length
  · refine ⟨a.length + 1, fun k hk => ?_⟩
    show lunetteref01_Same.f k a b = _
    unfold lunetteref01_Same.f
    rw [if_pos (by omega)]
    have := same_l a b hab hl a.length k 0 (by omega) (by omega) (by omega)
    simpa using this
  · refine ⟨0, fun k _ => ?_⟩
    show lunetteref01_Same.f k a b = _
    unfold lunetteref01_Same.f
    rw [if_neg (by omega)]
    have : ¬ a = b := fun e => hab (by rw [e])
    simp [this]

/-! awake -/
theorem awake_now : lunettelaw01_awake.f 20 = some true := by decide +kernel
theorem awake_ev : Ev (fun k => lunettelaw01_awake.f k) true := Ev.of (fun k => lunettelaw01_awake.mono k) awake_now

/-! Put and Get -/
theorem put_f {l : List ByteArray} (h : (putL (bytesAll l)).length ≤ 1099511627776) : key_Put.f l = some ⟨(putL (bytesAll l)).toArray⟩ := by unfold key_Put.f; rw [if_pos h]
def U (l : List UInt8) : List Int := l.map fun b => (b.toNat : Int)
theorem U_append (a b : List UInt8) : U (a ++ b) = U a ++ U b := by simp [U]
theorem str_U (l : List UInt8) : strOfNums (U l) = ⟨l.toArray⟩ := by
  unfold strOfNums U
  rw [List.map_map]
  congr 2
  conv => rhs; rw [← List.map_id l]
  apply List.map_congr_left
  intro b _
  simp
theorem getI_byte {c : Int} (hc : ¬ c = 0) (r part : List Int) (acc : List ByteArray) : getI (c :: r) part acc = getI r (part ++ [c]) acc := by
  conv => lhs; unfold getI
  rw [if_neg hc]
theorem getI_zero (r part : List Int) (acc : List ByteArray) : getI (0 :: 255 :: r) part acc = getI r (part ++ [0]) acc := by
  conv => lhs; unfold getI
  simp
theorem getI_part (r part : List Int) (acc : List ByteArray) : getI (0 :: 0 :: r) part acc = getI r [] (acc ++ [strOfNums part]) := by
  conv => lhs; unfold getI
  simp
theorem U_esc (p : List UInt8) (r part : List Int) (acc : List ByteArray) : getI (U (escL p) ++ r) part acc = getI r (part ++ U p) acc := by
  induction p generalizing part with
  | nil => simp [escL, U]
  | cons c p ih =>
    rw [escL_cons]
    by_cases hc : c = 0
    · subst hc
      rw [if_pos rfl]
      show getI (0 :: 255 :: (U (escL p) ++ r)) part acc = _
      rw [getI_zero, ih]
      simp [U]
    · rw [if_neg hc]
      show getI ((c.toNat : Int) :: (U (escL p) ++ r)) part acc = _
      have hn : ¬ (c.toNat : Int) = 0 := fun e => hc (UInt8.toNat_inj.1 (by simpa using e))
      rw [getI_byte hn, ih]
      simp [U]
theorem get_put (ps : List (List UInt8)) (acc : List ByteArray) : getI (U (putL ps)) [] acc = some (acc ++ ps.map fun p => ⟨p.toArray⟩) := by
  induction ps generalizing acc with
  | nil => simp [putL, U, getI]
  | cons p ps ih =>
    rw [putL_cons, List.append_assoc, U_append, U_esc]
    show getI (0 :: 0 :: U (putL ps)) _ _ = _
    rw [getI_part, ih, List.nil_append, str_U]
    simp
theorem bytesAll_back (l : List ByteArray) : (bytesAll l).map (fun p => (⟨p.toArray⟩ : ByteArray)) = l := by
  unfold bytesAll
  rw [List.map_map]
  conv => rhs; rw [← List.map_id l]
  apply List.map_congr_left
  intro b _
  simp
theorem bytesAll_inj {a b : List ByteArray} (h : bytesAll a = bytesAll b) : a = b := by rw [← bytesAll_back a, h, bytesAll_back]
theorem bytesAll_append (a b : List ByteArray) : bytesAll (a ++ b) = bytesAll a ++ bytesAll b := by simp [bytesAll]
theorem size_mk (l : List UInt8) : (⟨l.toArray⟩ : ByteArray).size = l.length := by simp [ByteArray.size]
theorem bytesOf_mk (l : List UInt8) : bytesOf ⟨l.toArray⟩ = U l := by simp [bytesOf, U]
theorem get_f_put {l : List ByteArray} (h : (putL (bytesAll l)).length ≤ 1099511627776) : key_Get.f ⟨(putL (bytesAll l)).toArray⟩ = some (l, 0) := by
  unfold key_Get.f
  rw [if_pos (by rw [size_mk]; exact h), bytesOf_mk, get_put]
  simp [getR, bytesAll_back]
theorem put_small {l : List ByteArray} (h : fewB l = true) : (putL (bytesAll l)).length ≤ 10000 := by
  have h1 := few_size h
  have h2 := few_len h
  clear h
  have : ∀ l : List ByteArray, (∀ p ∈ l, p.size ≤ 200) → (putL (bytesAll l)).length ≤ 402 * l.length := by
    intro l
    induction l with
    | nil => intro _; simp [bytesAll, putL]
    | cons p l ih =>
      intro hp
      have h3 := ih (fun q hq => hp q (List.mem_cons_of_mem _ hq))
      have h4 := hp p List.mem_cons_self
      rw [show bytesAll (p :: l) = p.data.toList :: bytesAll l from rfl, putL_cons, List.length_append, List.length_append, escL_length]
      have h5 : p.data.toList.count 0 ≤ p.data.toList.length := List.count_le_length
      rw [data_length] at *
      simp only [List.length_cons, List.length_nil]
      omega
  have := this l h1
  omega
end Go.Proofs.YtbecojmhjkhifaaDoor.K
