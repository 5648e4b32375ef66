/- Lemmas of this claim's own proof; conditions: as each states. -/
import Derived.Test.YtggcipjdhhnnkaaDoorHM
import Derived.Laws.RangeString
import Derived.Laws.RangeAny
import Derived.Test.YtggcipjdhhnnkaaDoorShelf
import Derived.Lib.IndexLaws
import Derived.Lib.IndexBytes
import Derived.BigQuiet
namespace Go.Proofs.YtggcipjdhhnnkaaDoor.K
set_option linter.unusedVariables false
set_option linter.unusedSimpArgs false
open Go.RowKit Go.Proofs.YtggcipjdhhnnkaaDoorW.PrintWords Go.Proofs.YtggcipjdhhnnkaaDoorW.PrintLast Go.Proofs.YtggcipjdhhnnkaaDoorW.PrintMore
def letterB (c : Int) : Bool := decide (97 ≤ c) && decide (c ≤ 122)
def digitB (c : Int) : Bool := decide (48 ≤ c) && decide (c ≤ 57)
def nameC (i : Nat) (c : Int) : Bool := letterB c || (decide (0 < i) && (digitB c || c == 95))
def idC (_ : Nat) (c : Int) : Bool := letterB c || digitB c || c == 95 || c == 45 || c == 46
def madeB (is : Nat → Int → Bool) (most : Nat) (s : ByteArray) : Bool := ((List.range s.size).all fun j => is j (bt s j)) && decide (1 ≤ s.size) && decide (s.size ≤ most)
theorem letter_any (c : Int) (w : World) : Calls Tryd.prog 47 #[.int .i32 c] w fun e w' => e = .returned (.bool (letterB c)) ∧ w' = w := by
  unfold letterB
  by_cases h1 : 97 ≤ c
  · have h2 : decide (c ≥ 97) = true := decide_eq_true h1
    have h3 : decide (97 ≤ c) = true := decide_eq_true h1
    rw [h3]
    clear h1
    go_enter Tryd.func47, Tryd.ntmps47
    go_wp2
    go_ret
    exact ⟨by simp, rfl⟩
  · have h2 : decide (c ≥ 97) = false := decide_eq_false h1
    have h3 : decide (97 ≤ c) = false := decide_eq_false h1
    rw [h3]
    clear h1
    go_enter Tryd.func47, Tryd.ntmps47
    go_wp2
    go_ret
    exact ⟨by simp, rfl⟩
theorem digit_any (c : Int) (w : World) : Calls Tryd.prog 48 #[.int .i32 c] w fun e w' => e = .returned (.bool (digitB c)) ∧ w' = w := by
  unfold digitB
  by_cases h1 : 48 ≤ c
  · have h2 : decide (c ≥ 48) = true := decide_eq_true h1
    have h3 : decide (48 ≤ c) = true := decide_eq_true h1
    rw [h3]
    clear h1
    go_enter Tryd.func48, Tryd.ntmps48
    go_wp2
    go_ret
    exact ⟨by simp, rfl⟩
  · have h2 : decide (c ≥ 48) = false := decide_eq_false h1
    have h3 : decide (48 ≤ c) = false := decide_eq_false h1
    rw [h3]
    clear h1
    go_enter Tryd.func48, Tryd.ntmps48
    go_wp2
    go_ret
    exact ⟨by simp, rfl⟩
theorem nameC_any (i : Nat) (c : Int) (w : World) : Calls Tryd.prog 46 #[.int .i64 i, .int .i32 c] w fun e w' => e = .returned (.bool (nameC i c)) ∧ w' = w := by
  unfold nameC
  rcases Bool.eq_false_or_eq_true (letterB c) with h1 | h1
  · rw [h1]
    go_enter Tryd.func46, Tryd.ntmps46
    go_wp2_with (first | (go_at_call 47; refine (letter_any _ _).mono ?_; rintro e w' ⟨rfl, rfl⟩) | (go_at_call 48; refine (digit_any _ _).mono ?_; rintro e w' ⟨rfl, rfl⟩))
    (try rw [h1])
    go_wp2_with (first | (go_at_call 47; refine (letter_any _ _).mono ?_; rintro e w' ⟨rfl, rfl⟩) | (go_at_call 48; refine (digit_any _ _).mono ?_; rintro e w' ⟨rfl, rfl⟩))
    go_ret
    exact ⟨by simp, rfl⟩
  · rw [h1]
    by_cases hi : 0 < i
    · have h2 : decide ((i : Int) > 0) = true := decide_eq_true (by omega)
      have h3 : decide (0 < i) = true := decide_eq_true hi
      rw [h3]
      clear hi
      rcases Bool.eq_false_or_eq_true (digitB c) with h4 | h4
      · rw [h4]
        go_enter Tryd.func46, Tryd.ntmps46
        go_wp2_with (first | (go_at_call 47; refine (letter_any _ _).mono ?_; rintro e w' ⟨rfl, rfl⟩) | (go_at_call 48; refine (digit_any _ _).mono ?_; rintro e w' ⟨rfl, rfl⟩))
        go_ret
        exact ⟨by simp, rfl⟩
      · rw [h4]
        go_enter Tryd.func46, Tryd.ntmps46
        go_wp2_with (first | (go_at_call 47; refine (letter_any _ _).mono ?_; rintro e w' ⟨rfl, rfl⟩) | (go_at_call 48; refine (digit_any _ _).mono ?_; rintro e w' ⟨rfl, rfl⟩))
        go_ret
        exact ⟨by simp, rfl⟩
    · have h2 : decide ((i : Int) > 0) = false := decide_eq_false (by omega)
      have h3 : decide (0 < i) = false := decide_eq_false hi
      rw [h3]
      clear hi
      go_enter Tryd.func46, Tryd.ntmps46
      go_wp2_with (first | (go_at_call 47; refine (letter_any _ _).mono ?_; rintro e w' ⟨rfl, rfl⟩) | (go_at_call 48; refine (digit_any _ _).mono ?_; rintro e w' ⟨rfl, rfl⟩))
      go_ret
      exact ⟨by simp, rfl⟩
theorem idC_any (i : Nat) (c : Int) (w : World) : Calls Tryd.prog 49 #[.int .i64 i, .int .i32 c] w fun e w' => e = .returned (.bool (idC i c)) ∧ w' = w := by
  unfold idC
  rcases Bool.eq_false_or_eq_true (letterB c) with h1 | h1
  · rw [h1]
    go_enter Tryd.func49, Tryd.ntmps49
    go_wp2_with (first | (go_at_call 47; refine (letter_any _ _).mono ?_; rintro e w' ⟨rfl, rfl⟩) | (go_at_call 48; refine (digit_any _ _).mono ?_; rintro e w' ⟨rfl, rfl⟩))
    go_ret
    exact ⟨by simp, rfl⟩
  · rw [h1]
    rcases Bool.eq_false_or_eq_true (digitB c) with h4 | h4
    · rw [h4]
      go_enter Tryd.func49, Tryd.ntmps49
      go_wp2_with (first | (go_at_call 47; refine (letter_any _ _).mono ?_; rintro e w' ⟨rfl, rfl⟩) | (go_at_call 48; refine (digit_any _ _).mono ?_; rintro e w' ⟨rfl, rfl⟩))
      go_ret
      exact ⟨by simp, rfl⟩
    · rw [h4]
      rcases Bool.eq_false_or_eq_true (c == 95) with h5 | h5
      · rw [h5]
        go_enter Tryd.func49, Tryd.ntmps49
        go_wp2_with (first | (go_at_call 47; refine (letter_any _ _).mono ?_; rintro e w' ⟨rfl, rfl⟩) | (go_at_call 48; refine (digit_any _ _).mono ?_; rintro e w' ⟨rfl, rfl⟩))
        go_ret
        exact ⟨by simp, rfl⟩
      · rw [h5]
        rcases Bool.eq_false_or_eq_true (c == 45) with h6 | h6
        · rw [h6]
          go_enter Tryd.func49, Tryd.ntmps49
          go_wp2_with (first | (go_at_call 47; refine (letter_any _ _).mono ?_; rintro e w' ⟨rfl, rfl⟩) | (go_at_call 48; refine (digit_any _ _).mono ?_; rintro e w' ⟨rfl, rfl⟩))
          go_ret
          exact ⟨by simp, rfl⟩
        · rw [h6]
          go_enter Tryd.func49, Tryd.ntmps49
          go_wp2_with (first | (go_at_call 47; refine (letter_any _ _).mono ?_; rintro e w' ⟨rfl, rfl⟩) | (go_at_call 48; refine (digit_any _ _).mono ?_; rintro e w' ⟨rfl, rfl⟩))
          go_ret
          exact ⟨by simp, rfl⟩
theorem tl_nil (s : ByteArray) : s.toList = ([] : List UInt8) ↔ s.size = 0 := by
  rw [ByteArray.toList_eq]; constructor
  · intro h; have := congrArg List.length h; simpa using this
  · intro h; exact List.eq_nil_of_length_eq_zero (by simpa using h)
theorem le_cast (a b : Nat) : decide ((a : Int) ≤ (b : Int)) = decide (a ≤ b) := by rw [decide_eq_decide]; omega
theorem high_letter (c : Int) (h : 128 ≤ c) : letterB c = false := by unfold letterB; rw [decide_eq_false (show ¬ c ≤ 122 by omega)]; simp
theorem high_digit (c : Int) (h : 128 ≤ c) : digitB c = false := by unfold digitB; rw [decide_eq_false (show ¬ c ≤ 57 by omega)]; simp
theorem high_nameC (i : Nat) (c : Int) (h : 128 ≤ c) : nameC i c = false := by
  unfold nameC; rw [high_letter c h, high_digit c h]; have : ¬ c = 95 := by omega
  simp [this]
theorem high_idC (i : Nat) (c : Int) (h : 128 ≤ c) : idC i c = false := by
  unfold idC; rw [high_letter c h, high_digit c h]; have h1 : ¬ c = 95 := by omega
  have h2 : ¬ c = 45 := by omega
  have h3 : ¬ c = 46 := by omega
  simp [h1, h2, h3]
theorem iter_below (w : World) (s : ByteArray) (p : Nat) : Below w.heap.size w (w.iter s p) := (Below.refl w.heap.size w).alloc (Nat.le_refl _) _
theorem btn_at (s : ByteArray) (p : Nat) (h : p < s.size) : bt s p = ((s[p]'h).toNat : Int) := by unfold bt; simp [h]
theorem made_stops (is : Nat → Int → Bool) (m : Nat) (s : ByteArray) (p : Nat) (h : p < s.size) (hf : is p (bt s p) = false) : madeB is m s = false := by
  unfold madeB
  have : ((List.range s.size).all fun j => is j (bt s j)) = false := by
    rw [← Bool.not_eq_true]; intro ht
    rw [List.all_eq_true] at ht
    have := ht p (List.mem_range.mpr h)
    rw [hf] at this; exact absurd this (by simp)
  rw [this]; simp
theorem made_all (is : Nat → Int → Bool) (m : Nat) (s : ByteArray) (h : ∀ j, j < s.size → is j (bt s j) = true) : madeB is m s = (decide (1 ≤ s.size) && decide (s.size ≤ m)) := by
  unfold madeB
  have : ((List.range s.size).all fun j => is j (bt s j)) = true := by
    rw [List.all_eq_true]; intro j hj
    exact h j (List.mem_range.mp hj)
  rw [this]; simp
set_option maxHeartbeats 1000000 in
set_option maxRecDepth 1000000 in
theorem made_Name (s : ByteArray) (w : World) : Calls Tryd.prog 45 #[.string s, .int .i64 12, .func (.func 46) #[] #[]] w fun e w' => e = .returned (.bool (madeB nameC 12 s)) ∧ Below w.heap.size w w' := by
  go_enter Tryd.func45, Tryd.ntmps45
  go_wp2
  go_loopw [6] (fun n w' => ∃ (pos : Nat), w' = w.iter s pos ∧ n = .bool false ∧ pos ≤ s.size ∧ (∀ j, j < pos → nameC j (bt s j) = true)) (fun _ w' => s.size - w'.iterPos w.heap.size)
  case atStart => exact ⟨0, rfl, rfl, by omega, by omega⟩
  case round =>
    obtain ⟨pos, rfl, rfl, hb, hall⟩ := hrel
    by_cases hp : pos < s.size
    · by_cases ha : (s[pos]'hp).toNat < 128
      · have hnx : ∀ ty, (Instr.next (.pointer (some ⟨w.heap.size, 0, none⟩)) true ty).run Tryd.prog (w.iter s pos) = _ := fun ty => run_next_ascii w s pos ty hp ha
        rcases Bool.eq_false_or_eq_true (nameC pos (s[pos]'hp).toNat) with hc | hc
        · go_wp2_with (first | (go_at_call 46; refine (nameC_any _ _ _).mono ?_; rintro e w' ⟨rfl, rfl⟩))
          (try rw [hc])
          go_wp2_with (first | (go_at_call 46; refine (nameC_any _ _ _).mono ?_; rintro e w' ⟨rfl, rfl⟩))
          go_roundw
          case rel =>
            refine ⟨pos + 1, rfl, rfl, by omega, ?_⟩
            intro j hj
            by_cases h' : j = pos
            · subst h'; rw [btn_at s j hp]; exact hc
            · exact hall j (by omega)
          case measure => simp; omega
        · go_wp2_with (first | (go_at_call 46; refine (nameC_any _ _ _).mono ?_; rintro e w' ⟨rfl, rfl⟩))
          (try rw [hc])
          go_wp2_with (first | (go_at_call 46; refine (nameC_any _ _ _).mono ?_; rintro e w' ⟨rfl, rfl⟩))
          go_ret
          rw [made_stops nameC 12 s pos hp (by rw [btn_at s pos hp]; exact hc)]
          exact ⟨rfl, iter_below w s _⟩
      · have hnx : ∀ ty, (Instr.next (.pointer (some ⟨w.heap.size, 0, none⟩)) true ty).run Tryd.prog (w.iter s pos) = _ := fun ty => run_next_any w s pos ty hp
        have hc : nameC pos ((Utf8.decode s pos).1 : Nat) = false := high_nameC _ _ (by have := (decode_high s pos hp (by omega)).1; omega)
        go_wp2_with (first | (go_at_call 46; refine (nameC_any _ _ _).mono ?_; rintro e w' ⟨rfl, rfl⟩))
        (try rw [hc])
        go_wp2_with (first | (go_at_call 46; refine (nameC_any _ _ _).mono ?_; rintro e w' ⟨rfl, rfl⟩))
        go_ret
        rw [made_stops nameC 12 s pos hp (by rw [btn_at s pos hp]; exact high_nameC _ _ (by omega))]
        exact ⟨rfl, iter_below w s _⟩
    · have hnx : ∀ ty, (Instr.next (.pointer (some ⟨w.heap.size, 0, none⟩)) true ty).run Tryd.prog (w.iter s pos) = _ := fun ty => run_next_end w s pos ty hp
      have hm := made_all nameC 12 s (fun j hj => hall j (by omega))
      by_cases he : s.toList = ([] : List UInt8)
      · have h1 : (s.toList != ([] : List UInt8)) = false := bne_eq_false_iff_eq.mpr he
        have h2 : (s.toList == ([] : List UInt8)) = true := beq_iff_eq.mpr he
        have hz : decide (1 ≤ s.size) = false := decide_eq_false (by have h0 := (tl_nil s).mp he; omega)
        rw [hz] at hm
        clear he
        go_wp2
        go_ret
        rw [hm]
        exact ⟨by have := le_cast s.size 12; simp at this; simp [this], iter_below w s _⟩
      · have h1 : (s.toList != ([] : List UInt8)) = true := bne_iff_ne.mpr he
        have h2 : (s.toList == ([] : List UInt8)) = false := beq_eq_false_iff_ne.mpr he
        have hz : decide (1 ≤ s.size) = true := decide_eq_true (by have h0 := mt (tl_nil s).mpr he; omega)
        rw [hz] at hm
        clear he
        go_wp2
        go_ret
        rw [hm]
        exact ⟨by have := le_cast s.size 12; simp at this; simp [this], iter_below w s _⟩
def tuple_Name.f (a0 : ByteArray) : Option Bool := some (madeB nameC 12 a0)
theorem tuple_Name.calls (a0 : ByteArray) (r : Bool) (w : World) (h : tuple_Name.f a0 = some r) :
    Calls Tryd.prog 28 #[.string a0] w fun e w' => e = .returned (.bool r) ∧ Below w.heap.size w w' := by
  obtain rfl := Option.some.inj h
  go_enter Tryd.func28, Tryd.ntmps28
  go_wp2_with (go_at_call 45; refine (made_Name _ _).mono ?_; rintro e w' ⟨rfl, hb⟩)
  go_ret
  exact ⟨rfl, hb⟩
set_option maxHeartbeats 1000000 in
set_option maxRecDepth 1000000 in
theorem made_ID (s : ByteArray) (w : World) : Calls Tryd.prog 45 #[.string s, .int .i64 16, .func (.func 49) #[] #[]] w fun e w' => e = .returned (.bool (madeB idC 16 s)) ∧ Below w.heap.size w w' := by
  go_enter Tryd.func45, Tryd.ntmps45
  go_wp2
  go_loopw [6] (fun n w' => ∃ (pos : Nat), w' = w.iter s pos ∧ n = .bool false ∧ pos ≤ s.size ∧ (∀ j, j < pos → idC j (bt s j) = true)) (fun _ w' => s.size - w'.iterPos w.heap.size)
  case atStart => exact ⟨0, rfl, rfl, by omega, by omega⟩
  case round =>
    obtain ⟨pos, rfl, rfl, hb, hall⟩ := hrel
    by_cases hp : pos < s.size
    · by_cases ha : (s[pos]'hp).toNat < 128
      · have hnx : ∀ ty, (Instr.next (.pointer (some ⟨w.heap.size, 0, none⟩)) true ty).run Tryd.prog (w.iter s pos) = _ := fun ty => run_next_ascii w s pos ty hp ha
        rcases Bool.eq_false_or_eq_true (idC pos (s[pos]'hp).toNat) with hc | hc
        · go_wp2_with (first | (go_at_call 49; refine (idC_any _ _ _).mono ?_; rintro e w' ⟨rfl, rfl⟩))
          (try rw [hc])
          go_wp2_with (first | (go_at_call 49; refine (idC_any _ _ _).mono ?_; rintro e w' ⟨rfl, rfl⟩))
          go_roundw
          case rel =>
            refine ⟨pos + 1, rfl, rfl, by omega, ?_⟩
            intro j hj
            by_cases h' : j = pos
            · subst h'; rw [btn_at s j hp]; exact hc
            · exact hall j (by omega)
          case measure => simp; omega
        · go_wp2_with (first | (go_at_call 49; refine (idC_any _ _ _).mono ?_; rintro e w' ⟨rfl, rfl⟩))
          (try rw [hc])
          go_wp2_with (first | (go_at_call 49; refine (idC_any _ _ _).mono ?_; rintro e w' ⟨rfl, rfl⟩))
          go_ret
          rw [made_stops idC 16 s pos hp (by rw [btn_at s pos hp]; exact hc)]
          exact ⟨rfl, iter_below w s _⟩
      · have hnx : ∀ ty, (Instr.next (.pointer (some ⟨w.heap.size, 0, none⟩)) true ty).run Tryd.prog (w.iter s pos) = _ := fun ty => run_next_any w s pos ty hp
        have hc : idC pos ((Utf8.decode s pos).1 : Nat) = false := high_idC _ _ (by have := (decode_high s pos hp (by omega)).1; omega)
        go_wp2_with (first | (go_at_call 49; refine (idC_any _ _ _).mono ?_; rintro e w' ⟨rfl, rfl⟩))
        (try rw [hc])
        go_wp2_with (first | (go_at_call 49; refine (idC_any _ _ _).mono ?_; rintro e w' ⟨rfl, rfl⟩))
        go_ret
        rw [made_stops idC 16 s pos hp (by rw [btn_at s pos hp]; exact high_idC _ _ (by omega))]
        exact ⟨rfl, iter_below w s _⟩
    · have hnx : ∀ ty, (Instr.next (.pointer (some ⟨w.heap.size, 0, none⟩)) true ty).run Tryd.prog (w.iter s pos) = _ := fun ty => run_next_end w s pos ty hp
      have hm := made_all idC 16 s (fun j hj => hall j (by omega))
      by_cases he : s.toList = ([] : List UInt8)
      · have h1 : (s.toList != ([] : List UInt8)) = false := bne_eq_false_iff_eq.mpr he
        have h2 : (s.toList == ([] : List UInt8)) = true := beq_iff_eq.mpr he
        have hz : decide (1 ≤ s.size) = false := decide_eq_false (by have h0 := (tl_nil s).mp he; omega)
        rw [hz] at hm
        clear he
        go_wp2
        go_ret
        rw [hm]
        exact ⟨by have := le_cast s.size 16; simp at this; simp [this], iter_below w s _⟩
      · have h1 : (s.toList != ([] : List UInt8)) = true := bne_iff_ne.mpr he
        have h2 : (s.toList == ([] : List UInt8)) = false := beq_eq_false_iff_ne.mpr he
        have hz : decide (1 ≤ s.size) = true := decide_eq_true (by have h0 := mt (tl_nil s).mpr he; omega)
        rw [hz] at hm
        clear he
        go_wp2
        go_ret
        rw [hm]
        exact ⟨by have := le_cast s.size 16; simp at this; simp [this], iter_below w s _⟩
def tuple_ID.f (a0 : ByteArray) : Option Bool := some (madeB idC 16 a0)
theorem tuple_ID.calls (a0 : ByteArray) (r : Bool) (w : World) (h : tuple_ID.f a0 = some r) :
    Calls Tryd.prog 30 #[.string a0] w fun e w' => e = .returned (.bool r) ∧ Below w.heap.size w w' := by
  obtain rfl := Option.some.inj h
  go_enter Tryd.func30, Tryd.ntmps30
  go_wp2_with (go_at_call 45; refine (made_ID _ _).mono ?_; rintro e w' ⟨rfl, hb⟩)
  go_ret
  exact ⟨rfl, hb⟩

def cutAt (s : ByteArray) (i : Int) : ByteArray × ByteArray × Bool :=
  if 0 ≤ i then (s.extract 0 i.toNat, s.extract (i.toNat + 1) s.size, true) else (s, ⟨#[]⟩, false)
def strings_Cut.f (a0 : ByteArray) (a1 : ByteArray) : Option (ByteArray × ByteArray × Bool) :=
  if a0.size ≤ 1099511627776 then match a1.data.toList with
  | [c] => some (cutAt a0 (Lib.indexByte a0.data.toList c))
  | _ => none else none
theorem cut_found (s : ByteArray) (c : UInt8) (w : World) (j : Nat) (hj : Lib.indexByte s.data.toList c = j) (hlt : j < s.size) (hs : s.size ≤ 1099511627776) :
    Calls Tryd.prog 55 #[.string s, .string ⟨#[c]⟩] w fun e w' => e = .returned (.tuple #[.string (s.extract 0 j), .string (s.extract (j + 1) s.size), .bool true]) ∧ Drawn0 w w' := by
  have c1 : (j : Int) ≤ (s.size : Int) := by omega
  have c2 : (0 : Int) ≤ (j : Int) := by omega
  have c3 : (j : Int) + 1 ≤ (s.size : Int) := by omega
  have c4 : (0 : Int) ≤ (j : Int) + 1 := by omega
  have HJ := Lib.hid hj
  clear hj
  go_enter Tryd.func55, Tryd.ntmps55
  go_wp2_with (first | (go_at_call 59; refine (Tryd.stringslite_Index_one _ _ _).mono ?_; rintro e w' ⟨rfl, hw⟩; rw [hw, HJ.out]))
  have hw1 : wrap64 ((j : Int) + 1) = (j : Int) + 1 := by unfold wrap64; omega
  go_quiet (fail)
  go_wp2
  go_ret3
  exact ⟨rfl, (Drawn0.refl _).step _⟩
theorem cut_none (s : ByteArray) (c : UInt8) (w : World) (hj : Lib.indexByte s.data.toList c = -1) :
    Calls Tryd.prog 55 #[.string s, .string ⟨#[c]⟩] w fun e w' => e = .returned (.tuple #[.string s, .string ⟨#[]⟩, .bool false]) ∧ Drawn0 w w' := by
  have HJ := Lib.hid hj
  clear hj
  go_enter Tryd.func55, Tryd.ntmps55
  go_wp2_with (first | (go_at_call 59; refine (Tryd.stringslite_Index_one _ _ _).mono ?_; rintro e w' ⟨rfl, hw⟩; rw [hw, HJ.out]))
  go_ret3
  exact ⟨rfl, Drawn0.refl _⟩
theorem cut_any (s : ByteArray) (c : UInt8) (w : World) (hs : s.size ≤ 1099511627776) :
    Calls Tryd.prog 55 #[.string s, .string ⟨#[c]⟩] w fun e w' => e = .returned (.tuple #[.string (cutAt s (Lib.indexByte s.data.toList c)).1, .string (cutAt s (Lib.indexByte s.data.toList c)).2.1, .bool (cutAt s (Lib.indexByte s.data.toList c)).2.2]) ∧ Drawn0 w w' := by
  have hge := Lib.indexByte_ge s.data.toList c
  by_cases h : Lib.indexByte s.data.toList c = -1
  · rw [h]; exact cut_none s c w h
  · obtain ⟨j, hj⟩ : ∃ j : Nat, Lib.indexByte s.data.toList c = j := ⟨(Lib.indexByte s.data.toList c).toNat, by omega⟩
    have hlt : j < s.size := by
      have := (Lib.indexByte_some hj).1
      rw [List.getElem?_eq_some_iff] at this
      obtain ⟨hl, _⟩ := this
      simpa using hl
    have hc : cutAt s (j : Int) = (s.extract 0 j, s.extract (j + 1) s.size, true) := by
      unfold cutAt; rw [if_pos (by omega)]; simp
    rw [hj, hc]
    exact cut_found s c w j hj hlt hs
theorem strings_Cut.calls (a0 : ByteArray) (a1 : ByteArray) (r1 : ByteArray) (r2 : ByteArray) (r3 : Bool) (w : World) (h : strings_Cut.f a0 a1 = some (r1, r2, r3)) :
    Calls Tryd.prog 43 #[.string a0, .string a1] w fun e w' => e = .returned (.tuple #[.string r1, .string r2, .bool r3]) ∧ Drawn0 w w' := by
  unfold strings_Cut.f at h
  by_cases hs : a0.size ≤ 1099511627776
  rotate_left
  · rw [if_neg hs] at h; exact absurd h (by simp)
  rw [if_pos hs] at h
  split at h
  · rename_i c hc
    obtain rfl : a1 = ⟨#[c]⟩ := by
      rcases a1 with ⟨⟨l⟩⟩
      have : l = [c] := hc
      rw [this]
    have h := Option.some.inj h
    have h1 : r1 = (cutAt a0 (Lib.indexByte a0.data.toList c)).1 := by rw [h]
    have h2 : r2 = (cutAt a0 (Lib.indexByte a0.data.toList c)).2.1 := by rw [h]
    have h3 : r3 = (cutAt a0 (Lib.indexByte a0.data.toList c)).2.2 := by rw [h]
    subst h1 h2 h3
    clear h hc
    go_enter Tryd.func43, Tryd.ntmps43
    go_wp2_with (go_at_call 55; refine (cut_any _ _ _ hs).mono ?_; rintro e w' ⟨rfl, hb⟩)
    go_ret3
    exact ⟨rfl, hb⟩
  · exact absurd h (by simp)
end Go.Proofs.YtggcipjdhhnnkaaDoor.K
