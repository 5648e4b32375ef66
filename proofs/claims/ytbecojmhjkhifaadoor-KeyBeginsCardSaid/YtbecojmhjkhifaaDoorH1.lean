import Derived.Test.YtbecojmhjkhifaaDoorProg
import Derived.Test.YtbecojmhjkhifaaDoorWMore
import Derived.WalkLawsBesides
import Derived.OneCell
import Derived.Lib.Hide
import Derived.Outline
namespace Go.Proofs.YtbecojmhjkhifaaDoor.K
open Go.RowKit Go.Proofs.YtbecojmhjkhifaaDoorW.PrintWords Go.Proofs.YtbecojmhjkhifaaDoorW.PrintLast Go.Proofs.YtbecojmhjkhifaaDoorW.PrintMore

def cmpB (a b : List UInt8) : Int := if Op.bytesLess a b = true then -1 else if (Op.bytesLess a b || a == b) = true then 0 else 1
def cmp_Compare_string.f (a0 : ByteArray) (a1 : ByteArray) : Option Int := some (cmpB a0.toList a1.toList)
theorem isnan_any (a : ByteArray) (w : World) : Calls Tryd.prog 42 #[.string a] w fun e w' => e = .returned (.bool false) ∧ w = w' := by
  go_enter Tryd.func42, Tryd.ntmps42
  go_wp2
  go_ret
  exact ⟨by simp, rfl⟩
theorem cmp_Compare_string.calls (a0 : ByteArray) (a1 : ByteArray) (r : Int) (w : World) (h : cmp_Compare_string.f a0 a1 = some r) :
    Calls Tryd.prog 36 #[.string a0, .string a1] w fun e w' => e = .returned (.int .i64 r) ∧ Drawn0 w w' := by
  obtain rfl := Option.some.inj h
  by_cases h1 : Op.bytesLess a0.toList a1.toList = true
  · have hr : cmpB a0.toList a1.toList = -1 := by unfold cmpB; rw [if_pos h1]
    rw [hr]; clear hr h
    go_enter Tryd.func36, Tryd.ntmps36
    go_wp2_with (go_at_call 42; refine (isnan_any _ _).mono ?_; rintro e w' ⟨rfl, rfl⟩)
    go_ret
    exact ⟨rfl, Drawn0.refl _⟩
  · have h1' : Op.bytesLess a0.toList a1.toList = false := by simpa using h1
    by_cases h2 : (Op.bytesLess a0.toList a1.toList || a0.toList == a1.toList) = true
    · have hr : cmpB a0.toList a1.toList = 0 := by unfold cmpB; rw [if_neg h1, if_pos h2]
      rw [hr]; clear hr h h1
      have h3 : (a0.toList == a1.toList) = true := by simpa [h1'] using h2
      clear h2
      go_enter Tryd.func36, Tryd.ntmps36
      go_wp2_with (go_at_call 42; refine (isnan_any _ _).mono ?_; rintro e w' ⟨rfl, rfl⟩)
      go_ret
      exact ⟨rfl, Drawn0.refl _⟩
    · have hr : cmpB a0.toList a1.toList = 1 := by unfold cmpB; rw [if_neg h1, if_neg h2]
      rw [hr]; clear hr h h1
      have h3 : (a0.toList == a1.toList) = false := by simpa [h1'] using h2
      clear h2
      go_enter Tryd.func36, Tryd.ntmps36
      go_wp2_with (go_at_call 42; refine (isnan_any _ _).mono ?_; rintro e w' ⟨rfl, rfl⟩)
      go_ret
      exact ⟨rfl, Drawn0.refl _⟩

theorem alloc_new (w : World) (o : Obj) : (w.alloc o).heap[w.heap.size]? = some o := by show (w.heap.push o)[w.heap.size]? = some o; simp
/-- Only one block has been written. -/
structure Turn (w w' : World) (g : Nat) : Prop where
  os : w'.os = w.os
  tape : w'.tape = w.tape
  output : w'.output = w.output
  size : w'.heap.size = w.heap.size
  block : ∀ k, k ≠ g → w'.heap[k]? = w.heap[k]?
theorem Turn.refl (w : World) (g : Nat) : Turn w w g := ⟨rfl, rfl, rfl, rfl, fun _ _ => rfl⟩
theorem Turn.setCell (w : World) (a : Addr) (u : Value) : Turn w (w.setCell a u) a.block := ⟨rfl, rfl, rfl, by simp [World.setCell], fun k hk => Below.heap_setCell w a u k hk⟩
theorem Turn.below {w w' : World} {g B : Nat} (h : Turn w w' g) (hB : B ≤ g) : Below B w w' := ⟨h.os, h.tape, h.output, by rw [h.size]; exact Nat.le_refl _, fun k hk => h.block k (by omega)⟩
theorem Turn.keep {w w' : World} {g : Nat} (h : Turn w w' g) : KeepBut w w' g none := ⟨by rw [h.size]; exact Nat.le_refl _, fun k _ hk _ => h.block k hk⟩

def okB (s : ByteArray) (j : Nat) : Bool := decide (j < s.size)
def chB (s : ByteArray) (j : Nat) : Int := if j < s.size then bt s j else 0
def nx (s : ByteArray) (j : Nat) : Nat := if j < s.size then j + 1 else j
def cellI (w : World) (g : Nat) (i : Nat) : Prop := w.heap[g]? = some (.cells #[.int .i64 (i : Int)] 3 (0, 0))
def cellS (w : World) (g : Nat) (s : ByteArray) : Prop := w.heap[g]? = some (.cells #[.string s] 9 (0, 0))

theorem ret_byte {a b : Int} {x : Bool} (h : a = b) : Ending.returned (.tuple #[.int .u8 a, .bool x]) = Ending.returned (.tuple #[.int .u8 b, .bool x]) := by rw [h]
theorem next_any (s : ByteArray) (j bi bs : Nat) (w : World) (hi : cellI w bi j) (hs : cellS w bs s) (hne : bs ≠ bi) (hj : j ≤ s.size) (hsz : s.size ≤ 140737488355328) :
    Calls Tryd.prog 31 #[.pointer (some ⟨bi, 0, none⟩), .pointer (some ⟨bs, 0, none⟩)] w fun e w' => e = .returned (.tuple #[.int .u8 (chB s j), .bool (okB s j)]) ∧ Aside0 (cellI w' bi (nx s j) ∧ Turn w w' bi) := by
  by_cases hlt : j < s.size
  · have c1 := cell_of_one hi
    have f1 := free_of_one hi
    have c2 := cell_of_one hs
    have e1 : okB s j = true := decide_eq_true hlt
    have e2 : chB s j = ((s[j]).toNat : Int) := by unfold chB bt; rw [if_pos hlt]; simp [hlt]
    have e3 : nx s j = j + 1 := if_pos hlt
    rw [e1, e3]
    have E2 := Lib.hid e2
    have HI := Lib.hid hi
    clear hi hs e1 e2 e3
    go_enter Tryd.func31, Tryd.ntmps31
    go_wp2
    go_ret2
    refine ⟨ret_byte E2.out.symm, ⟨?_, Turn.setCell _ _ _⟩⟩
    have := one_setCell (u := .int .i64 ((j + 1 : Nat) : Int)) HI.out
    simpa [cellI] using this
  · have c1 := cell_of_one hi
    have c2 := cell_of_one hs
    have e1 : okB s j = false := decide_eq_false hlt
    have e2 : chB s j = 0 := if_neg hlt
    have e3 : nx s j = j := if_neg hlt
    rw [e1, e2, e3]
    have HI := Lib.hid hi
    have hge : s.size ≤ j := by omega
    clear hi hs e1 e2 e3
    go_enter Tryd.func31, Tryd.ntmps31
    go_wp2
    go_ret2
    exact ⟨rfl, HI.out, Turn.refl _ _⟩
end Go.Proofs.YtbecojmhjkhifaaDoor.K
