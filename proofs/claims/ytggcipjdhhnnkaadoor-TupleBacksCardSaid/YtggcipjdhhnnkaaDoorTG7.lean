/- Orders of tuples, as plain functions; conditions: as each states. -/
import Derived.Test.YtggcipjdhhnnkaaDoorTG6
import Derived.Test.YtggcipjdhhnnkaaDoorTG3
import Derived.Test.YtggcipjdhhnnkaaDoorPMe
namespace Go.Proofs.YtggcipjdhhnnkaaDoor.K
set_option linter.unusedVariables false
set_option linter.unusedSimpArgs false
open Go.RowKit Go.Proofs.YtggcipjdhhnnkaaDoorW.PrintWords Go.Proofs.YtggcipjdhhnnkaaDoorW.PrintLast Go.Proofs.YtggcipjdhhnnkaaDoorW.PrintMore
open Go.Proofs.YtggcipjdhhnnkaaDoor.PL


theorem bytesAll_cons (p : ByteArray) (l : List ByteArray) : bytesAll (p :: l) = p.data.toList :: bytesAll l := rfl
theorem lessL_same (x : List UInt8) (a b : List (List UInt8)) : lessL (x :: a) (x :: b) = lessL a b := by
  conv => lhs; unfold lessL
  rw [if_pos rfl]
def TupLess (a0 b0 c0 d0 e0 f0 a1 b1 c1 d1 e1 f1 : ByteArray) : Bool := lessL (bytesAll [a0, b0, c0, d0, e0, f0]) (bytesAll [a1, b1, c1, d1, e1, f1])
theorem six_beq (a0 b0 c0 d0 e0 f0 a1 b1 c1 d1 e1 f1 : ByteArray) : (!(a0.toList == a1.toList) || (!(b0.toList == b1.toList) || (!(c0.toList == c1.toList) || (!(d0.toList == d1.toList) || (!(e0.toList == e1.toList) || !(f0.toList == f1.toList)))))) = true ↔
    ¬ (a0 = a1 ∧ b0 = b1 ∧ c0 = c1 ∧ d0 = d1 ∧ e0 = e1 ∧ f0 = f1) := by
  rw [← six_iff]
  cases a0.toList == a1.toList <;> cases b0.toList == b1.toList <;> cases c0.toList == c1.toList <;> cases d0.toList == d1.toList <;> cases e0.toList == e1.toList <;> cases f0.toList == f1.toList <;> simp
theorem tless_ev (a0 b0 c0 d0 e0 f0 a1 b1 c1 d1 e1 f1 : ByteArray) : Ev (fun k => tuple_Less.f k a0 b0 c0 d0 e0 f0 a1 b1 c1 d1 e1 f1) (TupLess a0 b0 c0 d0 e0 f0 a1 b1 c1 d1 e1 f1) := by
  unfold tuple_Less.f
  by_cases h : (a0 = a1 ∧ b0 = b1 ∧ c0 = c1 ∧ d0 = d1 ∧ e0 = e1 ∧ f0 = f1)
  · have h2 := mt (six_beq a0 b0 c0 d0 e0 f0 a1 b1 c1 d1 e1 f1).1 (fun e => e h)
    simp only [h2, if_false]
    obtain ⟨rfl, rfl, rfl, rfl, rfl, rfl⟩ := h
    unfold TupLess
    rw [lessL_irrefl]
    exact Ev.now _
  · have h2 := (six_beq a0 b0 c0 d0 e0 f0 a1 b1 c1 d1 e1 f1).2 h
    simp only [h2, if_true, tuple_parts.f, Option.bind_some]
    exact Ev.bind (less_ev [a0, b0, c0, d0, e0, f0] [a1, b1, c1, d1, e1, f1] (by simp) (by simp)) (Ev.now _)
theorem small_of {l : List ByteArray} (h : ∀ p ∈ l, p.size ≤ 300) : ∀ p ∈ l, p.size ≤ 1099511627776 := fun p hp => by have := h p hp; omega
theorem rless_six (a0 b0 c0 d0 e0 f0 a1 b1 c1 d1 e1 f1 : ByteArray) (h0 : ∀ p ∈ ([a0, b0, c0, d0, e0, f0] : List ByteArray), p.size ≤ 300) (h1 : ∀ p ∈ ([a1, b1, c1, d1, e1, f1] : List ByteArray), p.size ≤ 300) : Ev (fun k => lunetteref11_Less.f k a0 b0 c0 d0 e0 f0 a1 b1 c1 d1 e1 f1) (TupLess a0 b0 c0 d0 e0 f0 a1 b1 c1 d1 e1 f1) := by
  unfold lunetteref11_Less.f
  simp only [lunetteref11_Parts.f, Option.bind_some]
  exact Ev.bind (rless_ev [a0, b0, c0, d0, e0, f0] [a1, b1, c1, d1, e1, f1] (by simp) (by simp) (small_of h0) (small_of h1)) (Ev.now _)
theorem keys_below {a0 b0 c0 d0 e0 f0 a1 b1 c1 d1 e1 f1 : ByteArray} (h0 : chkP a0 b0 c0 d0 e0 f0 = true) (h1 : chkP a1 b1 c1 d1 e1 f1 = true) : Ev (fun k => lunetteref01_Below.f k (keyOf a0 b0 c0 d0 e0 f0) (keyOf a1 b1 c1 d1 e1 f1)) (TupLess a0 b0 c0 d0 e0 f0 a1 b1 c1 d1 e1 f1) := by
  have s0 := (key_size h0).1
  have s1 := (key_size h1).1
  have := below_ev (keyOf a0 b0 c0 d0 e0 f0) (keyOf a1 b1 c1 d1 e1 f1) (by unfold keyOf; rw [mk_size]; omega) (by unfold keyOf; rw [mk_size]; omega)
  have e : lt (keyOf a0 b0 c0 d0 e0 f0).data.toList (keyOf a1 b1 c1 d1 e1 f1).data.toList = TupLess a0 b0 c0 d0 e0 f0 a1 b1 c1 d1 e1 f1 := by
    unfold keyOf TupLess
    rw [mk_data, mk_data, put_order, bytesAll_cons fPart, bytesAll_cons fPart, lessL_same]
  rw [e] at this
  exact this
theorem backs_below {a0 b0 c0 d0 e0 f0 a1 b1 c1 d1 e1 f1 : ByteArray} (h0 : chkP a0 b0 c0 d0 e0 f0 = true) (h1 : chkP a1 b1 c1 d1 e1 f1 = true) :
    Ev (fun k => lunetteref01_Below.f k (backOf a0 b0 c0 d0 e0 f0) (backOf a1 b1 c1 d1 e1 f1)) (lessL (bytesAll [d0, e0, f0, a0, b0, c0]) (bytesAll [d1, e1, f1, a1, b1, c1])) := by
  have s0 := key_size h0
  have s1 := key_size h1
  have := below_ev (backOf a0 b0 c0 d0 e0 f0) (backOf a1 b1 c1 d1 e1 f1) (by unfold backOf; rw [mk_size]; omega) (by unfold backOf; rw [mk_size]; omega)
  have e : lt (backOf a0 b0 c0 d0 e0 f0).data.toList (backOf a1 b1 c1 d1 e1 f1).data.toList = lessL (bytesAll [d0, e0, f0, a0, b0, c0]) (bytesAll [d1, e1, f1, a1, b1, c1]) := by
    unfold backOf
    rw [mk_data, mk_data, put_order, bytesAll_cons rPart, bytesAll_cons rPart, lessL_same]
  rw [e] at this
  exact this
theorem back_inj (a0 b0 c0 d0 e0 f0 a1 b1 c1 d1 e1 f1 : ByteArray) (h : putL (bytesAll [rPart, d0, e0, f0, a0, b0, c0]) = putL (bytesAll [rPart, d1, e1, f1, a1, b1, c1])) : a0 = a1 ∧ b0 = b1 ∧ c0 = c1 ∧ d0 = d1 ∧ e0 = e1 ∧ f0 = f1 := by
  have := bytesAll_inj (put_inj h)
  simp only [List.cons.injEq, and_true, true_and] at this
  obtain ⟨rfl, rfl, rfl, rfl, rfl, rfl⟩ := this
  exact ⟨rfl, rfl, rfl, rfl, rfl, rfl⟩
theorem few_all {l : List ByteArray} (h : fewB l = true) : ∀ p ∈ l, p.size ≤ 300 := by
  unfold fewB at h
  rw [List.all_eq_true] at h
  exact fun p hp => of_decide_eq_true (h p hp)
end Go.Proofs.YtggcipjdhhnnkaaDoor.K
