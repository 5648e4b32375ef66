/- Few, and when two tuples are the same; conditions: as each states. -/
import Derived.Test.YtggcipjdhhnnkaaDoorTG4
import Derived.Test.YtggcipjdhhnnkaaDoorP22
import Derived.Test.YtggcipjdhhnnkaaDoorAW
namespace Go.Proofs.YtggcipjdhhnnkaaDoor.K
set_option linter.unusedVariables false
set_option linter.unusedSimpArgs false
open Go.RowKit Go.Proofs.YtggcipjdhhnnkaaDoorW.PrintWords Go.Proofs.YtggcipjdhhnnkaaDoorW.PrintLast Go.Proofs.YtggcipjdhhnnkaaDoorW.PrintMore
open Go.Proofs.YtggcipjdhhnnkaaDoor.PL


theorem nilB : (⟨#[]⟩ : ByteArray).toList = ([] : List UInt8) := (tl_nil _).2 rfl
def fewB (l : List ByteArray) : Bool := l.all fun p => decide (p.size ≤ 300)
theorem few_l (l : List ByteArray) (hl : l.length ≤ 1099511627776) (d : Nat) : ∀ (i : Nat), i ≤ l.length → l.length - i = d →
    Ev (fun k => lunettelaw11_few.l0 k l (i : Int)) ((l.drop i).all fun p => decide (p.size ≤ 300)) := by
  induction d with
  | zero =>
    intro i hi hd
    refine Ev.step (f := fun _ => some _) (fun k => ?_) (Ev.now _)
    show lunettelaw11_few.l0 (k + 1) l (i : Int) = _
    simp only [lunettelaw11_few.l0]
    rw [if_neg (by omega), List.drop_of_length_le (by omega)]
    rfl
  | succ d ih =>
    intro i hi hd
    have hlt : i < l.length := by omega
    rw [List.drop_eq_getElem_cons hlt, List.all_cons]
    by_cases h : l[i].size ≤ 300
    · refine Ev.step (f := fun k => lunettelaw11_few.l0 k l ((i + 1 : Nat) : Int)) (fun k => ?_) ?_
      · show lunettelaw11_few.l0 (k + 1) l (i : Int) = _
        simp only [lunettelaw11_few.l0]
        rw [if_pos (by omega), if_pos (by omega), rd_at hlt, if_neg (by omega), w64 (by omega) (by omega)]
        rfl
      · rw [decide_eq_true h, Bool.true_and]; exact ih (i + 1) (by omega) (by omega)
    · refine Ev.step (f := fun _ => some false) (fun k => ?_) ?_
      · show lunettelaw11_few.l0 (k + 1) l (i : Int) = _
        simp only [lunettelaw11_few.l0]
        rw [if_pos (by omega), if_pos (by omega), rd_at hlt, if_pos (by omega)]
      · rw [decide_eq_false h, Bool.false_and]; exact Ev.now _
theorem few_ev (a b c d e f : ByteArray) : Ev (fun k => lunettelaw11_few.f k a b c d e f) (fewB [a, b, c, d, e, f]) := by
  have := few_l [a, b, c, d, e, f] (by simp) 6 0 (by omega) rfl
  exact this
theorem few_six {a b c d e f : ByteArray} (h : fewB [a, b, c, d, e, f] = true) : a.size ≤ 300 ∧ b.size ≤ 300 ∧ c.size ≤ 300 ∧ d.size ≤ 300 ∧ e.size ≤ 300 ∧ f.size ≤ 300 := by
  simpa [fewB] using h
theorem six_iff (a0 b0 c0 d0 e0 f0 a1 b1 c1 d1 e1 f1 : ByteArray) : (a0.toList == a1.toList && (b0.toList == b1.toList && (c0.toList == c1.toList && (d0.toList == d1.toList && (e0.toList == e1.toList && f0.toList == f1.toList))))) = true ↔
    a0 = a1 ∧ b0 = b1 ∧ c0 = c1 ∧ d0 = d1 ∧ e0 = e1 ∧ f0 = f1 := by
  simp only [Bool.and_eq_true, beq_iff_eq, tl_iff]
theorem show_inj {a0 b0 c0 d0 e0 f0 a1 b1 c1 d1 e1 f1 : ByteArray} (h0 : chkP a0 b0 c0 d0 e0 f0 = true) (h1 : chkP a1 b1 c1 d1 e1 f1 = true)
    (h : showL a0.data.toList b0.data.toList c0.data.toList d0.data.toList e0.data.toList f0.data.toList = showL a1.data.toList b1.data.toList c1.data.toList d1.data.toList e1.data.toList f1.data.toList) :
    a0 = a1 ∧ b0 = b1 ∧ c0 = c1 ∧ d0 = d1 ∧ e0 = e1 ∧ f0 = f1 := by
  have r0 := read_show h0
  rw [h, read_show h1] at r0
  simp only [Option.some.injEq, Prod.mk.injEq, and_true] at r0
  obtain ⟨rfl, rfl, rfl, rfl, rfl, rfl⟩ := r0
  exact ⟨rfl, rfl, rfl, rfl, rfl, rfl⟩
theorem same_iff {X Y : List UInt8} {p : Bool} (h : p = true ↔ X = Y) : (((mk X).toList == (mk Y).toList) == p) = true := by
  have : ((mk X).toList == (mk Y).toList) = p := by
    rw [Bool.eq_iff_iff, h, beq_iff_eq, tl_iff]
    exact ⟨fun e => by rw [← mk_data X, e, mk_data], fun e => by rw [e]⟩
  rw [this]; simp
end Go.Proofs.YtggcipjdhhnnkaaDoor.K
