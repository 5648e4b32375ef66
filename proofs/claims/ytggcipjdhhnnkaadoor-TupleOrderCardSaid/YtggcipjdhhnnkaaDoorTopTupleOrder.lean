/- TupleOrder: the pure statement of the law, and its walk. Conditions: none beyond the row's own. -/
import Derived.Test.YtggcipjdhhnnkaaDoorTG7
import Derived.Test.YtggcipjdhhnnkaaDoorP41
namespace Go.Proofs.YtggcipjdhhnnkaaDoor.K
set_option linter.unusedVariables false
set_option linter.unusedSimpArgs false
open Go.RowKit Go.Proofs.YtggcipjdhhnnkaaDoorW.PrintWords Go.Proofs.YtggcipjdhhnnkaaDoorW.PrintLast Go.Proofs.YtggcipjdhhnnkaaDoorW.PrintMore
open Go.Proofs.YtggcipjdhhnnkaaDoor.PL

theorem tupleOrder_ev (a0 b0 c0 d0 e0 f0 a1 b1 c1 d1 e1 f1 : ByteArray) : Ev (fun k => lunettelaw11_TupleOrder.f k a0 b0 c0 d0 e0 f0 a1 b1 c1 d1 e1 f1) true := by
  unfold lunettelaw11_TupleOrder.f
  refine Ev.bind awake_ev ?_
  simp only [if_true]
  refine Ev.bind (few_ev a0 b0 c0 d0 e0 f0) ?_
  cases hf : fewB [a0, b0, c0, d0, e0, f0] with
  | false =>
    simp only [Bool.false_eq_true, if_false]
    exact Ev.step (fun k => by simp only [lunettelaw11_TupleOrder.j0, if_true]) (Ev.bind awake_ev (Ev.now _))
  | true =>
  simp only [if_true]
  refine Ev.bind (few_ev a1 b1 c1 d1 e1 f1) ?_
  cases hg : fewB [a1, b1, c1, d1, e1, f1] with
  | false => exact Ev.step (fun k => by simp only [lunettelaw11_TupleOrder.j0, Bool.not_false, if_true]) (Ev.bind awake_ev (Ev.now _))
  | true =>
    obtain ⟨sa0, sb0, sc0, sd0, se0, sf0⟩ := few_six hf
    obtain ⟨sa1, sb1, sc1, sd1, se1, sf1⟩ := few_six hg
    simp only [Bool.not_true]
    refine Ev.step (fun k => by simp only [lunettelaw11_TupleOrder.j0, Bool.false_eq_true, if_false, tkey, Option.bind_some]; rfl) ?_
    refine Ev.bind (tless_ev a0 b0 c0 d0 e0 f0 a1 b1 c1 d1 e1 f1) ?_
    refine Ev.bind (rless_six a0 b0 c0 d0 e0 f0 a1 b1 c1 d1 e1 f1 (few_all hf) (few_all hg)) ?_
    simp only [bne_self_eq_false, Bool.false_eq_true, if_false]
    by_cases h0 : chkP a0 b0 c0 d0 e0 f0 = true
    · by_cases h1 : chkP a1 b1 c1 d1 e1 f1 = true
      · simp only [h0, h1, if_true]
        refine Ev.bind (keys_below h0 h1) ?_
        simp only [beq_self_eq_true]
        exact Ev.now _
      · have h2 : chkP a1 b1 c1 d1 e1 f1 = false := by simpa using h1
        simp only [h0, h2, if_true, Bool.false_eq_true, if_false]
        simp only [show ((111 : Int) = 0) = False from eq_false (by decide), if_false]
        exact Ev.now _
    · have h2 : chkP a0 b0 c0 d0 e0 f0 = false := by simpa using h0
      simp only [h2, Bool.false_eq_true, if_false]
      simp only [show ((111 : Int) = 0) = False from eq_false (by decide), if_false]
      exact Ev.now _
theorem tupleOrder_walk (w : World) (a0 b0 c0 d0 e0 f0 a1 b1 c1 d1 e1 f1 : ByteArray) :
    Calls Tryd.prog 10 #[.agg #[.string a0, .string b0, .string c0, .string d0, .string e0, .string f0], .agg #[.string a1, .string b1, .string c1, .string d1, .string e1, .string f1]] w fun e w' => e = .returned (.bool true) ∧ Below w.heap.size w w' := by
  obtain ⟨k, h⟩ := (tupleOrder_ev a0 b0 c0 d0 e0 f0 a1 b1 c1 d1 e1 f1).rounds
  exact lunettelaw11_TupleOrder.callsT k a0 b0 c0 d0 e0 f0 a1 b1 c1 d1 e1 f1 true w h rfl
end Go.Proofs.YtggcipjdhhnnkaaDoor.K
