/- TupleKeys: the pure statement of the law, and its walk. Conditions: none beyond the row's own. -/
import Derived.Test.YtggcipjdhhnnkaaDoorTGA
import Derived.Test.YtggcipjdhhnnkaaDoorP25
namespace Go.Proofs.YtggcipjdhhnnkaaDoor.K
set_option linter.unusedVariables false
set_option linter.unusedSimpArgs false
open Go.RowKit Go.Proofs.YtggcipjdhhnnkaaDoorW.PrintWords Go.Proofs.YtggcipjdhhnnkaaDoorW.PrintLast Go.Proofs.YtggcipjdhhnnkaaDoorW.PrintMore
open Go.Proofs.YtggcipjdhhnnkaaDoor.PL

theorem tupleKeys_ev (a0 b0 c0 d0 e0 f0 : ByteArray) : Ev (fun k => lunettelaw11_TupleKeys.f k a0 b0 c0 d0 e0 f0) true := by
  unfold lunettelaw11_TupleKeys.f
  refine Ev.bind awake_ev ?_
  simp only [if_true]
  refine Ev.bind (few_ev a0 b0 c0 d0 e0 f0) ?_
  cases hf : fewB [a0, b0, c0, d0, e0, f0] with
  | false => exact Ev.step (fun k => by simp only [lunettelaw11_TupleKeys.j0, Bool.not_false, if_true]) (Ev.bind awake_ev (Ev.now _))
  | true =>
    obtain ⟨sa0, sb0, sc0, sd0, se0, sf0⟩ := few_six hf
    simp only [Bool.not_true]
    refine Ev.step (fun k => by simp only [lunettelaw11_TupleKeys.j0, Bool.false_eq_true, if_false, tkey, tback, Option.bind_some]; rfl) ?_
    refine Ev.bind (rcheck_ev a0 b0 c0 d0 e0 f0 (by omega) (by omega) (by omega) (by omega) (by omega) (by omega)) ?_
    by_cases h : chkP a0 b0 c0 d0 e0 f0 = true
    · have hs := key_size h
      simp only [h, if_true]
      refine Ev.bind (of_key h) ?_
      refine Ev.bind (of_back h) ?_
      refine Ev.bind (rkey_ev h) ?_
      simp only [if_true]
      refine Ev.bind (rback_ev h) ?_
      have z1 : (keyOf a0 b0 c0 d0 e0 f0).size = (putL (bytesAll [fPart, a0, b0, c0, d0, e0, f0])).length := mk_size _
      have z2 : (backOf a0 b0 c0 d0 e0 f0).size = (keyOf a0 b0 c0 d0 e0 f0).size := by rw [z1]; exact (mk_size _).trans hs.2
      have z3 : ((keyOf a0 b0 c0 d0 e0 f0).size : Int) ≤ 95 := by omega
      simp only [if_true, beq_self_eq_true, Bool.and_self, Bool.false_eq_true, if_false, z2, z3]
      exact Ev.now _
    · have h2 : chkP a0 b0 c0 d0 e0 f0 = false := by simpa using h
      simp only [h2, Bool.false_eq_true, if_false, nilB, if_true, beq_self_eq_true]
      exact Ev.now _
theorem tupleKeys_walk (w : World) (a0 b0 c0 d0 e0 f0 : ByteArray) :
    Calls Tryd.prog 5 #[.agg #[.string a0, .string b0, .string c0, .string d0, .string e0, .string f0]] w fun e w' => e = .returned (.bool true) ∧ Below w.heap.size w w' := by
  obtain ⟨k, h⟩ := (tupleKeys_ev a0 b0 c0 d0 e0 f0).rounds
  exact lunettelaw11_TupleKeys.callsT k a0 b0 c0 d0 e0 f0 true w h rfl
end Go.Proofs.YtggcipjdhhnnkaaDoor.K
