/- TupleOfKeys: the pure statement of the law, and its walk. Conditions: none beyond the row's own. -/
import Derived.Test.YtggcipjdhhnnkaaDoorTGA
import Derived.Test.YtggcipjdhhnnkaaDoorP21
namespace Go.Proofs.YtggcipjdhhnnkaaDoor.K
set_option linter.unusedVariables false
set_option linter.unusedSimpArgs false
open Go.RowKit Go.Proofs.YtggcipjdhhnnkaaDoorW.PrintWords Go.Proofs.YtggcipjdhhnnkaaDoorW.PrintLast Go.Proofs.YtggcipjdhhnnkaaDoorW.PrintMore
open Go.Proofs.YtggcipjdhhnnkaaDoor.PL

theorem tupleOfKeys_ev (s : ByteArray) : Ev (fun k => lunettelaw11_TupleOfKeys.f k s) true := by
  unfold lunettelaw11_TupleOfKeys.f
  refine Ev.bind awake_ev ?_
  simp only [if_true]
  by_cases h1 : (s.size : Int) > 400
  · rw [decide_eq_true h1]
    exact Ev.step (fun k => by simp only [lunettelaw11_TupleOfKeys.j0, if_true]) (Ev.bind awake_ev (Ev.now _))
  · rw [decide_eq_false h1]
    obtain ⟨r, hr, ho⟩ := ofkey_any s (by omega)
    refine Ev.step (fun k => by simp only [lunettelaw11_TupleOfKeys.j0, Bool.false_eq_true, if_false]; rfl) ?_
    refine Ev.bind hr ?_
    rcases ho with rfl | ⟨a, b, c, d, e, f, hc, ⟨rfl, rfl⟩ | ⟨rfl, rfl⟩⟩
    · simp only [badK, nilB, beq_self_eq_true, Bool.and_self, Bool.false_eq_true, if_false, if_true]
      simp only [show ((110 : Int) = 0) = False from eq_false (by decide), if_false]
      exact Ev.now _
    · simp only [if_true]
      refine Ev.bind (chk_small hc) ?_
      simp only [if_true, Bool.false_eq_true, if_false]
      refine Ev.bind (rkey_ev hc) ?_
      simp only [beq_self_eq_true]
      exact Ev.now _
    · simp only [if_true]
      refine Ev.bind (chk_small hc) ?_
      simp only [if_true]
      refine Ev.bind (rback_ev hc) ?_
      simp only [beq_self_eq_true]
      exact Ev.now _
theorem tupleOfKeys_walk (w : World) (a0 : ByteArray) (_w0 : a0.size ≤ 140737488351232) :
    Calls Tryd.prog 3 #[.string a0] w fun e w' => e = .returned (.bool true) ∧ Below w.heap.size w w' := by
  obtain ⟨k, h⟩ := (tupleOfKeys_ev a0).rounds
  exact lunettelaw11_TupleOfKeys.callsT k a0 true w h rfl
end Go.Proofs.YtggcipjdhhnnkaaDoor.K
