/- TupleShows: the pure statement of the law, and its walk. Conditions: none beyond the row's own. -/
import Derived.Test.YtggcipjdhhnnkaaDoorTG8
import Derived.Test.YtggcipjdhhnnkaaDoorTG9
import Derived.Test.YtggcipjdhhnnkaaDoorP36
namespace Go.Proofs.YtggcipjdhhnnkaaDoor.K
set_option linter.unusedVariables false
set_option linter.unusedSimpArgs false
open Go.RowKit Go.Proofs.YtggcipjdhhnnkaaDoorW.PrintWords Go.Proofs.YtggcipjdhhnnkaaDoorW.PrintLast Go.Proofs.YtggcipjdhhnnkaaDoorW.PrintMore
open Go.Proofs.YtggcipjdhhnnkaaDoor.PL

theorem shows_j1 (a0 b0 c0 d0 e0 f0 : ByteArray) (s : Nat) (hs : s = 300) (sa0 : a0.size ≤ s) (sb0 : b0.size ≤ s) (sc0 : c0.size ≤ s) (sd0 : d0.size ≤ s) (se0 : e0.size ≤ s) (sf0 : f0.size ≤ s) :
    Ev (fun k => lunettelaw11_TupleShows.j1 k (if chkP a0 b0 c0 d0 e0 f0 = true then (mk (showL a0.data.toList b0.data.toList c0.data.toList d0.data.toList e0.data.toList f0.data.toList), (0 : Int)) else ((⟨#[]⟩ : ByteArray), 111)).1
      (if chkP a0 b0 c0 d0 e0 f0 = true then (mk (showL a0.data.toList b0.data.toList c0.data.toList d0.data.toList e0.data.toList f0.data.toList), (0 : Int)) else ((⟨#[]⟩ : ByteArray), 111)).2 (if chkP a0 b0 c0 d0 e0 f0 = true then 0 else 111) a0 b0 c0 d0 e0 f0) true := by
  refine Ev.step (fun k => by simp only [lunettelaw11_TupleShows.j1]; rfl) ?_
  refine Ev.bind (rcheck_ev a0 b0 c0 d0 e0 f0 (by omega) (by omega) (by omega) (by omega) (by omega) (by omega)) ?_
  by_cases h : chkP a0 b0 c0 d0 e0 f0 = true
  · obtain ⟨u, v, hc, _⟩ := chk_parts h
    simp only [h, if_true]
    rw [read_show h, rshow a0 b0 c0 d0 e0 f0 (by omega) (by omega) hc]
    simp only [Option.bind_some, if_true, beq_self_eq_true, Bool.and_self]
    exact Ev.now _
  · have h2 : chkP a0 b0 c0 d0 e0 f0 = false := by simpa using h
    simp only [h2, Bool.false_eq_true, if_false, nilB, if_true, beq_self_eq_true]
    exact Ev.now _
theorem tupleShows_ev (a0 b0 c0 d0 e0 f0 : ByteArray) : Ev (fun k => lunettelaw11_TupleShows.f k a0 b0 c0 d0 e0 f0) true := by
  unfold lunettelaw11_TupleShows.f
  refine Ev.bind awake_ev ?_
  simp only [if_true]
  refine Ev.bind (few_ev a0 b0 c0 d0 e0 f0) ?_
  cases hf : fewB [a0, b0, c0, d0, e0, f0] with
  | false => exact Ev.step (fun k => by simp only [lunettelaw11_TupleShows.j0, Bool.not_false, if_true]) (Ev.bind awake_ev (Ev.now _))
  | true =>
    obtain ⟨sa0, sb0, sc0, sd0, se0, sf0⟩ := few_six hf
    simp only [Bool.not_true]
    have hj := shows_j1 a0 b0 c0 d0 e0 f0 300 rfl sa0 sb0 sc0 sd0 se0 sf0
    refine Ev.step (fun k => by simp only [lunettelaw11_TupleShows.j0, Bool.false_eq_true, if_false, tshow, tshowuser, tcheck, Option.bind_some]; rfl) ?_
    refine Ev.bind (ruser_ev d0 e0 f0 (by omega) (by omega) (by omega)) ?_
    by_cases h : userP d0 e0 f0 = true
    · simp only [h, if_true]
      rw [read_user h, rshowuser d0 e0 f0 (by omega)]
      simp only [Option.bind_some, if_true, beq_self_eq_true, Bool.not_true, Bool.or_self, Bool.false_eq_true, if_false]
      exact hj
    · have h2 : userP d0 e0 f0 = false := by simpa using h
      simp only [h2, Bool.false_eq_true, if_false, nilB, if_true]
      exact hj
theorem tupleShows_walk (w : World) (a0 b0 c0 d0 e0 f0 : ByteArray) :
    Calls Tryd.prog 9 #[.agg #[.string a0, .string b0, .string c0, .string d0, .string e0, .string f0]] w fun e w' => e = .returned (.bool true) ∧ Below w.heap.size w w' := by
  obtain ⟨k, h⟩ := (tupleShows_ev a0 b0 c0 d0 e0 f0).rounds
  exact lunettelaw11_TupleShows.callsT k a0 b0 c0 d0 e0 f0 true w h rfl
end Go.Proofs.YtggcipjdhhnnkaaDoor.K
