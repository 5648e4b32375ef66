/- TupleParts: the pure statement of the law, and its walk. Conditions: none beyond the row's own. -/
import Derived.Test.YtggcipjdhhnnkaaDoorTG8
import Derived.Test.YtggcipjdhhnnkaaDoorP31
namespace Go.Proofs.YtggcipjdhhnnkaaDoor.K
set_option linter.unusedVariables false
set_option linter.unusedSimpArgs false
open Go.RowKit Go.Proofs.YtggcipjdhhnnkaaDoorW.PrintWords Go.Proofs.YtggcipjdhhnnkaaDoorW.PrintLast Go.Proofs.YtggcipjdhhnnkaaDoorW.PrintMore
open Go.Proofs.YtggcipjdhhnnkaaDoor.PL

theorem tupleParts_ev (a0 b0 c0 d0 e0 f0 : ByteArray) : Ev (fun k => lunettelaw11_TupleParts.f k a0 b0 c0 d0 e0 f0) true := by
  unfold lunettelaw11_TupleParts.f
  refine Ev.bind awake_ev ?_
  simp only [if_true]
  refine Ev.bind (few_ev a0 b0 c0 d0 e0 f0) ?_
  cases hf : fewB [a0, b0, c0, d0, e0, f0] with
  | false => exact Ev.step (fun k => by simp only [lunettelaw11_TupleParts.j0, Bool.not_false, if_true]) (Ev.bind awake_ev (Ev.now _))
  | true =>
    obtain ⟨sa0, sb0, sc0, sd0, se0, sf0⟩ := few_six hf
    simp only [Bool.not_true]
    refine Ev.step (f := fun _ => some true) (fun k => ?_) (Ev.now _)
    simp only [lunettelaw11_TupleParts.j0, Bool.false_eq_true, if_false]
    rw [tshow, tshowuser, tshowuser]
    simp only [Option.bind_some]
    have e3 : (⟨#[64]⟩ : ByteArray).size = 1 := rfl
    have l1 := textL_length a0.data.toList b0.data.toList c0.data.toList
    have l2 := textL_length d0.data.toList e0.data.toList f0.data.toList
    rw [data_length, data_length, data_length] at l1 l2
    by_cases h0 : chkP a0 b0 c0 d0 e0 f0 = true
    · obtain ⟨u, v, _, hu, hv⟩ := chk_parts h0
      simp only [h0, hu, hv, if_true]
      rw [if_pos (by rw [mk_size]; omega), if_pos (by rw [ByteArray.size_append, mk_size, mk_size, e3]; omega)]
      congr 1
      rw [beq_iff_eq, tl_iff]
      apply data_inj
      simp [showL, mk]
    · by_cases hu : userP a0 b0 c0 = true
      · by_cases hv : userP d0 e0 f0 = true
        · have hc : c0.toList = [] := by
            unfold chkP at h0
            unfold userP at hu
            rw [Bool.and_eq_true, Bool.and_eq_true, Bool.or_eq_true, decide_eq_true_eq] at hu
            rcases hu.2 with h | h
            · exact h
            · exact absurd (by rw [hu.1.1, hu.1.2, h, hv]; rfl) h0
          simp only [h0, hu, hv, if_true, if_false, hc]; simp
        · simp only [h0, hu, hv, if_true, if_false]; simp
      · simp only [h0, hu, if_false]; simp
theorem tupleParts_walk (w : World) (a0 b0 c0 d0 e0 f0 : ByteArray) :
    Calls Tryd.prog 7 #[.agg #[.string a0, .string b0, .string c0, .string d0, .string e0, .string f0]] w fun e w' => e = .returned (.bool true) ∧ Below w.heap.size w w' := by
  obtain ⟨k, h⟩ := (tupleParts_ev a0 b0 c0 d0 e0 f0).rounds
  exact lunettelaw11_TupleParts.callsT k a0 b0 c0 d0 e0 f0 true w h rfl
end Go.Proofs.YtggcipjdhhnnkaaDoor.K
