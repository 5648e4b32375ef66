/- TupleBacks: the pure statement of the law, and its walk. Conditions: none beyond the row's own. -/
import Derived.Test.YtggcipjdhhnnkaaDoorTG7
import Derived.Test.YtggcipjdhhnnkaaDoorTG9
import Derived.Test.YtggcipjdhhnnkaaDoorP29
namespace Go.Proofs.YtggcipjdhhnnkaaDoor.K
set_option linter.unusedVariables false
set_option linter.unusedSimpArgs false
open Go.RowKit Go.Proofs.YtggcipjdhhnnkaaDoorW.PrintWords Go.Proofs.YtggcipjdhhnnkaaDoorW.PrintLast Go.Proofs.YtggcipjdhhnnkaaDoorW.PrintMore
open Go.Proofs.YtggcipjdhhnnkaaDoor.PL

theorem tupleBacks_ev (a0 b0 c0 d0 e0 f0 a1 b1 c1 d1 e1 f1 : ByteArray) : Ev (fun k => lunettelaw11_TupleBacks.f k a0 b0 c0 d0 e0 f0 a1 b1 c1 d1 e1 f1) true := by
  unfold lunettelaw11_TupleBacks.f
  refine Ev.bind awake_ev ?_
  simp only [if_true]
  refine Ev.bind (few_ev a0 b0 c0 d0 e0 f0) ?_
  cases hf : fewB [a0, b0, c0, d0, e0, f0] with
  | false =>
    simp only [Bool.false_eq_true, if_false]
    exact Ev.step (fun k => by simp only [lunettelaw11_TupleBacks.j0, if_true]) (Ev.bind awake_ev (Ev.now _))
  | true =>
  simp only [if_true]
  refine Ev.bind (few_ev a1 b1 c1 d1 e1 f1) ?_
  cases hg : fewB [a1, b1, c1, d1, e1, f1] with
  | false => exact Ev.step (fun k => by simp only [lunettelaw11_TupleBacks.j0, Bool.not_false, if_true]) (Ev.bind awake_ev (Ev.now _))
  | true =>
    obtain ⟨sa0, sb0, sc0, sd0, se0, sf0⟩ := few_six hf
    obtain ⟨sa1, sb1, sc1, sd1, se1, sf1⟩ := few_six hg
    simp only [Bool.not_true]
    have hr0 := rcheck_ev a0 b0 c0 d0 e0 f0 (by omega) (by omega) (by omega) (by omega) (by omega) (by omega)
    have hr1 := rcheck_ev a1 b1 c1 d1 e1 f1 (by omega) (by omega) (by omega) (by omega) (by omega) (by omega)
    refine Ev.step (fun k => by simp only [lunettelaw11_TupleBacks.j0, Bool.false_eq_true, if_false, tback, Option.bind_some]; rfl) ?_
    by_cases h0 : chkP a0 b0 c0 d0 e0 f0 = true
    · by_cases h1 : chkP a1 b1 c1 d1 e1 f1 = true
      · simp only [h0, h1, if_true, bne_self_eq_false]
        refine Ev.step (fun k => by simp only [lunettelaw11_TupleBacks.j1, Bool.false_eq_true, if_false]; rfl) ?_
        refine Ev.bind (backs_below h0 h1) ?_
        have m0 := few_all hf
        have m1 := few_all hg
        refine Ev.bind (rless_ev [d0, e0, f0, a0, b0, c0] [d1, e1, f1, a1, b1, c1] (by simp) (by simp) (fun p hp => ?_) (fun p hp => ?_)) ?_
        · have := m0 p (by simp only [List.mem_cons, List.not_mem_nil, or_false] at hp ⊢; rcases hp with h | h | h | h | h | h <;> simp [h])
          omega
        · have := m1 p (by simp only [List.mem_cons, List.not_mem_nil, or_false] at hp ⊢; rcases hp with h | h | h | h | h | h <;> simp [h])
          omega
        · simp only [beq_self_eq_true, if_true]
          have : (((backOf a0 b0 c0 d0 e0 f0).toList == (backOf a1 b1 c1 d1 e1 f1).toList) == (a0.toList == a1.toList && (b0.toList == b1.toList && (c0.toList == c1.toList && (d0.toList == d1.toList && (e0.toList == e1.toList && f0.toList == f1.toList)))))) = true := by
            refine same_iff ?_
            rw [six_iff]
            constructor
            · rintro ⟨rfl, rfl, rfl, rfl, rfl, rfl⟩; rfl
            · exact back_inj a0 b0 c0 d0 e0 f0 a1 b1 c1 d1 e1 f1
          rw [this]
          exact Ev.now _
      · have h2 : chkP a1 b1 c1 d1 e1 f1 = false := by simpa using h1
        rw [h2] at hr1; rw [h0] at hr0
        simp only [h0, h2, if_true, Bool.false_eq_true, if_false]
        refine Ev.step (fun k => by simp only [lunettelaw11_TupleBacks.j1]; rw [if_pos (by decide)]) ?_
        refine Ev.bind hr0 ?_
        rw [show (((0 : Int) == 0) == true) = true by decide]
        simp only [if_true]
        refine Ev.bind hr1 ?_
        rw [show (((111 : Int) == 0) == false) = true by decide]
        exact Ev.now _
    · have h2 : chkP a0 b0 c0 d0 e0 f0 = false := by simpa using h0
      rw [h2] at hr0
      simp only [h2, Bool.false_eq_true, if_false]
      simp only [show ((111 : Int) = 0) = False from eq_false (by decide), if_false]
      refine Ev.step (fun k => by simp only [lunettelaw11_TupleBacks.j1, if_true]; rfl) ?_
      refine Ev.bind hr0 ?_
      rw [show (((111 : Int) == 0) == false) = true by decide]
      simp only [if_true]
      refine Ev.bind hr1 ?_
      have : (((if chkP a1 b1 c1 d1 e1 f1 = true then (backOf a1 b1 c1 d1 e1 f1, 0) else ((⟨#[]⟩ : ByteArray), (111 : Int))).2 == 0) == chkP a1 b1 c1 d1 e1 f1) = true := by
        cases chkP a1 b1 c1 d1 e1 f1 <;> rfl
      rw [this]
      exact Ev.now _
theorem tupleBacks_walk (w : World) (a0 b0 c0 d0 e0 f0 a1 b1 c1 d1 e1 f1 : ByteArray) :
    Calls Tryd.prog 6 #[.agg #[.string a0, .string b0, .string c0, .string d0, .string e0, .string f0], .agg #[.string a1, .string b1, .string c1, .string d1, .string e1, .string f1]] w fun e w' => e = .returned (.bool true) ∧ Below w.heap.size w w' := by
  obtain ⟨k, h⟩ := (tupleBacks_ev a0 b0 c0 d0 e0 f0 a1 b1 c1 d1 e1 f1).rounds
  exact lunettelaw11_TupleBacks.callsT k a0 b0 c0 d0 e0 f0 a1 b1 c1 d1 e1 f1 true w h rfl
end Go.Proofs.YtggcipjdhhnnkaaDoor.K
