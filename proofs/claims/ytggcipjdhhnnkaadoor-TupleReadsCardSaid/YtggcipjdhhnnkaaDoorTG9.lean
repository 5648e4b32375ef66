/- The document's checks, as plain functions; conditions: as each states. -/
import Derived.Test.YtggcipjdhhnnkaaDoorTG4
import Derived.Test.YtggcipjdhhnnkaaDoorTG1
import Derived.Test.YtggcipjdhhnnkaaDoorPMb
namespace Go.Proofs.YtggcipjdhhnnkaaDoor.K
set_option linter.unusedVariables false
set_option linter.unusedSimpArgs false
open Go.RowKit Go.Proofs.YtggcipjdhhnnkaaDoorW.PrintWords Go.Proofs.YtggcipjdhhnnkaaDoorW.PrintLast Go.Proofs.YtggcipjdhhnnkaaDoorW.PrintMore
open Go.Proofs.YtggcipjdhhnnkaaDoor.PL

theorem ruser_ev (a b c : ByteArray) (ha : a.size ≤ 1099511627776) (hb : b.size ≤ 1099511627776) (hc : c.size ≤ 1099511627776) : Ev (fun k => lunetteref11_User.f k a b c) (userP a b c) := by
  unfold lunetteref11_User.f userP
  refine Ev.bind (rName_ev a ha) ?_
  cases h1 : madeB nameC 12 a with
  | false => rw [show nameP a = false from h1]; simpa using Ev.now _
  | true =>
    rw [show nameP a = true from h1]
    simp only [if_true, Bool.true_and]
    refine Ev.bind (rID_ev b hb) ?_
    cases h2 : madeB idC 16 b with
    | false => rw [show idP b = false from h2]; simpa using Ev.now _
    | true =>
      rw [show idP b = true from h2]
      simp only [if_true, Bool.true_and]
      by_cases h3 : c.toList = []
      · simp only [h3, if_true, decide_true, Bool.true_or]; exact Ev.now _
      · simp only [h3, if_false, decide_false, Bool.false_or]
        exact Ev.bind (rName_ev c hc) (Ev.now _)
theorem rcheck_ev (a b c d e f : ByteArray) (ha : a.size ≤ 1099511627776) (hb : b.size ≤ 1099511627776) (hc : c.size ≤ 1099511627776) (hd : d.size ≤ 1099511627776) (he : e.size ≤ 1099511627776) (hf : f.size ≤ 1099511627776) :
    Ev (fun k => lunetteref11_Check.f k a b c d e f) (chkP a b c d e f) := by
  unfold lunetteref11_Check.f chkP
  refine Ev.bind (rName_ev a ha) ?_
  cases h1 : madeB nameC 12 a with
  | false => rw [show nameP a = false from h1]; simpa using Ev.now _
  | true =>
    rw [show nameP a = true from h1]
    simp only [if_true, Bool.true_and]
    refine Ev.bind (rID_ev b hb) ?_
    cases h2 : madeB idC 16 b with
    | false => rw [show idP b = false from h2]; simpa using Ev.now _
    | true =>
      rw [show idP b = true from h2]
      simp only [if_true, Bool.true_and]
      refine Ev.bind (rName_ev c hc) ?_
      cases h3 : madeB nameC 12 c with
      | false => rw [show nameP c = false from h3]; simpa using Ev.now _
      | true =>
        rw [show nameP c = true from h3]
        simp only [if_true, Bool.true_and]
        exact Ev.bind (ruser_ev d e f hd he hf) (Ev.now _)

end Go.Proofs.YtggcipjdhhnnkaaDoor.K
