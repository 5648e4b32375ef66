/- awake answers true whenever it answers; so the law may call it. Conditions: none. -/
import Derived.Test.YtggcipjdhhnnkaaDoorP12
namespace Go.Proofs.YtggcipjdhhnnkaaDoor.K
set_option linter.unusedVariables false
set_option linter.unusedSimpArgs false
open Go.RowKit Go.Proofs.YtggcipjdhhnnkaaDoorW.PrintWords Go.Proofs.YtggcipjdhhnnkaaDoorW.PrintLast Go.Proofs.YtggcipjdhhnnkaaDoorW.PrintMore
theorem awake_now : lunettelaw11_awake.f 20 = some true := by decide +kernel
theorem awake_ev : Ev (fun k => lunettelaw11_awake.f k) true := Ev.of (fun k => lunettelaw11_awake.mono k) awake_now
theorem awake_true (k : Nat) (r : Bool) (h : lunettelaw11_awake.f k = some r) : r = true := by
  obtain ⟨n, hn⟩ := awake_ev
  have h1 : Ev (fun k => lunettelaw11_awake.f k) r := Ev.of (fun k => lunettelaw11_awake.mono k) h
  obtain ⟨m, hm⟩ := h1
  have e1 := hn (n + m + 1) (by omega)
  have e2 := hm (n + m + 1) (by omega)
  exact Option.some.inj (e2.symm.trans e1)
theorem lunettelaw11_awake.calls (k : Nat) (r : Bool) (w : World) (h : lunettelaw11_awake.f k = some r) :
    Calls Tryd.prog 11 #[] w fun e w' => e = .returned (.bool r) ∧ Below w.heap.size w w' :=
  lunettelaw11_awake.callsT k r w h (awake_true k r h)
end Go.Proofs.YtggcipjdhhnnkaaDoor.K
