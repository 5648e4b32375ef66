/- KeyTotal: the pure statement of the law, and its walk. Conditions: none beyond the row's own. -/
import Derived.Test.YtbecojmhjkhifaaDoorG3
import Derived.Test.YtbecojmhjkhifaaDoorP25
namespace Go.Proofs.YtbecojmhjkhifaaDoor.K
set_option linter.unusedVariables false
set_option linter.unusedSimpArgs false
open Go.RowKit Go.Proofs.YtbecojmhjkhifaaDoorW.PrintWords Go.Proofs.YtbecojmhjkhifaaDoorW.PrintLast Go.Proofs.YtbecojmhjkhifaaDoorW.PrintMore
open Go.Proofs.YtbecojmhjkhifaaDoor.PL

theorem keyTotal_ev (a b c : List ByteArray) (ha : a.length ≤ 9223372036854775807) (hb : b.length ≤ 9223372036854775807) (hc : c.length ≤ 9223372036854775807) : Ev (fun k => lunettelaw01_KeyTotal.f k a b c) true := by
  have out : Ev (fun k => lunettelaw01_KeyTotal.j0 k a b c true) true := Ev.step (fun k => by simp only [lunettelaw01_KeyTotal.j0, if_true]) (Ev.bind awake_ev (Ev.now _))
  unfold lunettelaw01_KeyTotal.f
  refine Ev.bind (few_ev a ha) ?_
  cases hf : fewB a with
  | false => simp only [Bool.false_eq_true, if_false]; exact out
  | true =>
    simp only [if_true]
    refine Ev.bind (few_ev b hb) ?_
    cases hg : fewB b with
    | false => simp only [Bool.false_eq_true, if_false]; exact out
    | true =>
      simp only [if_true]
      refine Ev.bind (few_ev c hc) ?_
      cases hh : fewB c with
      | false => exact out
      | true =>
        have ha2 := few_len hf
        have hb2 := few_len hg
        have hc2 := few_len hh
        refine Ev.step (fun k => by simp only [lunettelaw01_KeyTotal.j0, Bool.not_true, Bool.false_eq_true, if_false]; rfl) ?_
        refine Ev.bind (less_ev a b (by omega) (by omega)) ?_
        refine Ev.bind (less_ev b a (by omega) (by omega)) ?_
        refine Ev.bind (less_ev b c (by omega) (by omega)) ?_
        refine Ev.bind awake_ev ?_
        simp only [if_true]
        cases h1 : lessL (bytesAll a) (bytesAll b) with
        | true =>
          have h2 := lessL_asymm h1
          simp only [h2, if_true, Bool.false_eq_true, if_false]
          refine Ev.bind (same_ev a b ha) ?_
          have hne : ¬ a = b := fun e => by rw [e, lessL_irrefl] at h1; cases h1
          simp only [hne, decide_false, Bool.not_false, beq_self_eq_true, if_true]
          cases h3 : lessL (bytesAll b) (bytesAll c) with
          | true =>
            simp only [if_true]
            refine Ev.bind (less_ev a c (by omega) (by omega)) ?_
            rw [lessL_trans h1 h3]
            exact Ev.now _
          | false => simp only [Bool.false_eq_true, if_false]; exact Ev.now _
        | false =>
          simp only [Bool.false_eq_true, if_false]
          refine Ev.bind (same_ev a b ha) ?_
          have : (lessL (bytesAll b) (bytesAll a) == !decide (a = b)) = true := by
            cases h2 : lessL (bytesAll b) (bytesAll a) with
            | true =>
              have hne : ¬ a = b := fun e => by rw [e, lessL_irrefl] at h2; cases h2
              simp [hne]
            | false => simp [bytesAll_inj (lessL_total h1 h2)]
          simp only [this, if_true]
          exact Ev.now _
theorem keyTotal_walk (w : World) (a0 : Option Addr) (c0 : Nat) (l0 : List ByteArray) (hr0 : Kd.C Kd.string w a0 l0.length l0) (hm0 : l0.length ≤ maxLen) (hc0 : l0.length ≤ c0) (a1 : Option Addr) (c1 : Nat) (l1 : List ByteArray) (hr1 : Kd.C Kd.string w a1 l1.length l1) (hm1 : l1.length ≤ maxLen) (hc1 : l1.length ≤ c1) (a2 : Option Addr) (c2 : Nat) (l2 : List ByteArray) (hr2 : Kd.C Kd.string w a2 l2.length l2) (hm2 : l2.length ≤ maxLen) (hc2 : l2.length ≤ c2) :
    Calls Tryd.prog 12 #[.slice a0 l0.length c0, .slice a1 l1.length c1, .slice a2 l2.length c2] w fun e w' => e = .returned (.bool true) ∧ Below w.heap.size w w' := by
  obtain ⟨k, h⟩ := (keyTotal_ev l0 l1 l2 hm0 hm1 hm2).rounds
  exact (lunettelaw01_KeyTotal.calls k a0 c0 l0 a1 c1 l1 a2 c2 l2 true w hr0 hc0 hr1 hc1 hr2 hc2 h)
end Go.Proofs.YtbecojmhjkhifaaDoor.K
