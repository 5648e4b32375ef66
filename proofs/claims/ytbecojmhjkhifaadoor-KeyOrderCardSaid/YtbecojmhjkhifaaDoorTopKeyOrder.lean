/- KeyOrder: the pure statement of the law, and its walk. Conditions: none beyond the row's own. -/
import Derived.Test.YtbecojmhjkhifaaDoorG3
import Derived.Test.YtbecojmhjkhifaaDoorP24
namespace Go.Proofs.YtbecojmhjkhifaaDoor.K
set_option linter.unusedVariables false
set_option linter.unusedSimpArgs false
open Go.RowKit Go.Proofs.YtbecojmhjkhifaaDoorW.PrintWords Go.Proofs.YtbecojmhjkhifaaDoorW.PrintLast Go.Proofs.YtbecojmhjkhifaaDoorW.PrintMore
open Go.Proofs.YtbecojmhjkhifaaDoor.PL

theorem keyOrder_ev (a b : List ByteArray) (ha : a.length ≤ 9223372036854775807) (hb : b.length ≤ 9223372036854775807) : Ev (fun k => lunettelaw01_KeyOrder.f k a b) true := by
  unfold lunettelaw01_KeyOrder.f
  refine Ev.bind (few_ev a ha) ?_
  cases hf : fewB a with
  | false =>
    simp only [Bool.false_eq_true, if_false]
    exact Ev.step (fun k => by simp only [lunettelaw01_KeyOrder.j0, if_true]) (Ev.bind awake_ev (Ev.now _))
  | true =>
    simp only [if_true]
    refine Ev.bind (few_ev b hb) ?_
    cases hg : fewB b with
    | false => exact Ev.step (fun k => by simp only [lunettelaw01_KeyOrder.j0, Bool.not_false, if_true]) (Ev.bind awake_ev (Ev.now _))
    | true =>
      have ha1 := put_small hf
      have hb1 := put_small hg
      have ha2 := few_len hf
      have hb2 := few_len hg
      have pa : (putL (bytesAll a)).length ≤ 1099511627776 := by omega
      have pb : (putL (bytesAll b)).length ≤ 1099511627776 := by omega
      have na : 0 + a.length < 8796093022208 := by omega
      have nb : 0 + b.length < 8796093022208 := by omega
      have sa : ∀ p ∈ a, p.size ≤ 1099511627776 := fun p hp => by have := few_size hf p hp; omega
      have sb : ∀ p ∈ b, p.size ≤ 1099511627776 := fun p hp => by have := few_size hg p hp; omega
      refine Ev.step (f := fun k => (key_Less.f k a b).bind fun t330 => ((lunettelaw01_awake.f k).bind fun t331 => (if t331 = true then ((lunetteref01_Less.f k a b).bind fun t332 => (if (t330 == t332) = true then ((lunetteref01_Below.f k (mk (putL (bytesAll a))) (mk (putL (bytesAll b)))).bind fun t347 => (some (t330 == t347))) else (some false))) else (some false)))) (fun k => ?_) ?_
      · simp only [lunettelaw01_KeyOrder.j0, Bool.not_true, Bool.false_eq_true, if_false, Option.bind_some, List.nil_append, List.length_nil, na, nb, if_true, put_f pa, put_f pb, mk]
      · refine Ev.bind (less_ev a b (by omega) (by omega)) ?_
        refine Ev.bind awake_ev ?_
        simp only [if_true]
        refine Ev.bind (rless_ev a b (by omega) (by omega) sa sb) ?_
        simp only [beq_self_eq_true, if_true]
        refine Ev.bind (below_ev _ _ (by rw [mk_size]; omega) (by rw [mk_size]; omega)) ?_
        rw [mk_data, mk_data, put_order]
        simp only [beq_self_eq_true]
        exact Ev.now _
theorem keyOrder_walk (w : World) (a0 : Option Addr) (c0 : Nat) (l0 : List ByteArray) (hr0 : Kd.C Kd.string w a0 l0.length l0) (hm0 : l0.length ≤ maxLen) (hc0 : l0.length ≤ c0) (a1 : Option Addr) (c1 : Nat) (l1 : List ByteArray) (hr1 : Kd.C Kd.string w a1 l1.length l1) (hm1 : l1.length ≤ maxLen) (hc1 : l1.length ≤ c1) :
    Calls Tryd.prog 11 #[.slice a0 l0.length c0, .slice a1 l1.length c1] w fun e w' => e = .returned (.bool true) ∧ Below w.heap.size w w' := by
  obtain ⟨k, h⟩ := (keyOrder_ev l0 l1 hm0 hm1).rounds
  exact (lunettelaw01_KeyOrder.calls k a0 c0 l0 a1 c1 l1 true w hr0 hc0 hr1 hc1 h)
end Go.Proofs.YtbecojmhjkhifaaDoor.K
