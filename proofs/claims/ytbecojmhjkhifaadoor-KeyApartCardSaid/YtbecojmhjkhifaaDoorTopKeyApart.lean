/- KeyApart: the pure statement of the law, and its walk. Conditions: none beyond the row's own. -/
import Derived.Test.YtbecojmhjkhifaaDoorG2
import Derived.Test.YtbecojmhjkhifaaDoorP19
namespace Go.Proofs.YtbecojmhjkhifaaDoor.K
set_option linter.unusedVariables false
set_option linter.unusedSimpArgs false
open Go.RowKit Go.Proofs.YtbecojmhjkhifaaDoorW.PrintWords Go.Proofs.YtbecojmhjkhifaaDoorW.PrintLast Go.Proofs.YtbecojmhjkhifaaDoorW.PrintMore
open Go.Proofs.YtbecojmhjkhifaaDoor.PL

theorem keyApart_ev (a b : List ByteArray) (ha : a.length ≤ 9223372036854775807) (hb : b.length ≤ 9223372036854775807) : Ev (fun k => lunettelaw01_KeyApart.f k a b) true := by
  unfold lunettelaw01_KeyApart.f
  refine Ev.bind (few_ev a ha) ?_
  cases hf : fewB a with
  | false =>
    simp only [Bool.false_eq_true, if_false]
    exact Ev.step (fun k => by simp only [lunettelaw01_KeyApart.j0, if_true]) (Ev.bind awake_ev (Ev.now _))
  | true =>
    simp only [if_true]
    refine Ev.bind (few_ev b hb) ?_
    cases hg : fewB b with
    | false => exact Ev.step (fun k => by simp only [lunettelaw01_KeyApart.j0, Bool.not_false, if_true]) (Ev.bind awake_ev (Ev.now _))
    | true =>
      have ha1 := put_small hf
      have hb1 := put_small hg
      have ha2 := few_len hf
      have hb2 := few_len hg
      have pa : (putL (bytesAll a)).length ≤ 1099511627776 := by omega
      have pb : (putL (bytesAll b)).length ≤ 1099511627776 := by omega
      have na : 0 + a.length < 8796093022208 := by omega
      have nb : 0 + b.length < 8796093022208 := by omega
      refine Ev.step (f := fun k => (lunettelaw01_awake.f k).bind fun t272 => (if t272 = true then ((lunetteref01_Same.f k a b).bind fun t273 => (some (((mk (putL (bytesAll a))).toList == (mk (putL (bytesAll b))).toList) == t273))) else (some false))) (fun k => ?_) ?_
      · simp only [lunettelaw01_KeyApart.j0, Bool.not_true, Bool.false_eq_true, if_false, Option.bind_some, List.nil_append, List.length_nil, na, nb, if_true, put_f pa, put_f pb, mk]
      · refine Ev.bind awake_ev ?_
        simp only [if_true]
        refine Ev.bind (same_ev a b ha) ?_
        have : (((mk (putL (bytesAll a))).toList == (mk (putL (bytesAll b))).toList) == decide (a = b)) = true := by
          rw [ByteArray.toList_eq, ByteArray.toList_eq, mk_data, mk_data]
          by_cases h : a = b
          · subst h; simp
          · have h2 : ¬ putL (bytesAll a) = putL (bytesAll b) := fun e => h (bytesAll_inj (put_inj e))
            simp [h, h2]
        rw [this]
        exact Ev.now _
theorem keyApart_walk (w : World) (a0 : Option Addr) (c0 : Nat) (l0 : List ByteArray) (hr0 : Kd.C Kd.string w a0 l0.length l0) (hm0 : l0.length ≤ maxLen) (hc0 : l0.length ≤ c0) (a1 : Option Addr) (c1 : Nat) (l1 : List ByteArray) (hr1 : Kd.C Kd.string w a1 l1.length l1) (hm1 : l1.length ≤ maxLen) (hc1 : l1.length ≤ c1) :
    Calls Tryd.prog 9 #[.slice a0 l0.length c0, .slice a1 l1.length c1] w fun e w' => e = .returned (.bool true) ∧ Below w.heap.size w w' := by
  obtain ⟨k, h⟩ := (keyApart_ev l0 l1 hm0 hm1).rounds
  exact (lunettelaw01_KeyApart.calls k a0 c0 l0 a1 c1 l1 true w hr0 hc0 hr1 hc1 h)
end Go.Proofs.YtbecojmhjkhifaaDoor.K
