/- KeyMiddle: the pure statement of the law, and its walk. Conditions: none beyond the row's own. -/
import Derived.Test.YtbecojmhjkhifaaDoorG4
import Derived.Test.YtbecojmhjkhifaaDoorP18
namespace Go.Proofs.YtbecojmhjkhifaaDoor.K
set_option linter.unusedVariables false
set_option linter.unusedSimpArgs false
open Go.RowKit Go.Proofs.YtbecojmhjkhifaaDoorW.PrintWords Go.Proofs.YtbecojmhjkhifaaDoorW.PrintLast Go.Proofs.YtbecojmhjkhifaaDoorW.PrintMore
open Go.Proofs.YtbecojmhjkhifaaDoor.PL

theorem put_ends (p : List UInt8) (ps : List (List UInt8)) : ∃ u, putL (p :: ps) = u ++ [0] := by
  induction ps generalizing p with
  | nil => exact ⟨escL p ++ [0], by rw [putL_cons, putL_nil]; simp⟩
  | cons q ps ih =>
    obtain ⟨u, e⟩ := ih q
    exact ⟨escL p ++ [0, 0] ++ u, by rw [putL_cons, e]; simp⟩
theorem keyMiddle_ev (a b : List ByteArray) (ha : a.length ≤ 9223372036854775807) (hb : b.length ≤ 9223372036854775807) : Ev (fun k => lunettelaw01_KeyMiddle.f k a b) true := by
  have out : Ev (fun k => lunettelaw01_KeyMiddle.j0 k a b true) true := Ev.step (fun k => by simp only [lunettelaw01_KeyMiddle.j0, if_true]) (Ev.bind awake_ev (Ev.now _))
  unfold lunettelaw01_KeyMiddle.f
  refine Ev.bind (few_ev a ha) ?_
  cases hf : fewB a with
  | false => simp only [Bool.false_eq_true, if_false]; exact out
  | true =>
    simp only [if_true]
    refine Ev.bind (few_ev b hb) ?_
    cases hg : fewB b with
    | false => simp only [Bool.false_eq_true, if_false]; exact out
    | true =>
      simp only [if_true]
      cases a with
      | nil => exact out
      | cons p a =>
        have hz : (((p :: a).length : Int) == 0) = false := by simp; omega
        rw [hz]
        have ha1 := put_small hf
        have hb1 := put_small hg
        have ha2 := few_len hf
        have hb2 := few_len hg
        have pa : (putL (bytesAll (p :: a))).length ≤ 1099511627776 := by omega
        have pab : (putL (bytesAll ((p :: a) ++ b))).length ≤ 1099511627776 := by rw [bytesAll_append, putL_append, List.length_append]; omega
        have na : 0 + (p :: a).length < 8796093022208 := by omega
        have nb : (p :: a).length + b.length < 8796093022208 := by omega
        obtain ⟨u, hu⟩ := put_ends p.data.toList (bytesAll a)
        have hu2 : putL (bytesAll (p :: a)) = u ++ [0] := hu
        have hul : u.length + 1 ≤ 10000 := by rw [hu2] at ha1; simpa using ha1
        refine Ev.step (f := fun k => (key_After.f k (mk (u ++ [0]))).bind fun bt250 => ((lunettelaw01_awake.f k).bind fun t252 => (if t252 = true then (if bt250.2 = true then ((lunetteref01_Below.f k (mk (u ++ [0] ++ putL (bytesAll b))) (mk (u ++ [0]))).bind fun t253 => (if t253 = true then (some false) else ((lunetteref01_Below.f k (mk (u ++ [0] ++ putL (bytesAll b))) bt250.1).bind fun t254 => (some t254)))) else (some false)) else (some false)))) (fun k => ?_) ?_
        · have e1 : (⟨(putL (bytesAll (p :: a))).toArray⟩ : ByteArray) = mk (u ++ [0]) := by rw [hu2]; rfl
          have e2 : (⟨(putL (bytesAll ((p :: a) ++ b))).toArray⟩ : ByteArray) = mk (u ++ [0] ++ putL (bytesAll b)) := by rw [bytesAll_append, putL_append, hu2]; rfl
          simp only [lunettelaw01_KeyMiddle.j0, Bool.false_eq_true, if_false, Option.bind_some, List.nil_append, List.length_nil, na, nb, if_true, put_f pa, put_f pab, e1, e2]
        · have h1 : lt (u ++ [0] ++ putL (bytesAll b)) (u ++ [0]) = false := by
            have := lt_append (u ++ [0]) (putL (bytesAll b)) []
            rw [List.append_nil] at this
            rw [this, lt_nil]
          have h2 : lt (u ++ [0] ++ putL (bytesAll b)) (u ++ [up 0]) = true := by
            rw [List.append_assoc, lt_append]; exact lt_less (by decide) _ _
          refine Ev.bind (after_some u 0 (by decide) (by omega) 0 (by omega)) ?_
          refine Ev.bind awake_ev ?_
          simp only [if_true]
          refine Ev.bind (below_ev _ _ (by rw [mk_size, List.length_append, List.length_append]; simp only [List.length_singleton]; omega) (by rw [mk_size, List.length_append]; simp only [List.length_singleton]; omega)) ?_
          rw [mk_data, mk_data, h1]
          simp only [Bool.false_eq_true, if_false]
          refine Ev.bind (below_ev _ _ (by rw [mk_size, List.length_append, List.length_append]; simp only [List.length_singleton]; omega) (by rw [mk_size, List.length_append]; simp only [List.length_singleton]; omega)) ?_
          rw [mk_data, mk_data, h2]
          exact Ev.now _
theorem keyMiddle_walk (w : World) (a0 : Option Addr) (c0 : Nat) (l0 : List ByteArray) (hr0 : Kd.C Kd.string w a0 l0.length l0) (hm0 : l0.length ≤ maxLen) (hc0 : l0.length ≤ c0) (a1 : Option Addr) (c1 : Nat) (l1 : List ByteArray) (hr1 : Kd.C Kd.string w a1 l1.length l1) (hm1 : l1.length ≤ maxLen) (hc1 : l1.length ≤ c1) :
    Calls Tryd.prog 8 #[.slice a0 l0.length c0, .slice a1 l1.length c1] w fun e w' => e = .returned (.bool true) ∧ Below w.heap.size w w' := by
  obtain ⟨k, h⟩ := (keyMiddle_ev l0 l1 hm0 hm1).rounds
  exact lunettelaw01_KeyMiddle.calls k a0 c0 l0 a1 c1 l1 true w hr0 hc0 hr1 hc1 h
end Go.Proofs.YtbecojmhjkhifaaDoor.K
