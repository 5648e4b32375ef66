/- KeyBegins: the pure statement of the law, and its walk. Conditions: none beyond the row's own. -/
import Derived.Test.YtbecojmhjkhifaaDoorG3
import Derived.Test.YtbecojmhjkhifaaDoorPB
namespace Go.Proofs.YtbecojmhjkhifaaDoor.K
set_option linter.unusedVariables false
set_option linter.unusedSimpArgs false
open Go.RowKit Go.Proofs.YtbecojmhjkhifaaDoorW.PrintWords Go.Proofs.YtbecojmhjkhifaaDoorW.PrintLast Go.Proofs.YtbecojmhjkhifaaDoorW.PrintMore
open Go.Proofs.YtbecojmhjkhifaaDoor.PL

theorem put_begins (a b : List ByteArray) : (putL (bytesAll a)).isPrefixOf (putL (bytesAll b)) = decide (a <+: b) := by
  rw [Bool.eq_iff_iff, List.isPrefixOf_iff_prefix, decide_eq_true_iff]
  constructor
  · rintro ⟨r, hr⟩
    obtain ⟨c, e, _⟩ := put_prefix hr
    refine ⟨c.map fun p => ⟨p.toArray⟩, ?_⟩
    apply bytesAll_inj
    rw [bytesAll_append, e]
    congr 1
    unfold bytesAll
    rw [List.map_map]
    conv => rhs; rw [← List.map_id c]
    apply List.map_congr_left
    intro x _
    simp
  · rintro ⟨c, rfl⟩
    rw [bytesAll_append, putL_append]
    exact List.prefix_append _ _
theorem keyBegins_ev (a b : List ByteArray) (ha : a.length ≤ 9223372036854775807) (hb : b.length ≤ 9223372036854775807) : Ev (fun k => lunettelaw01_KeyBegins.f k a b) true := by
  have out : Ev (fun k => lunettelaw01_KeyBegins.j0 k a b true) true := Ev.step (fun k => by simp only [lunettelaw01_KeyBegins.j0, if_true]) (Ev.bind awake_ev (Ev.now _))
  unfold lunettelaw01_KeyBegins.f
  refine Ev.bind (few_ev a ha) ?_
  cases hf : fewB a with
  | false => simp only [Bool.false_eq_true, if_false]; exact out
  | true =>
    simp only [if_true]
    refine Ev.bind (few_ev b hb) ?_
    cases hg : fewB b with
    | false => exact out
    | true =>
      have ha1 := put_small hf
      have hb1 := put_small hg
      have ha2 := few_len hf
      have hb2 := few_len hg
      have pa : (putL (bytesAll a)).length ≤ 1099511627776 := by omega
      have pb : (putL (bytesAll b)).length ≤ 1099511627776 := by omega
      have pab : (putL (bytesAll (a ++ b))).length ≤ 1099511627776 := by rw [bytesAll_append, putL_append, List.length_append]; omega
      have na : 0 + a.length < 8796093022208 := by omega
      have nb : 0 + b.length < 8796093022208 := by omega
      have n2 : a.length + b.length < 8796093022208 := by omega
      have z : (putL (bytesAll a)).length + (putL (bytesAll b)).length ≤ 9223372036854775807 := by omega
      have e1 : (⟨(putL (bytesAll a)).toArray⟩ : ByteArray) ++ ⟨(putL (bytesAll b)).toArray⟩ = ⟨(putL (bytesAll (a ++ b))).toArray⟩ := by
        show mk _ ++ mk _ = mk _
        rw [mk_append, bytesAll_append, putL_append]
      have hpre : (putL (bytesAll a)).isPrefixOf (putL (bytesAll (a ++ b))) = true := by rw [put_begins]; exact decide_eq_true (List.prefix_append _ _)
      by_cases hle : (a.length : Int) ≤ (b.length : Int)
      · have hm : mn (a.length : Int) (b.length : Int) = (a.length : Int) := by unfold mn; omega
        have h0 : (0 : Int) ≤ (a.length : Int) := by omega
        refine Ev.step (f := fun k => (lunetteref01_Same.f k a (b.take a.length)).bind fun t198 => ((lunettelaw01_awake.f k).bind fun t199 => (if t199 = true then (some ((putL (bytesAll a)).isPrefixOf (putL (bytesAll b)) == t198)) else (some false)))) (fun k => ?_) ?_
        · simp only [lunettelaw01_KeyBegins.j0, Bool.not_true, Bool.false_eq_true, if_false, Option.bind_some, List.nil_append, List.length_nil, na, nb, n2, if_true, put_f pa, put_f pb, put_f pab, hle, hm, h0, Int.toNat_natCast, begins_f, hpre, size_mk, z, e1]
        · refine Ev.bind (same_ev a (b.take a.length) ha) ?_
          refine Ev.bind awake_ev ?_
          simp only [if_true]
          have : ((putL (bytesAll a)).isPrefixOf (putL (bytesAll b)) == decide (a = b.take a.length)) = true := by
            rw [put_begins, beq_iff_eq, decide_eq_decide]
            exact List.prefix_iff_eq_take
          rw [this]; exact Ev.now _
      · refine Ev.step (f := fun k => (lunettelaw01_awake.f k).bind fun t199 => (if t199 = true then (some ((putL (bytesAll a)).isPrefixOf (putL (bytesAll b)) == false)) else (some false))) (fun k => ?_) ?_
        · simp only [lunettelaw01_KeyBegins.j0, Bool.not_true, Bool.false_eq_true, if_false, Option.bind_some, List.nil_append, List.length_nil, na, nb, n2, if_true, put_f pa, put_f pb, put_f pab, hle, begins_f, hpre, size_mk, z, e1]
        · refine Ev.bind awake_ev ?_
          simp only [if_true]
          have : ((putL (bytesAll a)).isPrefixOf (putL (bytesAll b)) == false) = true := by
            rw [put_begins, beq_iff_eq]
            exact decide_eq_false (fun h => hle (by have := h.length_le; omega))
          rw [this]; exact Ev.now _
theorem keyBegins_walk (w : World) (a0 : Option Addr) (c0 : Nat) (l0 : List ByteArray) (hr0 : Kd.C Kd.string w a0 l0.length l0) (hm0 : l0.length ≤ maxLen) (hc0 : l0.length ≤ c0) (a1 : Option Addr) (c1 : Nat) (l1 : List ByteArray) (hr1 : Kd.C Kd.string w a1 l1.length l1) (hm1 : l1.length ≤ maxLen) (hc1 : l1.length ≤ c1) :
    Calls Tryd.prog 5 #[.slice a0 l0.length c0, .slice a1 l1.length c1] w fun e w' => e = .returned (.bool true) ∧ Below w.heap.size w w' := by
  obtain ⟨k, h⟩ := (keyBegins_ev l0 l1 hm0 hm1).rounds
  exact lunettelaw01_KeyBegins.calls k a0 c0 l0 a1 c1 l1 true w hr0 hc0 hr1 hc1 h
end Go.Proofs.YtbecojmhjkhifaaDoor.K
