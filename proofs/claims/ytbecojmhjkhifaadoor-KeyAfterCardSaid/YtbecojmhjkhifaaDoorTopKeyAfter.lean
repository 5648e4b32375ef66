/- KeyAfter: the pure statement of the law, and its walk. Conditions: none beyond the row's own. -/
import Derived.Test.YtbecojmhjkhifaaDoorG4
import Derived.Test.YtbecojmhjkhifaaDoorP15
namespace Go.Proofs.YtbecojmhjkhifaaDoor.K
set_option linter.unusedVariables false
set_option linter.unusedSimpArgs false
open Go.RowKit Go.Proofs.YtbecojmhjkhifaaDoorW.PrintWords Go.Proofs.YtbecojmhjkhifaaDoorW.PrintLast Go.Proofs.YtbecojmhjkhifaaDoorW.PrintMore
open Go.Proofs.YtbecojmhjkhifaaDoor.PL

def full (l : List UInt8) : Bool := l.all (· == 255)
theorem full_rep (n : Nat) : full (List.replicate n 255) = true := by unfold full; rw [List.all_eq_true]; intro x hx; rw [List.eq_of_mem_replicate hx]; rfl
theorem full_not (u : List UInt8) (c : UInt8) (hc : c ≠ 255) (n : Nat) : full (u ++ c :: List.replicate n 255) = false := by
  unfold full
  rw [List.all_append, List.all_cons, show (c == 255) = false by simpa using hc]; simp
theorem after_loop (a b x5 : ByteArray) (x6 : Bool) (ha : a.size ≤ 1099511627776) (r : Bool) (d : Nat) : ∀ (i : Nat) (x7 : Bool), i ≤ a.size → a.size - i = d →
    Ev (fun k => lunettelaw01_KeyAfter.l0 k a b x5 x6 (x7 && full (a.data.toList.drop i)) (a.size : Int)) r → Ev (fun k => lunettelaw01_KeyAfter.l0 k a b x5 x6 x7 (i : Int)) r := by
  induction d with
  | zero =>
    intro i x7 hi hd h
    have hz : a.data.toList.drop i = [] := by rw [List.drop_eq_nil_iff, data_length]; omega
    rw [hz] at h
    have e : i = a.size := by omega
    rw [e]
    simpa [full] using h
  | succ d ih =>
    intro i x7 hi hd h
    have hlt : i < a.size := by omega
    rw [drop_byte a i hlt] at h
    cases x7 with
    | true =>
      refine Ev.step (f := fun k => lunettelaw01_KeyAfter.l0 k a b x5 x6 (a[i] == 255) ((i + 1 : Nat) : Int)) (fun k => ?_) (ih (i + 1) _ (by omega) (by omega) ?_)
      · show lunettelaw01_KeyAfter.l0 (k + 1) a b x5 x6 true (i : Int) = _
        simp only [lunettelaw01_KeyAfter.l0]
        rw [if_pos (by omega), if_pos trivial, if_pos (by omega), bt_byte a i hlt, w64 (by omega) (by omega)]
        have : ((a[i].toNat : Int) == 255) = (a[i] == 255) := by
          rw [Bool.eq_iff_iff, beq_iff_eq, beq_iff_eq]
          exact ⟨fun e => UInt8.toNat_inj.1 (by show _ = 255; omega), fun e => by rw [e]; rfl⟩
        rw [this]; rfl
      · simpa [full] using h
    | false =>
      refine Ev.step (f := fun k => lunettelaw01_KeyAfter.l0 k a b x5 x6 false ((i + 1 : Nat) : Int)) (fun k => ?_) (ih (i + 1) _ (by omega) (by omega) ?_)
      · show lunettelaw01_KeyAfter.l0 (k + 1) a b x5 x6 false (i : Int) = _
        simp only [lunettelaw01_KeyAfter.l0]
        rw [if_pos (by omega), if_neg (by decide), w64 (by omega) (by omega)]
        rfl
      · simpa [full] using h
theorem keyAfter_ev (a b : ByteArray) : Ev (fun k => lunettelaw01_KeyAfter.f k a b) true := by
  have out : Ev (fun k => lunettelaw01_KeyAfter.j0 k a b true) true := Ev.step (fun k => by simp only [lunettelaw01_KeyAfter.j0, if_true]) (Ev.bind awake_ev (Ev.now _))
  unfold lunettelaw01_KeyAfter.f
  by_cases h1 : (a.size : Int) > 300
  · simp only [h1, if_true]; exact out
  · simp only [h1, if_false]
    by_cases h2 : (b.size : Int) > 300
    · rw [decide_eq_true h2]; exact out
    · rw [decide_eq_false h2]
      refine Ev.step (fun k => by simp only [lunettelaw01_KeyAfter.j0, Bool.false_eq_true, if_false]; rfl) ?_
      have hal : a.data.toList.length = a.size := data_length a
      rcases tail_cases a.data.toList with ⟨n, hn⟩ | ⟨u, c, n, hc, hn⟩
      · have e : a = mk (List.replicate n 255) := by rw [← hn, mk_of]
        rw [hn, List.length_replicate] at hal
        refine Ev.bind (a := (mk [], false)) (by have := after_none n (by omega); rw [← e] at this; exact this) ?_
        refine after_loop a b (mk []) false (by omega) true a.size 0 true (by omega) (by omega) ?_
        rw [List.drop_zero, hn, full_rep, Bool.and_true]
        refine Ev.step (fun k => by simp only [lunettelaw01_KeyAfter.l0]; rw [if_neg (by omega), if_pos trivial]) ?_
        refine Ev.bind awake_ev ?_
        simp only [if_true, Bool.false_eq_true, if_false]
        rw [ByteArray.toList_eq, mk_data]
        exact Ev.now _
      · have e : a = mk (u ++ c :: List.replicate n 255) := by rw [← hn, mk_of]
        rw [hn, List.length_append, List.length_cons, List.length_replicate] at hal
        refine Ev.bind (a := (mk (u ++ [up c]), true)) (by have := after_some u c hc (by omega) n (by omega); rw [← e] at this; exact this) ?_
        refine after_loop a b (mk (u ++ [up c])) true (by omega) true a.size 0 true (by omega) (by omega) ?_
        rw [List.drop_zero, hn, full_not u c hc, Bool.and_false]
        refine Ev.step (fun k => by simp only [lunettelaw01_KeyAfter.l0]; rw [if_neg (by omega), if_neg (by decide)]) ?_
        have ho := after_order c (up c) (up_nat hc) n u b.data.toList
        rw [← hn] at ho
        refine Ev.bind (below_ev b a (by omega) (by omega)) ?_
        cases hl : lt b.data.toList a.data.toList with
        | true =>
          rw [hl] at ho
          simp only [if_true]
          refine Ev.bind awake_ev ?_
          simp only [if_true, begins_f, Option.bind_some]
          rw [← ho]
          exact Ev.now _
        | false =>
          rw [hl] at ho
          simp only [Bool.false_eq_true, if_false]
          refine Ev.bind (below_ev b (mk (u ++ [up c])) (by omega) (by rw [mk_size, List.length_append, List.length_singleton]; omega)) ?_
          refine Ev.bind awake_ev ?_
          simp only [if_true, begins_f, Option.bind_some]
          rw [← ho, mk_data, Bool.not_false, Bool.true_and, beq_self_eq_true]
          exact Ev.now _
theorem keyAfter_walk (w : World) (a0 : ByteArray) (_w0 : a0.size ≤ 140737488351232) (a1 : ByteArray) (_w1 : a1.size ≤ 140737488351232) :
    Calls Tryd.prog 6 #[.string a0, .string a1] w fun e w' => e = .returned (.bool true) ∧ Below w.heap.size w w' := by
  obtain ⟨k, h⟩ := (keyAfter_ev a0 a1).rounds
  exact lunettelaw01_KeyAfter.calls k a0 a1 true w h
end Go.Proofs.YtbecojmhjkhifaaDoor.K
