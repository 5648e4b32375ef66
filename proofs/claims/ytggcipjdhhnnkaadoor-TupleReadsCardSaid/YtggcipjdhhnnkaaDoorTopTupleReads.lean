/- TupleReads: the pure statement of the law, and its walk. Conditions: none beyond the row's own. -/
import Derived.Test.YtggcipjdhhnnkaaDoorTG8
import Derived.Test.YtggcipjdhhnnkaaDoorTG9
import Derived.Test.YtggcipjdhhnnkaaDoorP35
namespace Go.Proofs.YtggcipjdhhnnkaaDoor.K
set_option linter.unusedVariables false
set_option linter.unusedSimpArgs false
open Go.RowKit Go.Proofs.YtggcipjdhhnnkaaDoorW.PrintWords Go.Proofs.YtggcipjdhhnnkaaDoorW.PrintLast Go.Proofs.YtggcipjdhhnnkaaDoorW.PrintMore
open Go.Proofs.YtggcipjdhhnnkaaDoor.PL

theorem chk_le {a b c d e f : ByteArray} (h : chkP a b c d e f = true) : a.size ≤ 300 ∧ b.size ≤ 300 ∧ c.size ≤ 300 ∧ d.size ≤ 300 ∧ e.size ≤ 300 ∧ f.size ≤ 300 := by
  obtain ⟨u, v, _⟩ := chk_parts h
  have := u.sa; have := u.sb; have := u.sc; have := v.sa; have := v.sb; have := v.sc
  omega
/-- What Read gives of any text that isn't too long. -/
theorem read_any (s : ByteArray) (hs : s.size ≤ 1099511627776) : tuple_Read.f s = some (⟨#[]⟩, ⟨#[]⟩, ⟨#[]⟩, ⟨#[]⟩, ⟨#[]⟩, ⟨#[]⟩, 110) ∨
    ∃ a b c d e f, tuple_Read.f s = some (a, b, c, d, e, f, 0) ∧ chkP a b c d e f = true ∧ s = mk (showL a.data.toList b.data.toList c.data.toList d.data.toList e.data.toList f.data.toList) := by
  obtain ⟨x, y, t, h1, hx, hy⟩ := cut_small s 64 hs
  obtain ⟨a, b, c, h2, _⟩ := parse_small x (by omega)
  obtain ⟨d, e, f, h3, _⟩ := parse_small y (by omega)
  have hr : tuple_Read.f s = tuple_Read.f s := rfl
  conv at hr => rhs; unfold tuple_Read.f
  simp only [h1, h2, h3, tshow, Option.bind_some] at hr
  by_cases hc : chkP a b c d e f = true
  · simp only [hc, if_true] at hr
    by_cases hs2 : (mk (showL a.data.toList b.data.toList c.data.toList d.data.toList e.data.toList f.data.toList)).toList = s.toList
    · rw [if_pos hs2] at hr
      exact Or.inr ⟨a, b, c, d, e, f, hr, hc, (bytes_eq hs2).symm⟩
    · rw [if_neg hs2] at hr
      exact Or.inl hr
  · simp only [hc, if_false] at hr
    exact Or.inl hr
theorem readuser_any (s : ByteArray) (hs : s.size ≤ 1099511627776) : tuple_ReadUser.f s = some (⟨#[]⟩, ⟨#[]⟩, ⟨#[]⟩, 110) ∨
    ∃ a b c, tuple_ReadUser.f s = some (a, b, c, 0) ∧ userP a b c = true ∧ s = mk (textL a.data.toList b.data.toList c.data.toList) := by
  obtain ⟨a, b, c, h2, _⟩ := parse_small s (by omega)
  by_cases hc : userP a b c = true
  · have u := user_facts hc
    have h1 := u.sa; have h4 := u.sb; have h5 := u.sc
    have hr : tuple_ReadUser.f s = tuple_ReadUser.f s := rfl
    conv at hr => rhs; unfold tuple_ReadUser.f
    simp only [h2, tuser, hc, ttext a b c (by omega), Option.bind_some, if_true] at hr
    by_cases hs2 : (mk (textL a.data.toList b.data.toList c.data.toList)).toList = s.toList
    · rw [if_pos hs2] at hr
      exact Or.inr ⟨a, b, c, hr, hc, (bytes_eq hs2).symm⟩
    · rw [if_neg hs2] at hr
      exact Or.inl hr
  · refine Or.inl ?_
    unfold tuple_ReadUser.f
    rw [h2]; simp only [Option.bind_some]
    rw [tuser, show userP a b c = false by simpa using hc]
    rfl
theorem reads_j2 (s : ByteArray) (hs : s.size ≤ 400) : Ev (fun k => lunettelaw11_TupleReads.j2 k s true true) true := by
  refine Ev.step (fun k => by simp only [lunettelaw11_TupleReads.j2, if_true, tname, tid, Option.bind_some]; rfl) ?_
  refine Ev.bind (rName_ev s (by omega)) ?_
  rw [show (nameP s == madeB nameC 12 s) = true from beq_self_eq_true _]
  simp only [if_true]
  refine Ev.bind (rID_ev s (by omega)) ?_
  rw [show (idP s == madeB idC 16 s) = true from beq_self_eq_true _]
  exact Ev.now _
theorem reads_bad (s : ByteArray) (hs : s.size ≤ 400) : Ev (fun k => lunettelaw11_TupleReads.j1 k s 110 true ⟨#[]⟩ ⟨#[]⟩ ⟨#[]⟩) true := by
  refine Ev.step (f := fun k => lunettelaw11_TupleReads.j2 k s true true) (fun k => ?_) (reads_j2 s hs)
  simp only [lunettelaw11_TupleReads.j1, nilB, beq_self_eq_true, Bool.and_self, if_true]
theorem reads_ok (s a b c : ByteArray) (hs : s.size ≤ 400) (hu : userP a b c = true) (h : s = mk (textL a.data.toList b.data.toList c.data.toList)) : Ev (fun k => lunettelaw11_TupleReads.j1 k s 0 true a b c) true := by
  have u := user_facts hu
  have h1 := u.sa; have h4 := u.sb; have h5 := u.sc
  refine Ev.step (fun k => by simp only [lunettelaw11_TupleReads.j1, show ((0 : Int) = 110) = False from eq_false (by decide), if_false, if_true]; rfl) ?_
  have hr := ruser_ev a b c (by omega) (by omega) (by omega)
  rw [hu] at hr
  refine Ev.bind hr ?_
  simp only [if_true]
  rw [rshowuser a b c (by omega), ← h]
  simp only [Option.bind_some, beq_self_eq_true]
  exact reads_j2 s hs
theorem reads_j1 (s : ByteArray) (hs : s.size ≤ 400) {r : ByteArray × ByteArray × ByteArray × Int} (h : tuple_ReadUser.f s = some r) : Ev (fun k => lunettelaw11_TupleReads.j1 k s r.2.2.2 true r.1 r.2.1 r.2.2.1) true := by
  rcases readuser_any s (by omega) with h2 | ⟨a, b, c, h2, hu, hm⟩
  · rw [h] at h2
    obtain rfl := Option.some.inj h2
    exact reads_bad s hs
  · rw [h] at h2
    obtain rfl := Option.some.inj h2
    exact reads_ok s a b c hs hu hm
theorem tupleReads_ev (s : ByteArray) : Ev (fun k => lunettelaw11_TupleReads.f k s) true := by
  unfold lunettelaw11_TupleReads.f
  refine Ev.bind awake_ev ?_
  simp only [if_true]
  by_cases h1 : (s.size : Int) > 400
  · rw [decide_eq_true h1]
    exact Ev.step (fun k => by simp only [lunettelaw11_TupleReads.j0, if_true]) (Ev.bind awake_ev (Ev.now _))
  · rw [decide_eq_false h1]
    have hs : s.size ≤ 400 := by omega
    obtain ⟨ru, hru⟩ : ∃ r, tuple_ReadUser.f s = some r := by
      rcases readuser_any s (by omega) with h | ⟨_, _, _, h, _⟩ <;> exact ⟨_, h⟩
    have hj := reads_j1 s hs hru
    rcases read_any s (by omega) with h | ⟨a, b, c, d, e, f, h, hc, hm⟩
    · refine Ev.step (f := fun k => lunettelaw11_TupleReads.j1 k s ru.2.2.2 true ru.1 ru.2.1 ru.2.2.1) (fun k => ?_) hj
      simp only [lunettelaw11_TupleReads.j0, Bool.false_eq_true, if_false, h, hru, Option.bind_some, if_true, nilB, beq_self_eq_true, Bool.and_self]
    · obtain ⟨q1, q2, q3, q4, q5, q6⟩ := chk_le hc
      obtain ⟨_, _, hcc, _⟩ := chk_parts hc
      have hr := rcheck_ev a b c d e f (by omega) (by omega) (by omega) (by omega) (by omega) (by omega)
      rw [hc] at hr
      refine Ev.step (fun k => by simp only [lunettelaw11_TupleReads.j0, Bool.false_eq_true, if_false, h, hru, Option.bind_some, show ((0 : Int) = 110) = False from eq_false (by decide), if_true]; rfl) ?_
      refine Ev.bind hr ?_
      simp only [if_true]
      rw [rshow a b c d e f (by omega) (by omega) hcc, ← hm]
      simp only [Option.bind_some, beq_self_eq_true]
      exact hj
theorem tupleReads_walk (w : World) (a0 : ByteArray) (_w0 : a0.size ≤ 140737488351232) :
    Calls Tryd.prog 8 #[.string a0] w fun e w' => e = .returned (.bool true) ∧ Below w.heap.size w w' := by
  obtain ⟨k, h⟩ := (tupleReads_ev a0).rounds
  exact lunettelaw11_TupleReads.callsT k a0 true w h rfl
end Go.Proofs.YtggcipjdhhnnkaaDoor.K
