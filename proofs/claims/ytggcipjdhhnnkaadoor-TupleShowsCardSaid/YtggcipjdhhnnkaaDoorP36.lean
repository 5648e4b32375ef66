-- Written by a program of this session (wip/pp.py over the kit's print.py). Lean checks it.
import Derived.Test.YtggcipjdhhnnkaaDoorP0
import Derived.Test.YtggcipjdhhnnkaaDoorP1
import Derived.Test.YtggcipjdhhnnkaaDoorP2
import Derived.Test.YtggcipjdhhnnkaaDoorPMa
import Derived.Test.YtggcipjdhhnnkaaDoorP11
import Derived.Test.YtggcipjdhhnnkaaDoorAW
import Derived.Test.YtggcipjdhhnnkaaDoorPMb
import Derived.Test.YtggcipjdhhnnkaaDoorP22
import Derived.Test.YtggcipjdhhnnkaaDoorPMf
import Derived.Test.YtggcipjdhhnnkaaDoorPMg
namespace Go.Proofs.YtggcipjdhhnnkaaDoor.K
open Go.RowKit Go.Proofs.YtggcipjdhhnnkaaDoorW.PrintWords Go.Proofs.YtggcipjdhhnnkaaDoorW.PrintLast Go.Proofs.YtggcipjdhhnnkaaDoorW.PrintMore
attribute [local go_sem] max2_int min2_int max_two min_two max_three min_three max_four min_four   -- for this text's walks alone
set_option linter.unusedVariables false
set_option linter.unusedSimpArgs false

attribute [local go_sem high] eqA24 eqA26
/-! ### lunettelaw11_TupleShows: function 9 -/
mutual
def lunettelaw11_TupleShows.j0 : Nat → Bool → ByteArray → ByteArray → ByteArray → ByteArray → ByteArray → ByteArray → Option (Bool)
  | 0, _, _, _, _, _, _, _ => none
  | k + 1, x18, x373000, x373001, x373002, x373003, x373004, x373005 => if x18 = true then ((lunettelaw11_awake.f k).bind fun t375 => (some t375)) else ((tuple_Show.f x373000 x373001 x373002 x373003 x373004 x373005).bind fun bt376 => ((tuple_ShowUser.f x373003 x373004 x373005).bind fun bt378 => ((tuple_Check.f x373000 x373001 x373002 x373003 x373004 x373005).bind fun t380 => ((lunetteref11_User.f k x373003 x373004 x373005).bind fun t381 => (if t381 = true then ((tuple_ReadUser.f bt378.1).bind fun bt382 => (if bt378.2 = 0 then ((lunetteref11_ShowUser.f x373003 x373004 x373005).bind fun t387 => (if bt378.1.toList = t387.toList then (if (!(bt382.1.toList == x373003.toList) || (!(bt382.2.1.toList == x373004.toList) || (!(bt382.2.2.1.toList == x373005.toList)))) = true then (some false) else (if bt382.2.2.2 = 0 then (lunettelaw11_TupleShows.j1 k bt376.1 bt376.2 t380 x373000 x373001 x373002 x373003 x373004 x373005) else (some false))) else (some false))) else (some false))) else (if bt378.2 = 111 then (if bt378.1.toList = ([] : List UInt8) then (lunettelaw11_TupleShows.j1 k bt376.1 bt376.2 t380 x373000 x373001 x373002 x373003 x373004 x373005) else (some false)) else (some false)))))))
def lunettelaw11_TupleShows.j1 : Nat → ByteArray → Int → Int → ByteArray → ByteArray → ByteArray → ByteArray → ByteArray → ByteArray → Option (Bool)
  | 0, _, _, _, _, _, _, _, _, _ => none
  | k + 1, x3, x4, x7, x373000, x373001, x373002, x373003, x373004, x373005 => (lunetteref11_Check.f k x373000 x373001 x373002 x373003 x373004 x373005).bind fun t388 => (if t388 = true then ((tuple_Read.f x3).bind fun bt389 => ((lunetteref11_Show.f x373000 x373001 x373002 x373003 x373004 x373005).bind fun t397 => (if x3.toList = t397.toList then (if x4 = 0 then (if x7 = 0 then (if (bt389.1.toList == x373000.toList && (bt389.2.1.toList == x373001.toList && (bt389.2.2.1.toList == x373002.toList && ((bt389.2.2.2.1.toList == x373003.toList && (bt389.2.2.2.2.1.toList == x373004.toList && (bt389.2.2.2.2.2.1.toList == x373005.toList))))))) = true then (some (bt389.2.2.2.2.2.2 == 0)) else (some false)) else (some false)) else (some false)) else (some false)))) else (if x3.toList = ([] : List UInt8) then (if x4 = 111 then (some (x7 == 111)) else (some false)) else (some false)))
end
def lunettelaw11_TupleShows.f (k : Nat) (a0_0 : ByteArray) (a0_1 : ByteArray) (a0_2 : ByteArray) (a0_3 : ByteArray) (a0_4 : ByteArray) (a0_5 : ByteArray) : Option (Bool) := (lunettelaw11_awake.f k).bind fun t373 => (if t373 = true then ((lunettelaw11_few.f k a0_0 a0_1 a0_2 a0_3 a0_4 a0_5).bind fun t374 => (lunettelaw11_TupleShows.j0 k (!t374) a0_0 a0_1 a0_2 a0_3 a0_4 a0_5)) else (lunettelaw11_TupleShows.j0 k true a0_0 a0_1 a0_2 a0_3 a0_4 a0_5))
theorem lunettelaw11_TupleShows.mono_l : ∀ k, (∀ y0 y1 y2 y3 y4 y5 y6, LeO (lunettelaw11_TupleShows.j0 k y0 y1 y2 y3 y4 y5 y6) (lunettelaw11_TupleShows.j0 (k + 1) y0 y1 y2 y3 y4 y5 y6)) ∧ (∀ y0 y1 y2 y3 y4 y5 y6 y7 y8, LeO (lunettelaw11_TupleShows.j1 k y0 y1 y2 y3 y4 y5 y6 y7 y8) (lunettelaw11_TupleShows.j1 (k + 1) y0 y1 y2 y3 y4 y5 y6 y7 y8))
  | 0 => ⟨fun _ _ _ _ _ _ _ r h => by simp [lunettelaw11_TupleShows.j0] at h, fun _ _ _ _ _ _ _ _ _ r h => by simp [lunettelaw11_TupleShows.j1] at h⟩
  | k + 1 => by
    obtain ⟨ih0, ih1⟩ := lunettelaw11_TupleShows.mono_l k
    refine ⟨?_, ?_⟩
    · intro y0 y1 y2 y3 y4 y5 y6
      unfold lunettelaw11_TupleShows.j0
      repeat' first
      | (with_reducible exact ih0 _ _ _ _ _ _ _)
      | (with_reducible exact ih1 _ _ _ _ _ _ _ _ _)
      | (with_reducible exact lunettelaw11_awake.mono _)
      | (with_reducible exact lunettelaw11_few.mono _ _ _ _ _ _ _)
      | (with_reducible exact lunetteref11_Check.mono _ _ _ _ _ _ _)
      | (with_reducible exact lunetteref11_User.mono _ _ _ _)
      | (with_reducible exact LeO.refl _)
      | (with_reducible exact LeO.none _)
      | (with_reducible refine LeO.ite ?_ ?_)
      | (with_reducible refine LeO.bind ?_ (fun _ => ?_))
      | exact ih0 _ _ _ _ _ _ _
      | exact ih1 _ _ _ _ _ _ _ _ _
      | exact lunettelaw11_awake.mono _
      | exact lunettelaw11_few.mono _ _ _ _ _ _ _
      | exact lunetteref11_Check.mono _ _ _ _ _ _ _
      | exact lunetteref11_User.mono _ _ _ _
      | exact LeO.none _
      | refine LeO.ite ?_ ?_
      | refine LeO.bind ?_ (fun _ => ?_)
    · intro y0 y1 y2 y3 y4 y5 y6 y7 y8
      unfold lunettelaw11_TupleShows.j1
      repeat' first
      | (with_reducible exact ih0 _ _ _ _ _ _ _)
      | (with_reducible exact ih1 _ _ _ _ _ _ _ _ _)
      | (with_reducible exact lunettelaw11_awake.mono _)
      | (with_reducible exact lunettelaw11_few.mono _ _ _ _ _ _ _)
      | (with_reducible exact lunetteref11_Check.mono _ _ _ _ _ _ _)
      | (with_reducible exact lunetteref11_User.mono _ _ _ _)
      | (with_reducible exact LeO.refl _)
      | (with_reducible exact LeO.none _)
      | (with_reducible refine LeO.ite ?_ ?_)
      | (with_reducible refine LeO.bind ?_ (fun _ => ?_))
      | exact ih0 _ _ _ _ _ _ _
      | exact ih1 _ _ _ _ _ _ _ _ _
      | exact lunettelaw11_awake.mono _
      | exact lunettelaw11_few.mono _ _ _ _ _ _ _
      | exact lunetteref11_Check.mono _ _ _ _ _ _ _
      | exact lunetteref11_User.mono _ _ _ _
      | exact LeO.none _
      | refine LeO.ite ?_ ?_
      | refine LeO.bind ?_ (fun _ => ?_)
theorem lunettelaw11_TupleShows.mono : ∀ a0 a1 a2 a3 a4 a5 k, LeO (lunettelaw11_TupleShows.f k a0 a1 a2 a3 a4 a5) (lunettelaw11_TupleShows.f (k + 1) a0 a1 a2 a3 a4 a5) := by
  intro a0 a1 a2 a3 a4 a5 k
  obtain ⟨ih0, ih1⟩ := lunettelaw11_TupleShows.mono_l k
  unfold lunettelaw11_TupleShows.f
  repeat' first
      | (with_reducible exact ih0 _ _ _ _ _ _ _)
      | (with_reducible exact ih1 _ _ _ _ _ _ _ _ _)
      | (with_reducible exact lunettelaw11_awake.mono _)
      | (with_reducible exact lunettelaw11_few.mono _ _ _ _ _ _ _)
      | (with_reducible exact lunetteref11_Check.mono _ _ _ _ _ _ _)
      | (with_reducible exact lunetteref11_User.mono _ _ _ _)
      | (with_reducible exact LeO.refl _)
      | (with_reducible exact LeO.none _)
      | (with_reducible refine LeO.ite ?_ ?_)
      | (with_reducible refine LeO.bind ?_ (fun _ => ?_))
      | exact ih0 _ _ _ _ _ _ _
      | exact ih1 _ _ _ _ _ _ _ _ _
      | exact lunettelaw11_awake.mono _
      | exact lunettelaw11_few.mono _ _ _ _ _ _ _
      | exact lunetteref11_Check.mono _ _ _ _ _ _ _
      | exact lunetteref11_User.mono _ _ _ _
      | exact LeO.none _
      | refine LeO.ite ?_ ?_
      | refine LeO.bind ?_ (fun _ => ?_)
set_option maxHeartbeats 8000000 in
set_option maxRecDepth 100000 in
theorem lunettelaw11_TupleShows.callsT (k : Nat) (a0_0 : ByteArray) (a0_1 : ByteArray) (a0_2 : ByteArray) (a0_3 : ByteArray) (a0_4 : ByteArray) (a0_5 : ByteArray) (r : Bool) (w : World) (h : lunettelaw11_TupleShows.f k a0_0 a0_1 a0_2 a0_3 a0_4 a0_5 = some r) (hT : r = true) :
    Calls Tryd.prog 9 #[.agg #[.string a0_0, .string a0_1, .string a0_2, .string a0_3, .string a0_4, .string a0_5]] w fun e w' => e = .returned (.bool r) ∧ Below w.heap.size w w' := by
  have hu26 := Tryd.underlying26
  have hu24 := Tryd.underlying24
  have HB := Aside0.mk (Below.refl w.heap.size w)
  have HTRUE := Aside0.mk hT
  clear hT
  have H : ((lunettelaw11_awake.f k).bind fun t373 => (if t373 = true then ((lunettelaw11_few.f k a0_0 a0_1 a0_2 a0_3 a0_4 a0_5).bind fun t374 => (lunettelaw11_TupleShows.j0 k (!t374) a0_0 a0_1 a0_2 a0_3 a0_4 a0_5)) else (lunettelaw11_TupleShows.j0 k true a0_0 a0_1 a0_2 a0_3 a0_4 a0_5))) = some r := h
  clear h
  have HC2 := Aside0.mk H
  clear H
  go_enter Tryd.func9, Tryd.ntmps9
  go_upto_region 1 with (first | ((with_reducible refine gate_dst (N := 1) rfl ?_); refine box_event ?hg (N := 1) ?hd (cs := #[.string a0_0, .string a0_1, .string a0_2, .string a0_3, .string a0_4, .string a0_5]) (t := 26) ?hr ?_; (case hd => rfl); (case hg => rfl); (case hr => first | (go_simp; done) | (go_simp; rfl)); intro gb372 hg w3 hbox hb; have n0_ := Aside0.mk (below_step (by repeat (first | (with_reducible first | exact HB.out | apply below_alloc | apply pw_below_drewN | apply below_drew1) | exact HB.out)) hb); have n1_ := Aside0.mk (hbox); have n2_ := Aside0.mk ((by rw [hg]; exact (below_size (by repeat (first | (with_reducible first | exact HB.out | apply below_alloc | apply pw_below_drewN | apply below_drew1) | exact HB.out))) : w.heap.size ≤ gb372)); have n3_ := Aside0.mk ((by rw [hg]; exact (below_size (by repeat (first | (with_reducible first | exact HB.out | apply below_alloc | apply pw_below_drewN | apply below_drew1) | exact HB.out))) : w.heap.size ≤ gb372)); clear HB; have HB := n0_; have BK372 := n1_; have GW372 := n2_; have GE372 := n3_; clear n0_ n1_ n2_ n3_; clear hb hbox hg))
  (try simp only [Act.put, List.setIfInBounds_toArray, List.set_cons_zero, List.set_cons_succ])
  go_cut [18] (fun v18 wc => ∃ (kq : Nat) (x18_1 : Bool), v18 = .bool x18_1 ∧ Aside0 (lunettelaw11_TupleShows.j0 kq x18_1 a0_0 a0_1 a0_2 a0_3 a0_4 a0_5 = some r) ∧ Aside0 (kq ≤ k) ∧ Aside0 (wc.heap[gb372]? = some (.cells #[.string a0_0, .string a0_1, .string a0_2, .string a0_3, .string a0_4, .string a0_5] 26 (0, 0))) ∧ Aside0 (Below w.heap.size w wc))
  case first =>
    have H := HC2.out
    clear HC2
    replace H := Option.bind_eq_some_iff.mp H
    obtain ⟨t373, A40, H⟩ := H
    replace H : (if t373 = true then ((lunettelaw11_few.f k a0_0 a0_1 a0_2 a0_3 a0_4 a0_5).bind fun t374 => (lunettelaw11_TupleShows.j0 k (!t374) a0_0 a0_1 a0_2 a0_3 a0_4 a0_5)) else (lunettelaw11_TupleShows.j0 k true a0_0 a0_1 a0_2 a0_3 a0_4 a0_5)) = some r := H
    have A4 := Aside0.mk A40
    clear A40
    by_cases c5 : t373 = true
    · subst c5
      have H1 : ((lunettelaw11_few.f k a0_0 a0_1 a0_2 a0_3 a0_4 a0_5).bind fun t374 => (lunettelaw11_TupleShows.j0 k (!t374) a0_0 a0_1 a0_2 a0_3 a0_4 a0_5)) = some r := by rw [if_pos rfl] at H; exact H
      clear H
      have H := H1
      clear H1
      replace H := Option.bind_eq_some_iff.mp H
      obtain ⟨t374, A60, H⟩ := H
      replace H : (lunettelaw11_TupleShows.j0 k (!t374) a0_0 a0_1 a0_2 a0_3 a0_4 a0_5) = some r := H
      have A6 := Aside0.mk A60
      clear A60
      have H' := Aside0.mk H
      clear H
      go_wp2_with (first | ((with_reducible refine gate_callee (f := 11) rfl ?_); refine goesL_ (some 12) rfl rfl Tryd.func11 (by kernel_rfl) rfl #[] rfl (by (try simp only [List.map_toArray, List.map_cons, List.map_nil]); first | done | rfl | (simp only [List.length_drop, List.length_take]; rfl)) ?_; (with_reducible refine (lunettelaw11_awake.calls k  true _ A4.out).mono ?_); rintro e w7 ⟨rfl, hb⟩; refine ⟨_, rfl, ?_⟩; have n0_ := Aside0.mk (blk_below (g := gb372) (o := .cells #[.string a0_0, .string a0_1, .string a0_2, .string a0_3, .string a0_4, .string a0_5] 26 (0, 0)) (by (with_reducible repeat (first | refine blk_drewN ?_ _ | refine blk_drew ?_ | refine blk_alloc ?_ _)); exact BK372.out) hb); have n1_ := Aside0.mk (below_step (by repeat (first | (with_reducible first | exact HB.out | apply below_alloc | apply pw_below_drewN | apply below_drew1 | refine below_set ?_ GE372.out) | exact HB.out)) hb); clear BK372; clear HB; have BK372 := n0_; have HB := n1_; clear n0_ n1_; (try clear hb); (try clear hb2); (try clear hk); (try clear hi); have hcz8_0 : w7.cell? ⟨gb372, 0, none⟩ = some (.string a0_0) := (blk_cell BK372.out 0).trans rfl; have hcz8_1 : w7.cell? ⟨gb372, 1, none⟩ = some (.string a0_1) := (blk_cell BK372.out 1).trans rfl; have hcz8_2 : w7.cell? ⟨gb372, 2, none⟩ = some (.string a0_2) := (blk_cell BK372.out 2).trans rfl; have hcz8_3 : w7.cell? ⟨gb372, 3, none⟩ = some (.string a0_3) := (blk_cell BK372.out 3).trans rfl; have hcz8_4 : w7.cell? ⟨gb372, 4, none⟩ = some (.string a0_4) := (blk_cell BK372.out 4).trans rfl; have hcz8_5 : w7.cell? ⟨gb372, 5, none⟩ = some (.string a0_5) := (blk_cell BK372.out 5).trans rfl; have hfz8_0 := blk_frozen BK372.out 0; have hfz8_1 := blk_frozen BK372.out 1; have hfz8_2 := blk_frozen BK372.out 2; have hfz8_3 := blk_frozen BK372.out 3; have hfz8_4 := blk_frozen BK372.out 4; have hfz8_5 := blk_frozen BK372.out 5) | (go_at_call 16; (with_reducible refine (lunettelaw11_few.calls k a0_0 a0_1 a0_2 a0_3 a0_4 a0_5 t374 _ A6.out).mono ?_); rintro e w9 ⟨rfl, hb⟩; have n0_ := Aside0.mk (blk_below (g := gb372) (o := .cells #[.string a0_0, .string a0_1, .string a0_2, .string a0_3, .string a0_4, .string a0_5] 26 (0, 0)) (by (with_reducible repeat (first | refine blk_drewN ?_ _ | refine blk_drew ?_ | refine blk_alloc ?_ _)); exact BK372.out) hb); have n1_ := Aside0.mk (below_step (by repeat (first | (with_reducible first | exact HB.out | apply below_alloc | apply pw_below_drewN | apply below_drew1 | refine below_set ?_ GE372.out) | exact HB.out)) hb); clear BK372; clear HB; have BK372 := n0_; have HB := n1_; clear n0_ n1_; (try clear hb); (try clear hb2); (try clear hk); (try clear hi)))
      go_meet
      case rel => exact ⟨_, (!t374), (by first | rfl | (simp; done) | (simp [*]; done)), H', ⟨by first | omega | exact Nat.le_refl _⟩, ⟨by (with_reducible repeat (first | refine blk_drewN ?_ _ | refine blk_drew ?_ | refine blk_alloc ?_ _)); exact BK372.out⟩, ⟨by repeat (first | (with_reducible first | exact HB.out | apply below_alloc | apply pw_below_drewN | apply below_drew1 | refine below_set ?_ GE372.out) | exact HB.out)⟩⟩
    · replace c5 := Bool.eq_false_iff.mpr c5
      subst c5
      have H1 : (lunettelaw11_TupleShows.j0 k true a0_0 a0_1 a0_2 a0_3 a0_4 a0_5) = some r := by rw [if_neg (show ¬ (false = true) by decide)] at H; exact H
      clear H
      have H := H1
      clear H1
      have H' := Aside0.mk H
      clear H
      go_wp2_with (first | ((with_reducible refine gate_callee (f := 11) rfl ?_); refine goesL_ (some 12) rfl rfl Tryd.func11 (by kernel_rfl) rfl #[] rfl (by (try simp only [List.map_toArray, List.map_cons, List.map_nil]); first | done | rfl | (simp only [List.length_drop, List.length_take]; rfl)) ?_; (with_reducible refine (lunettelaw11_awake.calls k  false _ A4.out).mono ?_); rintro e w10 ⟨rfl, hb⟩; refine ⟨_, rfl, ?_⟩; have n0_ := Aside0.mk (blk_below (g := gb372) (o := .cells #[.string a0_0, .string a0_1, .string a0_2, .string a0_3, .string a0_4, .string a0_5] 26 (0, 0)) (by (with_reducible repeat (first | refine blk_drewN ?_ _ | refine blk_drew ?_ | refine blk_alloc ?_ _)); exact BK372.out) hb); have n1_ := Aside0.mk (below_step (by repeat (first | (with_reducible first | exact HB.out | apply below_alloc | apply pw_below_drewN | apply below_drew1 | refine below_set ?_ GE372.out) | exact HB.out)) hb); clear BK372; clear HB; have BK372 := n0_; have HB := n1_; clear n0_ n1_; (try clear hb); (try clear hb2); (try clear hk); (try clear hi)))
      go_meet
      case rel => exact ⟨_, (true), (by first | rfl | (simp; done) | (simp [*]; done)), H', ⟨by first | omega | exact Nat.le_refl _⟩, ⟨by (with_reducible repeat (first | refine blk_drewN ?_ _ | refine blk_drew ?_ | refine blk_alloc ?_ _)); exact BK372.out⟩, ⟨by repeat (first | (with_reducible first | exact HB.out | apply below_alloc | apply pw_below_drewN | apply below_drew1 | refine below_set ?_ GE372.out) | exact HB.out)⟩⟩
  case rest =>
    clear HC2
    try clear c1
    try clear p2
    try clear c5
    try clear c9
    try clear hcz8_0
    try clear hcz8_1
    try clear hcz8_2
    try clear hcz8_3
    try clear hcz8_4
    try clear hcz8_5
    try clear hfz8_0
    try clear hfz8_1
    try clear hfz8_2
    try clear hfz8_3
    try clear hfz8_4
    try clear hfz8_5
    obtain ⟨kq, x18_1, rfl, HA, HJ1, BK372, HB⟩ := hcut
    cases kq with
    | zero => exact absurd HA.out (by simp [lunettelaw11_TupleShows.j0])
    | succ kj1 =>
      have H := HA.out
      clear HA
      simp only [lunettelaw11_TupleShows.j0] at H
      by_cases c11 : x18_1 = true
      · subst c11
        have H1 : ((lunettelaw11_awake.f kj1).bind fun t375 => (some t375)) = some r := by rw [if_pos rfl] at H; exact H
        clear H
        have H := H1
        clear H1
        replace H := Option.bind_eq_some_iff.mp H
        obtain ⟨t375, A120, H⟩ := H
        replace H : (some t375) = some r := H
        have A12 := Aside0.mk A120
        clear A120
        obtain rfl := Option.some.inj H
        go_wp2_with (first | ((with_reducible refine gate_callee (f := 11) rfl ?_); refine goesL_ (some 19) rfl rfl Tryd.func11 (by kernel_rfl) rfl #[] rfl (by (try simp only [List.map_toArray, List.map_cons, List.map_nil]); first | done | rfl | (simp only [List.length_drop, List.length_take]; rfl)) ?_; (with_reducible refine (lunettelaw11_awake.calls kj1  t375 _ A12.out).mono ?_); rintro e w13 ⟨rfl, hb⟩; refine ⟨_, rfl, ?_⟩; have n0_ := Aside0.mk (blk_below (g := gb372) (o := .cells #[.string a0_0, .string a0_1, .string a0_2, .string a0_3, .string a0_4, .string a0_5] 26 (0, 0)) (by (with_reducible repeat (first | refine blk_drewN ?_ _ | refine blk_drew ?_ | refine blk_alloc ?_ _)); exact BK372.out) hb); have n1_ := Aside0.mk (below_step (by repeat (first | (with_reducible first | exact HB.out | apply below_alloc | apply pw_below_drewN | apply below_drew1 | refine below_set ?_ GE372.out) | exact HB.out)) hb); clear BK372; clear HB; have BK372 := n0_; have HB := n1_; clear n0_ n1_; (try clear hb); (try clear hb2); (try clear hk); (try clear hi)))
        go_ret
        exact ⟨by first | rfl | (simp [errW_none, errW_some] <;> rfl) | (simp [*, errW_none, errW_some] <;> rfl), by repeat (first | (with_reducible first | exact HB.out | apply below_alloc | apply pw_below_drewN | apply below_drew1 | refine below_set ?_ GE372.out) | exact HB.out)⟩
      · replace c11 := Bool.eq_false_iff.mpr c11
        subst c11
        have H1 : ((tuple_Show.f a0_0 a0_1 a0_2 a0_3 a0_4 a0_5).bind fun bt376 => ((tuple_ShowUser.f a0_3 a0_4 a0_5).bind fun bt378 => ((tuple_Check.f a0_0 a0_1 a0_2 a0_3 a0_4 a0_5).bind fun t380 => ((lunetteref11_User.f kj1 a0_3 a0_4 a0_5).bind fun t381 => (if t381 = true then ((tuple_ReadUser.f bt378.1).bind fun bt382 => (if bt378.2 = 0 then ((lunetteref11_ShowUser.f a0_3 a0_4 a0_5).bind fun t387 => (if bt378.1.toList = t387.toList then (if (!(bt382.1.toList == a0_3.toList) || (!(bt382.2.1.toList == a0_4.toList) || (!(bt382.2.2.1.toList == a0_5.toList)))) = true then (some false) else (if bt382.2.2.2 = 0 then (lunettelaw11_TupleShows.j1 kj1 bt376.1 bt376.2 t380 a0_0 a0_1 a0_2 a0_3 a0_4 a0_5) else (some false))) else (some false))) else (some false))) else (if bt378.2 = 111 then (if bt378.1.toList = ([] : List UInt8) then (lunettelaw11_TupleShows.j1 kj1 bt376.1 bt376.2 t380 a0_0 a0_1 a0_2 a0_3 a0_4 a0_5) else (some false)) else (some false))))))) = some r := by rw [if_neg (show ¬ (false = true) by decide)] at H; exact H
        clear H
        have H := H1
        clear H1
        replace H := Option.bind_eq_some_iff.mp H
        obtain ⟨⟨t376, t377⟩, A140, H⟩ := H
        replace H : ((tuple_ShowUser.f a0_3 a0_4 a0_5).bind fun bt378 => ((tuple_Check.f a0_0 a0_1 a0_2 a0_3 a0_4 a0_5).bind fun t380 => ((lunetteref11_User.f kj1 a0_3 a0_4 a0_5).bind fun t381 => (if t381 = true then ((tuple_ReadUser.f bt378.1).bind fun bt382 => (if bt378.2 = 0 then ((lunetteref11_ShowUser.f a0_3 a0_4 a0_5).bind fun t387 => (if bt378.1.toList = t387.toList then (if (!(bt382.1.toList == a0_3.toList) || (!(bt382.2.1.toList == a0_4.toList) || (!(bt382.2.2.1.toList == a0_5.toList)))) = true then (some false) else (if bt382.2.2.2 = 0 then (lunettelaw11_TupleShows.j1 kj1 t376 t377 t380 a0_0 a0_1 a0_2 a0_3 a0_4 a0_5) else (some false))) else (some false))) else (some false))) else (if bt378.2 = 111 then (if bt378.1.toList = ([] : List UInt8) then (lunettelaw11_TupleShows.j1 kj1 t376 t377 t380 a0_0 a0_1 a0_2 a0_3 a0_4 a0_5) else (some false)) else (some false)))))) = some r := H
        have A14 := Aside0.mk A140
        clear A140
        replace H := Option.bind_eq_some_iff.mp H
        obtain ⟨⟨t378, t379⟩, A150, H⟩ := H
        replace H : ((tuple_Check.f a0_0 a0_1 a0_2 a0_3 a0_4 a0_5).bind fun t380 => ((lunetteref11_User.f kj1 a0_3 a0_4 a0_5).bind fun t381 => (if t381 = true then ((tuple_ReadUser.f t378).bind fun bt382 => (if t379 = 0 then ((lunetteref11_ShowUser.f a0_3 a0_4 a0_5).bind fun t387 => (if t378.toList = t387.toList then (if (!(bt382.1.toList == a0_3.toList) || (!(bt382.2.1.toList == a0_4.toList) || (!(bt382.2.2.1.toList == a0_5.toList)))) = true then (some false) else (if bt382.2.2.2 = 0 then (lunettelaw11_TupleShows.j1 kj1 t376 t377 t380 a0_0 a0_1 a0_2 a0_3 a0_4 a0_5) else (some false))) else (some false))) else (some false))) else (if t379 = 111 then (if t378.toList = ([] : List UInt8) then (lunettelaw11_TupleShows.j1 kj1 t376 t377 t380 a0_0 a0_1 a0_2 a0_3 a0_4 a0_5) else (some false)) else (some false))))) = some r := H
        have A15 := Aside0.mk A150
        clear A150
        replace H := Option.bind_eq_some_iff.mp H
        obtain ⟨t380, A160, H⟩ := H
        replace H : ((lunetteref11_User.f kj1 a0_3 a0_4 a0_5).bind fun t381 => (if t381 = true then ((tuple_ReadUser.f t378).bind fun bt382 => (if t379 = 0 then ((lunetteref11_ShowUser.f a0_3 a0_4 a0_5).bind fun t387 => (if t378.toList = t387.toList then (if (!(bt382.1.toList == a0_3.toList) || (!(bt382.2.1.toList == a0_4.toList) || (!(bt382.2.2.1.toList == a0_5.toList)))) = true then (some false) else (if bt382.2.2.2 = 0 then (lunettelaw11_TupleShows.j1 kj1 t376 t377 t380 a0_0 a0_1 a0_2 a0_3 a0_4 a0_5) else (some false))) else (some false))) else (some false))) else (if t379 = 111 then (if t378.toList = ([] : List UInt8) then (lunettelaw11_TupleShows.j1 kj1 t376 t377 t380 a0_0 a0_1 a0_2 a0_3 a0_4 a0_5) else (some false)) else (some false)))) = some r := H
        have A16 := Aside0.mk A160
        clear A160
        replace H := Option.bind_eq_some_iff.mp H
        obtain ⟨t381, A170, H⟩ := H
        replace H : (if t381 = true then ((tuple_ReadUser.f t378).bind fun bt382 => (if t379 = 0 then ((lunetteref11_ShowUser.f a0_3 a0_4 a0_5).bind fun t387 => (if t378.toList = t387.toList then (if (!(bt382.1.toList == a0_3.toList) || (!(bt382.2.1.toList == a0_4.toList) || (!(bt382.2.2.1.toList == a0_5.toList)))) = true then (some false) else (if bt382.2.2.2 = 0 then (lunettelaw11_TupleShows.j1 kj1 t376 t377 t380 a0_0 a0_1 a0_2 a0_3 a0_4 a0_5) else (some false))) else (some false))) else (some false))) else (if t379 = 111 then (if t378.toList = ([] : List UInt8) then (lunettelaw11_TupleShows.j1 kj1 t376 t377 t380 a0_0 a0_1 a0_2 a0_3 a0_4 a0_5) else (some false)) else (some false))) = some r := H
        have A17 := Aside0.mk A170
        clear A170
        have HC18 := Aside0.mk H
        clear H
        have hcz19_0 : wc.cell? ⟨gb372, 0, none⟩ = some (.string a0_0) := (blk_cell BK372.out 0).trans rfl
        have hcz19_1 : wc.cell? ⟨gb372, 1, none⟩ = some (.string a0_1) := (blk_cell BK372.out 1).trans rfl
        have hcz19_2 : wc.cell? ⟨gb372, 2, none⟩ = some (.string a0_2) := (blk_cell BK372.out 2).trans rfl
        have hcz19_3 : wc.cell? ⟨gb372, 3, none⟩ = some (.string a0_3) := (blk_cell BK372.out 3).trans rfl
        have hcz19_4 : wc.cell? ⟨gb372, 4, none⟩ = some (.string a0_4) := (blk_cell BK372.out 4).trans rfl
        have hcz19_5 : wc.cell? ⟨gb372, 5, none⟩ = some (.string a0_5) := (blk_cell BK372.out 5).trans rfl
        have hfz19_0 := blk_frozen BK372.out 0
        have hfz19_1 := blk_frozen BK372.out 1
        have hfz19_2 := blk_frozen BK372.out 2
        have hfz19_3 := blk_frozen BK372.out 3
        have hfz19_4 := blk_frozen BK372.out 4
        have hfz19_5 := blk_frozen BK372.out 5
        go_upto_if 35 with (first | ((with_reducible refine gate_callee (f := 17) rfl ?_); refine goesL_ (some 22) rfl rfl Tryd.func17 (by kernel_rfl) rfl #[.agg #[.string a0_0, .string a0_1, .string a0_2, .string a0_3, .string a0_4, .string a0_5]] rfl (by (try simp only [List.map_toArray, List.map_cons, List.map_nil]); first | done | rfl | (simp only [List.length_drop, List.length_take]; rfl)) ?_; (with_reducible refine (tuple_Show.calls a0_0 a0_1 a0_2 a0_3 a0_4 a0_5 t376 t377 _ A14.out).mono ?_); rintro e w20 ⟨rfl, hb⟩; refine ⟨_, rfl, ?_⟩; have n0_ := Aside0.mk (blk_below (g := gb372) (o := .cells #[.string a0_0, .string a0_1, .string a0_2, .string a0_3, .string a0_4, .string a0_5] 26 (0, 0)) (by (with_reducible repeat (first | refine blk_drewN ?_ _ | refine blk_drew ?_ | refine blk_alloc ?_ _)); exact BK372.out) hb); have n1_ := Aside0.mk (below_step (by repeat (first | (with_reducible first | exact HB.out | apply below_alloc | apply pw_below_drewN | apply below_drew1 | refine below_set ?_ GE372.out) | exact HB.out)) hb); clear BK372; clear HB; have BK372 := n0_; have HB := n1_; clear n0_ n1_; (try clear hb); (try clear hb2); (try clear hk); (try clear hi); have hcz21_0 : w20.cell? ⟨gb372, 0, none⟩ = some (.string a0_0) := (blk_cell BK372.out 0).trans rfl; have hcz21_1 : w20.cell? ⟨gb372, 1, none⟩ = some (.string a0_1) := (blk_cell BK372.out 1).trans rfl; have hcz21_2 : w20.cell? ⟨gb372, 2, none⟩ = some (.string a0_2) := (blk_cell BK372.out 2).trans rfl; have hcz21_3 : w20.cell? ⟨gb372, 3, none⟩ = some (.string a0_3) := (blk_cell BK372.out 3).trans rfl; have hcz21_4 : w20.cell? ⟨gb372, 4, none⟩ = some (.string a0_4) := (blk_cell BK372.out 4).trans rfl; have hcz21_5 : w20.cell? ⟨gb372, 5, none⟩ = some (.string a0_5) := (blk_cell BK372.out 5).trans rfl; have hfz21_0 := blk_frozen BK372.out 0; have hfz21_1 := blk_frozen BK372.out 1; have hfz21_2 := blk_frozen BK372.out 2; have hfz21_3 := blk_frozen BK372.out 3; have hfz21_4 := blk_frozen BK372.out 4; have hfz21_5 := blk_frozen BK372.out 5) | ((with_reducible refine gate_callee (f := 22) rfl ?_); refine goesL_ (some 28) rfl rfl Tryd.func22 (by kernel_rfl) rfl #[.agg #[.string a0_3, .string a0_4, .string a0_5]] rfl (by (try simp only [List.map_toArray, List.map_cons, List.map_nil]); first | done | rfl | (simp only [List.length_drop, List.length_take]; rfl)) ?_; (with_reducible refine (tuple_ShowUser.calls a0_3 a0_4 a0_5 t378 t379 _ A15.out).mono ?_); rintro e w22 ⟨rfl, hb⟩; refine ⟨_, rfl, ?_⟩; have n0_ := Aside0.mk (blk_below (g := gb372) (o := .cells #[.string a0_0, .string a0_1, .string a0_2, .string a0_3, .string a0_4, .string a0_5] 26 (0, 0)) (by (with_reducible repeat (first | refine blk_drewN ?_ _ | refine blk_drew ?_ | refine blk_alloc ?_ _)); exact BK372.out) hb); have n1_ := Aside0.mk (below_step (by repeat (first | (with_reducible first | exact HB.out | apply below_alloc | apply pw_below_drewN | apply below_drew1 | refine below_set ?_ GE372.out) | exact HB.out)) hb); clear BK372; clear HB; have BK372 := n0_; have HB := n1_; clear n0_ n1_; (try clear hb); (try clear hb2); (try clear hk); (try clear hi); have hcz23_0 : w22.cell? ⟨gb372, 0, none⟩ = some (.string a0_0) := (blk_cell BK372.out 0).trans rfl; have hcz23_1 : w22.cell? ⟨gb372, 1, none⟩ = some (.string a0_1) := (blk_cell BK372.out 1).trans rfl; have hcz23_2 : w22.cell? ⟨gb372, 2, none⟩ = some (.string a0_2) := (blk_cell BK372.out 2).trans rfl; have hcz23_3 : w22.cell? ⟨gb372, 3, none⟩ = some (.string a0_3) := (blk_cell BK372.out 3).trans rfl; have hcz23_4 : w22.cell? ⟨gb372, 4, none⟩ = some (.string a0_4) := (blk_cell BK372.out 4).trans rfl; have hcz23_5 : w22.cell? ⟨gb372, 5, none⟩ = some (.string a0_5) := (blk_cell BK372.out 5).trans rfl; have hfz23_0 := blk_frozen BK372.out 0; have hfz23_1 := blk_frozen BK372.out 1; have hfz23_2 := blk_frozen BK372.out 2; have hfz23_3 := blk_frozen BK372.out 3; have hfz23_4 := blk_frozen BK372.out 4; have hfz23_5 := blk_frozen BK372.out 5) | ((with_reducible refine gate_callee (f := 32) rfl ?_); refine goesL_ (some 32) rfl rfl Tryd.func32 (by kernel_rfl) rfl #[.agg #[.string a0_0, .string a0_1, .string a0_2, .string a0_3, .string a0_4, .string a0_5]] rfl (by (try simp only [List.map_toArray, List.map_cons, List.map_nil]); first | done | rfl | (simp only [List.length_drop, List.length_take]; rfl)) ?_; (with_reducible refine (tuple_Check.calls a0_0 a0_1 a0_2 a0_3 a0_4 a0_5 t380 _ A16.out).mono ?_); rintro e w24 ⟨rfl, hb⟩; refine ⟨_, rfl, ?_⟩; have n0_ := Aside0.mk (blk_below (g := gb372) (o := .cells #[.string a0_0, .string a0_1, .string a0_2, .string a0_3, .string a0_4, .string a0_5] 26 (0, 0)) (by (with_reducible repeat (first | refine blk_drewN ?_ _ | refine blk_drew ?_ | refine blk_alloc ?_ _)); exact BK372.out) hb); have n1_ := Aside0.mk (below_step (by repeat (first | (with_reducible first | exact HB.out | apply below_alloc | apply pw_below_drewN | apply below_drew1 | refine below_set ?_ GE372.out) | exact HB.out)) hb); clear BK372; clear HB; have BK372 := n0_; have HB := n1_; clear n0_ n1_; (try clear hb); (try clear hb2); (try clear hk); (try clear hi); have hcz25_0 : w24.cell? ⟨gb372, 0, none⟩ = some (.string a0_0) := (blk_cell BK372.out 0).trans rfl; have hcz25_1 : w24.cell? ⟨gb372, 1, none⟩ = some (.string a0_1) := (blk_cell BK372.out 1).trans rfl; have hcz25_2 : w24.cell? ⟨gb372, 2, none⟩ = some (.string a0_2) := (blk_cell BK372.out 2).trans rfl; have hcz25_3 : w24.cell? ⟨gb372, 3, none⟩ = some (.string a0_3) := (blk_cell BK372.out 3).trans rfl; have hcz25_4 : w24.cell? ⟨gb372, 4, none⟩ = some (.string a0_4) := (blk_cell BK372.out 4).trans rfl; have hcz25_5 : w24.cell? ⟨gb372, 5, none⟩ = some (.string a0_5) := (blk_cell BK372.out 5).trans rfl; have hfz25_0 := blk_frozen BK372.out 0; have hfz25_1 := blk_frozen BK372.out 1; have hfz25_2 := blk_frozen BK372.out 2; have hfz25_3 := blk_frozen BK372.out 3; have hfz25_4 := blk_frozen BK372.out 4; have hfz25_5 := blk_frozen BK372.out 5) | ((with_reducible refine gate_callee (f := 26) rfl ?_); refine goesL_ (some 35) rfl rfl Tryd.func26 (by kernel_rfl) rfl #[.agg #[.string a0_3, .string a0_4, .string a0_5]] rfl (by (try simp only [List.map_toArray, List.map_cons, List.map_nil]); first | done | rfl | (simp only [List.length_drop, List.length_take]; rfl)) ?_; (with_reducible refine (lunetteref11_User.calls kj1 a0_3 a0_4 a0_5 t381 _ A17.out).mono ?_); rintro e w26 ⟨rfl, hb⟩; refine ⟨_, rfl, ?_⟩; have n0_ := Aside0.mk (blk_below (g := gb372) (o := .cells #[.string a0_0, .string a0_1, .string a0_2, .string a0_3, .string a0_4, .string a0_5] 26 (0, 0)) (by (with_reducible repeat (first | refine blk_drewN ?_ _ | refine blk_drew ?_ | refine blk_alloc ?_ _)); exact BK372.out) hb); have n1_ := Aside0.mk (below_step (by repeat (first | (with_reducible first | exact HB.out | apply below_alloc | apply pw_below_drewN | apply below_drew1 | refine below_set ?_ GE372.out) | exact HB.out)) hb); clear BK372; clear HB; have BK372 := n0_; have HB := n1_; clear n0_ n1_; (try clear hb); (try clear hb2); (try clear hk); (try clear hi)))
        (try simp only [Act.put, List.setIfInBounds_toArray, List.set_cons_zero, List.set_cons_succ])
        go_cut [] (fun wc => ∃ (kq : Nat), Aside0 (lunettelaw11_TupleShows.j1 kq t376 t377 t380 a0_0 a0_1 a0_2 a0_3 a0_4 a0_5 = some r) ∧ Aside0 (kq ≤ kj1) ∧ Aside0 (wc.heap[gb372]? = some (.cells #[.string a0_0, .string a0_1, .string a0_2, .string a0_3, .string a0_4, .string a0_5] 26 (0, 0))) ∧ Aside0 (Below w.heap.size w wc))
        case first =>
          have H := HC18.out
          clear HC18
          by_cases c27 : t381 = true
          · subst c27
            have H1 : ((tuple_ReadUser.f t378).bind fun bt382 => (if t379 = 0 then ((lunetteref11_ShowUser.f a0_3 a0_4 a0_5).bind fun t387 => (if t378.toList = t387.toList then (if (!(bt382.1.toList == a0_3.toList) || (!(bt382.2.1.toList == a0_4.toList) || (!(bt382.2.2.1.toList == a0_5.toList)))) = true then (some false) else (if bt382.2.2.2 = 0 then (lunettelaw11_TupleShows.j1 kj1 t376 t377 t380 a0_0 a0_1 a0_2 a0_3 a0_4 a0_5) else (some false))) else (some false))) else (some false))) = some r := by rw [if_pos rfl] at H; exact H
            clear H
            have H := H1
            clear H1
            replace H := Option.bind_eq_some_iff.mp H
            obtain ⟨⟨t382, t383, t384, t385⟩, A280, H⟩ := H
            replace H : (if t379 = 0 then ((lunetteref11_ShowUser.f a0_3 a0_4 a0_5).bind fun t387 => (if t378.toList = t387.toList then (if (!(t382.toList == a0_3.toList) || (!(t383.toList == a0_4.toList) || (!(t384.toList == a0_5.toList)))) = true then (some false) else (if t385 = 0 then (lunettelaw11_TupleShows.j1 kj1 t376 t377 t380 a0_0 a0_1 a0_2 a0_3 a0_4 a0_5) else (some false))) else (some false))) else (some false)) = some r := H
            have A28 := Aside0.mk A280
            clear A280
            by_cases c29 : t379 = 0
            · rw [if_pos c29] at H
              have c29b0 : (t379 == 0) = true := beq_iff_eq.mpr c29
              have c29b1 : (t379 != 0) = false := bne_eq_false_iff_eq.mpr c29
              clear c29
              (first | rw [c29b0] | (simp only [i64_w, i32_w]; rw [c29b0]) | skip)
              replace H := Option.bind_eq_some_iff.mp H
              obtain ⟨t387, A300, H⟩ := H
              replace H : (if t378.toList = t387.toList then (if (!(t382.toList == a0_3.toList) || (!(t383.toList == a0_4.toList) || (!(t384.toList == a0_5.toList)))) = true then (some false) else (if t385 = 0 then (lunettelaw11_TupleShows.j1 kj1 t376 t377 t380 a0_0 a0_1 a0_2 a0_3 a0_4 a0_5) else (some false))) else (some false)) = some r := H
              have A30 := Aside0.mk A300
              clear A300
              by_cases c31 : t378.toList = t387.toList
              · rw [if_pos c31] at H
                have c31b0 : (t378.toList == t387.toList) = true := beq_iff_eq.mpr c31
                have c31b1 : (t378.toList != t387.toList) = false := bne_eq_false_iff_eq.mpr c31
                clear c31
                by_cases c32 : (!(t382.toList == a0_3.toList) || (!(t383.toList == a0_4.toList) || (!(t384.toList == a0_5.toList)))) = true
                · rw [if_pos c32] at H
                  have c32b0 : (!(t382.toList == a0_3.toList) || (!(t383.toList == a0_4.toList) || (!(t384.toList == a0_5.toList)))) = true := c32
                  clear c32
                  exact absurd ((Option.some.inj H).trans HTRUE.out) (by decide)
                · rw [if_neg c32] at H
                  have c32b0 : (!(t382.toList == a0_3.toList) || (!(t383.toList == a0_4.toList) || (!(t384.toList == a0_5.toList)))) = false := by simpa using c32
                  clear c32
                  by_cases c33 : t385 = 0
                  · rw [if_pos c33] at H
                    have c33b0 : (t385 == 0) = true := beq_iff_eq.mpr c33
                    have c33b1 : (t385 != 0) = false := bne_eq_false_iff_eq.mpr c33
                    clear c33
                    have H' := Aside0.mk H
                    clear H
                    go_wp2_with (first | ((with_reducible refine gate_callee (f := 24) rfl ?_); refine goesL_ (some 38) rfl rfl Tryd.func24 (by kernel_rfl) rfl #[.string t378] rfl (by (try simp only [List.map_toArray, List.map_cons, List.map_nil]); first | done | rfl | (simp only [List.length_drop, List.length_take]; rfl)) ?_; (with_reducible refine (tuple_ReadUser.calls t378 t382 t383 t384 t385 _ A28.out).mono ?_); rintro e w34 ⟨rfl, hb⟩; refine ⟨_, rfl, ?_⟩; have n0_ := Aside0.mk (blk_below (g := gb372) (o := .cells #[.string a0_0, .string a0_1, .string a0_2, .string a0_3, .string a0_4, .string a0_5] 26 (0, 0)) (by (with_reducible repeat (first | refine blk_drewN ?_ _ | refine blk_drew ?_ | refine blk_alloc ?_ _)); exact BK372.out) hb); have n1_ := Aside0.mk (below_step (by repeat (first | (with_reducible first | exact HB.out | apply below_alloc | apply pw_below_drewN | apply below_drew1 | refine below_set ?_ GE372.out) | exact HB.out)) hb); clear BK372; clear HB; have BK372 := n0_; have HB := n1_; clear n0_ n1_; (try clear hb); (try clear hb2); (try clear hk); (try clear hi)) | ((with_reducible refine gate_dst (N := 8) rfl ?_); refine box_event ?hg (N := 8) ?hd (cs := #[.string (⟨#[]⟩ : ByteArray), .string (⟨#[]⟩ : ByteArray), .string (⟨#[]⟩ : ByteArray)]) (t := 24) ?hr ?_; (case hd => rfl); (case hg => rfl); (case hr => first | (go_simp; done) | (go_simp; rfl)); intro gb386 hg w35 hbox hb; have n0_ := Aside0.mk (blk_below (g := gb372) (o := .cells #[.string a0_0, .string a0_1, .string a0_2, .string a0_3, .string a0_4, .string a0_5] 26 (0, 0)) (by (with_reducible repeat (first | refine blk_drewN ?_ _ | refine blk_drew ?_ | refine blk_alloc ?_ _)); exact BK372.out) hb); have n1_ := Aside0.mk (below_step (by repeat (first | (with_reducible first | exact HB.out | apply below_alloc | apply pw_below_drewN | apply below_drew1 | refine below_set ?_ GE372.out) | exact HB.out)) hb); have n2_ := Aside0.mk (hbox); have n3_ := Aside0.mk ((by rw [hg]; exact (below_size (by repeat (first | (with_reducible first | exact HB.out | apply below_alloc | apply pw_below_drewN | apply below_drew1 | refine below_set ?_ GE372.out) | exact HB.out))) : w.heap.size ≤ gb386)); have n4_ := Aside0.mk ((by rw [hg]; exact (below_size (by repeat (first | (with_reducible first | exact HB.out | apply below_alloc | apply pw_below_drewN | apply below_drew1 | refine below_set ?_ GE372.out) | exact HB.out))) : w.heap.size ≤ gb386)); have n5_ := Aside0.mk ((by rw [hg]; exact Nat.ne_of_lt (blk_lt (g := gb372) (o := .cells #[.string a0_0, .string a0_1, .string a0_2, .string a0_3, .string a0_4, .string a0_5] 26 (0, 0)) (by (with_reducible repeat (first | refine blk_drewN ?_ _ | refine blk_drew ?_ | refine blk_alloc ?_ _)); exact BK372.out)) : gb372 ≠ gb386)); have n6_ := Aside0.mk ((by rw [hg]; exact Nat.ne_of_gt (blk_lt (g := gb372) (o := .cells #[.string a0_0, .string a0_1, .string a0_2, .string a0_3, .string a0_4, .string a0_5] 26 (0, 0)) (by (with_reducible repeat (first | refine blk_drewN ?_ _ | refine blk_drew ?_ | refine blk_alloc ?_ _)); exact BK372.out)) : gb386 ≠ gb372)); clear BK372; clear HB; have BK372 := n0_; have HB := n1_; have BK386 := n2_; have GW386 := n3_; have GE386 := n4_; have NB372_386 := n5_; have NB386_372 := n6_; clear n0_ n1_ n2_ n3_ n4_ n5_ n6_; clear hb hbox hg; have hnb36 := NB386_372.out; have hnc36 := NB372_386.out; have hcz37_0 : w35.cell? ⟨gb386, 0, none⟩ = some (.string (⟨#[]⟩ : ByteArray)) := (blk_cell BK386.out 0).trans rfl; have hcz37_1 : w35.cell? ⟨gb386, 1, none⟩ = some (.string (⟨#[]⟩ : ByteArray)) := (blk_cell BK386.out 1).trans rfl; have hcz37_2 : w35.cell? ⟨gb386, 2, none⟩ = some (.string (⟨#[]⟩ : ByteArray)) := (blk_cell BK386.out 2).trans rfl; have hfz37_0 := blk_frozen BK386.out 0; have hfz37_1 := blk_frozen BK386.out 1; have hfz37_2 := blk_frozen BK386.out 2; have hcz38_0 : w35.cell? ⟨gb372, 0, none⟩ = some (.string a0_0) := (blk_cell BK372.out 0).trans rfl; have hcz38_1 : w35.cell? ⟨gb372, 1, none⟩ = some (.string a0_1) := (blk_cell BK372.out 1).trans rfl; have hcz38_2 : w35.cell? ⟨gb372, 2, none⟩ = some (.string a0_2) := (blk_cell BK372.out 2).trans rfl; have hcz38_3 : w35.cell? ⟨gb372, 3, none⟩ = some (.string a0_3) := (blk_cell BK372.out 3).trans rfl; have hcz38_4 : w35.cell? ⟨gb372, 4, none⟩ = some (.string a0_4) := (blk_cell BK372.out 4).trans rfl; have hcz38_5 : w35.cell? ⟨gb372, 5, none⟩ = some (.string a0_5) := (blk_cell BK372.out 5).trans rfl; have hfz38_0 := blk_frozen BK372.out 0; have hfz38_1 := blk_frozen BK372.out 1; have hfz38_2 := blk_frozen BK372.out 2; have hfz38_3 := blk_frozen BK372.out 3; have hfz38_4 := blk_frozen BK372.out 4; have hfz38_5 := blk_frozen BK372.out 5) | (go_at_call 27; (with_reducible refine (lunetteref11_ShowUser.calls a0_3 a0_4 a0_5 t387 _ A30.out).mono ?_); rintro e w39 ⟨rfl, hb⟩; have n0_ := Aside0.mk (blk_below (g := gb372) (o := .cells #[.string a0_0, .string a0_1, .string a0_2, .string a0_3, .string a0_4, .string a0_5] 26 (0, 0)) (by (with_reducible repeat (first | refine blk_drewN ?_ _ | refine blk_drew ?_ | refine blk_alloc ?_ _)); refine blk_far ?_ NB372_386.out _; (with_reducible repeat (first | refine blk_drewN ?_ _ | refine blk_drew ?_ | refine blk_alloc ?_ _)); refine blk_far ?_ NB372_386.out _; (with_reducible repeat (first | refine blk_drewN ?_ _ | refine blk_drew ?_ | refine blk_alloc ?_ _)); refine blk_far ?_ NB372_386.out _; (with_reducible repeat (first | refine blk_drewN ?_ _ | refine blk_drew ?_ | refine blk_alloc ?_ _)); exact BK372.out) hb); have n1_ := Aside0.mk (blk_below (g := gb386) (o := .cells #[.string t382, .string t383, .string t384] 24 (0, 0)) (by (with_reducible repeat (first | refine blk_drewN ?_ _ | refine blk_drew ?_ | refine blk_alloc ?_ _)); refine blk_put (cs := #[.string t382, .string t383, .string (⟨#[]⟩ : ByteArray)]) ?_ 2 _ rfl; (with_reducible repeat (first | refine blk_drewN ?_ _ | refine blk_drew ?_ | refine blk_alloc ?_ _)); refine blk_put (cs := #[.string t382, .string (⟨#[]⟩ : ByteArray), .string (⟨#[]⟩ : ByteArray)]) ?_ 1 _ rfl; (with_reducible repeat (first | refine blk_drewN ?_ _ | refine blk_drew ?_ | refine blk_alloc ?_ _)); refine blk_put (cs := #[.string (⟨#[]⟩ : ByteArray), .string (⟨#[]⟩ : ByteArray), .string (⟨#[]⟩ : ByteArray)]) ?_ 0 _ rfl; (with_reducible repeat (first | refine blk_drewN ?_ _ | refine blk_drew ?_ | refine blk_alloc ?_ _)); exact BK386.out) hb); have n2_ := Aside0.mk (below_step (by repeat (first | (with_reducible first | exact HB.out | apply below_alloc | apply pw_below_drewN | apply below_drew1 | refine below_set ?_ GE372.out | refine below_set ?_ GE386.out) | exact HB.out)) hb); clear BK372; clear BK386; clear HB; have BK372 := n0_; have BK386 := n1_; have HB := n2_; clear n0_ n1_ n2_; (try clear hb); (try clear hb2); (try clear hk); (try clear hi); have hcz40_0 : w39.cell? ⟨gb386, 0, none⟩ = some (.string t382) := (blk_cell BK386.out 0).trans rfl; have hcz40_1 : w39.cell? ⟨gb386, 1, none⟩ = some (.string t383) := (blk_cell BK386.out 1).trans rfl; have hcz40_2 : w39.cell? ⟨gb386, 2, none⟩ = some (.string t384) := (blk_cell BK386.out 2).trans rfl; have hfz40_0 := blk_frozen BK386.out 0; have hfz40_1 := blk_frozen BK386.out 1; have hfz40_2 := blk_frozen BK386.out 2; have hcz41_0 : w39.cell? ⟨gb372, 0, none⟩ = some (.string a0_0) := (blk_cell BK372.out 0).trans rfl; have hcz41_1 : w39.cell? ⟨gb372, 1, none⟩ = some (.string a0_1) := (blk_cell BK372.out 1).trans rfl; have hcz41_2 : w39.cell? ⟨gb372, 2, none⟩ = some (.string a0_2) := (blk_cell BK372.out 2).trans rfl; have hcz41_3 : w39.cell? ⟨gb372, 3, none⟩ = some (.string a0_3) := (blk_cell BK372.out 3).trans rfl; have hcz41_4 : w39.cell? ⟨gb372, 4, none⟩ = some (.string a0_4) := (blk_cell BK372.out 4).trans rfl; have hcz41_5 : w39.cell? ⟨gb372, 5, none⟩ = some (.string a0_5) := (blk_cell BK372.out 5).trans rfl; have hfz41_0 := blk_frozen BK372.out 0; have hfz41_1 := blk_frozen BK372.out 1; have hfz41_2 := blk_frozen BK372.out 2; have hfz41_3 := blk_frozen BK372.out 3; have hfz41_4 := blk_frozen BK372.out 4; have hfz41_5 := blk_frozen BK372.out 5))
                    go_meet
                    case rel => exact ⟨_, H', ⟨by have := HJ1.out; first | omega | exact Nat.le_refl _⟩, ⟨by (with_reducible repeat (first | refine blk_drewN ?_ _ | refine blk_drew ?_ | refine blk_alloc ?_ _)); exact BK372.out⟩, ⟨by repeat (first | (with_reducible first | exact HB.out | apply below_alloc | apply pw_below_drewN | apply below_drew1 | refine below_set ?_ GE372.out | refine below_set ?_ GE386.out) | exact HB.out)⟩⟩
                  · rw [if_neg c33] at H
                    have c33b0 : (t385 == 0) = false := beq_eq_false_iff_ne.mpr c33
                    have c33b1 : (t385 != 0) = true := bne_iff_ne.mpr c33
                    exact absurd ((Option.some.inj H).trans HTRUE.out) (by decide)
              · rw [if_neg c31] at H
                have c31b0 : (t378.toList == t387.toList) = false := beq_eq_false_iff_ne.mpr c31
                have c31b1 : (t378.toList != t387.toList) = true := bne_iff_ne.mpr c31
                exact absurd ((Option.some.inj H).trans HTRUE.out) (by decide)
            · rw [if_neg c29] at H
              have c29b0 : (t379 == 0) = false := beq_eq_false_iff_ne.mpr c29
              have c29b1 : (t379 != 0) = true := bne_iff_ne.mpr c29
              (first | rw [c29b0] | (simp only [i64_w, i32_w]; rw [c29b0]) | skip)
              exact absurd ((Option.some.inj H).trans HTRUE.out) (by decide)
          · replace c27 := Bool.eq_false_iff.mpr c27
            subst c27
            have H1 : (if t379 = 111 then (if t378.toList = ([] : List UInt8) then (lunettelaw11_TupleShows.j1 kj1 t376 t377 t380 a0_0 a0_1 a0_2 a0_3 a0_4 a0_5) else (some false)) else (some false)) = some r := by rw [if_neg (show ¬ (false = true) by decide)] at H; exact H
            clear H
            have H := H1
            clear H1
            by_cases c42 : t379 = 111
            · rw [if_pos c42] at H
              have c42b0 : (t379 == 111) = true := beq_iff_eq.mpr c42
              have c42b1 : (t379 != 111) = false := bne_eq_false_iff_eq.mpr c42
              clear c42
              by_cases c43 : t378.toList = ([] : List UInt8)
              · rw [if_pos c43] at H
                have c43b0 : (t378.toList == ([] : List UInt8)) = true := beq_iff_eq.mpr c43
                have c43b1 : (t378.toList != ([] : List UInt8)) = false := bne_eq_false_iff_eq.mpr c43
                clear c43
                have H' := Aside0.mk H
                clear H
                go_wp2
                go_meet
                case rel => exact ⟨_, H', ⟨by have := HJ1.out; first | omega | exact Nat.le_refl _⟩, ⟨by (with_reducible repeat (first | refine blk_drewN ?_ _ | refine blk_drew ?_ | refine blk_alloc ?_ _)); exact BK372.out⟩, ⟨by repeat (first | (with_reducible first | exact HB.out | apply below_alloc | apply pw_below_drewN | apply below_drew1 | refine below_set ?_ GE372.out) | exact HB.out)⟩⟩
              · rw [if_neg c43] at H
                have c43b0 : (t378.toList == ([] : List UInt8)) = false := beq_eq_false_iff_ne.mpr c43
                have c43b1 : (t378.toList != ([] : List UInt8)) = true := bne_iff_ne.mpr c43
                exact absurd ((Option.some.inj H).trans HTRUE.out) (by decide)
            · rw [if_neg c42] at H
              have c42b0 : (t379 == 111) = false := beq_eq_false_iff_ne.mpr c42
              have c42b1 : (t379 != 111) = true := bne_iff_ne.mpr c42
              exact absurd ((Option.some.inj H).trans HTRUE.out) (by decide)
        case rest =>
          clear HC18
          try clear c1
          try clear c2
          try clear p2
          try clear c3
          try clear c4
          try clear c5
          try clear c9
          try clear c11
          try clear c17
          try clear c22
          try clear c24
          try clear c26
          try clear c27
          try clear c29
          try clear c29b0
          try clear c29b1
          try clear c31
          try clear c31b0
          try clear c31b1
          try clear c32
          try clear c32b0
          try clear c33
          try clear c33b0
          try clear c33b1
          try clear c36
          try clear c42
          try clear c42b0
          try clear c42b1
          try clear c43
          try clear c43b0
          try clear c43b1
          try clear hcz19_0
          try clear hcz19_1
          try clear hcz19_2
          try clear hcz19_3
          try clear hcz19_4
          try clear hcz19_5
          try clear hcz21_0
          try clear hcz21_1
          try clear hcz21_2
          try clear hcz21_3
          try clear hcz21_4
          try clear hcz21_5
          try clear hcz23_0
          try clear hcz23_1
          try clear hcz23_2
          try clear hcz23_3
          try clear hcz23_4
          try clear hcz23_5
          try clear hcz25_0
          try clear hcz25_1
          try clear hcz25_2
          try clear hcz25_3
          try clear hcz25_4
          try clear hcz25_5
          try clear hcz37_0
          try clear hcz37_1
          try clear hcz37_2
          try clear hcz38_0
          try clear hcz38_1
          try clear hcz38_2
          try clear hcz38_3
          try clear hcz38_4
          try clear hcz38_5
          try clear hcz40_0
          try clear hcz40_1
          try clear hcz40_2
          try clear hcz41_0
          try clear hcz41_1
          try clear hcz41_2
          try clear hcz41_3
          try clear hcz41_4
          try clear hcz41_5
          try clear hcz8_0
          try clear hcz8_1
          try clear hcz8_2
          try clear hcz8_3
          try clear hcz8_4
          try clear hcz8_5
          try clear hfz19_0
          try clear hfz19_1
          try clear hfz19_2
          try clear hfz19_3
          try clear hfz19_4
          try clear hfz19_5
          try clear hfz21_0
          try clear hfz21_1
          try clear hfz21_2
          try clear hfz21_3
          try clear hfz21_4
          try clear hfz21_5
          try clear hfz23_0
          try clear hfz23_1
          try clear hfz23_2
          try clear hfz23_3
          try clear hfz23_4
          try clear hfz23_5
          try clear hfz25_0
          try clear hfz25_1
          try clear hfz25_2
          try clear hfz25_3
          try clear hfz25_4
          try clear hfz25_5
          try clear hfz37_0
          try clear hfz37_1
          try clear hfz37_2
          try clear hfz38_0
          try clear hfz38_1
          try clear hfz38_2
          try clear hfz38_3
          try clear hfz38_4
          try clear hfz38_5
          try clear hfz40_0
          try clear hfz40_1
          try clear hfz40_2
          try clear hfz41_0
          try clear hfz41_1
          try clear hfz41_2
          try clear hfz41_3
          try clear hfz41_4
          try clear hfz41_5
          try clear hfz8_0
          try clear hfz8_1
          try clear hfz8_2
          try clear hfz8_3
          try clear hfz8_4
          try clear hfz8_5
          try clear p2
          obtain ⟨kq, HA, HJ17, BK372, HB⟩ := hcut
          cases kq with
          | zero => exact absurd HA.out (by simp [lunettelaw11_TupleShows.j1])
          | succ kj17 =>
            have H := HA.out
            clear HA
            simp only [lunettelaw11_TupleShows.j1] at H
            replace H := Option.bind_eq_some_iff.mp H
            obtain ⟨t388, A440, H⟩ := H
            replace H : (if t388 = true then ((tuple_Read.f t376).bind fun bt389 => ((lunetteref11_Show.f a0_0 a0_1 a0_2 a0_3 a0_4 a0_5).bind fun t397 => (if t376.toList = t397.toList then (if t377 = 0 then (if t380 = 0 then (if (bt389.1.toList == a0_0.toList && (bt389.2.1.toList == a0_1.toList && (bt389.2.2.1.toList == a0_2.toList && ((bt389.2.2.2.1.toList == a0_3.toList && (bt389.2.2.2.2.1.toList == a0_4.toList && (bt389.2.2.2.2.2.1.toList == a0_5.toList))))))) = true then (some (bt389.2.2.2.2.2.2 == 0)) else (some false)) else (some false)) else (some false)) else (some false)))) else (if t376.toList = ([] : List UInt8) then (if t377 = 111 then (some (t380 == 111)) else (some false)) else (some false))) = some r := H
            have A44 := Aside0.mk A440
            clear A440
            by_cases c45 : t388 = true
            · subst c45
              have H1 : ((tuple_Read.f t376).bind fun bt389 => ((lunetteref11_Show.f a0_0 a0_1 a0_2 a0_3 a0_4 a0_5).bind fun t397 => (if t376.toList = t397.toList then (if t377 = 0 then (if t380 = 0 then (if (bt389.1.toList == a0_0.toList && (bt389.2.1.toList == a0_1.toList && (bt389.2.2.1.toList == a0_2.toList && ((bt389.2.2.2.1.toList == a0_3.toList && (bt389.2.2.2.2.1.toList == a0_4.toList && (bt389.2.2.2.2.2.1.toList == a0_5.toList))))))) = true then (some (bt389.2.2.2.2.2.2 == 0)) else (some false)) else (some false)) else (some false)) else (some false)))) = some r := by rw [if_pos rfl] at H; exact H
              clear H
              have H := H1
              clear H1
              replace H := Option.bind_eq_some_iff.mp H
              obtain ⟨⟨t389, t390, t391, t392, t393, t394, t395⟩, A460, H⟩ := H
              replace H : ((lunetteref11_Show.f a0_0 a0_1 a0_2 a0_3 a0_4 a0_5).bind fun t397 => (if t376.toList = t397.toList then (if t377 = 0 then (if t380 = 0 then (if (t389.toList == a0_0.toList && (t390.toList == a0_1.toList && (t391.toList == a0_2.toList && ((t392.toList == a0_3.toList && (t393.toList == a0_4.toList && (t394.toList == a0_5.toList))))))) = true then (some (t395 == 0)) else (some false)) else (some false)) else (some false)) else (some false))) = some r := H
              have A46 := Aside0.mk A460
              clear A460
              replace H := Option.bind_eq_some_iff.mp H
              obtain ⟨t397, A470, H⟩ := H
              replace H : (if t376.toList = t397.toList then (if t377 = 0 then (if t380 = 0 then (if (t389.toList == a0_0.toList && (t390.toList == a0_1.toList && (t391.toList == a0_2.toList && ((t392.toList == a0_3.toList && (t393.toList == a0_4.toList && (t394.toList == a0_5.toList))))))) = true then (some (t395 == 0)) else (some false)) else (some false)) else (some false)) else (some false)) = some r := H
              have A47 := Aside0.mk A470
              clear A470
              by_cases c48 : t376.toList = t397.toList
              · rw [if_pos c48] at H
                have c48b0 : (t376.toList == t397.toList) = true := beq_iff_eq.mpr c48
                have c48b1 : (t376.toList != t397.toList) = false := bne_eq_false_iff_eq.mpr c48
                clear c48
                by_cases c49 : t377 = 0
                · rw [if_pos c49] at H
                  have c49b0 : (t377 == 0) = true := beq_iff_eq.mpr c49
                  have c49b1 : (t377 != 0) = false := bne_eq_false_iff_eq.mpr c49
                  clear c49
                  by_cases c50 : t380 = 0
                  · rw [if_pos c50] at H
                    have c50b0 : (t380 == 0) = true := beq_iff_eq.mpr c50
                    have c50b1 : (t380 != 0) = false := bne_eq_false_iff_eq.mpr c50
                    clear c50
                    by_cases c51 : (t389.toList == a0_0.toList && (t390.toList == a0_1.toList && (t391.toList == a0_2.toList && ((t392.toList == a0_3.toList && (t393.toList == a0_4.toList && (t394.toList == a0_5.toList))))))) = true
                    · rw [if_pos c51] at H
                      have c51b0 : (t389.toList == a0_0.toList && (t390.toList == a0_1.toList && (t391.toList == a0_2.toList && ((t392.toList == a0_3.toList && (t393.toList == a0_4.toList && (t394.toList == a0_5.toList))))))) = true := c51
                      (try (have c51b1 : decide (t389.toList = a0_0.toList && (t390.toList == a0_1.toList && (t391.toList == a0_2.toList && ((t392.toList == a0_3.toList && (t393.toList == a0_4.toList && (t394.toList == a0_5.toList))))))) = true := by simpa using c51))
                      (try (have c51b2 : (t389.toList == a0_0.toList && (t390.toList == a0_1.toList && (t391.toList == a0_2.toList && ((t392.toList == a0_3.toList && (t393.toList == a0_4.toList && (t394.toList == a0_5.toList))))))) = true := by simpa using c51))
                      clear c51
                      obtain rfl := Option.some.inj H
                      have hcz52_0 : wc.cell? ⟨gb372, 0, none⟩ = some (.string a0_0) := (blk_cell BK372.out 0).trans rfl
                      have hcz52_1 : wc.cell? ⟨gb372, 1, none⟩ = some (.string a0_1) := (blk_cell BK372.out 1).trans rfl
                      have hcz52_2 : wc.cell? ⟨gb372, 2, none⟩ = some (.string a0_2) := (blk_cell BK372.out 2).trans rfl
                      have hcz52_3 : wc.cell? ⟨gb372, 3, none⟩ = some (.string a0_3) := (blk_cell BK372.out 3).trans rfl
                      have hcz52_4 : wc.cell? ⟨gb372, 4, none⟩ = some (.string a0_4) := (blk_cell BK372.out 4).trans rfl
                      have hcz52_5 : wc.cell? ⟨gb372, 5, none⟩ = some (.string a0_5) := (blk_cell BK372.out 5).trans rfl
                      have hfz52_0 := blk_frozen BK372.out 0
                      have hfz52_1 := blk_frozen BK372.out 1
                      have hfz52_2 := blk_frozen BK372.out 2
                      have hfz52_3 := blk_frozen BK372.out 3
                      have hfz52_4 := blk_frozen BK372.out 4
                      have hfz52_5 := blk_frozen BK372.out 5
                      go_wp2_with (first | ((with_reducible refine gate_callee (f := 13) rfl ?_); refine goesL_ (some 67) rfl rfl Tryd.func13 (by kernel_rfl) rfl #[.agg #[.string a0_0, .string a0_1, .string a0_2, .string a0_3, .string a0_4, .string a0_5]] rfl (by (try simp only [List.map_toArray, List.map_cons, List.map_nil]); first | done | rfl | (simp only [List.length_drop, List.length_take]; rfl)) ?_; (with_reducible refine (lunetteref11_Check.calls kj17 a0_0 a0_1 a0_2 a0_3 a0_4 a0_5 true _ A44.out).mono ?_); rintro e w53 ⟨rfl, hb⟩; refine ⟨_, rfl, ?_⟩; have n0_ := Aside0.mk (blk_below (g := gb372) (o := .cells #[.string a0_0, .string a0_1, .string a0_2, .string a0_3, .string a0_4, .string a0_5] 26 (0, 0)) (by (with_reducible repeat (first | refine blk_drewN ?_ _ | refine blk_drew ?_ | refine blk_alloc ?_ _)); exact BK372.out) hb); have n1_ := Aside0.mk (below_step (by repeat (first | (with_reducible first | exact HB.out | apply below_alloc | apply pw_below_drewN | apply below_drew1 | refine below_set ?_ GE372.out) | exact HB.out)) hb); clear BK372; clear HB; have BK372 := n0_; have HB := n1_; clear n0_ n1_; (try clear hb); (try clear hb2); (try clear hk); (try clear hi)) | ((with_reducible refine gate_callee (f := 23) rfl ?_); refine goesL_ (some 81) rfl rfl Tryd.func23 (by kernel_rfl) rfl #[.string t376] rfl (by (try simp only [List.map_toArray, List.map_cons, List.map_nil]); first | done | rfl | (simp only [List.length_drop, List.length_take]; rfl)) ?_; (with_reducible refine (tuple_Read.calls t376 t389 t390 t391 t392 t393 t394 t395 _ A46.out).mono ?_); rintro e w54 ⟨rfl, hb⟩; refine ⟨_, rfl, ?_⟩; have n0_ := Aside0.mk (blk_below (g := gb372) (o := .cells #[.string a0_0, .string a0_1, .string a0_2, .string a0_3, .string a0_4, .string a0_5] 26 (0, 0)) (by (with_reducible repeat (first | refine blk_drewN ?_ _ | refine blk_drew ?_ | refine blk_alloc ?_ _)); exact BK372.out) hb); have n1_ := Aside0.mk (below_step (by repeat (first | (with_reducible first | exact HB.out | apply below_alloc | apply pw_below_drewN | apply below_drew1 | refine below_set ?_ GE372.out) | exact HB.out)) hb); clear BK372; clear HB; have BK372 := n0_; have HB := n1_; clear n0_ n1_; (try clear hb); (try clear hb2); (try clear hk); (try clear hi)) | ((with_reducible refine gate_dst (N := 10) rfl ?_); refine box_event ?hg (N := 10) ?hd (cs := #[.string (⟨#[]⟩ : ByteArray), .string (⟨#[]⟩ : ByteArray), .string (⟨#[]⟩ : ByteArray), .string (⟨#[]⟩ : ByteArray), .string (⟨#[]⟩ : ByteArray), .string (⟨#[]⟩ : ByteArray)]) (t := 26) ?hr ?_; (case hd => rfl); (case hg => rfl); (case hr => first | (go_simp; done) | (go_simp; rfl)); intro gb396 hg w55 hbox hb; have n0_ := Aside0.mk (blk_below (g := gb372) (o := .cells #[.string a0_0, .string a0_1, .string a0_2, .string a0_3, .string a0_4, .string a0_5] 26 (0, 0)) (by (with_reducible repeat (first | refine blk_drewN ?_ _ | refine blk_drew ?_ | refine blk_alloc ?_ _)); exact BK372.out) hb); have n1_ := Aside0.mk (below_step (by repeat (first | (with_reducible first | exact HB.out | apply below_alloc | apply pw_below_drewN | apply below_drew1 | refine below_set ?_ GE372.out) | exact HB.out)) hb); have n2_ := Aside0.mk (hbox); have n3_ := Aside0.mk ((by rw [hg]; exact (below_size (by repeat (first | (with_reducible first | exact HB.out | apply below_alloc | apply pw_below_drewN | apply below_drew1 | refine below_set ?_ GE372.out) | exact HB.out))) : w.heap.size ≤ gb396)); have n4_ := Aside0.mk ((by rw [hg]; exact (below_size (by repeat (first | (with_reducible first | exact HB.out | apply below_alloc | apply pw_below_drewN | apply below_drew1 | refine below_set ?_ GE372.out) | exact HB.out))) : w.heap.size ≤ gb396)); have n5_ := Aside0.mk ((by rw [hg]; exact Nat.ne_of_lt (blk_lt (g := gb372) (o := .cells #[.string a0_0, .string a0_1, .string a0_2, .string a0_3, .string a0_4, .string a0_5] 26 (0, 0)) (by (with_reducible repeat (first | refine blk_drewN ?_ _ | refine blk_drew ?_ | refine blk_alloc ?_ _)); exact BK372.out)) : gb372 ≠ gb396)); have n6_ := Aside0.mk ((by rw [hg]; exact Nat.ne_of_gt (blk_lt (g := gb372) (o := .cells #[.string a0_0, .string a0_1, .string a0_2, .string a0_3, .string a0_4, .string a0_5] 26 (0, 0)) (by (with_reducible repeat (first | refine blk_drewN ?_ _ | refine blk_drew ?_ | refine blk_alloc ?_ _)); exact BK372.out)) : gb396 ≠ gb372)); clear BK372; clear HB; have BK372 := n0_; have HB := n1_; have BK396 := n2_; have GW396 := n3_; have GE396 := n4_; have NB372_396 := n5_; have NB396_372 := n6_; clear n0_ n1_ n2_ n3_ n4_ n5_ n6_; clear hb hbox hg; have hnb56 := NB396_372.out; have hnc56 := NB372_396.out; have hcz57_0 : w55.cell? ⟨gb396, 0, none⟩ = some (.string (⟨#[]⟩ : ByteArray)) := (blk_cell BK396.out 0).trans rfl; have hcz57_1 : w55.cell? ⟨gb396, 1, none⟩ = some (.string (⟨#[]⟩ : ByteArray)) := (blk_cell BK396.out 1).trans rfl; have hcz57_2 : w55.cell? ⟨gb396, 2, none⟩ = some (.string (⟨#[]⟩ : ByteArray)) := (blk_cell BK396.out 2).trans rfl; have hcz57_3 : w55.cell? ⟨gb396, 3, none⟩ = some (.string (⟨#[]⟩ : ByteArray)) := (blk_cell BK396.out 3).trans rfl; have hcz57_4 : w55.cell? ⟨gb396, 4, none⟩ = some (.string (⟨#[]⟩ : ByteArray)) := (blk_cell BK396.out 4).trans rfl; have hcz57_5 : w55.cell? ⟨gb396, 5, none⟩ = some (.string (⟨#[]⟩ : ByteArray)) := (blk_cell BK396.out 5).trans rfl; have hfz57_0 := blk_frozen BK396.out 0; have hfz57_1 := blk_frozen BK396.out 1; have hfz57_2 := blk_frozen BK396.out 2; have hfz57_3 := blk_frozen BK396.out 3; have hfz57_4 := blk_frozen BK396.out 4; have hfz57_5 := blk_frozen BK396.out 5; have hcz58_0 : w55.cell? ⟨gb372, 0, none⟩ = some (.string a0_0) := (blk_cell BK372.out 0).trans rfl; have hcz58_1 : w55.cell? ⟨gb372, 1, none⟩ = some (.string a0_1) := (blk_cell BK372.out 1).trans rfl; have hcz58_2 : w55.cell? ⟨gb372, 2, none⟩ = some (.string a0_2) := (blk_cell BK372.out 2).trans rfl; have hcz58_3 : w55.cell? ⟨gb372, 3, none⟩ = some (.string a0_3) := (blk_cell BK372.out 3).trans rfl; have hcz58_4 : w55.cell? ⟨gb372, 4, none⟩ = some (.string a0_4) := (blk_cell BK372.out 4).trans rfl; have hcz58_5 : w55.cell? ⟨gb372, 5, none⟩ = some (.string a0_5) := (blk_cell BK372.out 5).trans rfl; have hfz58_0 := blk_frozen BK372.out 0; have hfz58_1 := blk_frozen BK372.out 1; have hfz58_2 := blk_frozen BK372.out 2; have hfz58_3 := blk_frozen BK372.out 3; have hfz58_4 := blk_frozen BK372.out 4; have hfz58_5 := blk_frozen BK372.out 5) | ((with_reducible refine gate_callee (f := 25) rfl ?_); refine goesL_ (some 86) rfl rfl Tryd.func25 (by kernel_rfl) rfl #[.agg #[.string a0_0, .string a0_1, .string a0_2, .string a0_3, .string a0_4, .string a0_5]] rfl (by (try simp only [List.map_toArray, List.map_cons, List.map_nil]); first | done | rfl | (simp only [List.length_drop, List.length_take]; rfl)) ?_; (with_reducible refine (lunetteref11_Show.calls a0_0 a0_1 a0_2 a0_3 a0_4 a0_5 t397 _ A47.out).mono ?_); rintro e w59 ⟨rfl, hb⟩; refine ⟨_, rfl, ?_⟩; have n0_ := Aside0.mk (blk_below (g := gb372) (o := .cells #[.string a0_0, .string a0_1, .string a0_2, .string a0_3, .string a0_4, .string a0_5] 26 (0, 0)) (by (with_reducible repeat (first | refine blk_drewN ?_ _ | refine blk_drew ?_ | refine blk_alloc ?_ _)); refine blk_far ?_ NB372_396.out _; (with_reducible repeat (first | refine blk_drewN ?_ _ | refine blk_drew ?_ | refine blk_alloc ?_ _)); refine blk_far ?_ NB372_396.out _; (with_reducible repeat (first | refine blk_drewN ?_ _ | refine blk_drew ?_ | refine blk_alloc ?_ _)); refine blk_far ?_ NB372_396.out _; (with_reducible repeat (first | refine blk_drewN ?_ _ | refine blk_drew ?_ | refine blk_alloc ?_ _)); refine blk_far ?_ NB372_396.out _; (with_reducible repeat (first | refine blk_drewN ?_ _ | refine blk_drew ?_ | refine blk_alloc ?_ _)); refine blk_far ?_ NB372_396.out _; (with_reducible repeat (first | refine blk_drewN ?_ _ | refine blk_drew ?_ | refine blk_alloc ?_ _)); refine blk_far ?_ NB372_396.out _; (with_reducible repeat (first | refine blk_drewN ?_ _ | refine blk_drew ?_ | refine blk_alloc ?_ _)); exact BK372.out) hb); have n1_ := Aside0.mk (blk_below (g := gb396) (o := .cells #[.string t389, .string t390, .string t391, .string t392, .string t393, .string t394] 26 (0, 0)) (by (with_reducible repeat (first | refine blk_drewN ?_ _ | refine blk_drew ?_ | refine blk_alloc ?_ _)); refine blk_put (cs := #[.string t389, .string t390, .string t391, .string t392, .string t393, .string (⟨#[]⟩ : ByteArray)]) ?_ 5 _ rfl; (with_reducible repeat (first | refine blk_drewN ?_ _ | refine blk_drew ?_ | refine blk_alloc ?_ _)); refine blk_put (cs := #[.string t389, .string t390, .string t391, .string t392, .string (⟨#[]⟩ : ByteArray), .string (⟨#[]⟩ : ByteArray)]) ?_ 4 _ rfl; (with_reducible repeat (first | refine blk_drewN ?_ _ | refine blk_drew ?_ | refine blk_alloc ?_ _)); refine blk_put (cs := #[.string t389, .string t390, .string t391, .string (⟨#[]⟩ : ByteArray), .string (⟨#[]⟩ : ByteArray), .string (⟨#[]⟩ : ByteArray)]) ?_ 3 _ rfl; (with_reducible repeat (first | refine blk_drewN ?_ _ | refine blk_drew ?_ | refine blk_alloc ?_ _)); refine blk_put (cs := #[.string t389, .string t390, .string (⟨#[]⟩ : ByteArray), .string (⟨#[]⟩ : ByteArray), .string (⟨#[]⟩ : ByteArray), .string (⟨#[]⟩ : ByteArray)]) ?_ 2 _ rfl; (with_reducible repeat (first | refine blk_drewN ?_ _ | refine blk_drew ?_ | refine blk_alloc ?_ _)); refine blk_put (cs := #[.string t389, .string (⟨#[]⟩ : ByteArray), .string (⟨#[]⟩ : ByteArray), .string (⟨#[]⟩ : ByteArray), .string (⟨#[]⟩ : ByteArray), .string (⟨#[]⟩ : ByteArray)]) ?_ 1 _ rfl; (with_reducible repeat (first | refine blk_drewN ?_ _ | refine blk_drew ?_ | refine blk_alloc ?_ _)); refine blk_put (cs := #[.string (⟨#[]⟩ : ByteArray), .string (⟨#[]⟩ : ByteArray), .string (⟨#[]⟩ : ByteArray), .string (⟨#[]⟩ : ByteArray), .string (⟨#[]⟩ : ByteArray), .string (⟨#[]⟩ : ByteArray)]) ?_ 0 _ rfl; (with_reducible repeat (first | refine blk_drewN ?_ _ | refine blk_drew ?_ | refine blk_alloc ?_ _)); exact BK396.out) hb); have n2_ := Aside0.mk (below_step (by repeat (first | (with_reducible first | exact HB.out | apply below_alloc | apply pw_below_drewN | apply below_drew1 | refine below_set ?_ GE372.out | refine below_set ?_ GE396.out) | exact HB.out)) hb); clear BK372; clear BK396; clear HB; have BK372 := n0_; have BK396 := n1_; have HB := n2_; clear n0_ n1_ n2_; (try clear hb); (try clear hb2); (try clear hk); (try clear hi); have hcz60_0 : w59.cell? ⟨gb396, 0, none⟩ = some (.string t389) := (blk_cell BK396.out 0).trans rfl; have hcz60_1 : w59.cell? ⟨gb396, 1, none⟩ = some (.string t390) := (blk_cell BK396.out 1).trans rfl; have hcz60_2 : w59.cell? ⟨gb396, 2, none⟩ = some (.string t391) := (blk_cell BK396.out 2).trans rfl; have hcz60_3 : w59.cell? ⟨gb396, 3, none⟩ = some (.string t392) := (blk_cell BK396.out 3).trans rfl; have hcz60_4 : w59.cell? ⟨gb396, 4, none⟩ = some (.string t393) := (blk_cell BK396.out 4).trans rfl; have hcz60_5 : w59.cell? ⟨gb396, 5, none⟩ = some (.string t394) := (blk_cell BK396.out 5).trans rfl; have hfz60_0 := blk_frozen BK396.out 0; have hfz60_1 := blk_frozen BK396.out 1; have hfz60_2 := blk_frozen BK396.out 2; have hfz60_3 := blk_frozen BK396.out 3; have hfz60_4 := blk_frozen BK396.out 4; have hfz60_5 := blk_frozen BK396.out 5; have hcz61_0 : w59.cell? ⟨gb372, 0, none⟩ = some (.string a0_0) := (blk_cell BK372.out 0).trans rfl; have hcz61_1 : w59.cell? ⟨gb372, 1, none⟩ = some (.string a0_1) := (blk_cell BK372.out 1).trans rfl; have hcz61_2 : w59.cell? ⟨gb372, 2, none⟩ = some (.string a0_2) := (blk_cell BK372.out 2).trans rfl; have hcz61_3 : w59.cell? ⟨gb372, 3, none⟩ = some (.string a0_3) := (blk_cell BK372.out 3).trans rfl; have hcz61_4 : w59.cell? ⟨gb372, 4, none⟩ = some (.string a0_4) := (blk_cell BK372.out 4).trans rfl; have hcz61_5 : w59.cell? ⟨gb372, 5, none⟩ = some (.string a0_5) := (blk_cell BK372.out 5).trans rfl; have hfz61_0 := blk_frozen BK372.out 0; have hfz61_1 := blk_frozen BK372.out 1; have hfz61_2 := blk_frozen BK372.out 2; have hfz61_3 := blk_frozen BK372.out 3; have hfz61_4 := blk_frozen BK372.out 4; have hfz61_5 := blk_frozen BK372.out 5))
                      go_ret
                      exact ⟨by first | rfl | (simp [errW_none, errW_some] <;> rfl) | (simp [*, errW_none, errW_some] <;> rfl), by repeat (first | (with_reducible first | exact HB.out | apply below_alloc | apply pw_below_drewN | apply below_drew1 | refine below_set ?_ GE372.out | refine below_set ?_ GE396.out) | exact HB.out)⟩
                    · rw [if_neg c51] at H
                      have c51b0 : (t389.toList == a0_0.toList && (t390.toList == a0_1.toList && (t391.toList == a0_2.toList && ((t392.toList == a0_3.toList && (t393.toList == a0_4.toList && (t394.toList == a0_5.toList))))))) = false := by simpa using c51
                      (try (have c51b1 : decide (t389.toList = a0_0.toList && (t390.toList == a0_1.toList && (t391.toList == a0_2.toList && ((t392.toList == a0_3.toList && (t393.toList == a0_4.toList && (t394.toList == a0_5.toList))))))) = false := by simpa using c51))
                      (try (have c51b2 : (t389.toList == a0_0.toList && (t390.toList == a0_1.toList && (t391.toList == a0_2.toList && ((t392.toList == a0_3.toList && (t393.toList == a0_4.toList && (t394.toList == a0_5.toList))))))) = false := by simpa using c51))
                      (try (have c51b3 : ¬ (t389.toList = a0_0.toList && (t390.toList == a0_1.toList && (t391.toList == a0_2.toList && ((t392.toList == a0_3.toList && (t393.toList == a0_4.toList && (t394.toList == a0_5.toList))))))) := by simpa using c51))
                      clear c51
                      exact absurd ((Option.some.inj H).trans HTRUE.out) (by decide)
                  · rw [if_neg c50] at H
                    have c50b0 : (t380 == 0) = false := beq_eq_false_iff_ne.mpr c50
                    have c50b1 : (t380 != 0) = true := bne_iff_ne.mpr c50
                    exact absurd ((Option.some.inj H).trans HTRUE.out) (by decide)
                · rw [if_neg c49] at H
                  have c49b0 : (t377 == 0) = false := beq_eq_false_iff_ne.mpr c49
                  have c49b1 : (t377 != 0) = true := bne_iff_ne.mpr c49
                  exact absurd ((Option.some.inj H).trans HTRUE.out) (by decide)
              · rw [if_neg c48] at H
                have c48b0 : (t376.toList == t397.toList) = false := beq_eq_false_iff_ne.mpr c48
                have c48b1 : (t376.toList != t397.toList) = true := bne_iff_ne.mpr c48
                exact absurd ((Option.some.inj H).trans HTRUE.out) (by decide)
            · replace c45 := Bool.eq_false_iff.mpr c45
              subst c45
              have H1 : (if t376.toList = ([] : List UInt8) then (if t377 = 111 then (some (t380 == 111)) else (some false)) else (some false)) = some r := by rw [if_neg (show ¬ (false = true) by decide)] at H; exact H
              clear H
              have H := H1
              clear H1
              by_cases c62 : t376.toList = ([] : List UInt8)
              · rw [if_pos c62] at H
                have c62b0 : (t376.toList == ([] : List UInt8)) = true := beq_iff_eq.mpr c62
                have c62b1 : (t376.toList != ([] : List UInt8)) = false := bne_eq_false_iff_eq.mpr c62
                clear c62
                by_cases c63 : t377 = 111
                · rw [if_pos c63] at H
                  have c63b0 : (t377 == 111) = true := beq_iff_eq.mpr c63
                  have c63b1 : (t377 != 111) = false := bne_eq_false_iff_eq.mpr c63
                  clear c63
                  obtain rfl := Option.some.inj H
                  have hcz64_0 : wc.cell? ⟨gb372, 0, none⟩ = some (.string a0_0) := (blk_cell BK372.out 0).trans rfl
                  have hcz64_1 : wc.cell? ⟨gb372, 1, none⟩ = some (.string a0_1) := (blk_cell BK372.out 1).trans rfl
                  have hcz64_2 : wc.cell? ⟨gb372, 2, none⟩ = some (.string a0_2) := (blk_cell BK372.out 2).trans rfl
                  have hcz64_3 : wc.cell? ⟨gb372, 3, none⟩ = some (.string a0_3) := (blk_cell BK372.out 3).trans rfl
                  have hcz64_4 : wc.cell? ⟨gb372, 4, none⟩ = some (.string a0_4) := (blk_cell BK372.out 4).trans rfl
                  have hcz64_5 : wc.cell? ⟨gb372, 5, none⟩ = some (.string a0_5) := (blk_cell BK372.out 5).trans rfl
                  have hfz64_0 := blk_frozen BK372.out 0
                  have hfz64_1 := blk_frozen BK372.out 1
                  have hfz64_2 := blk_frozen BK372.out 2
                  have hfz64_3 := blk_frozen BK372.out 3
                  have hfz64_4 := blk_frozen BK372.out 4
                  have hfz64_5 := blk_frozen BK372.out 5
                  go_wp2_with (first | ((with_reducible refine gate_callee (f := 13) rfl ?_); refine goesL_ (some 67) rfl rfl Tryd.func13 (by kernel_rfl) rfl #[.agg #[.string a0_0, .string a0_1, .string a0_2, .string a0_3, .string a0_4, .string a0_5]] rfl (by (try simp only [List.map_toArray, List.map_cons, List.map_nil]); first | done | rfl | (simp only [List.length_drop, List.length_take]; rfl)) ?_; (with_reducible refine (lunetteref11_Check.calls kj17 a0_0 a0_1 a0_2 a0_3 a0_4 a0_5 false _ A44.out).mono ?_); rintro e w65 ⟨rfl, hb⟩; refine ⟨_, rfl, ?_⟩; have n0_ := Aside0.mk (blk_below (g := gb372) (o := .cells #[.string a0_0, .string a0_1, .string a0_2, .string a0_3, .string a0_4, .string a0_5] 26 (0, 0)) (by (with_reducible repeat (first | refine blk_drewN ?_ _ | refine blk_drew ?_ | refine blk_alloc ?_ _)); exact BK372.out) hb); have n1_ := Aside0.mk (below_step (by repeat (first | (with_reducible first | exact HB.out | apply below_alloc | apply pw_below_drewN | apply below_drew1 | refine below_set ?_ GE372.out) | exact HB.out)) hb); clear BK372; clear HB; have BK372 := n0_; have HB := n1_; clear n0_ n1_; (try clear hb); (try clear hb2); (try clear hk); (try clear hi)))
                  go_ret
                  exact ⟨by first | rfl | (simp [errW_none, errW_some] <;> rfl) | (simp [*, errW_none, errW_some] <;> rfl), by repeat (first | (with_reducible first | exact HB.out | apply below_alloc | apply pw_below_drewN | apply below_drew1 | refine below_set ?_ GE372.out) | exact HB.out)⟩
                · rw [if_neg c63] at H
                  have c63b0 : (t377 == 111) = false := beq_eq_false_iff_ne.mpr c63
                  have c63b1 : (t377 != 111) = true := bne_iff_ne.mpr c63
                  exact absurd ((Option.some.inj H).trans HTRUE.out) (by decide)
              · rw [if_neg c62] at H
                have c62b0 : (t376.toList == ([] : List UInt8)) = false := beq_eq_false_iff_ne.mpr c62
                have c62b1 : (t376.toList != ([] : List UInt8)) = true := bne_iff_ne.mpr c62
                exact absurd ((Option.some.inj H).trans HTRUE.out) (by decide)

end Go.Proofs.YtggcipjdhhnnkaaDoor.K
