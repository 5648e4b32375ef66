-- Written by a program of this session (wip/pp.py over the kit's print.py). Lean checks it.
import Derived.Test.YtggcipjdhhnnkaaDoorP0
import Derived.Test.YtggcipjdhhnnkaaDoorPMa
import Derived.Test.YtggcipjdhhnnkaaDoorAW
import Derived.Test.YtggcipjdhhnnkaaDoorP22
import Derived.Test.YtggcipjdhhnnkaaDoorPMd
import Derived.Test.YtggcipjdhhnnkaaDoorPMe
namespace Go.Proofs.YtggcipjdhhnnkaaDoor.K
open Go.RowKit Go.Proofs.YtggcipjdhhnnkaaDoorW.PrintWords Go.Proofs.YtggcipjdhhnnkaaDoorW.PrintLast Go.Proofs.YtggcipjdhhnnkaaDoorW.PrintMore
attribute [local go_sem] max2_int min2_int max_two min_two max_three min_three max_four min_four   -- for this text's walks alone
set_option linter.unusedVariables false
set_option linter.unusedSimpArgs false

/-! ### lunettelaw11_TupleOrder: function 10 -/
def lunettelaw11_TupleOrder.j0 : Nat → Bool → ByteArray → ByteArray → ByteArray → ByteArray → ByteArray → ByteArray → ByteArray → ByteArray → ByteArray → ByteArray → ByteArray → ByteArray → Option (Bool)
  | 0, _, _, _, _, _, _, _, _, _, _, _, _, _ => none
  | k + 1, x21, x421000, x421001, x421002, x421003, x421004, x421005, x422000, x422001, x422002, x422003, x422004, x422005 => if x21 = true then ((lunettelaw11_awake.f k).bind fun t425 => (some t425)) else ((tuple_Less.f k x421000 x421001 x421002 x421003 x421004 x421005 x422000 x422001 x422002 x422003 x422004 x422005).bind fun t426 => ((lunetteref11_Less.f k x421000 x421001 x421002 x421003 x421004 x421005 x422000 x422001 x422002 x422003 x422004 x422005).bind fun t427 => (if (t426 != t427) = true then (some false) else ((tuple_Key.f x421000 x421001 x421002 x421003 x421004 x421005).bind fun bt428 => ((tuple_Key.f x422000 x422001 x422002 x422003 x422004 x422005).bind fun bt430 => (if bt428.2 = 0 then (if bt430.2 = 0 then ((lunetteref01_Below.f k bt428.1 bt430.1).bind fun t432 => (some (t426 == t432))) else (some true)) else (some true)))))))
def lunettelaw11_TupleOrder.f (k : Nat) (a0_0 : ByteArray) (a0_1 : ByteArray) (a0_2 : ByteArray) (a0_3 : ByteArray) (a0_4 : ByteArray) (a0_5 : ByteArray) (a1_0 : ByteArray) (a1_1 : ByteArray) (a1_2 : ByteArray) (a1_3 : ByteArray) (a1_4 : ByteArray) (a1_5 : ByteArray) : Option (Bool) := (lunettelaw11_awake.f k).bind fun t422 => (if t422 = true then ((lunettelaw11_few.f k a0_0 a0_1 a0_2 a0_3 a0_4 a0_5).bind fun t423 => (if t423 = true then ((lunettelaw11_few.f k a1_0 a1_1 a1_2 a1_3 a1_4 a1_5).bind fun t424 => (lunettelaw11_TupleOrder.j0 k (!t424) a0_0 a0_1 a0_2 a0_3 a0_4 a0_5 a1_0 a1_1 a1_2 a1_3 a1_4 a1_5)) else (lunettelaw11_TupleOrder.j0 k true a0_0 a0_1 a0_2 a0_3 a0_4 a0_5 a1_0 a1_1 a1_2 a1_3 a1_4 a1_5))) else (lunettelaw11_TupleOrder.j0 k true a0_0 a0_1 a0_2 a0_3 a0_4 a0_5 a1_0 a1_1 a1_2 a1_3 a1_4 a1_5))
theorem lunettelaw11_TupleOrder.mono_l : ∀ k, (∀ y0 y1 y2 y3 y4 y5 y6 y7 y8 y9 y10 y11 y12, LeO (lunettelaw11_TupleOrder.j0 k y0 y1 y2 y3 y4 y5 y6 y7 y8 y9 y10 y11 y12) (lunettelaw11_TupleOrder.j0 (k + 1) y0 y1 y2 y3 y4 y5 y6 y7 y8 y9 y10 y11 y12))
  | 0 => fun _ _ _ _ _ _ _ _ _ _ _ _ _ r h => by simp [lunettelaw11_TupleOrder.j0] at h
  | k + 1 => by
    have ih0 := lunettelaw11_TupleOrder.mono_l k
    · intro y0 y1 y2 y3 y4 y5 y6 y7 y8 y9 y10 y11 y12
      unfold lunettelaw11_TupleOrder.j0
      repeat' first
      | (with_reducible exact ih0 _ _ _ _ _ _ _ _ _ _ _ _ _)
      | (with_reducible exact lunettelaw11_awake.mono _)
      | (with_reducible exact lunettelaw11_few.mono _ _ _ _ _ _ _)
      | (with_reducible exact lunetteref01_Below.mono _ _ _)
      | (with_reducible exact lunetteref11_Less.mono _ _ _ _ _ _ _ _ _ _ _ _ _)
      | (with_reducible exact tuple_Less.mono _ _ _ _ _ _ _ _ _ _ _ _ _)
      | (with_reducible exact LeO.refl _)
      | (with_reducible exact LeO.none _)
      | (with_reducible refine LeO.ite ?_ ?_)
      | (with_reducible refine LeO.bind ?_ (fun _ => ?_))
      | exact ih0 _ _ _ _ _ _ _ _ _ _ _ _ _
      | exact lunettelaw11_awake.mono _
      | exact lunettelaw11_few.mono _ _ _ _ _ _ _
      | exact lunetteref01_Below.mono _ _ _
      | exact lunetteref11_Less.mono _ _ _ _ _ _ _ _ _ _ _ _ _
      | exact tuple_Less.mono _ _ _ _ _ _ _ _ _ _ _ _ _
      | exact LeO.none _
      | refine LeO.ite ?_ ?_
      | refine LeO.bind ?_ (fun _ => ?_)
theorem lunettelaw11_TupleOrder.mono : ∀ a0 a1 a2 a3 a4 a5 a6 a7 a8 a9 a10 a11 k, LeO (lunettelaw11_TupleOrder.f k a0 a1 a2 a3 a4 a5 a6 a7 a8 a9 a10 a11) (lunettelaw11_TupleOrder.f (k + 1) a0 a1 a2 a3 a4 a5 a6 a7 a8 a9 a10 a11) := by
  intro a0 a1 a2 a3 a4 a5 a6 a7 a8 a9 a10 a11 k
  have ih0 := lunettelaw11_TupleOrder.mono_l k
  unfold lunettelaw11_TupleOrder.f
  repeat' first
      | (with_reducible exact ih0 _ _ _ _ _ _ _ _ _ _ _ _ _)
      | (with_reducible exact lunettelaw11_awake.mono _)
      | (with_reducible exact lunettelaw11_few.mono _ _ _ _ _ _ _)
      | (with_reducible exact lunetteref01_Below.mono _ _ _)
      | (with_reducible exact lunetteref11_Less.mono _ _ _ _ _ _ _ _ _ _ _ _ _)
      | (with_reducible exact tuple_Less.mono _ _ _ _ _ _ _ _ _ _ _ _ _)
      | (with_reducible exact LeO.refl _)
      | (with_reducible exact LeO.none _)
      | (with_reducible refine LeO.ite ?_ ?_)
      | (with_reducible refine LeO.bind ?_ (fun _ => ?_))
      | exact ih0 _ _ _ _ _ _ _ _ _ _ _ _ _
      | exact lunettelaw11_awake.mono _
      | exact lunettelaw11_few.mono _ _ _ _ _ _ _
      | exact lunetteref01_Below.mono _ _ _
      | exact lunetteref11_Less.mono _ _ _ _ _ _ _ _ _ _ _ _ _
      | exact tuple_Less.mono _ _ _ _ _ _ _ _ _ _ _ _ _
      | exact LeO.none _
      | refine LeO.ite ?_ ?_
      | refine LeO.bind ?_ (fun _ => ?_)
set_option maxHeartbeats 8000000 in
set_option maxRecDepth 100000 in
theorem lunettelaw11_TupleOrder.callsT (k : Nat) (a0_0 : ByteArray) (a0_1 : ByteArray) (a0_2 : ByteArray) (a0_3 : ByteArray) (a0_4 : ByteArray) (a0_5 : ByteArray) (a1_0 : ByteArray) (a1_1 : ByteArray) (a1_2 : ByteArray) (a1_3 : ByteArray) (a1_4 : ByteArray) (a1_5 : ByteArray) (r : Bool) (w : World) (h : lunettelaw11_TupleOrder.f k a0_0 a0_1 a0_2 a0_3 a0_4 a0_5 a1_0 a1_1 a1_2 a1_3 a1_4 a1_5 = some r) (hT : r = true) :
    Calls Tryd.prog 10 #[.agg #[.string a0_0, .string a0_1, .string a0_2, .string a0_3, .string a0_4, .string a0_5], .agg #[.string a1_0, .string a1_1, .string a1_2, .string a1_3, .string a1_4, .string a1_5]] w fun e w' => e = .returned (.bool r) ∧ Below w.heap.size w w' := by
  have hu26 := Tryd.underlying26
  have HB := Aside0.mk (Below.refl w.heap.size w)
  have HTRUE := Aside0.mk hT
  clear hT
  have H : ((lunettelaw11_awake.f k).bind fun t422 => (if t422 = true then ((lunettelaw11_few.f k a0_0 a0_1 a0_2 a0_3 a0_4 a0_5).bind fun t423 => (if t423 = true then ((lunettelaw11_few.f k a1_0 a1_1 a1_2 a1_3 a1_4 a1_5).bind fun t424 => (lunettelaw11_TupleOrder.j0 k (!t424) a0_0 a0_1 a0_2 a0_3 a0_4 a0_5 a1_0 a1_1 a1_2 a1_3 a1_4 a1_5)) else (lunettelaw11_TupleOrder.j0 k true a0_0 a0_1 a0_2 a0_3 a0_4 a0_5 a1_0 a1_1 a1_2 a1_3 a1_4 a1_5))) else (lunettelaw11_TupleOrder.j0 k true a0_0 a0_1 a0_2 a0_3 a0_4 a0_5 a1_0 a1_1 a1_2 a1_3 a1_4 a1_5))) = some r := h
  clear h
  have HC3 := Aside0.mk H
  clear H
  go_enter Tryd.func10, Tryd.ntmps10
  go_upto_region 1 with (first | ((with_reducible refine gate_dst (N := 2) rfl ?_); refine box_event ?hg (N := 2) ?hd (cs := #[.string a0_0, .string a0_1, .string a0_2, .string a0_3, .string a0_4, .string a0_5]) (t := 26) ?hr ?_; (case hd => rfl); (case hg => rfl); (case hr => first | (go_simp; done) | (go_simp; rfl)); intro gb420 hg w4 hbox hb; have n0_ := Aside0.mk (below_step (by repeat (first | (with_reducible first | exact HB.out | apply below_alloc | apply pw_below_drewN | apply below_drew1) | exact HB.out)) hb); have n1_ := Aside0.mk (hbox); have n2_ := Aside0.mk ((by rw [hg]; exact (below_size (by repeat (first | (with_reducible first | exact HB.out | apply below_alloc | apply pw_below_drewN | apply below_drew1) | exact HB.out))) : w.heap.size ≤ gb420)); have n3_ := Aside0.mk ((by rw [hg]; exact (below_size (by repeat (first | (with_reducible first | exact HB.out | apply below_alloc | apply pw_below_drewN | apply below_drew1) | exact HB.out))) : w.heap.size ≤ gb420)); clear HB; have HB := n0_; have BK420 := n1_; have GW420 := n2_; have GE420 := n3_; clear n0_ n1_ n2_ n3_; clear hb hbox hg) | ((with_reducible refine gate_dst (N := 3) rfl ?_); refine box_event ?hg (N := 3) ?hd (cs := #[.string a1_0, .string a1_1, .string a1_2, .string a1_3, .string a1_4, .string a1_5]) (t := 26) ?hr ?_; (case hd => rfl); (case hg => rfl); (case hr => first | (go_simp; done) | (go_simp; rfl)); intro gb421 hg w5 hbox hb; have n0_ := Aside0.mk (blk_below (g := gb420) (o := .cells #[.string a0_0, .string a0_1, .string a0_2, .string a0_3, .string a0_4, .string a0_5] 26 (0, 0)) (by (with_reducible repeat (first | refine blk_drewN ?_ _ | refine blk_drew ?_ | refine blk_alloc ?_ _)); exact BK420.out) hb); have n1_ := Aside0.mk (below_step (by repeat (first | (with_reducible first | exact HB.out | apply below_alloc | apply pw_below_drewN | apply below_drew1 | refine below_set ?_ GE420.out) | exact HB.out)) hb); have n2_ := Aside0.mk (hbox); have n3_ := Aside0.mk ((by rw [hg]; exact (below_size (by repeat (first | (with_reducible first | exact HB.out | apply below_alloc | apply pw_below_drewN | apply below_drew1 | refine below_set ?_ GE420.out) | exact HB.out))) : w.heap.size ≤ gb421)); have n4_ := Aside0.mk ((by rw [hg]; exact (below_size (by repeat (first | (with_reducible first | exact HB.out | apply below_alloc | apply pw_below_drewN | apply below_drew1 | refine below_set ?_ GE420.out) | exact HB.out))) : w.heap.size ≤ gb421)); have n5_ := Aside0.mk ((by rw [hg]; exact Nat.ne_of_lt (blk_lt (g := gb420) (o := .cells #[.string a0_0, .string a0_1, .string a0_2, .string a0_3, .string a0_4, .string a0_5] 26 (0, 0)) (by (with_reducible repeat (first | refine blk_drewN ?_ _ | refine blk_drew ?_ | refine blk_alloc ?_ _)); exact BK420.out)) : gb420 ≠ gb421)); have n6_ := Aside0.mk ((by rw [hg]; exact Nat.ne_of_gt (blk_lt (g := gb420) (o := .cells #[.string a0_0, .string a0_1, .string a0_2, .string a0_3, .string a0_4, .string a0_5] 26 (0, 0)) (by (with_reducible repeat (first | refine blk_drewN ?_ _ | refine blk_drew ?_ | refine blk_alloc ?_ _)); exact BK420.out)) : gb421 ≠ gb420)); clear BK420; clear HB; have BK420 := n0_; have HB := n1_; have BK421 := n2_; have GW421 := n3_; have GE421 := n4_; have NB420_421 := n5_; have NB421_420 := n6_; clear n0_ n1_ n2_ n3_ n4_ n5_ n6_; clear hb hbox hg))
  (try simp only [Act.put, List.setIfInBounds_toArray, List.set_cons_zero, List.set_cons_succ])
  go_cut [21] (fun v21 wc => ∃ (kq : Nat) (x21_2 : Bool), v21 = .bool x21_2 ∧ Aside0 (lunettelaw11_TupleOrder.j0 kq x21_2 a0_0 a0_1 a0_2 a0_3 a0_4 a0_5 a1_0 a1_1 a1_2 a1_3 a1_4 a1_5 = some r) ∧ Aside0 (kq ≤ k) ∧ Aside0 (wc.heap[gb420]? = some (.cells #[.string a0_0, .string a0_1, .string a0_2, .string a0_3, .string a0_4, .string a0_5] 26 (0, 0))) ∧ Aside0 (wc.heap[gb421]? = some (.cells #[.string a1_0, .string a1_1, .string a1_2, .string a1_3, .string a1_4, .string a1_5] 26 (0, 0))) ∧ Aside0 (Below w.heap.size w wc))
  case first =>
    have H := HC3.out
    clear HC3
    replace H := Option.bind_eq_some_iff.mp H
    obtain ⟨t422, A60, H⟩ := H
    replace H : (if t422 = true then ((lunettelaw11_few.f k a0_0 a0_1 a0_2 a0_3 a0_4 a0_5).bind fun t423 => (if t423 = true then ((lunettelaw11_few.f k a1_0 a1_1 a1_2 a1_3 a1_4 a1_5).bind fun t424 => (lunettelaw11_TupleOrder.j0 k (!t424) a0_0 a0_1 a0_2 a0_3 a0_4 a0_5 a1_0 a1_1 a1_2 a1_3 a1_4 a1_5)) else (lunettelaw11_TupleOrder.j0 k true a0_0 a0_1 a0_2 a0_3 a0_4 a0_5 a1_0 a1_1 a1_2 a1_3 a1_4 a1_5))) else (lunettelaw11_TupleOrder.j0 k true a0_0 a0_1 a0_2 a0_3 a0_4 a0_5 a1_0 a1_1 a1_2 a1_3 a1_4 a1_5)) = some r := H
    have A6 := Aside0.mk A60
    clear A60
    by_cases c7 : t422 = true
    · subst c7
      have H1 : ((lunettelaw11_few.f k a0_0 a0_1 a0_2 a0_3 a0_4 a0_5).bind fun t423 => (if t423 = true then ((lunettelaw11_few.f k a1_0 a1_1 a1_2 a1_3 a1_4 a1_5).bind fun t424 => (lunettelaw11_TupleOrder.j0 k (!t424) a0_0 a0_1 a0_2 a0_3 a0_4 a0_5 a1_0 a1_1 a1_2 a1_3 a1_4 a1_5)) else (lunettelaw11_TupleOrder.j0 k true a0_0 a0_1 a0_2 a0_3 a0_4 a0_5 a1_0 a1_1 a1_2 a1_3 a1_4 a1_5))) = some r := by rw [if_pos rfl] at H; exact H
      clear H
      have H := H1
      clear H1
      replace H := Option.bind_eq_some_iff.mp H
      obtain ⟨t423, A80, H⟩ := H
      replace H : (if t423 = true then ((lunettelaw11_few.f k a1_0 a1_1 a1_2 a1_3 a1_4 a1_5).bind fun t424 => (lunettelaw11_TupleOrder.j0 k (!t424) a0_0 a0_1 a0_2 a0_3 a0_4 a0_5 a1_0 a1_1 a1_2 a1_3 a1_4 a1_5)) else (lunettelaw11_TupleOrder.j0 k true a0_0 a0_1 a0_2 a0_3 a0_4 a0_5 a1_0 a1_1 a1_2 a1_3 a1_4 a1_5)) = some r := H
      have A8 := Aside0.mk A80
      clear A80
      by_cases c9 : t423 = true
      · subst c9
        have H1 : ((lunettelaw11_few.f k a1_0 a1_1 a1_2 a1_3 a1_4 a1_5).bind fun t424 => (lunettelaw11_TupleOrder.j0 k (!t424) a0_0 a0_1 a0_2 a0_3 a0_4 a0_5 a1_0 a1_1 a1_2 a1_3 a1_4 a1_5)) = some r := by rw [if_pos rfl] at H; exact H
        clear H
        have H := H1
        clear H1
        replace H := Option.bind_eq_some_iff.mp H
        obtain ⟨t424, A100, H⟩ := H
        replace H : (lunettelaw11_TupleOrder.j0 k (!t424) a0_0 a0_1 a0_2 a0_3 a0_4 a0_5 a1_0 a1_1 a1_2 a1_3 a1_4 a1_5) = some r := H
        have A10 := Aside0.mk A100
        clear A100
        have H' := Aside0.mk H
        clear H
        go_wp2_with (first | ((with_reducible refine gate_callee (f := 11) rfl ?_); refine goesL_ (some 10) rfl rfl Tryd.func11 (by kernel_rfl) rfl #[] rfl (by (try simp only [List.map_toArray, List.map_cons, List.map_nil]); first | done | rfl | (simp only [List.length_drop, List.length_take]; rfl)) ?_; (with_reducible refine (lunettelaw11_awake.calls k  true _ A6.out).mono ?_); rintro e w11 ⟨rfl, hb⟩; refine ⟨_, rfl, ?_⟩; have n0_ := Aside0.mk (blk_below (g := gb420) (o := .cells #[.string a0_0, .string a0_1, .string a0_2, .string a0_3, .string a0_4, .string a0_5] 26 (0, 0)) (by (with_reducible repeat (first | refine blk_drewN ?_ _ | refine blk_drew ?_ | refine blk_alloc ?_ _)); exact BK420.out) hb); have n1_ := Aside0.mk (blk_below (g := gb421) (o := .cells #[.string a1_0, .string a1_1, .string a1_2, .string a1_3, .string a1_4, .string a1_5] 26 (0, 0)) (by (with_reducible repeat (first | refine blk_drewN ?_ _ | refine blk_drew ?_ | refine blk_alloc ?_ _)); exact BK421.out) hb); have n2_ := Aside0.mk (below_step (by repeat (first | (with_reducible first | exact HB.out | apply below_alloc | apply pw_below_drewN | apply below_drew1 | refine below_set ?_ GE420.out | refine below_set ?_ GE421.out) | exact HB.out)) hb); clear BK420; clear BK421; clear HB; have BK420 := n0_; have BK421 := n1_; have HB := n2_; clear n0_ n1_ n2_; (try clear hb); (try clear hb2); (try clear hk); (try clear hi); have hnb12 := NB420_421.out; have hnc12 := NB421_420.out; have hcz13_0 : w11.cell? ⟨gb420, 0, none⟩ = some (.string a0_0) := (blk_cell BK420.out 0).trans rfl; have hcz13_1 : w11.cell? ⟨gb420, 1, none⟩ = some (.string a0_1) := (blk_cell BK420.out 1).trans rfl; have hcz13_2 : w11.cell? ⟨gb420, 2, none⟩ = some (.string a0_2) := (blk_cell BK420.out 2).trans rfl; have hcz13_3 : w11.cell? ⟨gb420, 3, none⟩ = some (.string a0_3) := (blk_cell BK420.out 3).trans rfl; have hcz13_4 : w11.cell? ⟨gb420, 4, none⟩ = some (.string a0_4) := (blk_cell BK420.out 4).trans rfl; have hcz13_5 : w11.cell? ⟨gb420, 5, none⟩ = some (.string a0_5) := (blk_cell BK420.out 5).trans rfl; have hfz13_0 := blk_frozen BK420.out 0; have hfz13_1 := blk_frozen BK420.out 1; have hfz13_2 := blk_frozen BK420.out 2; have hfz13_3 := blk_frozen BK420.out 3; have hfz13_4 := blk_frozen BK420.out 4; have hfz13_5 := blk_frozen BK420.out 5) | (go_at_call 16; (with_reducible refine (lunettelaw11_few.calls k a0_0 a0_1 a0_2 a0_3 a0_4 a0_5 true _ A8.out).mono ?_); rintro e w14 ⟨rfl, hb⟩; have n0_ := Aside0.mk (blk_below (g := gb420) (o := .cells #[.string a0_0, .string a0_1, .string a0_2, .string a0_3, .string a0_4, .string a0_5] 26 (0, 0)) (by (with_reducible repeat (first | refine blk_drewN ?_ _ | refine blk_drew ?_ | refine blk_alloc ?_ _)); exact BK420.out) hb); have n1_ := Aside0.mk (blk_below (g := gb421) (o := .cells #[.string a1_0, .string a1_1, .string a1_2, .string a1_3, .string a1_4, .string a1_5] 26 (0, 0)) (by (with_reducible repeat (first | refine blk_drewN ?_ _ | refine blk_drew ?_ | refine blk_alloc ?_ _)); exact BK421.out) hb); have n2_ := Aside0.mk (below_step (by repeat (first | (with_reducible first | exact HB.out | apply below_alloc | apply pw_below_drewN | apply below_drew1 | refine below_set ?_ GE420.out | refine below_set ?_ GE421.out) | exact HB.out)) hb); clear BK420; clear BK421; clear HB; have BK420 := n0_; have BK421 := n1_; have HB := n2_; clear n0_ n1_ n2_; (try clear hb); (try clear hb2); (try clear hk); (try clear hi); have hcz15_0 : w14.cell? ⟨gb421, 0, none⟩ = some (.string a1_0) := (blk_cell BK421.out 0).trans rfl; have hcz15_1 : w14.cell? ⟨gb421, 1, none⟩ = some (.string a1_1) := (blk_cell BK421.out 1).trans rfl; have hcz15_2 : w14.cell? ⟨gb421, 2, none⟩ = some (.string a1_2) := (blk_cell BK421.out 2).trans rfl; have hcz15_3 : w14.cell? ⟨gb421, 3, none⟩ = some (.string a1_3) := (blk_cell BK421.out 3).trans rfl; have hcz15_4 : w14.cell? ⟨gb421, 4, none⟩ = some (.string a1_4) := (blk_cell BK421.out 4).trans rfl; have hcz15_5 : w14.cell? ⟨gb421, 5, none⟩ = some (.string a1_5) := (blk_cell BK421.out 5).trans rfl; have hfz15_0 := blk_frozen BK421.out 0; have hfz15_1 := blk_frozen BK421.out 1; have hfz15_2 := blk_frozen BK421.out 2; have hfz15_3 := blk_frozen BK421.out 3; have hfz15_4 := blk_frozen BK421.out 4; have hfz15_5 := blk_frozen BK421.out 5) | (go_at_call 16; (with_reducible refine (lunettelaw11_few.calls k a1_0 a1_1 a1_2 a1_3 a1_4 a1_5 t424 _ A10.out).mono ?_); rintro e w16 ⟨rfl, hb⟩; have n0_ := Aside0.mk (blk_below (g := gb420) (o := .cells #[.string a0_0, .string a0_1, .string a0_2, .string a0_3, .string a0_4, .string a0_5] 26 (0, 0)) (by (with_reducible repeat (first | refine blk_drewN ?_ _ | refine blk_drew ?_ | refine blk_alloc ?_ _)); exact BK420.out) hb); have n1_ := Aside0.mk (blk_below (g := gb421) (o := .cells #[.string a1_0, .string a1_1, .string a1_2, .string a1_3, .string a1_4, .string a1_5] 26 (0, 0)) (by (with_reducible repeat (first | refine blk_drewN ?_ _ | refine blk_drew ?_ | refine blk_alloc ?_ _)); exact BK421.out) hb); have n2_ := Aside0.mk (below_step (by repeat (first | (with_reducible first | exact HB.out | apply below_alloc | apply pw_below_drewN | apply below_drew1 | refine below_set ?_ GE420.out | refine below_set ?_ GE421.out) | exact HB.out)) hb); clear BK420; clear BK421; clear HB; have BK420 := n0_; have BK421 := n1_; have HB := n2_; clear n0_ n1_ n2_; (try clear hb); (try clear hb2); (try clear hk); (try clear hi)))
        go_meet
        case rel => exact ⟨_, (!t424), (by first | rfl | (simp; done) | (simp [*]; done)), H', ⟨by first | omega | exact Nat.le_refl _⟩, ⟨by (with_reducible repeat (first | refine blk_drewN ?_ _ | refine blk_drew ?_ | refine blk_alloc ?_ _)); exact BK420.out⟩, ⟨by (with_reducible repeat (first | refine blk_drewN ?_ _ | refine blk_drew ?_ | refine blk_alloc ?_ _)); exact BK421.out⟩, ⟨by repeat (first | (with_reducible first | exact HB.out | apply below_alloc | apply pw_below_drewN | apply below_drew1 | refine below_set ?_ GE420.out | refine below_set ?_ GE421.out) | exact HB.out)⟩⟩
      · replace c9 := Bool.eq_false_iff.mpr c9
        subst c9
        have H1 : (lunettelaw11_TupleOrder.j0 k true a0_0 a0_1 a0_2 a0_3 a0_4 a0_5 a1_0 a1_1 a1_2 a1_3 a1_4 a1_5) = some r := by rw [if_neg (show ¬ (false = true) by decide)] at H; exact H
        clear H
        have H := H1
        clear H1
        have H' := Aside0.mk H
        clear H
        go_wp2_with (first | ((with_reducible refine gate_callee (f := 11) rfl ?_); refine goesL_ (some 10) rfl rfl Tryd.func11 (by kernel_rfl) rfl #[] rfl (by (try simp only [List.map_toArray, List.map_cons, List.map_nil]); first | done | rfl | (simp only [List.length_drop, List.length_take]; rfl)) ?_; (with_reducible refine (lunettelaw11_awake.calls k  true _ A6.out).mono ?_); rintro e w17 ⟨rfl, hb⟩; refine ⟨_, rfl, ?_⟩; have n0_ := Aside0.mk (blk_below (g := gb420) (o := .cells #[.string a0_0, .string a0_1, .string a0_2, .string a0_3, .string a0_4, .string a0_5] 26 (0, 0)) (by (with_reducible repeat (first | refine blk_drewN ?_ _ | refine blk_drew ?_ | refine blk_alloc ?_ _)); exact BK420.out) hb); have n1_ := Aside0.mk (blk_below (g := gb421) (o := .cells #[.string a1_0, .string a1_1, .string a1_2, .string a1_3, .string a1_4, .string a1_5] 26 (0, 0)) (by (with_reducible repeat (first | refine blk_drewN ?_ _ | refine blk_drew ?_ | refine blk_alloc ?_ _)); exact BK421.out) hb); have n2_ := Aside0.mk (below_step (by repeat (first | (with_reducible first | exact HB.out | apply below_alloc | apply pw_below_drewN | apply below_drew1 | refine below_set ?_ GE420.out | refine below_set ?_ GE421.out) | exact HB.out)) hb); clear BK420; clear BK421; clear HB; have BK420 := n0_; have BK421 := n1_; have HB := n2_; clear n0_ n1_ n2_; (try clear hb); (try clear hb2); (try clear hk); (try clear hi); have hnb18 := NB420_421.out; have hnc18 := NB421_420.out; have hcz19_0 : w17.cell? ⟨gb420, 0, none⟩ = some (.string a0_0) := (blk_cell BK420.out 0).trans rfl; have hcz19_1 : w17.cell? ⟨gb420, 1, none⟩ = some (.string a0_1) := (blk_cell BK420.out 1).trans rfl; have hcz19_2 : w17.cell? ⟨gb420, 2, none⟩ = some (.string a0_2) := (blk_cell BK420.out 2).trans rfl; have hcz19_3 : w17.cell? ⟨gb420, 3, none⟩ = some (.string a0_3) := (blk_cell BK420.out 3).trans rfl; have hcz19_4 : w17.cell? ⟨gb420, 4, none⟩ = some (.string a0_4) := (blk_cell BK420.out 4).trans rfl; have hcz19_5 : w17.cell? ⟨gb420, 5, none⟩ = some (.string a0_5) := (blk_cell BK420.out 5).trans rfl; have hfz19_0 := blk_frozen BK420.out 0; have hfz19_1 := blk_frozen BK420.out 1; have hfz19_2 := blk_frozen BK420.out 2; have hfz19_3 := blk_frozen BK420.out 3; have hfz19_4 := blk_frozen BK420.out 4; have hfz19_5 := blk_frozen BK420.out 5) | (go_at_call 16; (with_reducible refine (lunettelaw11_few.calls k a0_0 a0_1 a0_2 a0_3 a0_4 a0_5 false _ A8.out).mono ?_); rintro e w20 ⟨rfl, hb⟩; have n0_ := Aside0.mk (blk_below (g := gb420) (o := .cells #[.string a0_0, .string a0_1, .string a0_2, .string a0_3, .string a0_4, .string a0_5] 26 (0, 0)) (by (with_reducible repeat (first | refine blk_drewN ?_ _ | refine blk_drew ?_ | refine blk_alloc ?_ _)); exact BK420.out) hb); have n1_ := Aside0.mk (blk_below (g := gb421) (o := .cells #[.string a1_0, .string a1_1, .string a1_2, .string a1_3, .string a1_4, .string a1_5] 26 (0, 0)) (by (with_reducible repeat (first | refine blk_drewN ?_ _ | refine blk_drew ?_ | refine blk_alloc ?_ _)); exact BK421.out) hb); have n2_ := Aside0.mk (below_step (by repeat (first | (with_reducible first | exact HB.out | apply below_alloc | apply pw_below_drewN | apply below_drew1 | refine below_set ?_ GE420.out | refine below_set ?_ GE421.out) | exact HB.out)) hb); clear BK420; clear BK421; clear HB; have BK420 := n0_; have BK421 := n1_; have HB := n2_; clear n0_ n1_ n2_; (try clear hb); (try clear hb2); (try clear hk); (try clear hi)))
        go_meet
        case rel => exact ⟨_, (true), (by first | rfl | (simp; done) | (simp [*]; done)), H', ⟨by first | omega | exact Nat.le_refl _⟩, ⟨by (with_reducible repeat (first | refine blk_drewN ?_ _ | refine blk_drew ?_ | refine blk_alloc ?_ _)); exact BK420.out⟩, ⟨by (with_reducible repeat (first | refine blk_drewN ?_ _ | refine blk_drew ?_ | refine blk_alloc ?_ _)); exact BK421.out⟩, ⟨by repeat (first | (with_reducible first | exact HB.out | apply below_alloc | apply pw_below_drewN | apply below_drew1 | refine below_set ?_ GE420.out | refine below_set ?_ GE421.out) | exact HB.out)⟩⟩
    · replace c7 := Bool.eq_false_iff.mpr c7
      subst c7
      have H1 : (lunettelaw11_TupleOrder.j0 k true a0_0 a0_1 a0_2 a0_3 a0_4 a0_5 a1_0 a1_1 a1_2 a1_3 a1_4 a1_5) = some r := by rw [if_neg (show ¬ (false = true) by decide)] at H; exact H
      clear H
      have H := H1
      clear H1
      have H' := Aside0.mk H
      clear H
      go_wp2_with (first | ((with_reducible refine gate_callee (f := 11) rfl ?_); refine goesL_ (some 10) rfl rfl Tryd.func11 (by kernel_rfl) rfl #[] rfl (by (try simp only [List.map_toArray, List.map_cons, List.map_nil]); first | done | rfl | (simp only [List.length_drop, List.length_take]; rfl)) ?_; (with_reducible refine (lunettelaw11_awake.calls k  false _ A6.out).mono ?_); rintro e w21 ⟨rfl, hb⟩; refine ⟨_, rfl, ?_⟩; have n0_ := Aside0.mk (blk_below (g := gb420) (o := .cells #[.string a0_0, .string a0_1, .string a0_2, .string a0_3, .string a0_4, .string a0_5] 26 (0, 0)) (by (with_reducible repeat (first | refine blk_drewN ?_ _ | refine blk_drew ?_ | refine blk_alloc ?_ _)); exact BK420.out) hb); have n1_ := Aside0.mk (blk_below (g := gb421) (o := .cells #[.string a1_0, .string a1_1, .string a1_2, .string a1_3, .string a1_4, .string a1_5] 26 (0, 0)) (by (with_reducible repeat (first | refine blk_drewN ?_ _ | refine blk_drew ?_ | refine blk_alloc ?_ _)); exact BK421.out) hb); have n2_ := Aside0.mk (below_step (by repeat (first | (with_reducible first | exact HB.out | apply below_alloc | apply pw_below_drewN | apply below_drew1 | refine below_set ?_ GE420.out | refine below_set ?_ GE421.out) | exact HB.out)) hb); clear BK420; clear BK421; clear HB; have BK420 := n0_; have BK421 := n1_; have HB := n2_; clear n0_ n1_ n2_; (try clear hb); (try clear hb2); (try clear hk); (try clear hi)))
      go_meet
      case rel => exact ⟨_, (true), (by first | rfl | (simp; done) | (simp [*]; done)), H', ⟨by first | omega | exact Nat.le_refl _⟩, ⟨by (with_reducible repeat (first | refine blk_drewN ?_ _ | refine blk_drew ?_ | refine blk_alloc ?_ _)); exact BK420.out⟩, ⟨by (with_reducible repeat (first | refine blk_drewN ?_ _ | refine blk_drew ?_ | refine blk_alloc ?_ _)); exact BK421.out⟩, ⟨by repeat (first | (with_reducible first | exact HB.out | apply below_alloc | apply pw_below_drewN | apply below_drew1 | refine below_set ?_ GE420.out | refine below_set ?_ GE421.out) | exact HB.out)⟩⟩
  case rest =>
    clear HC3
    try clear c1
    try clear p2
    try clear c7
    try clear c9
    try clear c10
    try clear c11
    try clear c12
    try clear c18
    try clear hcz13_0
    try clear hcz13_1
    try clear hcz13_2
    try clear hcz13_3
    try clear hcz13_4
    try clear hcz13_5
    try clear hcz15_0
    try clear hcz15_1
    try clear hcz15_2
    try clear hcz15_3
    try clear hcz15_4
    try clear hcz15_5
    try clear hcz19_0
    try clear hcz19_1
    try clear hcz19_2
    try clear hcz19_3
    try clear hcz19_4
    try clear hcz19_5
    try clear hfz13_0
    try clear hfz13_1
    try clear hfz13_2
    try clear hfz13_3
    try clear hfz13_4
    try clear hfz13_5
    try clear hfz15_0
    try clear hfz15_1
    try clear hfz15_2
    try clear hfz15_3
    try clear hfz15_4
    try clear hfz15_5
    try clear hfz19_0
    try clear hfz19_1
    try clear hfz19_2
    try clear hfz19_3
    try clear hfz19_4
    try clear hfz19_5
    obtain ⟨kq, x21_2, rfl, HA, HJ2, BK420, BK421, HB⟩ := hcut
    cases kq with
    | zero => exact absurd HA.out (by simp [lunettelaw11_TupleOrder.j0])
    | succ kj2 =>
      have H := HA.out
      clear HA
      simp only [lunettelaw11_TupleOrder.j0] at H
      by_cases c22 : x21_2 = true
      · subst c22
        have H1 : ((lunettelaw11_awake.f kj2).bind fun t425 => (some t425)) = some r := by rw [if_pos rfl] at H; exact H
        clear H
        have H := H1
        clear H1
        replace H := Option.bind_eq_some_iff.mp H
        obtain ⟨t425, A230, H⟩ := H
        replace H : (some t425) = some r := H
        have A23 := Aside0.mk A230
        clear A230
        obtain rfl := Option.some.inj H
        go_wp2_with (first | ((with_reducible refine gate_callee (f := 11) rfl ?_); refine goesL_ (some 22) rfl rfl Tryd.func11 (by kernel_rfl) rfl #[] rfl (by (try simp only [List.map_toArray, List.map_cons, List.map_nil]); first | done | rfl | (simp only [List.length_drop, List.length_take]; rfl)) ?_; (with_reducible refine (lunettelaw11_awake.calls kj2  t425 _ A23.out).mono ?_); rintro e w24 ⟨rfl, hb⟩; refine ⟨_, rfl, ?_⟩; have n0_ := Aside0.mk (blk_below (g := gb420) (o := .cells #[.string a0_0, .string a0_1, .string a0_2, .string a0_3, .string a0_4, .string a0_5] 26 (0, 0)) (by (with_reducible repeat (first | refine blk_drewN ?_ _ | refine blk_drew ?_ | refine blk_alloc ?_ _)); exact BK420.out) hb); have n1_ := Aside0.mk (blk_below (g := gb421) (o := .cells #[.string a1_0, .string a1_1, .string a1_2, .string a1_3, .string a1_4, .string a1_5] 26 (0, 0)) (by (with_reducible repeat (first | refine blk_drewN ?_ _ | refine blk_drew ?_ | refine blk_alloc ?_ _)); exact BK421.out) hb); have n2_ := Aside0.mk (below_step (by repeat (first | (with_reducible first | exact HB.out | apply below_alloc | apply pw_below_drewN | apply below_drew1 | refine below_set ?_ GE420.out | refine below_set ?_ GE421.out) | exact HB.out)) hb); clear BK420; clear BK421; clear HB; have BK420 := n0_; have BK421 := n1_; have HB := n2_; clear n0_ n1_ n2_; (try clear hb); (try clear hb2); (try clear hk); (try clear hi)))
        go_ret
        exact ⟨by first | rfl | (simp [errW_none, errW_some] <;> rfl) | (simp [*, errW_none, errW_some] <;> rfl), by repeat (first | (with_reducible first | exact HB.out | apply below_alloc | apply pw_below_drewN | apply below_drew1 | refine below_set ?_ GE420.out | refine below_set ?_ GE421.out) | exact HB.out)⟩
      · replace c22 := Bool.eq_false_iff.mpr c22
        subst c22
        have H1 : ((tuple_Less.f kj2 a0_0 a0_1 a0_2 a0_3 a0_4 a0_5 a1_0 a1_1 a1_2 a1_3 a1_4 a1_5).bind fun t426 => ((lunetteref11_Less.f kj2 a0_0 a0_1 a0_2 a0_3 a0_4 a0_5 a1_0 a1_1 a1_2 a1_3 a1_4 a1_5).bind fun t427 => (if (t426 != t427) = true then (some false) else ((tuple_Key.f a0_0 a0_1 a0_2 a0_3 a0_4 a0_5).bind fun bt428 => ((tuple_Key.f a1_0 a1_1 a1_2 a1_3 a1_4 a1_5).bind fun bt430 => (if bt428.2 = 0 then (if bt430.2 = 0 then ((lunetteref01_Below.f kj2 bt428.1 bt430.1).bind fun t432 => (some (t426 == t432))) else (some true)) else (some true))))))) = some r := by rw [if_neg (show ¬ (false = true) by decide)] at H; exact H
        clear H
        have H := H1
        clear H1
        replace H := Option.bind_eq_some_iff.mp H
        obtain ⟨t426, A250, H⟩ := H
        replace H : ((lunetteref11_Less.f kj2 a0_0 a0_1 a0_2 a0_3 a0_4 a0_5 a1_0 a1_1 a1_2 a1_3 a1_4 a1_5).bind fun t427 => (if (t426 != t427) = true then (some false) else ((tuple_Key.f a0_0 a0_1 a0_2 a0_3 a0_4 a0_5).bind fun bt428 => ((tuple_Key.f a1_0 a1_1 a1_2 a1_3 a1_4 a1_5).bind fun bt430 => (if bt428.2 = 0 then (if bt430.2 = 0 then ((lunetteref01_Below.f kj2 bt428.1 bt430.1).bind fun t432 => (some (t426 == t432))) else (some true)) else (some true)))))) = some r := H
        have A25 := Aside0.mk A250
        clear A250
        replace H := Option.bind_eq_some_iff.mp H
        obtain ⟨t427, A260, H⟩ := H
        replace H : (if (t426 != t427) = true then (some false) else ((tuple_Key.f a0_0 a0_1 a0_2 a0_3 a0_4 a0_5).bind fun bt428 => ((tuple_Key.f a1_0 a1_1 a1_2 a1_3 a1_4 a1_5).bind fun bt430 => (if bt428.2 = 0 then (if bt430.2 = 0 then ((lunetteref01_Below.f kj2 bt428.1 bt430.1).bind fun t432 => (some (t426 == t432))) else (some true)) else (some true))))) = some r := H
        have A26 := Aside0.mk A260
        clear A260
        by_cases c27 : (t426 != t427) = true
        · rw [if_pos c27] at H
          have c27b0 : (t426 != t427) = true := c27
          (try (have c27b1 : decide (t426 = t427) = false := by simpa using c27))
          (try (have c27b2 : (t426 == t427) = false := by simpa using c27))
          (try (have c27b3 : ¬ (t426 = t427) := by simpa using c27))
          clear c27
          exact absurd ((Option.some.inj H).trans HTRUE.out) (by decide)
        · rw [if_neg c27] at H
          have c27b0 : (t426 != t427) = false := by simpa using c27
          (try (have c27b1 : decide (t426 = t427) = true := by simpa using c27))
          (try (have c27b2 : (t426 == t427) = true := by simpa using c27))
          clear c27
          replace H := Option.bind_eq_some_iff.mp H
          obtain ⟨⟨t428, t429⟩, A280, H⟩ := H
          replace H : ((tuple_Key.f a1_0 a1_1 a1_2 a1_3 a1_4 a1_5).bind fun bt430 => (if t429 = 0 then (if bt430.2 = 0 then ((lunetteref01_Below.f kj2 t428 bt430.1).bind fun t432 => (some (t426 == t432))) else (some true)) else (some true))) = some r := H
          have A28 := Aside0.mk A280
          clear A280
          replace H := Option.bind_eq_some_iff.mp H
          obtain ⟨⟨t430, t431⟩, A290, H⟩ := H
          replace H : (if t429 = 0 then (if t431 = 0 then ((lunetteref01_Below.f kj2 t428 t430).bind fun t432 => (some (t426 == t432))) else (some true)) else (some true)) = some r := H
          have A29 := Aside0.mk A290
          clear A290
          by_cases c30 : t429 = 0
          · rw [if_pos c30] at H
            have c30b0 : (t429 == 0) = true := beq_iff_eq.mpr c30
            have c30b1 : (t429 != 0) = false := bne_eq_false_iff_eq.mpr c30
            clear c30
            by_cases c31 : t431 = 0
            · rw [if_pos c31] at H
              have c31b0 : (t431 == 0) = true := beq_iff_eq.mpr c31
              have c31b1 : (t431 != 0) = false := bne_eq_false_iff_eq.mpr c31
              clear c31
              replace H := Option.bind_eq_some_iff.mp H
              obtain ⟨t432, A320, H⟩ := H
              replace H : (some (t426 == t432)) = some r := H
              have A32 := Aside0.mk A320
              clear A320
              obtain rfl := Option.some.inj H
              have hnb33 := NB420_421.out
              have hnc33 := NB421_420.out
              have hcz34_0 : wc.cell? ⟨gb420, 0, none⟩ = some (.string a0_0) := (blk_cell BK420.out 0).trans rfl
              have hcz34_1 : wc.cell? ⟨gb420, 1, none⟩ = some (.string a0_1) := (blk_cell BK420.out 1).trans rfl
              have hcz34_2 : wc.cell? ⟨gb420, 2, none⟩ = some (.string a0_2) := (blk_cell BK420.out 2).trans rfl
              have hcz34_3 : wc.cell? ⟨gb420, 3, none⟩ = some (.string a0_3) := (blk_cell BK420.out 3).trans rfl
              have hcz34_4 : wc.cell? ⟨gb420, 4, none⟩ = some (.string a0_4) := (blk_cell BK420.out 4).trans rfl
              have hcz34_5 : wc.cell? ⟨gb420, 5, none⟩ = some (.string a0_5) := (blk_cell BK420.out 5).trans rfl
              have hfz34_0 := blk_frozen BK420.out 0
              have hfz34_1 := blk_frozen BK420.out 1
              have hfz34_2 := blk_frozen BK420.out 2
              have hfz34_3 := blk_frozen BK420.out 3
              have hfz34_4 := blk_frozen BK420.out 4
              have hfz34_5 := blk_frozen BK420.out 5
              have hcz35_0 : wc.cell? ⟨gb421, 0, none⟩ = some (.string a1_0) := (blk_cell BK421.out 0).trans rfl
              have hcz35_1 : wc.cell? ⟨gb421, 1, none⟩ = some (.string a1_1) := (blk_cell BK421.out 1).trans rfl
              have hcz35_2 : wc.cell? ⟨gb421, 2, none⟩ = some (.string a1_2) := (blk_cell BK421.out 2).trans rfl
              have hcz35_3 : wc.cell? ⟨gb421, 3, none⟩ = some (.string a1_3) := (blk_cell BK421.out 3).trans rfl
              have hcz35_4 : wc.cell? ⟨gb421, 4, none⟩ = some (.string a1_4) := (blk_cell BK421.out 4).trans rfl
              have hcz35_5 : wc.cell? ⟨gb421, 5, none⟩ = some (.string a1_5) := (blk_cell BK421.out 5).trans rfl
              have hfz35_0 := blk_frozen BK421.out 0
              have hfz35_1 := blk_frozen BK421.out 1
              have hfz35_2 := blk_frozen BK421.out 2
              have hfz35_3 := blk_frozen BK421.out 3
              have hfz35_4 := blk_frozen BK421.out 4
              have hfz35_5 := blk_frozen BK421.out 5
              go_wp2_with (first | ((with_reducible refine gate_callee (f := 33) rfl ?_); refine goesL_ (some 25) rfl rfl Tryd.func33 (by kernel_rfl) rfl #[.agg #[.string a0_0, .string a0_1, .string a0_2, .string a0_3, .string a0_4, .string a0_5], .agg #[.string a1_0, .string a1_1, .string a1_2, .string a1_3, .string a1_4, .string a1_5]] rfl (by (try simp only [List.map_toArray, List.map_cons, List.map_nil]); first | done | rfl | (simp only [List.length_drop, List.length_take]; rfl)) ?_; (with_reducible refine (tuple_Less.calls kj2 a0_0 a0_1 a0_2 a0_3 a0_4 a0_5 a1_0 a1_1 a1_2 a1_3 a1_4 a1_5 t426 _ A25.out).mono ?_); rintro e w36 ⟨rfl, hb⟩; refine ⟨_, rfl, ?_⟩; have n0_ := Aside0.mk (blk_below (g := gb420) (o := .cells #[.string a0_0, .string a0_1, .string a0_2, .string a0_3, .string a0_4, .string a0_5] 26 (0, 0)) (by (with_reducible repeat (first | refine blk_drewN ?_ _ | refine blk_drew ?_ | refine blk_alloc ?_ _)); exact BK420.out) hb); have n1_ := Aside0.mk (blk_below (g := gb421) (o := .cells #[.string a1_0, .string a1_1, .string a1_2, .string a1_3, .string a1_4, .string a1_5] 26 (0, 0)) (by (with_reducible repeat (first | refine blk_drewN ?_ _ | refine blk_drew ?_ | refine blk_alloc ?_ _)); exact BK421.out) hb); have n2_ := Aside0.mk (below_step (by repeat (first | (with_reducible first | exact HB.out | apply below_alloc | apply pw_below_drewN | apply below_drew1 | refine below_set ?_ GE420.out | refine below_set ?_ GE421.out) | exact HB.out)) hb); clear BK420; clear BK421; clear HB; have BK420 := n0_; have BK421 := n1_; have HB := n2_; clear n0_ n1_ n2_; (try clear hb); (try clear hb2); (try clear hk); (try clear hi); have hcz37_0 : w36.cell? ⟨gb420, 0, none⟩ = some (.string a0_0) := (blk_cell BK420.out 0).trans rfl; have hcz37_1 : w36.cell? ⟨gb420, 1, none⟩ = some (.string a0_1) := (blk_cell BK420.out 1).trans rfl; have hcz37_2 : w36.cell? ⟨gb420, 2, none⟩ = some (.string a0_2) := (blk_cell BK420.out 2).trans rfl; have hcz37_3 : w36.cell? ⟨gb420, 3, none⟩ = some (.string a0_3) := (blk_cell BK420.out 3).trans rfl; have hcz37_4 : w36.cell? ⟨gb420, 4, none⟩ = some (.string a0_4) := (blk_cell BK420.out 4).trans rfl; have hcz37_5 : w36.cell? ⟨gb420, 5, none⟩ = some (.string a0_5) := (blk_cell BK420.out 5).trans rfl; have hfz37_0 := blk_frozen BK420.out 0; have hfz37_1 := blk_frozen BK420.out 1; have hfz37_2 := blk_frozen BK420.out 2; have hfz37_3 := blk_frozen BK420.out 3; have hfz37_4 := blk_frozen BK420.out 4; have hfz37_5 := blk_frozen BK420.out 5; have hcz38_0 : w36.cell? ⟨gb421, 0, none⟩ = some (.string a1_0) := (blk_cell BK421.out 0).trans rfl; have hcz38_1 : w36.cell? ⟨gb421, 1, none⟩ = some (.string a1_1) := (blk_cell BK421.out 1).trans rfl; have hcz38_2 : w36.cell? ⟨gb421, 2, none⟩ = some (.string a1_2) := (blk_cell BK421.out 2).trans rfl; have hcz38_3 : w36.cell? ⟨gb421, 3, none⟩ = some (.string a1_3) := (blk_cell BK421.out 3).trans rfl; have hcz38_4 : w36.cell? ⟨gb421, 4, none⟩ = some (.string a1_4) := (blk_cell BK421.out 4).trans rfl; have hcz38_5 : w36.cell? ⟨gb421, 5, none⟩ = some (.string a1_5) := (blk_cell BK421.out 5).trans rfl; have hfz38_0 := blk_frozen BK421.out 0; have hfz38_1 := blk_frozen BK421.out 1; have hfz38_2 := blk_frozen BK421.out 2; have hfz38_3 := blk_frozen BK421.out 3; have hfz38_4 := blk_frozen BK421.out 4; have hfz38_5 := blk_frozen BK421.out 5) | ((with_reducible refine gate_callee (f := 34) rfl ?_); refine goesL_ (some 29) rfl rfl Tryd.func34 (by kernel_rfl) rfl #[.agg #[.string a0_0, .string a0_1, .string a0_2, .string a0_3, .string a0_4, .string a0_5], .agg #[.string a1_0, .string a1_1, .string a1_2, .string a1_3, .string a1_4, .string a1_5]] rfl (by (try simp only [List.map_toArray, List.map_cons, List.map_nil]); first | done | rfl | (simp only [List.length_drop, List.length_take]; rfl)) ?_; (with_reducible refine (lunetteref11_Less.calls kj2 a0_0 a0_1 a0_2 a0_3 a0_4 a0_5 a1_0 a1_1 a1_2 a1_3 a1_4 a1_5 t427 _ A26.out).mono ?_); rintro e w39 ⟨rfl, hb⟩; refine ⟨_, rfl, ?_⟩; have n0_ := Aside0.mk (blk_below (g := gb420) (o := .cells #[.string a0_0, .string a0_1, .string a0_2, .string a0_3, .string a0_4, .string a0_5] 26 (0, 0)) (by (with_reducible repeat (first | refine blk_drewN ?_ _ | refine blk_drew ?_ | refine blk_alloc ?_ _)); exact BK420.out) hb); have n1_ := Aside0.mk (blk_below (g := gb421) (o := .cells #[.string a1_0, .string a1_1, .string a1_2, .string a1_3, .string a1_4, .string a1_5] 26 (0, 0)) (by (with_reducible repeat (first | refine blk_drewN ?_ _ | refine blk_drew ?_ | refine blk_alloc ?_ _)); exact BK421.out) hb); have n2_ := Aside0.mk (below_step (by repeat (first | (with_reducible first | exact HB.out | apply below_alloc | apply pw_below_drewN | apply below_drew1 | refine below_set ?_ GE420.out | refine below_set ?_ GE421.out) | exact HB.out)) hb); clear BK420; clear BK421; clear HB; have BK420 := n0_; have BK421 := n1_; have HB := n2_; clear n0_ n1_ n2_; (try clear hb); (try clear hb2); (try clear hk); (try clear hi); have hcz40_0 : w39.cell? ⟨gb420, 0, none⟩ = some (.string a0_0) := (blk_cell BK420.out 0).trans rfl; have hcz40_1 : w39.cell? ⟨gb420, 1, none⟩ = some (.string a0_1) := (blk_cell BK420.out 1).trans rfl; have hcz40_2 : w39.cell? ⟨gb420, 2, none⟩ = some (.string a0_2) := (blk_cell BK420.out 2).trans rfl; have hcz40_3 : w39.cell? ⟨gb420, 3, none⟩ = some (.string a0_3) := (blk_cell BK420.out 3).trans rfl; have hcz40_4 : w39.cell? ⟨gb420, 4, none⟩ = some (.string a0_4) := (blk_cell BK420.out 4).trans rfl; have hcz40_5 : w39.cell? ⟨gb420, 5, none⟩ = some (.string a0_5) := (blk_cell BK420.out 5).trans rfl; have hfz40_0 := blk_frozen BK420.out 0; have hfz40_1 := blk_frozen BK420.out 1; have hfz40_2 := blk_frozen BK420.out 2; have hfz40_3 := blk_frozen BK420.out 3; have hfz40_4 := blk_frozen BK420.out 4; have hfz40_5 := blk_frozen BK420.out 5) | ((with_reducible refine gate_callee (f := 18) rfl ?_); refine goesL_ (some 33) rfl rfl Tryd.func18 (by kernel_rfl) rfl #[.agg #[.string a0_0, .string a0_1, .string a0_2, .string a0_3, .string a0_4, .string a0_5]] rfl (by (try simp only [List.map_toArray, List.map_cons, List.map_nil]); first | done | rfl | (simp only [List.length_drop, List.length_take]; rfl)) ?_; (with_reducible refine (tuple_Key.calls a0_0 a0_1 a0_2 a0_3 a0_4 a0_5 t428 t429 _ A28.out).mono ?_); rintro e w41 ⟨rfl, hb⟩; refine ⟨_, rfl, ?_⟩; have n0_ := Aside0.mk (blk_below (g := gb420) (o := .cells #[.string a0_0, .string a0_1, .string a0_2, .string a0_3, .string a0_4, .string a0_5] 26 (0, 0)) (by (with_reducible repeat (first | refine blk_drewN ?_ _ | refine blk_drew ?_ | refine blk_alloc ?_ _)); exact BK420.out) hb); have n1_ := Aside0.mk (blk_below (g := gb421) (o := .cells #[.string a1_0, .string a1_1, .string a1_2, .string a1_3, .string a1_4, .string a1_5] 26 (0, 0)) (by (with_reducible repeat (first | refine blk_drewN ?_ _ | refine blk_drew ?_ | refine blk_alloc ?_ _)); exact BK421.out) hb); have n2_ := Aside0.mk (below_step (by repeat (first | (with_reducible first | exact HB.out | apply below_alloc | apply pw_below_drewN | apply below_drew1 | refine below_set ?_ GE420.out | refine below_set ?_ GE421.out) | exact HB.out)) hb); clear BK420; clear BK421; clear HB; have BK420 := n0_; have BK421 := n1_; have HB := n2_; clear n0_ n1_ n2_; (try clear hb); (try clear hb2); (try clear hk); (try clear hi); have hcz42_0 : w41.cell? ⟨gb421, 0, none⟩ = some (.string a1_0) := (blk_cell BK421.out 0).trans rfl; have hcz42_1 : w41.cell? ⟨gb421, 1, none⟩ = some (.string a1_1) := (blk_cell BK421.out 1).trans rfl; have hcz42_2 : w41.cell? ⟨gb421, 2, none⟩ = some (.string a1_2) := (blk_cell BK421.out 2).trans rfl; have hcz42_3 : w41.cell? ⟨gb421, 3, none⟩ = some (.string a1_3) := (blk_cell BK421.out 3).trans rfl; have hcz42_4 : w41.cell? ⟨gb421, 4, none⟩ = some (.string a1_4) := (blk_cell BK421.out 4).trans rfl; have hcz42_5 : w41.cell? ⟨gb421, 5, none⟩ = some (.string a1_5) := (blk_cell BK421.out 5).trans rfl; have hfz42_0 := blk_frozen BK421.out 0; have hfz42_1 := blk_frozen BK421.out 1; have hfz42_2 := blk_frozen BK421.out 2; have hfz42_3 := blk_frozen BK421.out 3; have hfz42_4 := blk_frozen BK421.out 4; have hfz42_5 := blk_frozen BK421.out 5) | ((with_reducible refine gate_callee (f := 18) rfl ?_); refine goesL_ (some 38) rfl rfl Tryd.func18 (by kernel_rfl) rfl #[.agg #[.string a1_0, .string a1_1, .string a1_2, .string a1_3, .string a1_4, .string a1_5]] rfl (by (try simp only [List.map_toArray, List.map_cons, List.map_nil]); first | done | rfl | (simp only [List.length_drop, List.length_take]; rfl)) ?_; (with_reducible refine (tuple_Key.calls a1_0 a1_1 a1_2 a1_3 a1_4 a1_5 t430 t431 _ A29.out).mono ?_); rintro e w43 ⟨rfl, hb⟩; refine ⟨_, rfl, ?_⟩; have n0_ := Aside0.mk (blk_below (g := gb420) (o := .cells #[.string a0_0, .string a0_1, .string a0_2, .string a0_3, .string a0_4, .string a0_5] 26 (0, 0)) (by (with_reducible repeat (first | refine blk_drewN ?_ _ | refine blk_drew ?_ | refine blk_alloc ?_ _)); exact BK420.out) hb); have n1_ := Aside0.mk (blk_below (g := gb421) (o := .cells #[.string a1_0, .string a1_1, .string a1_2, .string a1_3, .string a1_4, .string a1_5] 26 (0, 0)) (by (with_reducible repeat (first | refine blk_drewN ?_ _ | refine blk_drew ?_ | refine blk_alloc ?_ _)); exact BK421.out) hb); have n2_ := Aside0.mk (below_step (by repeat (first | (with_reducible first | exact HB.out | apply below_alloc | apply pw_below_drewN | apply below_drew1 | refine below_set ?_ GE420.out | refine below_set ?_ GE421.out) | exact HB.out)) hb); clear BK420; clear BK421; clear HB; have BK420 := n0_; have BK421 := n1_; have HB := n2_; clear n0_ n1_ n2_; (try clear hb); (try clear hb2); (try clear hk); (try clear hi)) | (go_at_call 20; (with_reducible refine (lunetteref01_Below.calls kj2 t428 t430 t432 _ A32.out).mono ?_); rintro e w' ⟨rfl, ⟨nd, rfl⟩⟩))
              go_ret
              exact ⟨by first | rfl | (simp [errW_none, errW_some] <;> rfl) | (simp [*, errW_none, errW_some] <;> rfl), by repeat (first | (with_reducible first | exact HB.out | apply below_alloc | apply pw_below_drewN | apply below_drew1 | refine below_set ?_ GE420.out | refine below_set ?_ GE421.out) | exact HB.out)⟩
            · rw [if_neg c31] at H
              have c31b0 : (t431 == 0) = false := beq_eq_false_iff_ne.mpr c31
              have c31b1 : (t431 != 0) = true := bne_iff_ne.mpr c31
              obtain rfl := Option.some.inj H
              have hnb44 := NB420_421.out
              have hnc44 := NB421_420.out
              have hcz45_0 : wc.cell? ⟨gb420, 0, none⟩ = some (.string a0_0) := (blk_cell BK420.out 0).trans rfl
              have hcz45_1 : wc.cell? ⟨gb420, 1, none⟩ = some (.string a0_1) := (blk_cell BK420.out 1).trans rfl
              have hcz45_2 : wc.cell? ⟨gb420, 2, none⟩ = some (.string a0_2) := (blk_cell BK420.out 2).trans rfl
              have hcz45_3 : wc.cell? ⟨gb420, 3, none⟩ = some (.string a0_3) := (blk_cell BK420.out 3).trans rfl
              have hcz45_4 : wc.cell? ⟨gb420, 4, none⟩ = some (.string a0_4) := (blk_cell BK420.out 4).trans rfl
              have hcz45_5 : wc.cell? ⟨gb420, 5, none⟩ = some (.string a0_5) := (blk_cell BK420.out 5).trans rfl
              have hfz45_0 := blk_frozen BK420.out 0
              have hfz45_1 := blk_frozen BK420.out 1
              have hfz45_2 := blk_frozen BK420.out 2
              have hfz45_3 := blk_frozen BK420.out 3
              have hfz45_4 := blk_frozen BK420.out 4
              have hfz45_5 := blk_frozen BK420.out 5
              have hcz46_0 : wc.cell? ⟨gb421, 0, none⟩ = some (.string a1_0) := (blk_cell BK421.out 0).trans rfl
              have hcz46_1 : wc.cell? ⟨gb421, 1, none⟩ = some (.string a1_1) := (blk_cell BK421.out 1).trans rfl
              have hcz46_2 : wc.cell? ⟨gb421, 2, none⟩ = some (.string a1_2) := (blk_cell BK421.out 2).trans rfl
              have hcz46_3 : wc.cell? ⟨gb421, 3, none⟩ = some (.string a1_3) := (blk_cell BK421.out 3).trans rfl
              have hcz46_4 : wc.cell? ⟨gb421, 4, none⟩ = some (.string a1_4) := (blk_cell BK421.out 4).trans rfl
              have hcz46_5 : wc.cell? ⟨gb421, 5, none⟩ = some (.string a1_5) := (blk_cell BK421.out 5).trans rfl
              have hfz46_0 := blk_frozen BK421.out 0
              have hfz46_1 := blk_frozen BK421.out 1
              have hfz46_2 := blk_frozen BK421.out 2
              have hfz46_3 := blk_frozen BK421.out 3
              have hfz46_4 := blk_frozen BK421.out 4
              have hfz46_5 := blk_frozen BK421.out 5
              go_wp2_with (first | ((with_reducible refine gate_callee (f := 33) rfl ?_); refine goesL_ (some 25) rfl rfl Tryd.func33 (by kernel_rfl) rfl #[.agg #[.string a0_0, .string a0_1, .string a0_2, .string a0_3, .string a0_4, .string a0_5], .agg #[.string a1_0, .string a1_1, .string a1_2, .string a1_3, .string a1_4, .string a1_5]] rfl (by (try simp only [List.map_toArray, List.map_cons, List.map_nil]); first | done | rfl | (simp only [List.length_drop, List.length_take]; rfl)) ?_; (with_reducible refine (tuple_Less.calls kj2 a0_0 a0_1 a0_2 a0_3 a0_4 a0_5 a1_0 a1_1 a1_2 a1_3 a1_4 a1_5 t426 _ A25.out).mono ?_); rintro e w47 ⟨rfl, hb⟩; refine ⟨_, rfl, ?_⟩; have n0_ := Aside0.mk (blk_below (g := gb420) (o := .cells #[.string a0_0, .string a0_1, .string a0_2, .string a0_3, .string a0_4, .string a0_5] 26 (0, 0)) (by (with_reducible repeat (first | refine blk_drewN ?_ _ | refine blk_drew ?_ | refine blk_alloc ?_ _)); exact BK420.out) hb); have n1_ := Aside0.mk (blk_below (g := gb421) (o := .cells #[.string a1_0, .string a1_1, .string a1_2, .string a1_3, .string a1_4, .string a1_5] 26 (0, 0)) (by (with_reducible repeat (first | refine blk_drewN ?_ _ | refine blk_drew ?_ | refine blk_alloc ?_ _)); exact BK421.out) hb); have n2_ := Aside0.mk (below_step (by repeat (first | (with_reducible first | exact HB.out | apply below_alloc | apply pw_below_drewN | apply below_drew1 | refine below_set ?_ GE420.out | refine below_set ?_ GE421.out) | exact HB.out)) hb); clear BK420; clear BK421; clear HB; have BK420 := n0_; have BK421 := n1_; have HB := n2_; clear n0_ n1_ n2_; (try clear hb); (try clear hb2); (try clear hk); (try clear hi); have hcz48_0 : w47.cell? ⟨gb420, 0, none⟩ = some (.string a0_0) := (blk_cell BK420.out 0).trans rfl; have hcz48_1 : w47.cell? ⟨gb420, 1, none⟩ = some (.string a0_1) := (blk_cell BK420.out 1).trans rfl; have hcz48_2 : w47.cell? ⟨gb420, 2, none⟩ = some (.string a0_2) := (blk_cell BK420.out 2).trans rfl; have hcz48_3 : w47.cell? ⟨gb420, 3, none⟩ = some (.string a0_3) := (blk_cell BK420.out 3).trans rfl; have hcz48_4 : w47.cell? ⟨gb420, 4, none⟩ = some (.string a0_4) := (blk_cell BK420.out 4).trans rfl; have hcz48_5 : w47.cell? ⟨gb420, 5, none⟩ = some (.string a0_5) := (blk_cell BK420.out 5).trans rfl; have hfz48_0 := blk_frozen BK420.out 0; have hfz48_1 := blk_frozen BK420.out 1; have hfz48_2 := blk_frozen BK420.out 2; have hfz48_3 := blk_frozen BK420.out 3; have hfz48_4 := blk_frozen BK420.out 4; have hfz48_5 := blk_frozen BK420.out 5; have hcz49_0 : w47.cell? ⟨gb421, 0, none⟩ = some (.string a1_0) := (blk_cell BK421.out 0).trans rfl; have hcz49_1 : w47.cell? ⟨gb421, 1, none⟩ = some (.string a1_1) := (blk_cell BK421.out 1).trans rfl; have hcz49_2 : w47.cell? ⟨gb421, 2, none⟩ = some (.string a1_2) := (blk_cell BK421.out 2).trans rfl; have hcz49_3 : w47.cell? ⟨gb421, 3, none⟩ = some (.string a1_3) := (blk_cell BK421.out 3).trans rfl; have hcz49_4 : w47.cell? ⟨gb421, 4, none⟩ = some (.string a1_4) := (blk_cell BK421.out 4).trans rfl; have hcz49_5 : w47.cell? ⟨gb421, 5, none⟩ = some (.string a1_5) := (blk_cell BK421.out 5).trans rfl; have hfz49_0 := blk_frozen BK421.out 0; have hfz49_1 := blk_frozen BK421.out 1; have hfz49_2 := blk_frozen BK421.out 2; have hfz49_3 := blk_frozen BK421.out 3; have hfz49_4 := blk_frozen BK421.out 4; have hfz49_5 := blk_frozen BK421.out 5) | ((with_reducible refine gate_callee (f := 34) rfl ?_); refine goesL_ (some 29) rfl rfl Tryd.func34 (by kernel_rfl) rfl #[.agg #[.string a0_0, .string a0_1, .string a0_2, .string a0_3, .string a0_4, .string a0_5], .agg #[.string a1_0, .string a1_1, .string a1_2, .string a1_3, .string a1_4, .string a1_5]] rfl (by (try simp only [List.map_toArray, List.map_cons, List.map_nil]); first | done | rfl | (simp only [List.length_drop, List.length_take]; rfl)) ?_; (with_reducible refine (lunetteref11_Less.calls kj2 a0_0 a0_1 a0_2 a0_3 a0_4 a0_5 a1_0 a1_1 a1_2 a1_3 a1_4 a1_5 t427 _ A26.out).mono ?_); rintro e w50 ⟨rfl, hb⟩; refine ⟨_, rfl, ?_⟩; have n0_ := Aside0.mk (blk_below (g := gb420) (o := .cells #[.string a0_0, .string a0_1, .string a0_2, .string a0_3, .string a0_4, .string a0_5] 26 (0, 0)) (by (with_reducible repeat (first | refine blk_drewN ?_ _ | refine blk_drew ?_ | refine blk_alloc ?_ _)); exact BK420.out) hb); have n1_ := Aside0.mk (blk_below (g := gb421) (o := .cells #[.string a1_0, .string a1_1, .string a1_2, .string a1_3, .string a1_4, .string a1_5] 26 (0, 0)) (by (with_reducible repeat (first | refine blk_drewN ?_ _ | refine blk_drew ?_ | refine blk_alloc ?_ _)); exact BK421.out) hb); have n2_ := Aside0.mk (below_step (by repeat (first | (with_reducible first | exact HB.out | apply below_alloc | apply pw_below_drewN | apply below_drew1 | refine below_set ?_ GE420.out | refine below_set ?_ GE421.out) | exact HB.out)) hb); clear BK420; clear BK421; clear HB; have BK420 := n0_; have BK421 := n1_; have HB := n2_; clear n0_ n1_ n2_; (try clear hb); (try clear hb2); (try clear hk); (try clear hi); have hcz51_0 : w50.cell? ⟨gb420, 0, none⟩ = some (.string a0_0) := (blk_cell BK420.out 0).trans rfl; have hcz51_1 : w50.cell? ⟨gb420, 1, none⟩ = some (.string a0_1) := (blk_cell BK420.out 1).trans rfl; have hcz51_2 : w50.cell? ⟨gb420, 2, none⟩ = some (.string a0_2) := (blk_cell BK420.out 2).trans rfl; have hcz51_3 : w50.cell? ⟨gb420, 3, none⟩ = some (.string a0_3) := (blk_cell BK420.out 3).trans rfl; have hcz51_4 : w50.cell? ⟨gb420, 4, none⟩ = some (.string a0_4) := (blk_cell BK420.out 4).trans rfl; have hcz51_5 : w50.cell? ⟨gb420, 5, none⟩ = some (.string a0_5) := (blk_cell BK420.out 5).trans rfl; have hfz51_0 := blk_frozen BK420.out 0; have hfz51_1 := blk_frozen BK420.out 1; have hfz51_2 := blk_frozen BK420.out 2; have hfz51_3 := blk_frozen BK420.out 3; have hfz51_4 := blk_frozen BK420.out 4; have hfz51_5 := blk_frozen BK420.out 5) | ((with_reducible refine gate_callee (f := 18) rfl ?_); refine goesL_ (some 33) rfl rfl Tryd.func18 (by kernel_rfl) rfl #[.agg #[.string a0_0, .string a0_1, .string a0_2, .string a0_3, .string a0_4, .string a0_5]] rfl (by (try simp only [List.map_toArray, List.map_cons, List.map_nil]); first | done | rfl | (simp only [List.length_drop, List.length_take]; rfl)) ?_; (with_reducible refine (tuple_Key.calls a0_0 a0_1 a0_2 a0_3 a0_4 a0_5 t428 t429 _ A28.out).mono ?_); rintro e w52 ⟨rfl, hb⟩; refine ⟨_, rfl, ?_⟩; have n0_ := Aside0.mk (blk_below (g := gb420) (o := .cells #[.string a0_0, .string a0_1, .string a0_2, .string a0_3, .string a0_4, .string a0_5] 26 (0, 0)) (by (with_reducible repeat (first | refine blk_drewN ?_ _ | refine blk_drew ?_ | refine blk_alloc ?_ _)); exact BK420.out) hb); have n1_ := Aside0.mk (blk_below (g := gb421) (o := .cells #[.string a1_0, .string a1_1, .string a1_2, .string a1_3, .string a1_4, .string a1_5] 26 (0, 0)) (by (with_reducible repeat (first | refine blk_drewN ?_ _ | refine blk_drew ?_ | refine blk_alloc ?_ _)); exact BK421.out) hb); have n2_ := Aside0.mk (below_step (by repeat (first | (with_reducible first | exact HB.out | apply below_alloc | apply pw_below_drewN | apply below_drew1 | refine below_set ?_ GE420.out | refine below_set ?_ GE421.out) | exact HB.out)) hb); clear BK420; clear BK421; clear HB; have BK420 := n0_; have BK421 := n1_; have HB := n2_; clear n0_ n1_ n2_; (try clear hb); (try clear hb2); (try clear hk); (try clear hi); have hcz53_0 : w52.cell? ⟨gb421, 0, none⟩ = some (.string a1_0) := (blk_cell BK421.out 0).trans rfl; have hcz53_1 : w52.cell? ⟨gb421, 1, none⟩ = some (.string a1_1) := (blk_cell BK421.out 1).trans rfl; have hcz53_2 : w52.cell? ⟨gb421, 2, none⟩ = some (.string a1_2) := (blk_cell BK421.out 2).trans rfl; have hcz53_3 : w52.cell? ⟨gb421, 3, none⟩ = some (.string a1_3) := (blk_cell BK421.out 3).trans rfl; have hcz53_4 : w52.cell? ⟨gb421, 4, none⟩ = some (.string a1_4) := (blk_cell BK421.out 4).trans rfl; have hcz53_5 : w52.cell? ⟨gb421, 5, none⟩ = some (.string a1_5) := (blk_cell BK421.out 5).trans rfl; have hfz53_0 := blk_frozen BK421.out 0; have hfz53_1 := blk_frozen BK421.out 1; have hfz53_2 := blk_frozen BK421.out 2; have hfz53_3 := blk_frozen BK421.out 3; have hfz53_4 := blk_frozen BK421.out 4; have hfz53_5 := blk_frozen BK421.out 5) | ((with_reducible refine gate_callee (f := 18) rfl ?_); refine goesL_ (some 38) rfl rfl Tryd.func18 (by kernel_rfl) rfl #[.agg #[.string a1_0, .string a1_1, .string a1_2, .string a1_3, .string a1_4, .string a1_5]] rfl (by (try simp only [List.map_toArray, List.map_cons, List.map_nil]); first | done | rfl | (simp only [List.length_drop, List.length_take]; rfl)) ?_; (with_reducible refine (tuple_Key.calls a1_0 a1_1 a1_2 a1_3 a1_4 a1_5 t430 t431 _ A29.out).mono ?_); rintro e w54 ⟨rfl, hb⟩; refine ⟨_, rfl, ?_⟩; have n0_ := Aside0.mk (blk_below (g := gb420) (o := .cells #[.string a0_0, .string a0_1, .string a0_2, .string a0_3, .string a0_4, .string a0_5] 26 (0, 0)) (by (with_reducible repeat (first | refine blk_drewN ?_ _ | refine blk_drew ?_ | refine blk_alloc ?_ _)); exact BK420.out) hb); have n1_ := Aside0.mk (blk_below (g := gb421) (o := .cells #[.string a1_0, .string a1_1, .string a1_2, .string a1_3, .string a1_4, .string a1_5] 26 (0, 0)) (by (with_reducible repeat (first | refine blk_drewN ?_ _ | refine blk_drew ?_ | refine blk_alloc ?_ _)); exact BK421.out) hb); have n2_ := Aside0.mk (below_step (by repeat (first | (with_reducible first | exact HB.out | apply below_alloc | apply pw_below_drewN | apply below_drew1 | refine below_set ?_ GE420.out | refine below_set ?_ GE421.out) | exact HB.out)) hb); clear BK420; clear BK421; clear HB; have BK420 := n0_; have BK421 := n1_; have HB := n2_; clear n0_ n1_ n2_; (try clear hb); (try clear hb2); (try clear hk); (try clear hi)))
              go_ret
              exact ⟨by first | rfl | (simp [errW_none, errW_some] <;> rfl) | (simp [*, errW_none, errW_some] <;> rfl), by repeat (first | (with_reducible first | exact HB.out | apply below_alloc | apply pw_below_drewN | apply below_drew1 | refine below_set ?_ GE420.out | refine below_set ?_ GE421.out) | exact HB.out)⟩
          · rw [if_neg c30] at H
            have c30b0 : (t429 == 0) = false := beq_eq_false_iff_ne.mpr c30
            have c30b1 : (t429 != 0) = true := bne_iff_ne.mpr c30
            obtain rfl := Option.some.inj H
            have hnb55 := NB420_421.out
            have hnc55 := NB421_420.out
            have hcz56_0 : wc.cell? ⟨gb420, 0, none⟩ = some (.string a0_0) := (blk_cell BK420.out 0).trans rfl
            have hcz56_1 : wc.cell? ⟨gb420, 1, none⟩ = some (.string a0_1) := (blk_cell BK420.out 1).trans rfl
            have hcz56_2 : wc.cell? ⟨gb420, 2, none⟩ = some (.string a0_2) := (blk_cell BK420.out 2).trans rfl
            have hcz56_3 : wc.cell? ⟨gb420, 3, none⟩ = some (.string a0_3) := (blk_cell BK420.out 3).trans rfl
            have hcz56_4 : wc.cell? ⟨gb420, 4, none⟩ = some (.string a0_4) := (blk_cell BK420.out 4).trans rfl
            have hcz56_5 : wc.cell? ⟨gb420, 5, none⟩ = some (.string a0_5) := (blk_cell BK420.out 5).trans rfl
            have hfz56_0 := blk_frozen BK420.out 0
            have hfz56_1 := blk_frozen BK420.out 1
            have hfz56_2 := blk_frozen BK420.out 2
            have hfz56_3 := blk_frozen BK420.out 3
            have hfz56_4 := blk_frozen BK420.out 4
            have hfz56_5 := blk_frozen BK420.out 5
            have hcz57_0 : wc.cell? ⟨gb421, 0, none⟩ = some (.string a1_0) := (blk_cell BK421.out 0).trans rfl
            have hcz57_1 : wc.cell? ⟨gb421, 1, none⟩ = some (.string a1_1) := (blk_cell BK421.out 1).trans rfl
            have hcz57_2 : wc.cell? ⟨gb421, 2, none⟩ = some (.string a1_2) := (blk_cell BK421.out 2).trans rfl
            have hcz57_3 : wc.cell? ⟨gb421, 3, none⟩ = some (.string a1_3) := (blk_cell BK421.out 3).trans rfl
            have hcz57_4 : wc.cell? ⟨gb421, 4, none⟩ = some (.string a1_4) := (blk_cell BK421.out 4).trans rfl
            have hcz57_5 : wc.cell? ⟨gb421, 5, none⟩ = some (.string a1_5) := (blk_cell BK421.out 5).trans rfl
            have hfz57_0 := blk_frozen BK421.out 0
            have hfz57_1 := blk_frozen BK421.out 1
            have hfz57_2 := blk_frozen BK421.out 2
            have hfz57_3 := blk_frozen BK421.out 3
            have hfz57_4 := blk_frozen BK421.out 4
            have hfz57_5 := blk_frozen BK421.out 5
            go_wp2_with (first | ((with_reducible refine gate_callee (f := 33) rfl ?_); refine goesL_ (some 25) rfl rfl Tryd.func33 (by kernel_rfl) rfl #[.agg #[.string a0_0, .string a0_1, .string a0_2, .string a0_3, .string a0_4, .string a0_5], .agg #[.string a1_0, .string a1_1, .string a1_2, .string a1_3, .string a1_4, .string a1_5]] rfl (by (try simp only [List.map_toArray, List.map_cons, List.map_nil]); first | done | rfl | (simp only [List.length_drop, List.length_take]; rfl)) ?_; (with_reducible refine (tuple_Less.calls kj2 a0_0 a0_1 a0_2 a0_3 a0_4 a0_5 a1_0 a1_1 a1_2 a1_3 a1_4 a1_5 t426 _ A25.out).mono ?_); rintro e w58 ⟨rfl, hb⟩; refine ⟨_, rfl, ?_⟩; have n0_ := Aside0.mk (blk_below (g := gb420) (o := .cells #[.string a0_0, .string a0_1, .string a0_2, .string a0_3, .string a0_4, .string a0_5] 26 (0, 0)) (by (with_reducible repeat (first | refine blk_drewN ?_ _ | refine blk_drew ?_ | refine blk_alloc ?_ _)); exact BK420.out) hb); have n1_ := Aside0.mk (blk_below (g := gb421) (o := .cells #[.string a1_0, .string a1_1, .string a1_2, .string a1_3, .string a1_4, .string a1_5] 26 (0, 0)) (by (with_reducible repeat (first | refine blk_drewN ?_ _ | refine blk_drew ?_ | refine blk_alloc ?_ _)); exact BK421.out) hb); have n2_ := Aside0.mk (below_step (by repeat (first | (with_reducible first | exact HB.out | apply below_alloc | apply pw_below_drewN | apply below_drew1 | refine below_set ?_ GE420.out | refine below_set ?_ GE421.out) | exact HB.out)) hb); clear BK420; clear BK421; clear HB; have BK420 := n0_; have BK421 := n1_; have HB := n2_; clear n0_ n1_ n2_; (try clear hb); (try clear hb2); (try clear hk); (try clear hi); have hcz59_0 : w58.cell? ⟨gb420, 0, none⟩ = some (.string a0_0) := (blk_cell BK420.out 0).trans rfl; have hcz59_1 : w58.cell? ⟨gb420, 1, none⟩ = some (.string a0_1) := (blk_cell BK420.out 1).trans rfl; have hcz59_2 : w58.cell? ⟨gb420, 2, none⟩ = some (.string a0_2) := (blk_cell BK420.out 2).trans rfl; have hcz59_3 : w58.cell? ⟨gb420, 3, none⟩ = some (.string a0_3) := (blk_cell BK420.out 3).trans rfl; have hcz59_4 : w58.cell? ⟨gb420, 4, none⟩ = some (.string a0_4) := (blk_cell BK420.out 4).trans rfl; have hcz59_5 : w58.cell? ⟨gb420, 5, none⟩ = some (.string a0_5) := (blk_cell BK420.out 5).trans rfl; have hfz59_0 := blk_frozen BK420.out 0; have hfz59_1 := blk_frozen BK420.out 1; have hfz59_2 := blk_frozen BK420.out 2; have hfz59_3 := blk_frozen BK420.out 3; have hfz59_4 := blk_frozen BK420.out 4; have hfz59_5 := blk_frozen BK420.out 5; have hcz60_0 : w58.cell? ⟨gb421, 0, none⟩ = some (.string a1_0) := (blk_cell BK421.out 0).trans rfl; have hcz60_1 : w58.cell? ⟨gb421, 1, none⟩ = some (.string a1_1) := (blk_cell BK421.out 1).trans rfl; have hcz60_2 : w58.cell? ⟨gb421, 2, none⟩ = some (.string a1_2) := (blk_cell BK421.out 2).trans rfl; have hcz60_3 : w58.cell? ⟨gb421, 3, none⟩ = some (.string a1_3) := (blk_cell BK421.out 3).trans rfl; have hcz60_4 : w58.cell? ⟨gb421, 4, none⟩ = some (.string a1_4) := (blk_cell BK421.out 4).trans rfl; have hcz60_5 : w58.cell? ⟨gb421, 5, none⟩ = some (.string a1_5) := (blk_cell BK421.out 5).trans rfl; have hfz60_0 := blk_frozen BK421.out 0; have hfz60_1 := blk_frozen BK421.out 1; have hfz60_2 := blk_frozen BK421.out 2; have hfz60_3 := blk_frozen BK421.out 3; have hfz60_4 := blk_frozen BK421.out 4; have hfz60_5 := blk_frozen BK421.out 5) | ((with_reducible refine gate_callee (f := 34) rfl ?_); refine goesL_ (some 29) rfl rfl Tryd.func34 (by kernel_rfl) rfl #[.agg #[.string a0_0, .string a0_1, .string a0_2, .string a0_3, .string a0_4, .string a0_5], .agg #[.string a1_0, .string a1_1, .string a1_2, .string a1_3, .string a1_4, .string a1_5]] rfl (by (try simp only [List.map_toArray, List.map_cons, List.map_nil]); first | done | rfl | (simp only [List.length_drop, List.length_take]; rfl)) ?_; (with_reducible refine (lunetteref11_Less.calls kj2 a0_0 a0_1 a0_2 a0_3 a0_4 a0_5 a1_0 a1_1 a1_2 a1_3 a1_4 a1_5 t427 _ A26.out).mono ?_); rintro e w61 ⟨rfl, hb⟩; refine ⟨_, rfl, ?_⟩; have n0_ := Aside0.mk (blk_below (g := gb420) (o := .cells #[.string a0_0, .string a0_1, .string a0_2, .string a0_3, .string a0_4, .string a0_5] 26 (0, 0)) (by (with_reducible repeat (first | refine blk_drewN ?_ _ | refine blk_drew ?_ | refine blk_alloc ?_ _)); exact BK420.out) hb); have n1_ := Aside0.mk (blk_below (g := gb421) (o := .cells #[.string a1_0, .string a1_1, .string a1_2, .string a1_3, .string a1_4, .string a1_5] 26 (0, 0)) (by (with_reducible repeat (first | refine blk_drewN ?_ _ | refine blk_drew ?_ | refine blk_alloc ?_ _)); exact BK421.out) hb); have n2_ := Aside0.mk (below_step (by repeat (first | (with_reducible first | exact HB.out | apply below_alloc | apply pw_below_drewN | apply below_drew1 | refine below_set ?_ GE420.out | refine below_set ?_ GE421.out) | exact HB.out)) hb); clear BK420; clear BK421; clear HB; have BK420 := n0_; have BK421 := n1_; have HB := n2_; clear n0_ n1_ n2_; (try clear hb); (try clear hb2); (try clear hk); (try clear hi); have hcz62_0 : w61.cell? ⟨gb420, 0, none⟩ = some (.string a0_0) := (blk_cell BK420.out 0).trans rfl; have hcz62_1 : w61.cell? ⟨gb420, 1, none⟩ = some (.string a0_1) := (blk_cell BK420.out 1).trans rfl; have hcz62_2 : w61.cell? ⟨gb420, 2, none⟩ = some (.string a0_2) := (blk_cell BK420.out 2).trans rfl; have hcz62_3 : w61.cell? ⟨gb420, 3, none⟩ = some (.string a0_3) := (blk_cell BK420.out 3).trans rfl; have hcz62_4 : w61.cell? ⟨gb420, 4, none⟩ = some (.string a0_4) := (blk_cell BK420.out 4).trans rfl; have hcz62_5 : w61.cell? ⟨gb420, 5, none⟩ = some (.string a0_5) := (blk_cell BK420.out 5).trans rfl; have hfz62_0 := blk_frozen BK420.out 0; have hfz62_1 := blk_frozen BK420.out 1; have hfz62_2 := blk_frozen BK420.out 2; have hfz62_3 := blk_frozen BK420.out 3; have hfz62_4 := blk_frozen BK420.out 4; have hfz62_5 := blk_frozen BK420.out 5) | ((with_reducible refine gate_callee (f := 18) rfl ?_); refine goesL_ (some 33) rfl rfl Tryd.func18 (by kernel_rfl) rfl #[.agg #[.string a0_0, .string a0_1, .string a0_2, .string a0_3, .string a0_4, .string a0_5]] rfl (by (try simp only [List.map_toArray, List.map_cons, List.map_nil]); first | done | rfl | (simp only [List.length_drop, List.length_take]; rfl)) ?_; (with_reducible refine (tuple_Key.calls a0_0 a0_1 a0_2 a0_3 a0_4 a0_5 t428 t429 _ A28.out).mono ?_); rintro e w63 ⟨rfl, hb⟩; refine ⟨_, rfl, ?_⟩; have n0_ := Aside0.mk (blk_below (g := gb420) (o := .cells #[.string a0_0, .string a0_1, .string a0_2, .string a0_3, .string a0_4, .string a0_5] 26 (0, 0)) (by (with_reducible repeat (first | refine blk_drewN ?_ _ | refine blk_drew ?_ | refine blk_alloc ?_ _)); exact BK420.out) hb); have n1_ := Aside0.mk (blk_below (g := gb421) (o := .cells #[.string a1_0, .string a1_1, .string a1_2, .string a1_3, .string a1_4, .string a1_5] 26 (0, 0)) (by (with_reducible repeat (first | refine blk_drewN ?_ _ | refine blk_drew ?_ | refine blk_alloc ?_ _)); exact BK421.out) hb); have n2_ := Aside0.mk (below_step (by repeat (first | (with_reducible first | exact HB.out | apply below_alloc | apply pw_below_drewN | apply below_drew1 | refine below_set ?_ GE420.out | refine below_set ?_ GE421.out) | exact HB.out)) hb); clear BK420; clear BK421; clear HB; have BK420 := n0_; have BK421 := n1_; have HB := n2_; clear n0_ n1_ n2_; (try clear hb); (try clear hb2); (try clear hk); (try clear hi); have hcz64_0 : w63.cell? ⟨gb421, 0, none⟩ = some (.string a1_0) := (blk_cell BK421.out 0).trans rfl; have hcz64_1 : w63.cell? ⟨gb421, 1, none⟩ = some (.string a1_1) := (blk_cell BK421.out 1).trans rfl; have hcz64_2 : w63.cell? ⟨gb421, 2, none⟩ = some (.string a1_2) := (blk_cell BK421.out 2).trans rfl; have hcz64_3 : w63.cell? ⟨gb421, 3, none⟩ = some (.string a1_3) := (blk_cell BK421.out 3).trans rfl; have hcz64_4 : w63.cell? ⟨gb421, 4, none⟩ = some (.string a1_4) := (blk_cell BK421.out 4).trans rfl; have hcz64_5 : w63.cell? ⟨gb421, 5, none⟩ = some (.string a1_5) := (blk_cell BK421.out 5).trans rfl; have hfz64_0 := blk_frozen BK421.out 0; have hfz64_1 := blk_frozen BK421.out 1; have hfz64_2 := blk_frozen BK421.out 2; have hfz64_3 := blk_frozen BK421.out 3; have hfz64_4 := blk_frozen BK421.out 4; have hfz64_5 := blk_frozen BK421.out 5) | ((with_reducible refine gate_callee (f := 18) rfl ?_); refine goesL_ (some 38) rfl rfl Tryd.func18 (by kernel_rfl) rfl #[.agg #[.string a1_0, .string a1_1, .string a1_2, .string a1_3, .string a1_4, .string a1_5]] rfl (by (try simp only [List.map_toArray, List.map_cons, List.map_nil]); first | done | rfl | (simp only [List.length_drop, List.length_take]; rfl)) ?_; (with_reducible refine (tuple_Key.calls a1_0 a1_1 a1_2 a1_3 a1_4 a1_5 t430 t431 _ A29.out).mono ?_); rintro e w65 ⟨rfl, hb⟩; refine ⟨_, rfl, ?_⟩; have n0_ := Aside0.mk (blk_below (g := gb420) (o := .cells #[.string a0_0, .string a0_1, .string a0_2, .string a0_3, .string a0_4, .string a0_5] 26 (0, 0)) (by (with_reducible repeat (first | refine blk_drewN ?_ _ | refine blk_drew ?_ | refine blk_alloc ?_ _)); exact BK420.out) hb); have n1_ := Aside0.mk (blk_below (g := gb421) (o := .cells #[.string a1_0, .string a1_1, .string a1_2, .string a1_3, .string a1_4, .string a1_5] 26 (0, 0)) (by (with_reducible repeat (first | refine blk_drewN ?_ _ | refine blk_drew ?_ | refine blk_alloc ?_ _)); exact BK421.out) hb); have n2_ := Aside0.mk (below_step (by repeat (first | (with_reducible first | exact HB.out | apply below_alloc | apply pw_below_drewN | apply below_drew1 | refine below_set ?_ GE420.out | refine below_set ?_ GE421.out) | exact HB.out)) hb); clear BK420; clear BK421; clear HB; have BK420 := n0_; have BK421 := n1_; have HB := n2_; clear n0_ n1_ n2_; (try clear hb); (try clear hb2); (try clear hk); (try clear hi)))
            go_ret
            exact ⟨by first | rfl | (simp [errW_none, errW_some] <;> rfl) | (simp [*, errW_none, errW_some] <;> rfl), by repeat (first | (with_reducible first | exact HB.out | apply below_alloc | apply pw_below_drewN | apply below_drew1 | refine below_set ?_ GE420.out | refine below_set ?_ GE421.out) | exact HB.out)⟩

end Go.Proofs.YtggcipjdhhnnkaaDoor.K
