-- Written by a program of this session (wip/pp.py over the kit's print.py). Lean checks it.
import Derived.Test.YtggcipjdhhnnkaaDoorP0
import Derived.Test.YtggcipjdhhnnkaaDoorP2
import Derived.Test.YtggcipjdhhnnkaaDoorPMa
import Derived.Test.YtggcipjdhhnnkaaDoorAW
import Derived.Test.YtggcipjdhhnnkaaDoorP22
namespace Go.Proofs.YtggcipjdhhnnkaaDoor.K
open Go.RowKit Go.Proofs.YtggcipjdhhnnkaaDoorW.PrintWords Go.Proofs.YtggcipjdhhnnkaaDoorW.PrintLast Go.Proofs.YtggcipjdhhnnkaaDoorW.PrintMore
attribute [local go_sem] max2_int min2_int max_two min_two max_three min_three max_four min_four   -- for this text's walks alone
set_option linter.unusedVariables false
set_option linter.unusedSimpArgs false

attribute [local go_sem high] eqA26
/-! ### lunettelaw11_TupleApart: function 4 -/
def lunettelaw11_TupleApart.j0 : Nat → Bool → ByteArray → ByteArray → ByteArray → ByteArray → ByteArray → ByteArray → ByteArray → ByteArray → ByteArray → ByteArray → ByteArray → ByteArray → Option (Bool)
  | 0, _, _, _, _, _, _, _, _, _, _, _, _, _ => none
  | k + 1, x20, x252000, x252001, x252002, x252003, x252004, x252005, x253000, x253001, x253002, x253003, x253004, x253005 => if x20 = true then ((lunettelaw11_awake.f k).bind fun t256 => (some t256)) else ((tuple_Show.f x252000 x252001 x252002 x252003 x252004 x252005).bind fun bt257 => ((tuple_Show.f x253000 x253001 x253002 x253003 x253004 x253005).bind fun bt259 => (if bt257.2 = 0 then (if bt259.2 = 0 then (some ((bt257.1.toList == bt259.1.toList) == (x252000.toList == x253000.toList && (x252001.toList == x253001.toList && (x252002.toList == x253002.toList && ((x252003.toList == x253003.toList && (x252004.toList == x253004.toList && (x252005.toList == x253005.toList))))))))) else (some true)) else (some true))))
def lunettelaw11_TupleApart.f (k : Nat) (a0_0 : ByteArray) (a0_1 : ByteArray) (a0_2 : ByteArray) (a0_3 : ByteArray) (a0_4 : ByteArray) (a0_5 : ByteArray) (a1_0 : ByteArray) (a1_1 : ByteArray) (a1_2 : ByteArray) (a1_3 : ByteArray) (a1_4 : ByteArray) (a1_5 : ByteArray) : Option (Bool) := (lunettelaw11_awake.f k).bind fun t253 => (if t253 = true then ((lunettelaw11_few.f k a0_0 a0_1 a0_2 a0_3 a0_4 a0_5).bind fun t254 => (if t254 = true then ((lunettelaw11_few.f k a1_0 a1_1 a1_2 a1_3 a1_4 a1_5).bind fun t255 => (lunettelaw11_TupleApart.j0 k (!t255) a0_0 a0_1 a0_2 a0_3 a0_4 a0_5 a1_0 a1_1 a1_2 a1_3 a1_4 a1_5)) else (lunettelaw11_TupleApart.j0 k true a0_0 a0_1 a0_2 a0_3 a0_4 a0_5 a1_0 a1_1 a1_2 a1_3 a1_4 a1_5))) else (lunettelaw11_TupleApart.j0 k true a0_0 a0_1 a0_2 a0_3 a0_4 a0_5 a1_0 a1_1 a1_2 a1_3 a1_4 a1_5))
theorem lunettelaw11_TupleApart.mono_l : ∀ k, (∀ y0 y1 y2 y3 y4 y5 y6 y7 y8 y9 y10 y11 y12, LeO (lunettelaw11_TupleApart.j0 k y0 y1 y2 y3 y4 y5 y6 y7 y8 y9 y10 y11 y12) (lunettelaw11_TupleApart.j0 (k + 1) y0 y1 y2 y3 y4 y5 y6 y7 y8 y9 y10 y11 y12))
  | 0 => fun _ _ _ _ _ _ _ _ _ _ _ _ _ r h => by simp [lunettelaw11_TupleApart.j0] at h
  | k + 1 => by
    have ih0 := lunettelaw11_TupleApart.mono_l k
    · intro y0 y1 y2 y3 y4 y5 y6 y7 y8 y9 y10 y11 y12
      unfold lunettelaw11_TupleApart.j0
      repeat' first
      | (with_reducible exact ih0 _ _ _ _ _ _ _ _ _ _ _ _ _)
      | (with_reducible exact lunettelaw11_awake.mono _)
      | (with_reducible exact lunettelaw11_few.mono _ _ _ _ _ _ _)
      | (with_reducible exact LeO.refl _)
      | (with_reducible exact LeO.none _)
      | (with_reducible refine LeO.ite ?_ ?_)
      | (with_reducible refine LeO.bind ?_ (fun _ => ?_))
      | exact ih0 _ _ _ _ _ _ _ _ _ _ _ _ _
      | exact lunettelaw11_awake.mono _
      | exact lunettelaw11_few.mono _ _ _ _ _ _ _
      | exact LeO.none _
      | refine LeO.ite ?_ ?_
      | refine LeO.bind ?_ (fun _ => ?_)
theorem lunettelaw11_TupleApart.mono : ∀ a0 a1 a2 a3 a4 a5 a6 a7 a8 a9 a10 a11 k, LeO (lunettelaw11_TupleApart.f k a0 a1 a2 a3 a4 a5 a6 a7 a8 a9 a10 a11) (lunettelaw11_TupleApart.f (k + 1) a0 a1 a2 a3 a4 a5 a6 a7 a8 a9 a10 a11) := by
  intro a0 a1 a2 a3 a4 a5 a6 a7 a8 a9 a10 a11 k
  have ih0 := lunettelaw11_TupleApart.mono_l k
  unfold lunettelaw11_TupleApart.f
  repeat' first
      | (with_reducible exact ih0 _ _ _ _ _ _ _ _ _ _ _ _ _)
      | (with_reducible exact lunettelaw11_awake.mono _)
      | (with_reducible exact lunettelaw11_few.mono _ _ _ _ _ _ _)
      | (with_reducible exact LeO.refl _)
      | (with_reducible exact LeO.none _)
      | (with_reducible refine LeO.ite ?_ ?_)
      | (with_reducible refine LeO.bind ?_ (fun _ => ?_))
      | exact ih0 _ _ _ _ _ _ _ _ _ _ _ _ _
      | exact lunettelaw11_awake.mono _
      | exact lunettelaw11_few.mono _ _ _ _ _ _ _
      | exact LeO.none _
      | refine LeO.ite ?_ ?_
      | refine LeO.bind ?_ (fun _ => ?_)
set_option maxHeartbeats 8000000 in
set_option maxRecDepth 100000 in
theorem lunettelaw11_TupleApart.callsT (k : Nat) (a0_0 : ByteArray) (a0_1 : ByteArray) (a0_2 : ByteArray) (a0_3 : ByteArray) (a0_4 : ByteArray) (a0_5 : ByteArray) (a1_0 : ByteArray) (a1_1 : ByteArray) (a1_2 : ByteArray) (a1_3 : ByteArray) (a1_4 : ByteArray) (a1_5 : ByteArray) (r : Bool) (w : World) (h : lunettelaw11_TupleApart.f k a0_0 a0_1 a0_2 a0_3 a0_4 a0_5 a1_0 a1_1 a1_2 a1_3 a1_4 a1_5 = some r) (hT : r = true) :
    Calls Tryd.prog 4 #[.agg #[.string a0_0, .string a0_1, .string a0_2, .string a0_3, .string a0_4, .string a0_5], .agg #[.string a1_0, .string a1_1, .string a1_2, .string a1_3, .string a1_4, .string a1_5]] w fun e w' => e = .returned (.bool r) ∧ Below w.heap.size w w' := by
  have hu26 := Tryd.underlying26
  have HB := Aside0.mk (Below.refl w.heap.size w)
  have HTRUE := Aside0.mk hT
  clear hT
  have H : ((lunettelaw11_awake.f k).bind fun t253 => (if t253 = true then ((lunettelaw11_few.f k a0_0 a0_1 a0_2 a0_3 a0_4 a0_5).bind fun t254 => (if t254 = true then ((lunettelaw11_few.f k a1_0 a1_1 a1_2 a1_3 a1_4 a1_5).bind fun t255 => (lunettelaw11_TupleApart.j0 k (!t255) a0_0 a0_1 a0_2 a0_3 a0_4 a0_5 a1_0 a1_1 a1_2 a1_3 a1_4 a1_5)) else (lunettelaw11_TupleApart.j0 k true a0_0 a0_1 a0_2 a0_3 a0_4 a0_5 a1_0 a1_1 a1_2 a1_3 a1_4 a1_5))) else (lunettelaw11_TupleApart.j0 k true a0_0 a0_1 a0_2 a0_3 a0_4 a0_5 a1_0 a1_1 a1_2 a1_3 a1_4 a1_5))) = some r := h
  clear h
  have HC3 := Aside0.mk H
  clear H
  go_enter Tryd.func4, Tryd.ntmps4
  go_upto_region 1 with (first | ((with_reducible refine gate_dst (N := 2) rfl ?_); refine box_event ?hg (N := 2) ?hd (cs := #[.string a0_0, .string a0_1, .string a0_2, .string a0_3, .string a0_4, .string a0_5]) (t := 26) ?hr ?_; (case hd => rfl); (case hg => rfl); (case hr => first | (go_simp; done) | (go_simp; rfl)); intro gb251 hg w4 hbox hb; have n0_ := Aside0.mk (below_step (by repeat (first | (with_reducible first | exact HB.out | apply below_alloc | apply pw_below_drewN | apply below_drew1) | exact HB.out)) hb); have n1_ := Aside0.mk (hbox); have n2_ := Aside0.mk ((by rw [hg]; exact (below_size (by repeat (first | (with_reducible first | exact HB.out | apply below_alloc | apply pw_below_drewN | apply below_drew1) | exact HB.out))) : w.heap.size ≤ gb251)); have n3_ := Aside0.mk ((by rw [hg]; exact (below_size (by repeat (first | (with_reducible first | exact HB.out | apply below_alloc | apply pw_below_drewN | apply below_drew1) | exact HB.out))) : w.heap.size ≤ gb251)); clear HB; have HB := n0_; have BK251 := n1_; have GW251 := n2_; have GE251 := n3_; clear n0_ n1_ n2_ n3_; clear hb hbox hg) | ((with_reducible refine gate_dst (N := 3) rfl ?_); refine box_event ?hg (N := 3) ?hd (cs := #[.string a1_0, .string a1_1, .string a1_2, .string a1_3, .string a1_4, .string a1_5]) (t := 26) ?hr ?_; (case hd => rfl); (case hg => rfl); (case hr => first | (go_simp; done) | (go_simp; rfl)); intro gb252 hg w5 hbox hb; have n0_ := Aside0.mk (blk_below (g := gb251) (o := .cells #[.string a0_0, .string a0_1, .string a0_2, .string a0_3, .string a0_4, .string a0_5] 26 (0, 0)) (by (with_reducible repeat (first | refine blk_drewN ?_ _ | refine blk_drew ?_ | refine blk_alloc ?_ _)); exact BK251.out) hb); have n1_ := Aside0.mk (below_step (by repeat (first | (with_reducible first | exact HB.out | apply below_alloc | apply pw_below_drewN | apply below_drew1 | refine below_set ?_ GE251.out) | exact HB.out)) hb); have n2_ := Aside0.mk (hbox); have n3_ := Aside0.mk ((by rw [hg]; exact (below_size (by repeat (first | (with_reducible first | exact HB.out | apply below_alloc | apply pw_below_drewN | apply below_drew1 | refine below_set ?_ GE251.out) | exact HB.out))) : w.heap.size ≤ gb252)); have n4_ := Aside0.mk ((by rw [hg]; exact (below_size (by repeat (first | (with_reducible first | exact HB.out | apply below_alloc | apply pw_below_drewN | apply below_drew1 | refine below_set ?_ GE251.out) | exact HB.out))) : w.heap.size ≤ gb252)); have n5_ := Aside0.mk ((by rw [hg]; exact Nat.ne_of_lt (blk_lt (g := gb251) (o := .cells #[.string a0_0, .string a0_1, .string a0_2, .string a0_3, .string a0_4, .string a0_5] 26 (0, 0)) (by (with_reducible repeat (first | refine blk_drewN ?_ _ | refine blk_drew ?_ | refine blk_alloc ?_ _)); exact BK251.out)) : gb251 ≠ gb252)); have n6_ := Aside0.mk ((by rw [hg]; exact Nat.ne_of_gt (blk_lt (g := gb251) (o := .cells #[.string a0_0, .string a0_1, .string a0_2, .string a0_3, .string a0_4, .string a0_5] 26 (0, 0)) (by (with_reducible repeat (first | refine blk_drewN ?_ _ | refine blk_drew ?_ | refine blk_alloc ?_ _)); exact BK251.out)) : gb252 ≠ gb251)); clear BK251; clear HB; have BK251 := n0_; have HB := n1_; have BK252 := n2_; have GW252 := n3_; have GE252 := n4_; have NB251_252 := n5_; have NB252_251 := n6_; clear n0_ n1_ n2_ n3_ n4_ n5_ n6_; clear hb hbox hg))
  (try simp only [Act.put, List.setIfInBounds_toArray, List.set_cons_zero, List.set_cons_succ])
  go_cut [20] (fun v20 wc => ∃ (kq : Nat) (x20_2 : Bool), v20 = .bool x20_2 ∧ Aside0 (lunettelaw11_TupleApart.j0 kq x20_2 a0_0 a0_1 a0_2 a0_3 a0_4 a0_5 a1_0 a1_1 a1_2 a1_3 a1_4 a1_5 = some r) ∧ Aside0 (kq ≤ k) ∧ Aside0 (wc.heap[gb251]? = some (.cells #[.string a0_0, .string a0_1, .string a0_2, .string a0_3, .string a0_4, .string a0_5] 26 (0, 0))) ∧ Aside0 (wc.heap[gb252]? = some (.cells #[.string a1_0, .string a1_1, .string a1_2, .string a1_3, .string a1_4, .string a1_5] 26 (0, 0))) ∧ Aside0 (Below w.heap.size w wc))
  case first =>
    have H := HC3.out
    clear HC3
    replace H := Option.bind_eq_some_iff.mp H
    obtain ⟨t253, A60, H⟩ := H
    replace H : (if t253 = true then ((lunettelaw11_few.f k a0_0 a0_1 a0_2 a0_3 a0_4 a0_5).bind fun t254 => (if t254 = true then ((lunettelaw11_few.f k a1_0 a1_1 a1_2 a1_3 a1_4 a1_5).bind fun t255 => (lunettelaw11_TupleApart.j0 k (!t255) a0_0 a0_1 a0_2 a0_3 a0_4 a0_5 a1_0 a1_1 a1_2 a1_3 a1_4 a1_5)) else (lunettelaw11_TupleApart.j0 k true a0_0 a0_1 a0_2 a0_3 a0_4 a0_5 a1_0 a1_1 a1_2 a1_3 a1_4 a1_5))) else (lunettelaw11_TupleApart.j0 k true a0_0 a0_1 a0_2 a0_3 a0_4 a0_5 a1_0 a1_1 a1_2 a1_3 a1_4 a1_5)) = some r := H
    have A6 := Aside0.mk A60
    clear A60
    by_cases c7 : t253 = true
    · subst c7
      have H1 : ((lunettelaw11_few.f k a0_0 a0_1 a0_2 a0_3 a0_4 a0_5).bind fun t254 => (if t254 = true then ((lunettelaw11_few.f k a1_0 a1_1 a1_2 a1_3 a1_4 a1_5).bind fun t255 => (lunettelaw11_TupleApart.j0 k (!t255) a0_0 a0_1 a0_2 a0_3 a0_4 a0_5 a1_0 a1_1 a1_2 a1_3 a1_4 a1_5)) else (lunettelaw11_TupleApart.j0 k true a0_0 a0_1 a0_2 a0_3 a0_4 a0_5 a1_0 a1_1 a1_2 a1_3 a1_4 a1_5))) = some r := by rw [if_pos rfl] at H; exact H
      clear H
      have H := H1
      clear H1
      replace H := Option.bind_eq_some_iff.mp H
      obtain ⟨t254, A80, H⟩ := H
      replace H : (if t254 = true then ((lunettelaw11_few.f k a1_0 a1_1 a1_2 a1_3 a1_4 a1_5).bind fun t255 => (lunettelaw11_TupleApart.j0 k (!t255) a0_0 a0_1 a0_2 a0_3 a0_4 a0_5 a1_0 a1_1 a1_2 a1_3 a1_4 a1_5)) else (lunettelaw11_TupleApart.j0 k true a0_0 a0_1 a0_2 a0_3 a0_4 a0_5 a1_0 a1_1 a1_2 a1_3 a1_4 a1_5)) = some r := H
      have A8 := Aside0.mk A80
      clear A80
      by_cases c9 : t254 = true
      · subst c9
        have H1 : ((lunettelaw11_few.f k a1_0 a1_1 a1_2 a1_3 a1_4 a1_5).bind fun t255 => (lunettelaw11_TupleApart.j0 k (!t255) a0_0 a0_1 a0_2 a0_3 a0_4 a0_5 a1_0 a1_1 a1_2 a1_3 a1_4 a1_5)) = some r := by rw [if_pos rfl] at H; exact H
        clear H
        have H := H1
        clear H1
        replace H := Option.bind_eq_some_iff.mp H
        obtain ⟨t255, A100, H⟩ := H
        replace H : (lunettelaw11_TupleApart.j0 k (!t255) a0_0 a0_1 a0_2 a0_3 a0_4 a0_5 a1_0 a1_1 a1_2 a1_3 a1_4 a1_5) = some r := H
        have A10 := Aside0.mk A100
        clear A100
        have H' := Aside0.mk H
        clear H
        go_wp2_with (first | ((with_reducible refine gate_callee (f := 11) rfl ?_); refine goesL_ (some 9) rfl rfl Tryd.func11 (by kernel_rfl) rfl #[] rfl (by (try simp only [List.map_toArray, List.map_cons, List.map_nil]); first | done | rfl | (simp only [List.length_drop, List.length_take]; rfl)) ?_; (with_reducible refine (lunettelaw11_awake.calls k  true _ A6.out).mono ?_); rintro e w11 ⟨rfl, hb⟩; refine ⟨_, rfl, ?_⟩; have n0_ := Aside0.mk (blk_below (g := gb251) (o := .cells #[.string a0_0, .string a0_1, .string a0_2, .string a0_3, .string a0_4, .string a0_5] 26 (0, 0)) (by (with_reducible repeat (first | refine blk_drewN ?_ _ | refine blk_drew ?_ | refine blk_alloc ?_ _)); exact BK251.out) hb); have n1_ := Aside0.mk (blk_below (g := gb252) (o := .cells #[.string a1_0, .string a1_1, .string a1_2, .string a1_3, .string a1_4, .string a1_5] 26 (0, 0)) (by (with_reducible repeat (first | refine blk_drewN ?_ _ | refine blk_drew ?_ | refine blk_alloc ?_ _)); exact BK252.out) hb); have n2_ := Aside0.mk (below_step (by repeat (first | (with_reducible first | exact HB.out | apply below_alloc | apply pw_below_drewN | apply below_drew1 | refine below_set ?_ GE251.out | refine below_set ?_ GE252.out) | exact HB.out)) hb); clear BK251; clear BK252; clear HB; have BK251 := n0_; have BK252 := n1_; have HB := n2_; clear n0_ n1_ n2_; (try clear hb); (try clear hb2); (try clear hk); (try clear hi); have hnb12 := NB251_252.out; have hnc12 := NB252_251.out; have hcz13_0 : w11.cell? ⟨gb251, 0, none⟩ = some (.string a0_0) := (blk_cell BK251.out 0).trans rfl; have hcz13_1 : w11.cell? ⟨gb251, 1, none⟩ = some (.string a0_1) := (blk_cell BK251.out 1).trans rfl; have hcz13_2 : w11.cell? ⟨gb251, 2, none⟩ = some (.string a0_2) := (blk_cell BK251.out 2).trans rfl; have hcz13_3 : w11.cell? ⟨gb251, 3, none⟩ = some (.string a0_3) := (blk_cell BK251.out 3).trans rfl; have hcz13_4 : w11.cell? ⟨gb251, 4, none⟩ = some (.string a0_4) := (blk_cell BK251.out 4).trans rfl; have hcz13_5 : w11.cell? ⟨gb251, 5, none⟩ = some (.string a0_5) := (blk_cell BK251.out 5).trans rfl; have hfz13_0 := blk_frozen BK251.out 0; have hfz13_1 := blk_frozen BK251.out 1; have hfz13_2 := blk_frozen BK251.out 2; have hfz13_3 := blk_frozen BK251.out 3; have hfz13_4 := blk_frozen BK251.out 4; have hfz13_5 := blk_frozen BK251.out 5) | (go_at_call 16; (with_reducible refine (lunettelaw11_few.calls k a0_0 a0_1 a0_2 a0_3 a0_4 a0_5 true _ A8.out).mono ?_); rintro e w14 ⟨rfl, hb⟩; have n0_ := Aside0.mk (blk_below (g := gb251) (o := .cells #[.string a0_0, .string a0_1, .string a0_2, .string a0_3, .string a0_4, .string a0_5] 26 (0, 0)) (by (with_reducible repeat (first | refine blk_drewN ?_ _ | refine blk_drew ?_ | refine blk_alloc ?_ _)); exact BK251.out) hb); have n1_ := Aside0.mk (blk_below (g := gb252) (o := .cells #[.string a1_0, .string a1_1, .string a1_2, .string a1_3, .string a1_4, .string a1_5] 26 (0, 0)) (by (with_reducible repeat (first | refine blk_drewN ?_ _ | refine blk_drew ?_ | refine blk_alloc ?_ _)); exact BK252.out) hb); have n2_ := Aside0.mk (below_step (by repeat (first | (with_reducible first | exact HB.out | apply below_alloc | apply pw_below_drewN | apply below_drew1 | refine below_set ?_ GE251.out | refine below_set ?_ GE252.out) | exact HB.out)) hb); clear BK251; clear BK252; clear HB; have BK251 := n0_; have BK252 := n1_; have HB := n2_; clear n0_ n1_ n2_; (try clear hb); (try clear hb2); (try clear hk); (try clear hi); have hcz15_0 : w14.cell? ⟨gb252, 0, none⟩ = some (.string a1_0) := (blk_cell BK252.out 0).trans rfl; have hcz15_1 : w14.cell? ⟨gb252, 1, none⟩ = some (.string a1_1) := (blk_cell BK252.out 1).trans rfl; have hcz15_2 : w14.cell? ⟨gb252, 2, none⟩ = some (.string a1_2) := (blk_cell BK252.out 2).trans rfl; have hcz15_3 : w14.cell? ⟨gb252, 3, none⟩ = some (.string a1_3) := (blk_cell BK252.out 3).trans rfl; have hcz15_4 : w14.cell? ⟨gb252, 4, none⟩ = some (.string a1_4) := (blk_cell BK252.out 4).trans rfl; have hcz15_5 : w14.cell? ⟨gb252, 5, none⟩ = some (.string a1_5) := (blk_cell BK252.out 5).trans rfl; have hfz15_0 := blk_frozen BK252.out 0; have hfz15_1 := blk_frozen BK252.out 1; have hfz15_2 := blk_frozen BK252.out 2; have hfz15_3 := blk_frozen BK252.out 3; have hfz15_4 := blk_frozen BK252.out 4; have hfz15_5 := blk_frozen BK252.out 5) | (go_at_call 16; (with_reducible refine (lunettelaw11_few.calls k a1_0 a1_1 a1_2 a1_3 a1_4 a1_5 t255 _ A10.out).mono ?_); rintro e w16 ⟨rfl, hb⟩; have n0_ := Aside0.mk (blk_below (g := gb251) (o := .cells #[.string a0_0, .string a0_1, .string a0_2, .string a0_3, .string a0_4, .string a0_5] 26 (0, 0)) (by (with_reducible repeat (first | refine blk_drewN ?_ _ | refine blk_drew ?_ | refine blk_alloc ?_ _)); exact BK251.out) hb); have n1_ := Aside0.mk (blk_below (g := gb252) (o := .cells #[.string a1_0, .string a1_1, .string a1_2, .string a1_3, .string a1_4, .string a1_5] 26 (0, 0)) (by (with_reducible repeat (first | refine blk_drewN ?_ _ | refine blk_drew ?_ | refine blk_alloc ?_ _)); exact BK252.out) hb); have n2_ := Aside0.mk (below_step (by repeat (first | (with_reducible first | exact HB.out | apply below_alloc | apply pw_below_drewN | apply below_drew1 | refine below_set ?_ GE251.out | refine below_set ?_ GE252.out) | exact HB.out)) hb); clear BK251; clear BK252; clear HB; have BK251 := n0_; have BK252 := n1_; have HB := n2_; clear n0_ n1_ n2_; (try clear hb); (try clear hb2); (try clear hk); (try clear hi)))
        go_meet
        case rel => exact ⟨_, (!t255), (by first | rfl | (simp; done) | (simp [*]; done)), H', ⟨by first | omega | exact Nat.le_refl _⟩, ⟨by (with_reducible repeat (first | refine blk_drewN ?_ _ | refine blk_drew ?_ | refine blk_alloc ?_ _)); exact BK251.out⟩, ⟨by (with_reducible repeat (first | refine blk_drewN ?_ _ | refine blk_drew ?_ | refine blk_alloc ?_ _)); exact BK252.out⟩, ⟨by repeat (first | (with_reducible first | exact HB.out | apply below_alloc | apply pw_below_drewN | apply below_drew1 | refine below_set ?_ GE251.out | refine below_set ?_ GE252.out) | exact HB.out)⟩⟩
      · replace c9 := Bool.eq_false_iff.mpr c9
        subst c9
        have H1 : (lunettelaw11_TupleApart.j0 k true a0_0 a0_1 a0_2 a0_3 a0_4 a0_5 a1_0 a1_1 a1_2 a1_3 a1_4 a1_5) = some r := by rw [if_neg (show ¬ (false = true) by decide)] at H; exact H
        clear H
        have H := H1
        clear H1
        have H' := Aside0.mk H
        clear H
        go_wp2_with (first | ((with_reducible refine gate_callee (f := 11) rfl ?_); refine goesL_ (some 9) rfl rfl Tryd.func11 (by kernel_rfl) rfl #[] rfl (by (try simp only [List.map_toArray, List.map_cons, List.map_nil]); first | done | rfl | (simp only [List.length_drop, List.length_take]; rfl)) ?_; (with_reducible refine (lunettelaw11_awake.calls k  true _ A6.out).mono ?_); rintro e w17 ⟨rfl, hb⟩; refine ⟨_, rfl, ?_⟩; have n0_ := Aside0.mk (blk_below (g := gb251) (o := .cells #[.string a0_0, .string a0_1, .string a0_2, .string a0_3, .string a0_4, .string a0_5] 26 (0, 0)) (by (with_reducible repeat (first | refine blk_drewN ?_ _ | refine blk_drew ?_ | refine blk_alloc ?_ _)); exact BK251.out) hb); have n1_ := Aside0.mk (blk_below (g := gb252) (o := .cells #[.string a1_0, .string a1_1, .string a1_2, .string a1_3, .string a1_4, .string a1_5] 26 (0, 0)) (by (with_reducible repeat (first | refine blk_drewN ?_ _ | refine blk_drew ?_ | refine blk_alloc ?_ _)); exact BK252.out) hb); have n2_ := Aside0.mk (below_step (by repeat (first | (with_reducible first | exact HB.out | apply below_alloc | apply pw_below_drewN | apply below_drew1 | refine below_set ?_ GE251.out | refine below_set ?_ GE252.out) | exact HB.out)) hb); clear BK251; clear BK252; clear HB; have BK251 := n0_; have BK252 := n1_; have HB := n2_; clear n0_ n1_ n2_; (try clear hb); (try clear hb2); (try clear hk); (try clear hi); have hnb18 := NB251_252.out; have hnc18 := NB252_251.out; have hcz19_0 : w17.cell? ⟨gb251, 0, none⟩ = some (.string a0_0) := (blk_cell BK251.out 0).trans rfl; have hcz19_1 : w17.cell? ⟨gb251, 1, none⟩ = some (.string a0_1) := (blk_cell BK251.out 1).trans rfl; have hcz19_2 : w17.cell? ⟨gb251, 2, none⟩ = some (.string a0_2) := (blk_cell BK251.out 2).trans rfl; have hcz19_3 : w17.cell? ⟨gb251, 3, none⟩ = some (.string a0_3) := (blk_cell BK251.out 3).trans rfl; have hcz19_4 : w17.cell? ⟨gb251, 4, none⟩ = some (.string a0_4) := (blk_cell BK251.out 4).trans rfl; have hcz19_5 : w17.cell? ⟨gb251, 5, none⟩ = some (.string a0_5) := (blk_cell BK251.out 5).trans rfl; have hfz19_0 := blk_frozen BK251.out 0; have hfz19_1 := blk_frozen BK251.out 1; have hfz19_2 := blk_frozen BK251.out 2; have hfz19_3 := blk_frozen BK251.out 3; have hfz19_4 := blk_frozen BK251.out 4; have hfz19_5 := blk_frozen BK251.out 5) | (go_at_call 16; (with_reducible refine (lunettelaw11_few.calls k a0_0 a0_1 a0_2 a0_3 a0_4 a0_5 false _ A8.out).mono ?_); rintro e w20 ⟨rfl, hb⟩; have n0_ := Aside0.mk (blk_below (g := gb251) (o := .cells #[.string a0_0, .string a0_1, .string a0_2, .string a0_3, .string a0_4, .string a0_5] 26 (0, 0)) (by (with_reducible repeat (first | refine blk_drewN ?_ _ | refine blk_drew ?_ | refine blk_alloc ?_ _)); exact BK251.out) hb); have n1_ := Aside0.mk (blk_below (g := gb252) (o := .cells #[.string a1_0, .string a1_1, .string a1_2, .string a1_3, .string a1_4, .string a1_5] 26 (0, 0)) (by (with_reducible repeat (first | refine blk_drewN ?_ _ | refine blk_drew ?_ | refine blk_alloc ?_ _)); exact BK252.out) hb); have n2_ := Aside0.mk (below_step (by repeat (first | (with_reducible first | exact HB.out | apply below_alloc | apply pw_below_drewN | apply below_drew1 | refine below_set ?_ GE251.out | refine below_set ?_ GE252.out) | exact HB.out)) hb); clear BK251; clear BK252; clear HB; have BK251 := n0_; have BK252 := n1_; have HB := n2_; clear n0_ n1_ n2_; (try clear hb); (try clear hb2); (try clear hk); (try clear hi)))
        go_meet
        case rel => exact ⟨_, (true), (by first | rfl | (simp; done) | (simp [*]; done)), H', ⟨by first | omega | exact Nat.le_refl _⟩, ⟨by (with_reducible repeat (first | refine blk_drewN ?_ _ | refine blk_drew ?_ | refine blk_alloc ?_ _)); exact BK251.out⟩, ⟨by (with_reducible repeat (first | refine blk_drewN ?_ _ | refine blk_drew ?_ | refine blk_alloc ?_ _)); exact BK252.out⟩, ⟨by repeat (first | (with_reducible first | exact HB.out | apply below_alloc | apply pw_below_drewN | apply below_drew1 | refine below_set ?_ GE251.out | refine below_set ?_ GE252.out) | exact HB.out)⟩⟩
    · replace c7 := Bool.eq_false_iff.mpr c7
      subst c7
      have H1 : (lunettelaw11_TupleApart.j0 k true a0_0 a0_1 a0_2 a0_3 a0_4 a0_5 a1_0 a1_1 a1_2 a1_3 a1_4 a1_5) = some r := by rw [if_neg (show ¬ (false = true) by decide)] at H; exact H
      clear H
      have H := H1
      clear H1
      have H' := Aside0.mk H
      clear H
      go_wp2_with (first | ((with_reducible refine gate_callee (f := 11) rfl ?_); refine goesL_ (some 9) rfl rfl Tryd.func11 (by kernel_rfl) rfl #[] rfl (by (try simp only [List.map_toArray, List.map_cons, List.map_nil]); first | done | rfl | (simp only [List.length_drop, List.length_take]; rfl)) ?_; (with_reducible refine (lunettelaw11_awake.calls k  false _ A6.out).mono ?_); rintro e w21 ⟨rfl, hb⟩; refine ⟨_, rfl, ?_⟩; have n0_ := Aside0.mk (blk_below (g := gb251) (o := .cells #[.string a0_0, .string a0_1, .string a0_2, .string a0_3, .string a0_4, .string a0_5] 26 (0, 0)) (by (with_reducible repeat (first | refine blk_drewN ?_ _ | refine blk_drew ?_ | refine blk_alloc ?_ _)); exact BK251.out) hb); have n1_ := Aside0.mk (blk_below (g := gb252) (o := .cells #[.string a1_0, .string a1_1, .string a1_2, .string a1_3, .string a1_4, .string a1_5] 26 (0, 0)) (by (with_reducible repeat (first | refine blk_drewN ?_ _ | refine blk_drew ?_ | refine blk_alloc ?_ _)); exact BK252.out) hb); have n2_ := Aside0.mk (below_step (by repeat (first | (with_reducible first | exact HB.out | apply below_alloc | apply pw_below_drewN | apply below_drew1 | refine below_set ?_ GE251.out | refine below_set ?_ GE252.out) | exact HB.out)) hb); clear BK251; clear BK252; clear HB; have BK251 := n0_; have BK252 := n1_; have HB := n2_; clear n0_ n1_ n2_; (try clear hb); (try clear hb2); (try clear hk); (try clear hi)))
      go_meet
      case rel => exact ⟨_, (true), (by first | rfl | (simp; done) | (simp [*]; done)), H', ⟨by first | omega | exact Nat.le_refl _⟩, ⟨by (with_reducible repeat (first | refine blk_drewN ?_ _ | refine blk_drew ?_ | refine blk_alloc ?_ _)); exact BK251.out⟩, ⟨by (with_reducible repeat (first | refine blk_drewN ?_ _ | refine blk_drew ?_ | refine blk_alloc ?_ _)); exact BK252.out⟩, ⟨by repeat (first | (with_reducible first | exact HB.out | apply below_alloc | apply pw_below_drewN | apply below_drew1 | refine below_set ?_ GE251.out | refine below_set ?_ GE252.out) | exact HB.out)⟩⟩
  case rest =>
    clear HC3
    try clear c1
    try clear p2
    try clear c4
    try clear c7
    try clear c9
    try clear c11
    try clear c12
    try clear c18
    try clear hcz13_0
    try clear hcz13_1
    try clear hcz13_2
    try clear hcz13_3
    try clear hcz13_4
    try clear hcz13_5
    try clear hcz15_0
    try clear hcz15_1
    try clear hcz15_2
    try clear hcz15_3
    try clear hcz15_4
    try clear hcz15_5
    try clear hcz19_0
    try clear hcz19_1
    try clear hcz19_2
    try clear hcz19_3
    try clear hcz19_4
    try clear hcz19_5
    try clear hfz13_0
    try clear hfz13_1
    try clear hfz13_2
    try clear hfz13_3
    try clear hfz13_4
    try clear hfz13_5
    try clear hfz15_0
    try clear hfz15_1
    try clear hfz15_2
    try clear hfz15_3
    try clear hfz15_4
    try clear hfz15_5
    try clear hfz19_0
    try clear hfz19_1
    try clear hfz19_2
    try clear hfz19_3
    try clear hfz19_4
    try clear hfz19_5
    obtain ⟨kq, x20_2, rfl, HA, HJ2, BK251, BK252, HB⟩ := hcut
    cases kq with
    | zero => exact absurd HA.out (by simp [lunettelaw11_TupleApart.j0])
    | succ kj2 =>
      have H := HA.out
      clear HA
      simp only [lunettelaw11_TupleApart.j0] at H
      by_cases c22 : x20_2 = true
      · subst c22
        have H1 : ((lunettelaw11_awake.f kj2).bind fun t256 => (some t256)) = some r := by rw [if_pos rfl] at H; exact H
        clear H
        have H := H1
        clear H1
        replace H := Option.bind_eq_some_iff.mp H
        obtain ⟨t256, A230, H⟩ := H
        replace H : (some t256) = some r := H
        have A23 := Aside0.mk A230
        clear A230
        obtain rfl := Option.some.inj H
        go_wp2_with (first | ((with_reducible refine gate_callee (f := 11) rfl ?_); refine goesL_ (some 21) rfl rfl Tryd.func11 (by kernel_rfl) rfl #[] rfl (by (try simp only [List.map_toArray, List.map_cons, List.map_nil]); first | done | rfl | (simp only [List.length_drop, List.length_take]; rfl)) ?_; (with_reducible refine (lunettelaw11_awake.calls kj2  t256 _ A23.out).mono ?_); rintro e w24 ⟨rfl, hb⟩; refine ⟨_, rfl, ?_⟩; have n0_ := Aside0.mk (blk_below (g := gb251) (o := .cells #[.string a0_0, .string a0_1, .string a0_2, .string a0_3, .string a0_4, .string a0_5] 26 (0, 0)) (by (with_reducible repeat (first | refine blk_drewN ?_ _ | refine blk_drew ?_ | refine blk_alloc ?_ _)); exact BK251.out) hb); have n1_ := Aside0.mk (blk_below (g := gb252) (o := .cells #[.string a1_0, .string a1_1, .string a1_2, .string a1_3, .string a1_4, .string a1_5] 26 (0, 0)) (by (with_reducible repeat (first | refine blk_drewN ?_ _ | refine blk_drew ?_ | refine blk_alloc ?_ _)); exact BK252.out) hb); have n2_ := Aside0.mk (below_step (by repeat (first | (with_reducible first | exact HB.out | apply below_alloc | apply pw_below_drewN | apply below_drew1 | refine below_set ?_ GE251.out | refine below_set ?_ GE252.out) | exact HB.out)) hb); clear BK251; clear BK252; clear HB; have BK251 := n0_; have BK252 := n1_; have HB := n2_; clear n0_ n1_ n2_; (try clear hb); (try clear hb2); (try clear hk); (try clear hi)))
        go_ret
        exact ⟨by first | rfl | (simp [errW_none, errW_some] <;> rfl) | (simp [*, errW_none, errW_some] <;> rfl), by repeat (first | (with_reducible first | exact HB.out | apply below_alloc | apply pw_below_drewN | apply below_drew1 | refine below_set ?_ GE251.out | refine below_set ?_ GE252.out) | exact HB.out)⟩
      · replace c22 := Bool.eq_false_iff.mpr c22
        subst c22
        have H1 : ((tuple_Show.f a0_0 a0_1 a0_2 a0_3 a0_4 a0_5).bind fun bt257 => ((tuple_Show.f a1_0 a1_1 a1_2 a1_3 a1_4 a1_5).bind fun bt259 => (if bt257.2 = 0 then (if bt259.2 = 0 then (some ((bt257.1.toList == bt259.1.toList) == (a0_0.toList == a1_0.toList && (a0_1.toList == a1_1.toList && (a0_2.toList == a1_2.toList && ((a0_3.toList == a1_3.toList && (a0_4.toList == a1_4.toList && (a0_5.toList == a1_5.toList))))))))) else (some true)) else (some true)))) = some r := by rw [if_neg (show ¬ (false = true) by decide)] at H; exact H
        clear H
        have H := H1
        clear H1
        replace H := Option.bind_eq_some_iff.mp H
        obtain ⟨⟨t257, t258⟩, A250, H⟩ := H
        replace H : ((tuple_Show.f a1_0 a1_1 a1_2 a1_3 a1_4 a1_5).bind fun bt259 => (if t258 = 0 then (if bt259.2 = 0 then (some ((t257.toList == bt259.1.toList) == (a0_0.toList == a1_0.toList && (a0_1.toList == a1_1.toList && (a0_2.toList == a1_2.toList && ((a0_3.toList == a1_3.toList && (a0_4.toList == a1_4.toList && (a0_5.toList == a1_5.toList))))))))) else (some true)) else (some true))) = some r := H
        have A25 := Aside0.mk A250
        clear A250
        replace H := Option.bind_eq_some_iff.mp H
        obtain ⟨⟨t259, t260⟩, A260, H⟩ := H
        replace H : (if t258 = 0 then (if t260 = 0 then (some ((t257.toList == t259.toList) == (a0_0.toList == a1_0.toList && (a0_1.toList == a1_1.toList && (a0_2.toList == a1_2.toList && ((a0_3.toList == a1_3.toList && (a0_4.toList == a1_4.toList && (a0_5.toList == a1_5.toList))))))))) else (some true)) else (some true)) = some r := H
        have A26 := Aside0.mk A260
        clear A260
        by_cases c27 : t258 = 0
        · rw [if_pos c27] at H
          have c27b0 : (t258 == 0) = true := beq_iff_eq.mpr c27
          have c27b1 : (t258 != 0) = false := bne_eq_false_iff_eq.mpr c27
          clear c27
          by_cases c28 : t260 = 0
          · rw [if_pos c28] at H
            have c28b0 : (t260 == 0) = true := beq_iff_eq.mpr c28
            have c28b1 : (t260 != 0) = false := bne_eq_false_iff_eq.mpr c28
            clear c28
            obtain rfl := Option.some.inj H
            have hnb29 := NB251_252.out
            have hnc29 := NB252_251.out
            have hcz30_0 : wc.cell? ⟨gb251, 0, none⟩ = some (.string a0_0) := (blk_cell BK251.out 0).trans rfl
            have hcz30_1 : wc.cell? ⟨gb251, 1, none⟩ = some (.string a0_1) := (blk_cell BK251.out 1).trans rfl
            have hcz30_2 : wc.cell? ⟨gb251, 2, none⟩ = some (.string a0_2) := (blk_cell BK251.out 2).trans rfl
            have hcz30_3 : wc.cell? ⟨gb251, 3, none⟩ = some (.string a0_3) := (blk_cell BK251.out 3).trans rfl
            have hcz30_4 : wc.cell? ⟨gb251, 4, none⟩ = some (.string a0_4) := (blk_cell BK251.out 4).trans rfl
            have hcz30_5 : wc.cell? ⟨gb251, 5, none⟩ = some (.string a0_5) := (blk_cell BK251.out 5).trans rfl
            have hfz30_0 := blk_frozen BK251.out 0
            have hfz30_1 := blk_frozen BK251.out 1
            have hfz30_2 := blk_frozen BK251.out 2
            have hfz30_3 := blk_frozen BK251.out 3
            have hfz30_4 := blk_frozen BK251.out 4
            have hfz30_5 := blk_frozen BK251.out 5
            go_wp2_with (first | ((with_reducible refine gate_callee (f := 17) rfl ?_); refine goesL_ (some 24) rfl rfl Tryd.func17 (by kernel_rfl) rfl #[.agg #[.string a0_0, .string a0_1, .string a0_2, .string a0_3, .string a0_4, .string a0_5]] rfl (by (try simp only [List.map_toArray, List.map_cons, List.map_nil]); first | done | rfl | (simp only [List.length_drop, List.length_take]; rfl)) ?_; (with_reducible refine (tuple_Show.calls a0_0 a0_1 a0_2 a0_3 a0_4 a0_5 t257 t258 _ A25.out).mono ?_); rintro e w31 ⟨rfl, hb⟩; refine ⟨_, rfl, ?_⟩; have n0_ := Aside0.mk (blk_below (g := gb251) (o := .cells #[.string a0_0, .string a0_1, .string a0_2, .string a0_3, .string a0_4, .string a0_5] 26 (0, 0)) (by (with_reducible repeat (first | refine blk_drewN ?_ _ | refine blk_drew ?_ | refine blk_alloc ?_ _)); exact BK251.out) hb); have n1_ := Aside0.mk (blk_below (g := gb252) (o := .cells #[.string a1_0, .string a1_1, .string a1_2, .string a1_3, .string a1_4, .string a1_5] 26 (0, 0)) (by (with_reducible repeat (first | refine blk_drewN ?_ _ | refine blk_drew ?_ | refine blk_alloc ?_ _)); exact BK252.out) hb); have n2_ := Aside0.mk (below_step (by repeat (first | (with_reducible first | exact HB.out | apply below_alloc | apply pw_below_drewN | apply below_drew1 | refine below_set ?_ GE251.out | refine below_set ?_ GE252.out) | exact HB.out)) hb); clear BK251; clear BK252; clear HB; have BK251 := n0_; have BK252 := n1_; have HB := n2_; clear n0_ n1_ n2_; (try clear hb); (try clear hb2); (try clear hk); (try clear hi); have hcz32_0 : w31.cell? ⟨gb252, 0, none⟩ = some (.string a1_0) := (blk_cell BK252.out 0).trans rfl; have hcz32_1 : w31.cell? ⟨gb252, 1, none⟩ = some (.string a1_1) := (blk_cell BK252.out 1).trans rfl; have hcz32_2 : w31.cell? ⟨gb252, 2, none⟩ = some (.string a1_2) := (blk_cell BK252.out 2).trans rfl; have hcz32_3 : w31.cell? ⟨gb252, 3, none⟩ = some (.string a1_3) := (blk_cell BK252.out 3).trans rfl; have hcz32_4 : w31.cell? ⟨gb252, 4, none⟩ = some (.string a1_4) := (blk_cell BK252.out 4).trans rfl; have hcz32_5 : w31.cell? ⟨gb252, 5, none⟩ = some (.string a1_5) := (blk_cell BK252.out 5).trans rfl; have hfz32_0 := blk_frozen BK252.out 0; have hfz32_1 := blk_frozen BK252.out 1; have hfz32_2 := blk_frozen BK252.out 2; have hfz32_3 := blk_frozen BK252.out 3; have hfz32_4 := blk_frozen BK252.out 4; have hfz32_5 := blk_frozen BK252.out 5) | ((with_reducible refine gate_callee (f := 17) rfl ?_); refine goesL_ (some 29) rfl rfl Tryd.func17 (by kernel_rfl) rfl #[.agg #[.string a1_0, .string a1_1, .string a1_2, .string a1_3, .string a1_4, .string a1_5]] rfl (by (try simp only [List.map_toArray, List.map_cons, List.map_nil]); first | done | rfl | (simp only [List.length_drop, List.length_take]; rfl)) ?_; (with_reducible refine (tuple_Show.calls a1_0 a1_1 a1_2 a1_3 a1_4 a1_5 t259 t260 _ A26.out).mono ?_); rintro e w33 ⟨rfl, hb⟩; refine ⟨_, rfl, ?_⟩; have n0_ := Aside0.mk (blk_below (g := gb251) (o := .cells #[.string a0_0, .string a0_1, .string a0_2, .string a0_3, .string a0_4, .string a0_5] 26 (0, 0)) (by (with_reducible repeat (first | refine blk_drewN ?_ _ | refine blk_drew ?_ | refine blk_alloc ?_ _)); exact BK251.out) hb); have n1_ := Aside0.mk (blk_below (g := gb252) (o := .cells #[.string a1_0, .string a1_1, .string a1_2, .string a1_3, .string a1_4, .string a1_5] 26 (0, 0)) (by (with_reducible repeat (first | refine blk_drewN ?_ _ | refine blk_drew ?_ | refine blk_alloc ?_ _)); exact BK252.out) hb); have n2_ := Aside0.mk (below_step (by repeat (first | (with_reducible first | exact HB.out | apply below_alloc | apply pw_below_drewN | apply below_drew1 | refine below_set ?_ GE251.out | refine below_set ?_ GE252.out) | exact HB.out)) hb); clear BK251; clear BK252; clear HB; have BK251 := n0_; have BK252 := n1_; have HB := n2_; clear n0_ n1_ n2_; (try clear hb); (try clear hb2); (try clear hk); (try clear hi); have hcz34_0 : w33.cell? ⟨gb251, 0, none⟩ = some (.string a0_0) := (blk_cell BK251.out 0).trans rfl; have hcz34_1 : w33.cell? ⟨gb251, 1, none⟩ = some (.string a0_1) := (blk_cell BK251.out 1).trans rfl; have hcz34_2 : w33.cell? ⟨gb251, 2, none⟩ = some (.string a0_2) := (blk_cell BK251.out 2).trans rfl; have hcz34_3 : w33.cell? ⟨gb251, 3, none⟩ = some (.string a0_3) := (blk_cell BK251.out 3).trans rfl; have hcz34_4 : w33.cell? ⟨gb251, 4, none⟩ = some (.string a0_4) := (blk_cell BK251.out 4).trans rfl; have hcz34_5 : w33.cell? ⟨gb251, 5, none⟩ = some (.string a0_5) := (blk_cell BK251.out 5).trans rfl; have hfz34_0 := blk_frozen BK251.out 0; have hfz34_1 := blk_frozen BK251.out 1; have hfz34_2 := blk_frozen BK251.out 2; have hfz34_3 := blk_frozen BK251.out 3; have hfz34_4 := blk_frozen BK251.out 4; have hfz34_5 := blk_frozen BK251.out 5; have hcz35_0 : w33.cell? ⟨gb252, 0, none⟩ = some (.string a1_0) := (blk_cell BK252.out 0).trans rfl; have hcz35_1 : w33.cell? ⟨gb252, 1, none⟩ = some (.string a1_1) := (blk_cell BK252.out 1).trans rfl; have hcz35_2 : w33.cell? ⟨gb252, 2, none⟩ = some (.string a1_2) := (blk_cell BK252.out 2).trans rfl; have hcz35_3 : w33.cell? ⟨gb252, 3, none⟩ = some (.string a1_3) := (blk_cell BK252.out 3).trans rfl; have hcz35_4 : w33.cell? ⟨gb252, 4, none⟩ = some (.string a1_4) := (blk_cell BK252.out 4).trans rfl; have hcz35_5 : w33.cell? ⟨gb252, 5, none⟩ = some (.string a1_5) := (blk_cell BK252.out 5).trans rfl; have hfz35_0 := blk_frozen BK252.out 0; have hfz35_1 := blk_frozen BK252.out 1; have hfz35_2 := blk_frozen BK252.out 2; have hfz35_3 := blk_frozen BK252.out 3; have hfz35_4 := blk_frozen BK252.out 4; have hfz35_5 := blk_frozen BK252.out 5))
            go_ret
            exact ⟨by first | rfl | (simp [errW_none, errW_some] <;> rfl) | (simp [*, errW_none, errW_some] <;> rfl), by repeat (first | (with_reducible first | exact HB.out | apply below_alloc | apply pw_below_drewN | apply below_drew1 | refine below_set ?_ GE251.out | refine below_set ?_ GE252.out) | exact HB.out)⟩
          · rw [if_neg c28] at H
            have c28b0 : (t260 == 0) = false := beq_eq_false_iff_ne.mpr c28
            have c28b1 : (t260 != 0) = true := bne_iff_ne.mpr c28
            obtain rfl := Option.some.inj H
            have hnb36 := NB251_252.out
            have hnc36 := NB252_251.out
            have hcz37_0 : wc.cell? ⟨gb251, 0, none⟩ = some (.string a0_0) := (blk_cell BK251.out 0).trans rfl
            have hcz37_1 : wc.cell? ⟨gb251, 1, none⟩ = some (.string a0_1) := (blk_cell BK251.out 1).trans rfl
            have hcz37_2 : wc.cell? ⟨gb251, 2, none⟩ = some (.string a0_2) := (blk_cell BK251.out 2).trans rfl
            have hcz37_3 : wc.cell? ⟨gb251, 3, none⟩ = some (.string a0_3) := (blk_cell BK251.out 3).trans rfl
            have hcz37_4 : wc.cell? ⟨gb251, 4, none⟩ = some (.string a0_4) := (blk_cell BK251.out 4).trans rfl
            have hcz37_5 : wc.cell? ⟨gb251, 5, none⟩ = some (.string a0_5) := (blk_cell BK251.out 5).trans rfl
            have hfz37_0 := blk_frozen BK251.out 0
            have hfz37_1 := blk_frozen BK251.out 1
            have hfz37_2 := blk_frozen BK251.out 2
            have hfz37_3 := blk_frozen BK251.out 3
            have hfz37_4 := blk_frozen BK251.out 4
            have hfz37_5 := blk_frozen BK251.out 5
            go_wp2_with (first | ((with_reducible refine gate_callee (f := 17) rfl ?_); refine goesL_ (some 24) rfl rfl Tryd.func17 (by kernel_rfl) rfl #[.agg #[.string a0_0, .string a0_1, .string a0_2, .string a0_3, .string a0_4, .string a0_5]] rfl (by (try simp only [List.map_toArray, List.map_cons, List.map_nil]); first | done | rfl | (simp only [List.length_drop, List.length_take]; rfl)) ?_; (with_reducible refine (tuple_Show.calls a0_0 a0_1 a0_2 a0_3 a0_4 a0_5 t257 t258 _ A25.out).mono ?_); rintro e w38 ⟨rfl, hb⟩; refine ⟨_, rfl, ?_⟩; have n0_ := Aside0.mk (blk_below (g := gb251) (o := .cells #[.string a0_0, .string a0_1, .string a0_2, .string a0_3, .string a0_4, .string a0_5] 26 (0, 0)) (by (with_reducible repeat (first | refine blk_drewN ?_ _ | refine blk_drew ?_ | refine blk_alloc ?_ _)); exact BK251.out) hb); have n1_ := Aside0.mk (blk_below (g := gb252) (o := .cells #[.string a1_0, .string a1_1, .string a1_2, .string a1_3, .string a1_4, .string a1_5] 26 (0, 0)) (by (with_reducible repeat (first | refine blk_drewN ?_ _ | refine blk_drew ?_ | refine blk_alloc ?_ _)); exact BK252.out) hb); have n2_ := Aside0.mk (below_step (by repeat (first | (with_reducible first | exact HB.out | apply below_alloc | apply pw_below_drewN | apply below_drew1 | refine below_set ?_ GE251.out | refine below_set ?_ GE252.out) | exact HB.out)) hb); clear BK251; clear BK252; clear HB; have BK251 := n0_; have BK252 := n1_; have HB := n2_; clear n0_ n1_ n2_; (try clear hb); (try clear hb2); (try clear hk); (try clear hi); have hcz39_0 : w38.cell? ⟨gb252, 0, none⟩ = some (.string a1_0) := (blk_cell BK252.out 0).trans rfl; have hcz39_1 : w38.cell? ⟨gb252, 1, none⟩ = some (.string a1_1) := (blk_cell BK252.out 1).trans rfl; have hcz39_2 : w38.cell? ⟨gb252, 2, none⟩ = some (.string a1_2) := (blk_cell BK252.out 2).trans rfl; have hcz39_3 : w38.cell? ⟨gb252, 3, none⟩ = some (.string a1_3) := (blk_cell BK252.out 3).trans rfl; have hcz39_4 : w38.cell? ⟨gb252, 4, none⟩ = some (.string a1_4) := (blk_cell BK252.out 4).trans rfl; have hcz39_5 : w38.cell? ⟨gb252, 5, none⟩ = some (.string a1_5) := (blk_cell BK252.out 5).trans rfl; have hfz39_0 := blk_frozen BK252.out 0; have hfz39_1 := blk_frozen BK252.out 1; have hfz39_2 := blk_frozen BK252.out 2; have hfz39_3 := blk_frozen BK252.out 3; have hfz39_4 := blk_frozen BK252.out 4; have hfz39_5 := blk_frozen BK252.out 5) | ((with_reducible refine gate_callee (f := 17) rfl ?_); refine goesL_ (some 29) rfl rfl Tryd.func17 (by kernel_rfl) rfl #[.agg #[.string a1_0, .string a1_1, .string a1_2, .string a1_3, .string a1_4, .string a1_5]] rfl (by (try simp only [List.map_toArray, List.map_cons, List.map_nil]); first | done | rfl | (simp only [List.length_drop, List.length_take]; rfl)) ?_; (with_reducible refine (tuple_Show.calls a1_0 a1_1 a1_2 a1_3 a1_4 a1_5 t259 t260 _ A26.out).mono ?_); rintro e w40 ⟨rfl, hb⟩; refine ⟨_, rfl, ?_⟩; have n0_ := Aside0.mk (blk_below (g := gb251) (o := .cells #[.string a0_0, .string a0_1, .string a0_2, .string a0_3, .string a0_4, .string a0_5] 26 (0, 0)) (by (with_reducible repeat (first | refine blk_drewN ?_ _ | refine blk_drew ?_ | refine blk_alloc ?_ _)); exact BK251.out) hb); have n1_ := Aside0.mk (blk_below (g := gb252) (o := .cells #[.string a1_0, .string a1_1, .string a1_2, .string a1_3, .string a1_4, .string a1_5] 26 (0, 0)) (by (with_reducible repeat (first | refine blk_drewN ?_ _ | refine blk_drew ?_ | refine blk_alloc ?_ _)); exact BK252.out) hb); have n2_ := Aside0.mk (below_step (by repeat (first | (with_reducible first | exact HB.out | apply below_alloc | apply pw_below_drewN | apply below_drew1 | refine below_set ?_ GE251.out | refine below_set ?_ GE252.out) | exact HB.out)) hb); clear BK251; clear BK252; clear HB; have BK251 := n0_; have BK252 := n1_; have HB := n2_; clear n0_ n1_ n2_; (try clear hb); (try clear hb2); (try clear hk); (try clear hi)))
            go_ret
            exact ⟨by first | rfl | (simp [errW_none, errW_some] <;> rfl) | (simp [*, errW_none, errW_some] <;> rfl), by repeat (first | (with_reducible first | exact HB.out | apply below_alloc | apply pw_below_drewN | apply below_drew1 | refine below_set ?_ GE251.out | refine below_set ?_ GE252.out) | exact HB.out)⟩
        · rw [if_neg c27] at H
          have c27b0 : (t258 == 0) = false := beq_eq_false_iff_ne.mpr c27
          have c27b1 : (t258 != 0) = true := bne_iff_ne.mpr c27
          obtain rfl := Option.some.inj H
          have hnb41 := NB251_252.out
          have hnc41 := NB252_251.out
          have hcz42_0 : wc.cell? ⟨gb251, 0, none⟩ = some (.string a0_0) := (blk_cell BK251.out 0).trans rfl
          have hcz42_1 : wc.cell? ⟨gb251, 1, none⟩ = some (.string a0_1) := (blk_cell BK251.out 1).trans rfl
          have hcz42_2 : wc.cell? ⟨gb251, 2, none⟩ = some (.string a0_2) := (blk_cell BK251.out 2).trans rfl
          have hcz42_3 : wc.cell? ⟨gb251, 3, none⟩ = some (.string a0_3) := (blk_cell BK251.out 3).trans rfl
          have hcz42_4 : wc.cell? ⟨gb251, 4, none⟩ = some (.string a0_4) := (blk_cell BK251.out 4).trans rfl
          have hcz42_5 : wc.cell? ⟨gb251, 5, none⟩ = some (.string a0_5) := (blk_cell BK251.out 5).trans rfl
          have hfz42_0 := blk_frozen BK251.out 0
          have hfz42_1 := blk_frozen BK251.out 1
          have hfz42_2 := blk_frozen BK251.out 2
          have hfz42_3 := blk_frozen BK251.out 3
          have hfz42_4 := blk_frozen BK251.out 4
          have hfz42_5 := blk_frozen BK251.out 5
          go_wp2_with (first | ((with_reducible refine gate_callee (f := 17) rfl ?_); refine goesL_ (some 24) rfl rfl Tryd.func17 (by kernel_rfl) rfl #[.agg #[.string a0_0, .string a0_1, .string a0_2, .string a0_3, .string a0_4, .string a0_5]] rfl (by (try simp only [List.map_toArray, List.map_cons, List.map_nil]); first | done | rfl | (simp only [List.length_drop, List.length_take]; rfl)) ?_; (with_reducible refine (tuple_Show.calls a0_0 a0_1 a0_2 a0_3 a0_4 a0_5 t257 t258 _ A25.out).mono ?_); rintro e w43 ⟨rfl, hb⟩; refine ⟨_, rfl, ?_⟩; have n0_ := Aside0.mk (blk_below (g := gb251) (o := .cells #[.string a0_0, .string a0_1, .string a0_2, .string a0_3, .string a0_4, .string a0_5] 26 (0, 0)) (by (with_reducible repeat (first | refine blk_drewN ?_ _ | refine blk_drew ?_ | refine blk_alloc ?_ _)); exact BK251.out) hb); have n1_ := Aside0.mk (blk_below (g := gb252) (o := .cells #[.string a1_0, .string a1_1, .string a1_2, .string a1_3, .string a1_4, .string a1_5] 26 (0, 0)) (by (with_reducible repeat (first | refine blk_drewN ?_ _ | refine blk_drew ?_ | refine blk_alloc ?_ _)); exact BK252.out) hb); have n2_ := Aside0.mk (below_step (by repeat (first | (with_reducible first | exact HB.out | apply below_alloc | apply pw_below_drewN | apply below_drew1 | refine below_set ?_ GE251.out | refine below_set ?_ GE252.out) | exact HB.out)) hb); clear BK251; clear BK252; clear HB; have BK251 := n0_; have BK252 := n1_; have HB := n2_; clear n0_ n1_ n2_; (try clear hb); (try clear hb2); (try clear hk); (try clear hi); have hcz44_0 : w43.cell? ⟨gb252, 0, none⟩ = some (.string a1_0) := (blk_cell BK252.out 0).trans rfl; have hcz44_1 : w43.cell? ⟨gb252, 1, none⟩ = some (.string a1_1) := (blk_cell BK252.out 1).trans rfl; have hcz44_2 : w43.cell? ⟨gb252, 2, none⟩ = some (.string a1_2) := (blk_cell BK252.out 2).trans rfl; have hcz44_3 : w43.cell? ⟨gb252, 3, none⟩ = some (.string a1_3) := (blk_cell BK252.out 3).trans rfl; have hcz44_4 : w43.cell? ⟨gb252, 4, none⟩ = some (.string a1_4) := (blk_cell BK252.out 4).trans rfl; have hcz44_5 : w43.cell? ⟨gb252, 5, none⟩ = some (.string a1_5) := (blk_cell BK252.out 5).trans rfl; have hfz44_0 := blk_frozen BK252.out 0; have hfz44_1 := blk_frozen BK252.out 1; have hfz44_2 := blk_frozen BK252.out 2; have hfz44_3 := blk_frozen BK252.out 3; have hfz44_4 := blk_frozen BK252.out 4; have hfz44_5 := blk_frozen BK252.out 5) | ((with_reducible refine gate_callee (f := 17) rfl ?_); refine goesL_ (some 29) rfl rfl Tryd.func17 (by kernel_rfl) rfl #[.agg #[.string a1_0, .string a1_1, .string a1_2, .string a1_3, .string a1_4, .string a1_5]] rfl (by (try simp only [List.map_toArray, List.map_cons, List.map_nil]); first | done | rfl | (simp only [List.length_drop, List.length_take]; rfl)) ?_; (with_reducible refine (tuple_Show.calls a1_0 a1_1 a1_2 a1_3 a1_4 a1_5 t259 t260 _ A26.out).mono ?_); rintro e w45 ⟨rfl, hb⟩; refine ⟨_, rfl, ?_⟩; have n0_ := Aside0.mk (blk_below (g := gb251) (o := .cells #[.string a0_0, .string a0_1, .string a0_2, .string a0_3, .string a0_4, .string a0_5] 26 (0, 0)) (by (with_reducible repeat (first | refine blk_drewN ?_ _ | refine blk_drew ?_ | refine blk_alloc ?_ _)); exact BK251.out) hb); have n1_ := Aside0.mk (blk_below (g := gb252) (o := .cells #[.string a1_0, .string a1_1, .string a1_2, .string a1_3, .string a1_4, .string a1_5] 26 (0, 0)) (by (with_reducible repeat (first | refine blk_drewN ?_ _ | refine blk_drew ?_ | refine blk_alloc ?_ _)); exact BK252.out) hb); have n2_ := Aside0.mk (below_step (by repeat (first | (with_reducible first | exact HB.out | apply below_alloc | apply pw_below_drewN | apply below_drew1 | refine below_set ?_ GE251.out | refine below_set ?_ GE252.out) | exact HB.out)) hb); clear BK251; clear BK252; clear HB; have BK251 := n0_; have BK252 := n1_; have HB := n2_; clear n0_ n1_ n2_; (try clear hb); (try clear hb2); (try clear hk); (try clear hi)))
          go_ret
          exact ⟨by first | rfl | (simp [errW_none, errW_some] <;> rfl) | (simp [*, errW_none, errW_some] <;> rfl), by repeat (first | (with_reducible first | exact HB.out | apply below_alloc | apply pw_below_drewN | apply below_drew1 | refine below_set ?_ GE251.out | refine below_set ?_ GE252.out) | exact HB.out)⟩

end Go.Proofs.YtggcipjdhhnnkaaDoor.K
