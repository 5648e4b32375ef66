-- Written by a program of this session (wip/pp.py over the kit's print.py). Lean checks it.
import Derived.Test.YtggcipjdhhnnkaaDoorP0
import Derived.Test.YtggcipjdhhnnkaaDoorPMa
import Derived.Test.YtggcipjdhhnnkaaDoorAW
import Derived.Test.YtggcipjdhhnnkaaDoorP22
import Derived.Test.YtggcipjdhhnnkaaDoorPMf
namespace Go.Proofs.YtggcipjdhhnnkaaDoor.K
open Go.RowKit Go.Proofs.YtggcipjdhhnnkaaDoorW.PrintWords Go.Proofs.YtggcipjdhhnnkaaDoorW.PrintLast Go.Proofs.YtggcipjdhhnnkaaDoorW.PrintMore
attribute [local go_sem] max2_int min2_int max_two min_two max_three min_three max_four min_four   -- for this text's walks alone
set_option linter.unusedVariables false
set_option linter.unusedSimpArgs false

/-! ### lunettelaw11_TupleParts: function 7 -/
def lunettelaw11_TupleParts.j0 : Nat → Bool → ByteArray → ByteArray → ByteArray → ByteArray → ByteArray → ByteArray → Option (Bool)
  | 0, _, _, _, _, _, _, _ => none
  | k + 1, x15, x326000, x326001, x326002, x326003, x326004, x326005 => if x15 = true then ((lunettelaw11_awake.f k).bind fun t328 => (some t328)) else ((tuple_Show.f x326000 x326001 x326002 x326003 x326004 x326005).bind fun bt329 => ((tuple_ShowUser.f x326000 x326001 x326002).bind fun bt331 => ((tuple_ShowUser.f x326003 x326004 x326005).bind fun bt333 => (if bt329.2 = 0 then (if bt331.2 = 0 then (if bt333.2 = 0 then (if bt331.1.size + 1 ≤ 9223372036854775807 then (if (bt331.1 ++ (⟨#[64]⟩ : ByteArray)).size + bt333.1.size ≤ 9223372036854775807 then (some (bt329.1.toList == ((bt331.1 ++ (⟨#[64]⟩ : ByteArray)) ++ bt333.1).toList)) else (none)) else (none)) else (some false)) else (some false)) else (if bt331.2 = 0 then (if bt333.2 = 0 then (some (x326002.toList == ([] : List UInt8))) else (some true)) else (some true))))))
def lunettelaw11_TupleParts.f (k : Nat) (a0_0 : ByteArray) (a0_1 : ByteArray) (a0_2 : ByteArray) (a0_3 : ByteArray) (a0_4 : ByteArray) (a0_5 : ByteArray) : Option (Bool) := (lunettelaw11_awake.f k).bind fun t326 => (if t326 = true then ((lunettelaw11_few.f k a0_0 a0_1 a0_2 a0_3 a0_4 a0_5).bind fun t327 => (lunettelaw11_TupleParts.j0 k (!t327) a0_0 a0_1 a0_2 a0_3 a0_4 a0_5)) else (lunettelaw11_TupleParts.j0 k true a0_0 a0_1 a0_2 a0_3 a0_4 a0_5))
theorem lunettelaw11_TupleParts.mono_l : ∀ k, (∀ y0 y1 y2 y3 y4 y5 y6, LeO (lunettelaw11_TupleParts.j0 k y0 y1 y2 y3 y4 y5 y6) (lunettelaw11_TupleParts.j0 (k + 1) y0 y1 y2 y3 y4 y5 y6))
  | 0 => fun _ _ _ _ _ _ _ r h => by simp [lunettelaw11_TupleParts.j0] at h
  | k + 1 => by
    have ih0 := lunettelaw11_TupleParts.mono_l k
    · intro y0 y1 y2 y3 y4 y5 y6
      unfold lunettelaw11_TupleParts.j0
      repeat' first
      | (with_reducible exact ih0 _ _ _ _ _ _ _)
      | (with_reducible exact lunettelaw11_awake.mono _)
      | (with_reducible exact lunettelaw11_few.mono _ _ _ _ _ _ _)
      | (with_reducible exact LeO.refl _)
      | (with_reducible exact LeO.none _)
      | (with_reducible refine LeO.ite ?_ ?_)
      | (with_reducible refine LeO.bind ?_ (fun _ => ?_))
      | exact ih0 _ _ _ _ _ _ _
      | exact lunettelaw11_awake.mono _
      | exact lunettelaw11_few.mono _ _ _ _ _ _ _
      | exact LeO.none _
      | refine LeO.ite ?_ ?_
      | refine LeO.bind ?_ (fun _ => ?_)
theorem lunettelaw11_TupleParts.mono : ∀ a0 a1 a2 a3 a4 a5 k, LeO (lunettelaw11_TupleParts.f k a0 a1 a2 a3 a4 a5) (lunettelaw11_TupleParts.f (k + 1) a0 a1 a2 a3 a4 a5) := by
  intro a0 a1 a2 a3 a4 a5 k
  have ih0 := lunettelaw11_TupleParts.mono_l k
  unfold lunettelaw11_TupleParts.f
  repeat' first
      | (with_reducible exact ih0 _ _ _ _ _ _ _)
      | (with_reducible exact lunettelaw11_awake.mono _)
      | (with_reducible exact lunettelaw11_few.mono _ _ _ _ _ _ _)
      | (with_reducible exact LeO.refl _)
      | (with_reducible exact LeO.none _)
      | (with_reducible refine LeO.ite ?_ ?_)
      | (with_reducible refine LeO.bind ?_ (fun _ => ?_))
      | exact ih0 _ _ _ _ _ _ _
      | exact lunettelaw11_awake.mono _
      | exact lunettelaw11_few.mono _ _ _ _ _ _ _
      | exact LeO.none _
      | refine LeO.ite ?_ ?_
      | refine LeO.bind ?_ (fun _ => ?_)
set_option maxHeartbeats 8000000 in
set_option maxRecDepth 100000 in
theorem lunettelaw11_TupleParts.callsT (k : Nat) (a0_0 : ByteArray) (a0_1 : ByteArray) (a0_2 : ByteArray) (a0_3 : ByteArray) (a0_4 : ByteArray) (a0_5 : ByteArray) (r : Bool) (w : World) (h : lunettelaw11_TupleParts.f k a0_0 a0_1 a0_2 a0_3 a0_4 a0_5 = some r) (hT : r = true) :
    Calls Tryd.prog 7 #[.agg #[.string a0_0, .string a0_1, .string a0_2, .string a0_3, .string a0_4, .string a0_5]] w fun e w' => e = .returned (.bool r) ∧ Below w.heap.size w w' := by
  have hu26 := Tryd.underlying26
  have hu24 := Tryd.underlying24
  have HB := Aside0.mk (Below.refl w.heap.size w)
  have HTRUE := Aside0.mk hT
  clear hT
  have H : ((lunettelaw11_awake.f k).bind fun t326 => (if t326 = true then ((lunettelaw11_few.f k a0_0 a0_1 a0_2 a0_3 a0_4 a0_5).bind fun t327 => (lunettelaw11_TupleParts.j0 k (!t327) a0_0 a0_1 a0_2 a0_3 a0_4 a0_5)) else (lunettelaw11_TupleParts.j0 k true a0_0 a0_1 a0_2 a0_3 a0_4 a0_5))) = some r := h
  clear h
  have HC2 := Aside0.mk H
  clear H
  go_enter Tryd.func7, Tryd.ntmps7
  go_upto_region 1 with (first | ((with_reducible refine gate_dst (N := 1) rfl ?_); refine box_event ?hg (N := 1) ?hd (cs := #[.string a0_0, .string a0_1, .string a0_2, .string a0_3, .string a0_4, .string a0_5]) (t := 26) ?hr ?_; (case hd => rfl); (case hg => rfl); (case hr => first | (go_simp; done) | (go_simp; rfl)); intro gb325 hg w3 hbox hb; have n0_ := Aside0.mk (below_step (by repeat (first | (with_reducible first | exact HB.out | apply below_alloc | apply pw_below_drewN | apply below_drew1) | exact HB.out)) hb); have n1_ := Aside0.mk (hbox); have n2_ := Aside0.mk ((by rw [hg]; exact (below_size (by repeat (first | (with_reducible first | exact HB.out | apply below_alloc | apply pw_below_drewN | apply below_drew1) | exact HB.out))) : w.heap.size ≤ gb325)); have n3_ := Aside0.mk ((by rw [hg]; exact (below_size (by repeat (first | (with_reducible first | exact HB.out | apply below_alloc | apply pw_below_drewN | apply below_drew1) | exact HB.out))) : w.heap.size ≤ gb325)); clear HB; have HB := n0_; have BK325 := n1_; have GW325 := n2_; have GE325 := n3_; clear n0_ n1_ n2_ n3_; clear hb hbox hg))
  (try simp only [Act.put, List.setIfInBounds_toArray, List.set_cons_zero, List.set_cons_succ])
  go_cut [15] (fun v15 wc => ∃ (kq : Nat) (x15_1 : Bool), v15 = .bool x15_1 ∧ Aside0 (lunettelaw11_TupleParts.j0 kq x15_1 a0_0 a0_1 a0_2 a0_3 a0_4 a0_5 = some r) ∧ Aside0 (kq ≤ k) ∧ Aside0 (wc.heap[gb325]? = some (.cells #[.string a0_0, .string a0_1, .string a0_2, .string a0_3, .string a0_4, .string a0_5] 26 (0, 0))) ∧ Aside0 (Below w.heap.size w wc))
  case first =>
    have H := HC2.out
    clear HC2
    replace H := Option.bind_eq_some_iff.mp H
    obtain ⟨t326, A40, H⟩ := H
    replace H : (if t326 = true then ((lunettelaw11_few.f k a0_0 a0_1 a0_2 a0_3 a0_4 a0_5).bind fun t327 => (lunettelaw11_TupleParts.j0 k (!t327) a0_0 a0_1 a0_2 a0_3 a0_4 a0_5)) else (lunettelaw11_TupleParts.j0 k true a0_0 a0_1 a0_2 a0_3 a0_4 a0_5)) = some r := H
    have A4 := Aside0.mk A40
    clear A40
    by_cases c5 : t326 = true
    · subst c5
      have H1 : ((lunettelaw11_few.f k a0_0 a0_1 a0_2 a0_3 a0_4 a0_5).bind fun t327 => (lunettelaw11_TupleParts.j0 k (!t327) a0_0 a0_1 a0_2 a0_3 a0_4 a0_5)) = some r := by rw [if_pos rfl] at H; exact H
      clear H
      have H := H1
      clear H1
      replace H := Option.bind_eq_some_iff.mp H
      obtain ⟨t327, A60, H⟩ := H
      replace H : (lunettelaw11_TupleParts.j0 k (!t327) a0_0 a0_1 a0_2 a0_3 a0_4 a0_5) = some r := H
      have A6 := Aside0.mk A60
      clear A60
      have H' := Aside0.mk H
      clear H
      go_wp2_with (first | ((with_reducible refine gate_callee (f := 11) rfl ?_); refine goesL_ (some 9) rfl rfl Tryd.func11 (by kernel_rfl) rfl #[] rfl (by (try simp only [List.map_toArray, List.map_cons, List.map_nil]); first | done | rfl | (simp only [List.length_drop, List.length_take]; rfl)) ?_; (with_reducible refine (lunettelaw11_awake.calls k  true _ A4.out).mono ?_); rintro e w7 ⟨rfl, hb⟩; refine ⟨_, rfl, ?_⟩; have n0_ := Aside0.mk (blk_below (g := gb325) (o := .cells #[.string a0_0, .string a0_1, .string a0_2, .string a0_3, .string a0_4, .string a0_5] 26 (0, 0)) (by (with_reducible repeat (first | refine blk_drewN ?_ _ | refine blk_drew ?_ | refine blk_alloc ?_ _)); exact BK325.out) hb); have n1_ := Aside0.mk (below_step (by repeat (first | (with_reducible first | exact HB.out | apply below_alloc | apply pw_below_drewN | apply below_drew1 | refine below_set ?_ GE325.out) | exact HB.out)) hb); clear BK325; clear HB; have BK325 := n0_; have HB := n1_; clear n0_ n1_; (try clear hb); (try clear hb2); (try clear hk); (try clear hi); have hcz8_0 : w7.cell? ⟨gb325, 0, none⟩ = some (.string a0_0) := (blk_cell BK325.out 0).trans rfl; have hcz8_1 : w7.cell? ⟨gb325, 1, none⟩ = some (.string a0_1) := (blk_cell BK325.out 1).trans rfl; have hcz8_2 : w7.cell? ⟨gb325, 2, none⟩ = some (.string a0_2) := (blk_cell BK325.out 2).trans rfl; have hcz8_3 : w7.cell? ⟨gb325, 3, none⟩ = some (.string a0_3) := (blk_cell BK325.out 3).trans rfl; have hcz8_4 : w7.cell? ⟨gb325, 4, none⟩ = some (.string a0_4) := (blk_cell BK325.out 4).trans rfl; have hcz8_5 : w7.cell? ⟨gb325, 5, none⟩ = some (.string a0_5) := (blk_cell BK325.out 5).trans rfl; have hfz8_0 := blk_frozen BK325.out 0; have hfz8_1 := blk_frozen BK325.out 1; have hfz8_2 := blk_frozen BK325.out 2; have hfz8_3 := blk_frozen BK325.out 3; have hfz8_4 := blk_frozen BK325.out 4; have hfz8_5 := blk_frozen BK325.out 5) | (go_at_call 16; (with_reducible refine (lunettelaw11_few.calls k a0_0 a0_1 a0_2 a0_3 a0_4 a0_5 t327 _ A6.out).mono ?_); rintro e w9 ⟨rfl, hb⟩; have n0_ := Aside0.mk (blk_below (g := gb325) (o := .cells #[.string a0_0, .string a0_1, .string a0_2, .string a0_3, .string a0_4, .string a0_5] 26 (0, 0)) (by (with_reducible repeat (first | refine blk_drewN ?_ _ | refine blk_drew ?_ | refine blk_alloc ?_ _)); exact BK325.out) hb); have n1_ := Aside0.mk (below_step (by repeat (first | (with_reducible first | exact HB.out | apply below_alloc | apply pw_below_drewN | apply below_drew1 | refine below_set ?_ GE325.out) | exact HB.out)) hb); clear BK325; clear HB; have BK325 := n0_; have HB := n1_; clear n0_ n1_; (try clear hb); (try clear hb2); (try clear hk); (try clear hi)))
      go_meet
      case rel => exact ⟨_, (!t327), (by first | rfl | (simp; done) | (simp [*]; done)), H', ⟨by first | omega | exact Nat.le_refl _⟩, ⟨by (with_reducible repeat (first | refine blk_drewN ?_ _ | refine blk_drew ?_ | refine blk_alloc ?_ _)); exact BK325.out⟩, ⟨by repeat (first | (with_reducible first | exact HB.out | apply below_alloc | apply pw_below_drewN | apply below_drew1 | refine below_set ?_ GE325.out) | exact HB.out)⟩⟩
    · replace c5 := Bool.eq_false_iff.mpr c5
      subst c5
      have H1 : (lunettelaw11_TupleParts.j0 k true a0_0 a0_1 a0_2 a0_3 a0_4 a0_5) = some r := by rw [if_neg (show ¬ (false = true) by decide)] at H; exact H
      clear H
      have H := H1
      clear H1
      have H' := Aside0.mk H
      clear H
      go_wp2_with (first | ((with_reducible refine gate_callee (f := 11) rfl ?_); refine goesL_ (some 9) rfl rfl Tryd.func11 (by kernel_rfl) rfl #[] rfl (by (try simp only [List.map_toArray, List.map_cons, List.map_nil]); first | done | rfl | (simp only [List.length_drop, List.length_take]; rfl)) ?_; (with_reducible refine (lunettelaw11_awake.calls k  false _ A4.out).mono ?_); rintro e w10 ⟨rfl, hb⟩; refine ⟨_, rfl, ?_⟩; have n0_ := Aside0.mk (blk_below (g := gb325) (o := .cells #[.string a0_0, .string a0_1, .string a0_2, .string a0_3, .string a0_4, .string a0_5] 26 (0, 0)) (by (with_reducible repeat (first | refine blk_drewN ?_ _ | refine blk_drew ?_ | refine blk_alloc ?_ _)); exact BK325.out) hb); have n1_ := Aside0.mk (below_step (by repeat (first | (with_reducible first | exact HB.out | apply below_alloc | apply pw_below_drewN | apply below_drew1 | refine below_set ?_ GE325.out) | exact HB.out)) hb); clear BK325; clear HB; have BK325 := n0_; have HB := n1_; clear n0_ n1_; (try clear hb); (try clear hb2); (try clear hk); (try clear hi)))
      go_meet
      case rel => exact ⟨_, (true), (by first | rfl | (simp; done) | (simp [*]; done)), H', ⟨by first | omega | exact Nat.le_refl _⟩, ⟨by (with_reducible repeat (first | refine blk_drewN ?_ _ | refine blk_drew ?_ | refine blk_alloc ?_ _)); exact BK325.out⟩, ⟨by repeat (first | (with_reducible first | exact HB.out | apply below_alloc | apply pw_below_drewN | apply below_drew1 | refine below_set ?_ GE325.out) | exact HB.out)⟩⟩
  case rest =>
    clear HC2
    try clear c1
    try clear p2
    try clear c5
    try clear c7
    try clear hcz8_0
    try clear hcz8_1
    try clear hcz8_2
    try clear hcz8_3
    try clear hcz8_4
    try clear hcz8_5
    try clear hfz8_0
    try clear hfz8_1
    try clear hfz8_2
    try clear hfz8_3
    try clear hfz8_4
    try clear hfz8_5
    obtain ⟨kq, x15_1, rfl, HA, HJ1, BK325, HB⟩ := hcut
    cases kq with
    | zero => exact absurd HA.out (by simp [lunettelaw11_TupleParts.j0])
    | succ kj1 =>
      have H := HA.out
      clear HA
      simp only [lunettelaw11_TupleParts.j0] at H
      by_cases c11 : x15_1 = true
      · subst c11
        have H1 : ((lunettelaw11_awake.f kj1).bind fun t328 => (some t328)) = some r := by rw [if_pos rfl] at H; exact H
        clear H
        have H := H1
        clear H1
        replace H := Option.bind_eq_some_iff.mp H
        obtain ⟨t328, A120, H⟩ := H
        replace H : (some t328) = some r := H
        have A12 := Aside0.mk A120
        clear A120
        obtain rfl := Option.some.inj H
        go_wp2_with (first | ((with_reducible refine gate_callee (f := 11) rfl ?_); refine goesL_ (some 16) rfl rfl Tryd.func11 (by kernel_rfl) rfl #[] rfl (by (try simp only [List.map_toArray, List.map_cons, List.map_nil]); first | done | rfl | (simp only [List.length_drop, List.length_take]; rfl)) ?_; (with_reducible refine (lunettelaw11_awake.calls kj1  t328 _ A12.out).mono ?_); rintro e w13 ⟨rfl, hb⟩; refine ⟨_, rfl, ?_⟩; have n0_ := Aside0.mk (blk_below (g := gb325) (o := .cells #[.string a0_0, .string a0_1, .string a0_2, .string a0_3, .string a0_4, .string a0_5] 26 (0, 0)) (by (with_reducible repeat (first | refine blk_drewN ?_ _ | refine blk_drew ?_ | refine blk_alloc ?_ _)); exact BK325.out) hb); have n1_ := Aside0.mk (below_step (by repeat (first | (with_reducible first | exact HB.out | apply below_alloc | apply pw_below_drewN | apply below_drew1 | refine below_set ?_ GE325.out) | exact HB.out)) hb); clear BK325; clear HB; have BK325 := n0_; have HB := n1_; clear n0_ n1_; (try clear hb); (try clear hb2); (try clear hk); (try clear hi)))
        go_ret
        exact ⟨by first | rfl | (simp [errW_none, errW_some] <;> rfl) | (simp [*, errW_none, errW_some] <;> rfl), by repeat (first | (with_reducible first | exact HB.out | apply below_alloc | apply pw_below_drewN | apply below_drew1 | refine below_set ?_ GE325.out) | exact HB.out)⟩
      · replace c11 := Bool.eq_false_iff.mpr c11
        subst c11
        have H1 : ((tuple_Show.f a0_0 a0_1 a0_2 a0_3 a0_4 a0_5).bind fun bt329 => ((tuple_ShowUser.f a0_0 a0_1 a0_2).bind fun bt331 => ((tuple_ShowUser.f a0_3 a0_4 a0_5).bind fun bt333 => (if bt329.2 = 0 then (if bt331.2 = 0 then (if bt333.2 = 0 then (if bt331.1.size + 1 ≤ 9223372036854775807 then (if (bt331.1 ++ (⟨#[64]⟩ : ByteArray)).size + bt333.1.size ≤ 9223372036854775807 then (some (bt329.1.toList == ((bt331.1 ++ (⟨#[64]⟩ : ByteArray)) ++ bt333.1).toList)) else (none)) else (none)) else (some false)) else (some false)) else (if bt331.2 = 0 then (if bt333.2 = 0 then (some (a0_2.toList == ([] : List UInt8))) else (some true)) else (some true)))))) = some r := by rw [if_neg (show ¬ (false = true) by decide)] at H; exact H
        clear H
        have H := H1
        clear H1
        replace H := Option.bind_eq_some_iff.mp H
        obtain ⟨⟨t329, t330⟩, A140, H⟩ := H
        replace H : ((tuple_ShowUser.f a0_0 a0_1 a0_2).bind fun bt331 => ((tuple_ShowUser.f a0_3 a0_4 a0_5).bind fun bt333 => (if t330 = 0 then (if bt331.2 = 0 then (if bt333.2 = 0 then (if bt331.1.size + 1 ≤ 9223372036854775807 then (if (bt331.1 ++ (⟨#[64]⟩ : ByteArray)).size + bt333.1.size ≤ 9223372036854775807 then (some (t329.toList == ((bt331.1 ++ (⟨#[64]⟩ : ByteArray)) ++ bt333.1).toList)) else (none)) else (none)) else (some false)) else (some false)) else (if bt331.2 = 0 then (if bt333.2 = 0 then (some (a0_2.toList == ([] : List UInt8))) else (some true)) else (some true))))) = some r := H
        have A14 := Aside0.mk A140
        clear A140
        replace H := Option.bind_eq_some_iff.mp H
        obtain ⟨⟨t331, t332⟩, A150, H⟩ := H
        replace H : ((tuple_ShowUser.f a0_3 a0_4 a0_5).bind fun bt333 => (if t330 = 0 then (if t332 = 0 then (if bt333.2 = 0 then (if t331.size + 1 ≤ 9223372036854775807 then (if (t331 ++ (⟨#[64]⟩ : ByteArray)).size + bt333.1.size ≤ 9223372036854775807 then (some (t329.toList == ((t331 ++ (⟨#[64]⟩ : ByteArray)) ++ bt333.1).toList)) else (none)) else (none)) else (some false)) else (some false)) else (if t332 = 0 then (if bt333.2 = 0 then (some (a0_2.toList == ([] : List UInt8))) else (some true)) else (some true)))) = some r := H
        have A15 := Aside0.mk A150
        clear A150
        replace H := Option.bind_eq_some_iff.mp H
        obtain ⟨⟨t333, t334⟩, A160, H⟩ := H
        replace H : (if t330 = 0 then (if t332 = 0 then (if t334 = 0 then (if t331.size + 1 ≤ 9223372036854775807 then (if (t331 ++ (⟨#[64]⟩ : ByteArray)).size + t333.size ≤ 9223372036854775807 then (some (t329.toList == ((t331 ++ (⟨#[64]⟩ : ByteArray)) ++ t333).toList)) else (none)) else (none)) else (some false)) else (some false)) else (if t332 = 0 then (if t334 = 0 then (some (a0_2.toList == ([] : List UInt8))) else (some true)) else (some true))) = some r := H
        have A16 := Aside0.mk A160
        clear A160
        by_cases c17 : t330 = 0
        · rw [if_pos c17] at H
          have c17b0 : (t330 == 0) = true := beq_iff_eq.mpr c17
          have c17b1 : (t330 != 0) = false := bne_eq_false_iff_eq.mpr c17
          clear c17
          by_cases c18 : t332 = 0
          · rw [if_pos c18] at H
            have c18b0 : (t332 == 0) = true := beq_iff_eq.mpr c18
            have c18b1 : (t332 != 0) = false := bne_eq_false_iff_eq.mpr c18
            clear c18
            by_cases c19 : t334 = 0
            · rw [if_pos c19] at H
              have c19b0 : (t334 == 0) = true := beq_iff_eq.mpr c19
              have c19b1 : (t334 != 0) = false := bne_eq_false_iff_eq.mpr c19
              clear c19
              by_cases c20 : t331.size + 1 ≤ 9223372036854775807
              · rw [if_pos c20] at H
                have c20b0 := eq_true c20
                have c20b1 : decide (t331.size + 1 ≤ 9223372036854775807) = true := decide_eq_true c20
                try have c20b2 : (9223372036854775807 < t331.size + 1) = False := eq_false (Nat.not_lt.2 c20)
                by_cases c21 : (t331 ++ (⟨#[64]⟩ : ByteArray)).size + t333.size ≤ 9223372036854775807
                · rw [if_pos c21] at H
                  have c21b0 := eq_true c21
                  have c21b1 : decide ((t331 ++ (⟨#[64]⟩ : ByteArray)).size + t333.size ≤ 9223372036854775807) = true := decide_eq_true c21
                  try have c21b2 : (9223372036854775807 < (t331 ++ (⟨#[64]⟩ : ByteArray)).size + t333.size) = False := eq_false (Nat.not_lt.2 c21)
                  try have c21n : t331.size + 1 + t333.size ≤ 9223372036854775807 := by (have L0_ : (⟨#[64]⟩ : ByteArray).size = 1 := rfl; have Q_ := c21; simp only [ByteArray.size_append, ByteArray.size_extract] at Q_; first | omega | (simp at Q_ ⊢; omega) | (simp at Q_; omega))
                  try have c21m : (9223372036854775807 < t331.size + 1 + t333.size) = False := eq_false (Nat.not_lt.2 c21n)
                  obtain rfl := Option.some.inj H
                  have hcz22_0 : wc.cell? ⟨gb325, 0, none⟩ = some (.string a0_0) := (blk_cell BK325.out 0).trans rfl
                  have hcz22_1 : wc.cell? ⟨gb325, 1, none⟩ = some (.string a0_1) := (blk_cell BK325.out 1).trans rfl
                  have hcz22_2 : wc.cell? ⟨gb325, 2, none⟩ = some (.string a0_2) := (blk_cell BK325.out 2).trans rfl
                  have hcz22_3 : wc.cell? ⟨gb325, 3, none⟩ = some (.string a0_3) := (blk_cell BK325.out 3).trans rfl
                  have hcz22_4 : wc.cell? ⟨gb325, 4, none⟩ = some (.string a0_4) := (blk_cell BK325.out 4).trans rfl
                  have hcz22_5 : wc.cell? ⟨gb325, 5, none⟩ = some (.string a0_5) := (blk_cell BK325.out 5).trans rfl
                  have hfz22_0 := blk_frozen BK325.out 0
                  have hfz22_1 := blk_frozen BK325.out 1
                  have hfz22_2 := blk_frozen BK325.out 2
                  have hfz22_3 := blk_frozen BK325.out 3
                  have hfz22_4 := blk_frozen BK325.out 4
                  have hfz22_5 := blk_frozen BK325.out 5
                  go_wp2_with (first | ((with_reducible refine gate_callee (f := 17) rfl ?_); refine goesL_ (some 19) rfl rfl Tryd.func17 (by kernel_rfl) rfl #[.agg #[.string a0_0, .string a0_1, .string a0_2, .string a0_3, .string a0_4, .string a0_5]] rfl (by (try simp only [List.map_toArray, List.map_cons, List.map_nil]); first | done | rfl | (simp only [List.length_drop, List.length_take]; rfl)) ?_; (with_reducible refine (tuple_Show.calls a0_0 a0_1 a0_2 a0_3 a0_4 a0_5 t329 t330 _ A14.out).mono ?_); rintro e w23 ⟨rfl, hb⟩; refine ⟨_, rfl, ?_⟩; have n0_ := Aside0.mk (blk_below (g := gb325) (o := .cells #[.string a0_0, .string a0_1, .string a0_2, .string a0_3, .string a0_4, .string a0_5] 26 (0, 0)) (by (with_reducible repeat (first | refine blk_drewN ?_ _ | refine blk_drew ?_ | refine blk_alloc ?_ _)); exact BK325.out) hb); have n1_ := Aside0.mk (below_step (by repeat (first | (with_reducible first | exact HB.out | apply below_alloc | apply pw_below_drewN | apply below_drew1 | refine below_set ?_ GE325.out) | exact HB.out)) hb); clear BK325; clear HB; have BK325 := n0_; have HB := n1_; clear n0_ n1_; (try clear hb); (try clear hb2); (try clear hk); (try clear hi); have hcz24_0 : w23.cell? ⟨gb325, 0, none⟩ = some (.string a0_0) := (blk_cell BK325.out 0).trans rfl; have hcz24_1 : w23.cell? ⟨gb325, 1, none⟩ = some (.string a0_1) := (blk_cell BK325.out 1).trans rfl; have hcz24_2 : w23.cell? ⟨gb325, 2, none⟩ = some (.string a0_2) := (blk_cell BK325.out 2).trans rfl; have hcz24_3 : w23.cell? ⟨gb325, 3, none⟩ = some (.string a0_3) := (blk_cell BK325.out 3).trans rfl; have hcz24_4 : w23.cell? ⟨gb325, 4, none⟩ = some (.string a0_4) := (blk_cell BK325.out 4).trans rfl; have hcz24_5 : w23.cell? ⟨gb325, 5, none⟩ = some (.string a0_5) := (blk_cell BK325.out 5).trans rfl; have hfz24_0 := blk_frozen BK325.out 0; have hfz24_1 := blk_frozen BK325.out 1; have hfz24_2 := blk_frozen BK325.out 2; have hfz24_3 := blk_frozen BK325.out 3; have hfz24_4 := blk_frozen BK325.out 4; have hfz24_5 := blk_frozen BK325.out 5) | ((with_reducible refine gate_callee (f := 22) rfl ?_); refine goesL_ (some 30) rfl rfl Tryd.func22 (by kernel_rfl) rfl #[.agg #[.string a0_0, .string a0_1, .string a0_2]] rfl (by (try simp only [List.map_toArray, List.map_cons, List.map_nil]); first | done | rfl | (simp only [List.length_drop, List.length_take]; rfl)) ?_; (with_reducible refine (tuple_ShowUser.calls a0_0 a0_1 a0_2 t331 t332 _ A15.out).mono ?_); rintro e w25 ⟨rfl, hb⟩; refine ⟨_, rfl, ?_⟩; have n0_ := Aside0.mk (blk_below (g := gb325) (o := .cells #[.string a0_0, .string a0_1, .string a0_2, .string a0_3, .string a0_4, .string a0_5] 26 (0, 0)) (by (with_reducible repeat (first | refine blk_drewN ?_ _ | refine blk_drew ?_ | refine blk_alloc ?_ _)); exact BK325.out) hb); have n1_ := Aside0.mk (below_step (by repeat (first | (with_reducible first | exact HB.out | apply below_alloc | apply pw_below_drewN | apply below_drew1 | refine below_set ?_ GE325.out) | exact HB.out)) hb); clear BK325; clear HB; have BK325 := n0_; have HB := n1_; clear n0_ n1_; (try clear hb); (try clear hb2); (try clear hk); (try clear hi); have hcz26_0 : w25.cell? ⟨gb325, 0, none⟩ = some (.string a0_0) := (blk_cell BK325.out 0).trans rfl; have hcz26_1 : w25.cell? ⟨gb325, 1, none⟩ = some (.string a0_1) := (blk_cell BK325.out 1).trans rfl; have hcz26_2 : w25.cell? ⟨gb325, 2, none⟩ = some (.string a0_2) := (blk_cell BK325.out 2).trans rfl; have hcz26_3 : w25.cell? ⟨gb325, 3, none⟩ = some (.string a0_3) := (blk_cell BK325.out 3).trans rfl; have hcz26_4 : w25.cell? ⟨gb325, 4, none⟩ = some (.string a0_4) := (blk_cell BK325.out 4).trans rfl; have hcz26_5 : w25.cell? ⟨gb325, 5, none⟩ = some (.string a0_5) := (blk_cell BK325.out 5).trans rfl; have hfz26_0 := blk_frozen BK325.out 0; have hfz26_1 := blk_frozen BK325.out 1; have hfz26_2 := blk_frozen BK325.out 2; have hfz26_3 := blk_frozen BK325.out 3; have hfz26_4 := blk_frozen BK325.out 4; have hfz26_5 := blk_frozen BK325.out 5) | ((with_reducible refine gate_callee (f := 22) rfl ?_); refine goesL_ (some 36) rfl rfl Tryd.func22 (by kernel_rfl) rfl #[.agg #[.string a0_3, .string a0_4, .string a0_5]] rfl (by (try simp only [List.map_toArray, List.map_cons, List.map_nil]); first | done | rfl | (simp only [List.length_drop, List.length_take]; rfl)) ?_; (with_reducible refine (tuple_ShowUser.calls a0_3 a0_4 a0_5 t333 t334 _ A16.out).mono ?_); rintro e w27 ⟨rfl, hb⟩; refine ⟨_, rfl, ?_⟩; have n0_ := Aside0.mk (blk_below (g := gb325) (o := .cells #[.string a0_0, .string a0_1, .string a0_2, .string a0_3, .string a0_4, .string a0_5] 26 (0, 0)) (by (with_reducible repeat (first | refine blk_drewN ?_ _ | refine blk_drew ?_ | refine blk_alloc ?_ _)); exact BK325.out) hb); have n1_ := Aside0.mk (below_step (by repeat (first | (with_reducible first | exact HB.out | apply below_alloc | apply pw_below_drewN | apply below_drew1 | refine below_set ?_ GE325.out) | exact HB.out)) hb); clear BK325; clear HB; have BK325 := n0_; have HB := n1_; clear n0_ n1_; (try clear hb); (try clear hb2); (try clear hk); (try clear hi)))
                  go_ret
                  exact ⟨by first | rfl | (simp [errW_none, errW_some] <;> rfl) | (simp [*, errW_none, errW_some] <;> rfl), by repeat (first | (with_reducible first | exact HB.out | apply below_alloc | apply pw_below_drewN | apply below_drew1 | refine below_set ?_ GE325.out) | exact HB.out)⟩
                · rw [if_neg c21] at H
                  exact absurd H (by simp)
              · rw [if_neg c20] at H
                exact absurd H (by simp)
            · rw [if_neg c19] at H
              have c19b0 : (t334 == 0) = false := beq_eq_false_iff_ne.mpr c19
              have c19b1 : (t334 != 0) = true := bne_iff_ne.mpr c19
              exact absurd ((Option.some.inj H).trans HTRUE.out) (by decide)
          · rw [if_neg c18] at H
            have c18b0 : (t332 == 0) = false := beq_eq_false_iff_ne.mpr c18
            have c18b1 : (t332 != 0) = true := bne_iff_ne.mpr c18
            exact absurd ((Option.some.inj H).trans HTRUE.out) (by decide)
        · rw [if_neg c17] at H
          have c17b0 : (t330 == 0) = false := beq_eq_false_iff_ne.mpr c17
          have c17b1 : (t330 != 0) = true := bne_iff_ne.mpr c17
          by_cases c28 : t332 = 0
          · rw [if_pos c28] at H
            have c28b0 : (t332 == 0) = true := beq_iff_eq.mpr c28
            have c28b1 : (t332 != 0) = false := bne_eq_false_iff_eq.mpr c28
            clear c28
            by_cases c29 : t334 = 0
            · rw [if_pos c29] at H
              have c29b0 : (t334 == 0) = true := beq_iff_eq.mpr c29
              have c29b1 : (t334 != 0) = false := bne_eq_false_iff_eq.mpr c29
              clear c29
              obtain rfl := Option.some.inj H
              have hcz30_0 : wc.cell? ⟨gb325, 0, none⟩ = some (.string a0_0) := (blk_cell BK325.out 0).trans rfl
              have hcz30_1 : wc.cell? ⟨gb325, 1, none⟩ = some (.string a0_1) := (blk_cell BK325.out 1).trans rfl
              have hcz30_2 : wc.cell? ⟨gb325, 2, none⟩ = some (.string a0_2) := (blk_cell BK325.out 2).trans rfl
              have hcz30_3 : wc.cell? ⟨gb325, 3, none⟩ = some (.string a0_3) := (blk_cell BK325.out 3).trans rfl
              have hcz30_4 : wc.cell? ⟨gb325, 4, none⟩ = some (.string a0_4) := (blk_cell BK325.out 4).trans rfl
              have hcz30_5 : wc.cell? ⟨gb325, 5, none⟩ = some (.string a0_5) := (blk_cell BK325.out 5).trans rfl
              have hfz30_0 := blk_frozen BK325.out 0
              have hfz30_1 := blk_frozen BK325.out 1
              have hfz30_2 := blk_frozen BK325.out 2
              have hfz30_3 := blk_frozen BK325.out 3
              have hfz30_4 := blk_frozen BK325.out 4
              have hfz30_5 := blk_frozen BK325.out 5
              go_wp2_with (first | ((with_reducible refine gate_callee (f := 17) rfl ?_); refine goesL_ (some 19) rfl rfl Tryd.func17 (by kernel_rfl) rfl #[.agg #[.string a0_0, .string a0_1, .string a0_2, .string a0_3, .string a0_4, .string a0_5]] rfl (by (try simp only [List.map_toArray, List.map_cons, List.map_nil]); first | done | rfl | (simp only [List.length_drop, List.length_take]; rfl)) ?_; (with_reducible refine (tuple_Show.calls a0_0 a0_1 a0_2 a0_3 a0_4 a0_5 t329 t330 _ A14.out).mono ?_); rintro e w31 ⟨rfl, hb⟩; refine ⟨_, rfl, ?_⟩; have n0_ := Aside0.mk (blk_below (g := gb325) (o := .cells #[.string a0_0, .string a0_1, .string a0_2, .string a0_3, .string a0_4, .string a0_5] 26 (0, 0)) (by (with_reducible repeat (first | refine blk_drewN ?_ _ | refine blk_drew ?_ | refine blk_alloc ?_ _)); exact BK325.out) hb); have n1_ := Aside0.mk (below_step (by repeat (first | (with_reducible first | exact HB.out | apply below_alloc | apply pw_below_drewN | apply below_drew1 | refine below_set ?_ GE325.out) | exact HB.out)) hb); clear BK325; clear HB; have BK325 := n0_; have HB := n1_; clear n0_ n1_; (try clear hb); (try clear hb2); (try clear hk); (try clear hi); have hcz32_0 : w31.cell? ⟨gb325, 0, none⟩ = some (.string a0_0) := (blk_cell BK325.out 0).trans rfl; have hcz32_1 : w31.cell? ⟨gb325, 1, none⟩ = some (.string a0_1) := (blk_cell BK325.out 1).trans rfl; have hcz32_2 : w31.cell? ⟨gb325, 2, none⟩ = some (.string a0_2) := (blk_cell BK325.out 2).trans rfl; have hcz32_3 : w31.cell? ⟨gb325, 3, none⟩ = some (.string a0_3) := (blk_cell BK325.out 3).trans rfl; have hcz32_4 : w31.cell? ⟨gb325, 4, none⟩ = some (.string a0_4) := (blk_cell BK325.out 4).trans rfl; have hcz32_5 : w31.cell? ⟨gb325, 5, none⟩ = some (.string a0_5) := (blk_cell BK325.out 5).trans rfl; have hfz32_0 := blk_frozen BK325.out 0; have hfz32_1 := blk_frozen BK325.out 1; have hfz32_2 := blk_frozen BK325.out 2; have hfz32_3 := blk_frozen BK325.out 3; have hfz32_4 := blk_frozen BK325.out 4; have hfz32_5 := blk_frozen BK325.out 5) | ((with_reducible refine gate_callee (f := 22) rfl ?_); refine goesL_ (some 30) rfl rfl Tryd.func22 (by kernel_rfl) rfl #[.agg #[.string a0_0, .string a0_1, .string a0_2]] rfl (by (try simp only [List.map_toArray, List.map_cons, List.map_nil]); first | done | rfl | (simp only [List.length_drop, List.length_take]; rfl)) ?_; (with_reducible refine (tuple_ShowUser.calls a0_0 a0_1 a0_2 t331 t332 _ A15.out).mono ?_); rintro e w33 ⟨rfl, hb⟩; refine ⟨_, rfl, ?_⟩; have n0_ := Aside0.mk (blk_below (g := gb325) (o := .cells #[.string a0_0, .string a0_1, .string a0_2, .string a0_3, .string a0_4, .string a0_5] 26 (0, 0)) (by (with_reducible repeat (first | refine blk_drewN ?_ _ | refine blk_drew ?_ | refine blk_alloc ?_ _)); exact BK325.out) hb); have n1_ := Aside0.mk (below_step (by repeat (first | (with_reducible first | exact HB.out | apply below_alloc | apply pw_below_drewN | apply below_drew1 | refine below_set ?_ GE325.out) | exact HB.out)) hb); clear BK325; clear HB; have BK325 := n0_; have HB := n1_; clear n0_ n1_; (try clear hb); (try clear hb2); (try clear hk); (try clear hi); have hcz34_0 : w33.cell? ⟨gb325, 0, none⟩ = some (.string a0_0) := (blk_cell BK325.out 0).trans rfl; have hcz34_1 : w33.cell? ⟨gb325, 1, none⟩ = some (.string a0_1) := (blk_cell BK325.out 1).trans rfl; have hcz34_2 : w33.cell? ⟨gb325, 2, none⟩ = some (.string a0_2) := (blk_cell BK325.out 2).trans rfl; have hcz34_3 : w33.cell? ⟨gb325, 3, none⟩ = some (.string a0_3) := (blk_cell BK325.out 3).trans rfl; have hcz34_4 : w33.cell? ⟨gb325, 4, none⟩ = some (.string a0_4) := (blk_cell BK325.out 4).trans rfl; have hcz34_5 : w33.cell? ⟨gb325, 5, none⟩ = some (.string a0_5) := (blk_cell BK325.out 5).trans rfl; have hfz34_0 := blk_frozen BK325.out 0; have hfz34_1 := blk_frozen BK325.out 1; have hfz34_2 := blk_frozen BK325.out 2; have hfz34_3 := blk_frozen BK325.out 3; have hfz34_4 := blk_frozen BK325.out 4; have hfz34_5 := blk_frozen BK325.out 5) | ((with_reducible refine gate_callee (f := 22) rfl ?_); refine goesL_ (some 36) rfl rfl Tryd.func22 (by kernel_rfl) rfl #[.agg #[.string a0_3, .string a0_4, .string a0_5]] rfl (by (try simp only [List.map_toArray, List.map_cons, List.map_nil]); first | done | rfl | (simp only [List.length_drop, List.length_take]; rfl)) ?_; (with_reducible refine (tuple_ShowUser.calls a0_3 a0_4 a0_5 t333 t334 _ A16.out).mono ?_); rintro e w35 ⟨rfl, hb⟩; refine ⟨_, rfl, ?_⟩; have n0_ := Aside0.mk (blk_below (g := gb325) (o := .cells #[.string a0_0, .string a0_1, .string a0_2, .string a0_3, .string a0_4, .string a0_5] 26 (0, 0)) (by (with_reducible repeat (first | refine blk_drewN ?_ _ | refine blk_drew ?_ | refine blk_alloc ?_ _)); exact BK325.out) hb); have n1_ := Aside0.mk (below_step (by repeat (first | (with_reducible first | exact HB.out | apply below_alloc | apply pw_below_drewN | apply below_drew1 | refine below_set ?_ GE325.out) | exact HB.out)) hb); clear BK325; clear HB; have BK325 := n0_; have HB := n1_; clear n0_ n1_; (try clear hb); (try clear hb2); (try clear hk); (try clear hi); have hcz36_0 : w35.cell? ⟨gb325, 0, none⟩ = some (.string a0_0) := (blk_cell BK325.out 0).trans rfl; have hcz36_1 : w35.cell? ⟨gb325, 1, none⟩ = some (.string a0_1) := (blk_cell BK325.out 1).trans rfl; have hcz36_2 : w35.cell? ⟨gb325, 2, none⟩ = some (.string a0_2) := (blk_cell BK325.out 2).trans rfl; have hcz36_3 : w35.cell? ⟨gb325, 3, none⟩ = some (.string a0_3) := (blk_cell BK325.out 3).trans rfl; have hcz36_4 : w35.cell? ⟨gb325, 4, none⟩ = some (.string a0_4) := (blk_cell BK325.out 4).trans rfl; have hcz36_5 : w35.cell? ⟨gb325, 5, none⟩ = some (.string a0_5) := (blk_cell BK325.out 5).trans rfl; have hfz36_0 := blk_frozen BK325.out 0; have hfz36_1 := blk_frozen BK325.out 1; have hfz36_2 := blk_frozen BK325.out 2; have hfz36_3 := blk_frozen BK325.out 3; have hfz36_4 := blk_frozen BK325.out 4; have hfz36_5 := blk_frozen BK325.out 5))
              go_ret
              exact ⟨by first | rfl | (simp [errW_none, errW_some] <;> rfl) | (simp [*, errW_none, errW_some] <;> rfl), by repeat (first | (with_reducible first | exact HB.out | apply below_alloc | apply pw_below_drewN | apply below_drew1 | refine below_set ?_ GE325.out) | exact HB.out)⟩
            · rw [if_neg c29] at H
              have c29b0 : (t334 == 0) = false := beq_eq_false_iff_ne.mpr c29
              have c29b1 : (t334 != 0) = true := bne_iff_ne.mpr c29
              obtain rfl := Option.some.inj H
              have hcz37_0 : wc.cell? ⟨gb325, 0, none⟩ = some (.string a0_0) := (blk_cell BK325.out 0).trans rfl
              have hcz37_1 : wc.cell? ⟨gb325, 1, none⟩ = some (.string a0_1) := (blk_cell BK325.out 1).trans rfl
              have hcz37_2 : wc.cell? ⟨gb325, 2, none⟩ = some (.string a0_2) := (blk_cell BK325.out 2).trans rfl
              have hcz37_3 : wc.cell? ⟨gb325, 3, none⟩ = some (.string a0_3) := (blk_cell BK325.out 3).trans rfl
              have hcz37_4 : wc.cell? ⟨gb325, 4, none⟩ = some (.string a0_4) := (blk_cell BK325.out 4).trans rfl
              have hcz37_5 : wc.cell? ⟨gb325, 5, none⟩ = some (.string a0_5) := (blk_cell BK325.out 5).trans rfl
              have hfz37_0 := blk_frozen BK325.out 0
              have hfz37_1 := blk_frozen BK325.out 1
              have hfz37_2 := blk_frozen BK325.out 2
              have hfz37_3 := blk_frozen BK325.out 3
              have hfz37_4 := blk_frozen BK325.out 4
              have hfz37_5 := blk_frozen BK325.out 5
              go_wp2_with (first | ((with_reducible refine gate_callee (f := 17) rfl ?_); refine goesL_ (some 19) rfl rfl Tryd.func17 (by kernel_rfl) rfl #[.agg #[.string a0_0, .string a0_1, .string a0_2, .string a0_3, .string a0_4, .string a0_5]] rfl (by (try simp only [List.map_toArray, List.map_cons, List.map_nil]); first | done | rfl | (simp only [List.length_drop, List.length_take]; rfl)) ?_; (with_reducible refine (tuple_Show.calls a0_0 a0_1 a0_2 a0_3 a0_4 a0_5 t329 t330 _ A14.out).mono ?_); rintro e w38 ⟨rfl, hb⟩; refine ⟨_, rfl, ?_⟩; have n0_ := Aside0.mk (blk_below (g := gb325) (o := .cells #[.string a0_0, .string a0_1, .string a0_2, .string a0_3, .string a0_4, .string a0_5] 26 (0, 0)) (by (with_reducible repeat (first | refine blk_drewN ?_ _ | refine blk_drew ?_ | refine blk_alloc ?_ _)); exact BK325.out) hb); have n1_ := Aside0.mk (below_step (by repeat (first | (with_reducible first | exact HB.out | apply below_alloc | apply pw_below_drewN | apply below_drew1 | refine below_set ?_ GE325.out) | exact HB.out)) hb); clear BK325; clear HB; have BK325 := n0_; have HB := n1_; clear n0_ n1_; (try clear hb); (try clear hb2); (try clear hk); (try clear hi); have hcz39_0 : w38.cell? ⟨gb325, 0, none⟩ = some (.string a0_0) := (blk_cell BK325.out 0).trans rfl; have hcz39_1 : w38.cell? ⟨gb325, 1, none⟩ = some (.string a0_1) := (blk_cell BK325.out 1).trans rfl; have hcz39_2 : w38.cell? ⟨gb325, 2, none⟩ = some (.string a0_2) := (blk_cell BK325.out 2).trans rfl; have hcz39_3 : w38.cell? ⟨gb325, 3, none⟩ = some (.string a0_3) := (blk_cell BK325.out 3).trans rfl; have hcz39_4 : w38.cell? ⟨gb325, 4, none⟩ = some (.string a0_4) := (blk_cell BK325.out 4).trans rfl; have hcz39_5 : w38.cell? ⟨gb325, 5, none⟩ = some (.string a0_5) := (blk_cell BK325.out 5).trans rfl; have hfz39_0 := blk_frozen BK325.out 0; have hfz39_1 := blk_frozen BK325.out 1; have hfz39_2 := blk_frozen BK325.out 2; have hfz39_3 := blk_frozen BK325.out 3; have hfz39_4 := blk_frozen BK325.out 4; have hfz39_5 := blk_frozen BK325.out 5) | ((with_reducible refine gate_callee (f := 22) rfl ?_); refine goesL_ (some 30) rfl rfl Tryd.func22 (by kernel_rfl) rfl #[.agg #[.string a0_0, .string a0_1, .string a0_2]] rfl (by (try simp only [List.map_toArray, List.map_cons, List.map_nil]); first | done | rfl | (simp only [List.length_drop, List.length_take]; rfl)) ?_; (with_reducible refine (tuple_ShowUser.calls a0_0 a0_1 a0_2 t331 t332 _ A15.out).mono ?_); rintro e w40 ⟨rfl, hb⟩; refine ⟨_, rfl, ?_⟩; have n0_ := Aside0.mk (blk_below (g := gb325) (o := .cells #[.string a0_0, .string a0_1, .string a0_2, .string a0_3, .string a0_4, .string a0_5] 26 (0, 0)) (by (with_reducible repeat (first | refine blk_drewN ?_ _ | refine blk_drew ?_ | refine blk_alloc ?_ _)); exact BK325.out) hb); have n1_ := Aside0.mk (below_step (by repeat (first | (with_reducible first | exact HB.out | apply below_alloc | apply pw_below_drewN | apply below_drew1 | refine below_set ?_ GE325.out) | exact HB.out)) hb); clear BK325; clear HB; have BK325 := n0_; have HB := n1_; clear n0_ n1_; (try clear hb); (try clear hb2); (try clear hk); (try clear hi); have hcz41_0 : w40.cell? ⟨gb325, 0, none⟩ = some (.string a0_0) := (blk_cell BK325.out 0).trans rfl; have hcz41_1 : w40.cell? ⟨gb325, 1, none⟩ = some (.string a0_1) := (blk_cell BK325.out 1).trans rfl; have hcz41_2 : w40.cell? ⟨gb325, 2, none⟩ = some (.string a0_2) := (blk_cell BK325.out 2).trans rfl; have hcz41_3 : w40.cell? ⟨gb325, 3, none⟩ = some (.string a0_3) := (blk_cell BK325.out 3).trans rfl; have hcz41_4 : w40.cell? ⟨gb325, 4, none⟩ = some (.string a0_4) := (blk_cell BK325.out 4).trans rfl; have hcz41_5 : w40.cell? ⟨gb325, 5, none⟩ = some (.string a0_5) := (blk_cell BK325.out 5).trans rfl; have hfz41_0 := blk_frozen BK325.out 0; have hfz41_1 := blk_frozen BK325.out 1; have hfz41_2 := blk_frozen BK325.out 2; have hfz41_3 := blk_frozen BK325.out 3; have hfz41_4 := blk_frozen BK325.out 4; have hfz41_5 := blk_frozen BK325.out 5) | ((with_reducible refine gate_callee (f := 22) rfl ?_); refine goesL_ (some 36) rfl rfl Tryd.func22 (by kernel_rfl) rfl #[.agg #[.string a0_3, .string a0_4, .string a0_5]] rfl (by (try simp only [List.map_toArray, List.map_cons, List.map_nil]); first | done | rfl | (simp only [List.length_drop, List.length_take]; rfl)) ?_; (with_reducible refine (tuple_ShowUser.calls a0_3 a0_4 a0_5 t333 t334 _ A16.out).mono ?_); rintro e w42 ⟨rfl, hb⟩; refine ⟨_, rfl, ?_⟩; have n0_ := Aside0.mk (blk_below (g := gb325) (o := .cells #[.string a0_0, .string a0_1, .string a0_2, .string a0_3, .string a0_4, .string a0_5] 26 (0, 0)) (by (with_reducible repeat (first | refine blk_drewN ?_ _ | refine blk_drew ?_ | refine blk_alloc ?_ _)); exact BK325.out) hb); have n1_ := Aside0.mk (below_step (by repeat (first | (with_reducible first | exact HB.out | apply below_alloc | apply pw_below_drewN | apply below_drew1 | refine below_set ?_ GE325.out) | exact HB.out)) hb); clear BK325; clear HB; have BK325 := n0_; have HB := n1_; clear n0_ n1_; (try clear hb); (try clear hb2); (try clear hk); (try clear hi)))
              go_ret
              exact ⟨by first | rfl | (simp [errW_none, errW_some] <;> rfl) | (simp [*, errW_none, errW_some] <;> rfl), by repeat (first | (with_reducible first | exact HB.out | apply below_alloc | apply pw_below_drewN | apply below_drew1 | refine below_set ?_ GE325.out) | exact HB.out)⟩
          · rw [if_neg c28] at H
            have c28b0 : (t332 == 0) = false := beq_eq_false_iff_ne.mpr c28
            have c28b1 : (t332 != 0) = true := bne_iff_ne.mpr c28
            obtain rfl := Option.some.inj H
            have hcz43_0 : wc.cell? ⟨gb325, 0, none⟩ = some (.string a0_0) := (blk_cell BK325.out 0).trans rfl
            have hcz43_1 : wc.cell? ⟨gb325, 1, none⟩ = some (.string a0_1) := (blk_cell BK325.out 1).trans rfl
            have hcz43_2 : wc.cell? ⟨gb325, 2, none⟩ = some (.string a0_2) := (blk_cell BK325.out 2).trans rfl
            have hcz43_3 : wc.cell? ⟨gb325, 3, none⟩ = some (.string a0_3) := (blk_cell BK325.out 3).trans rfl
            have hcz43_4 : wc.cell? ⟨gb325, 4, none⟩ = some (.string a0_4) := (blk_cell BK325.out 4).trans rfl
            have hcz43_5 : wc.cell? ⟨gb325, 5, none⟩ = some (.string a0_5) := (blk_cell BK325.out 5).trans rfl
            have hfz43_0 := blk_frozen BK325.out 0
            have hfz43_1 := blk_frozen BK325.out 1
            have hfz43_2 := blk_frozen BK325.out 2
            have hfz43_3 := blk_frozen BK325.out 3
            have hfz43_4 := blk_frozen BK325.out 4
            have hfz43_5 := blk_frozen BK325.out 5
            go_wp2_with (first | ((with_reducible refine gate_callee (f := 17) rfl ?_); refine goesL_ (some 19) rfl rfl Tryd.func17 (by kernel_rfl) rfl #[.agg #[.string a0_0, .string a0_1, .string a0_2, .string a0_3, .string a0_4, .string a0_5]] rfl (by (try simp only [List.map_toArray, List.map_cons, List.map_nil]); first | done | rfl | (simp only [List.length_drop, List.length_take]; rfl)) ?_; (with_reducible refine (tuple_Show.calls a0_0 a0_1 a0_2 a0_3 a0_4 a0_5 t329 t330 _ A14.out).mono ?_); rintro e w44 ⟨rfl, hb⟩; refine ⟨_, rfl, ?_⟩; have n0_ := Aside0.mk (blk_below (g := gb325) (o := .cells #[.string a0_0, .string a0_1, .string a0_2, .string a0_3, .string a0_4, .string a0_5] 26 (0, 0)) (by (with_reducible repeat (first | refine blk_drewN ?_ _ | refine blk_drew ?_ | refine blk_alloc ?_ _)); exact BK325.out) hb); have n1_ := Aside0.mk (below_step (by repeat (first | (with_reducible first | exact HB.out | apply below_alloc | apply pw_below_drewN | apply below_drew1 | refine below_set ?_ GE325.out) | exact HB.out)) hb); clear BK325; clear HB; have BK325 := n0_; have HB := n1_; clear n0_ n1_; (try clear hb); (try clear hb2); (try clear hk); (try clear hi); have hcz45_0 : w44.cell? ⟨gb325, 0, none⟩ = some (.string a0_0) := (blk_cell BK325.out 0).trans rfl; have hcz45_1 : w44.cell? ⟨gb325, 1, none⟩ = some (.string a0_1) := (blk_cell BK325.out 1).trans rfl; have hcz45_2 : w44.cell? ⟨gb325, 2, none⟩ = some (.string a0_2) := (blk_cell BK325.out 2).trans rfl; have hcz45_3 : w44.cell? ⟨gb325, 3, none⟩ = some (.string a0_3) := (blk_cell BK325.out 3).trans rfl; have hcz45_4 : w44.cell? ⟨gb325, 4, none⟩ = some (.string a0_4) := (blk_cell BK325.out 4).trans rfl; have hcz45_5 : w44.cell? ⟨gb325, 5, none⟩ = some (.string a0_5) := (blk_cell BK325.out 5).trans rfl; have hfz45_0 := blk_frozen BK325.out 0; have hfz45_1 := blk_frozen BK325.out 1; have hfz45_2 := blk_frozen BK325.out 2; have hfz45_3 := blk_frozen BK325.out 3; have hfz45_4 := blk_frozen BK325.out 4; have hfz45_5 := blk_frozen BK325.out 5) | ((with_reducible refine gate_callee (f := 22) rfl ?_); refine goesL_ (some 30) rfl rfl Tryd.func22 (by kernel_rfl) rfl #[.agg #[.string a0_0, .string a0_1, .string a0_2]] rfl (by (try simp only [List.map_toArray, List.map_cons, List.map_nil]); first | done | rfl | (simp only [List.length_drop, List.length_take]; rfl)) ?_; (with_reducible refine (tuple_ShowUser.calls a0_0 a0_1 a0_2 t331 t332 _ A15.out).mono ?_); rintro e w46 ⟨rfl, hb⟩; refine ⟨_, rfl, ?_⟩; have n0_ := Aside0.mk (blk_below (g := gb325) (o := .cells #[.string a0_0, .string a0_1, .string a0_2, .string a0_3, .string a0_4, .string a0_5] 26 (0, 0)) (by (with_reducible repeat (first | refine blk_drewN ?_ _ | refine blk_drew ?_ | refine blk_alloc ?_ _)); exact BK325.out) hb); have n1_ := Aside0.mk (below_step (by repeat (first | (with_reducible first | exact HB.out | apply below_alloc | apply pw_below_drewN | apply below_drew1 | refine below_set ?_ GE325.out) | exact HB.out)) hb); clear BK325; clear HB; have BK325 := n0_; have HB := n1_; clear n0_ n1_; (try clear hb); (try clear hb2); (try clear hk); (try clear hi); have hcz47_0 : w46.cell? ⟨gb325, 0, none⟩ = some (.string a0_0) := (blk_cell BK325.out 0).trans rfl; have hcz47_1 : w46.cell? ⟨gb325, 1, none⟩ = some (.string a0_1) := (blk_cell BK325.out 1).trans rfl; have hcz47_2 : w46.cell? ⟨gb325, 2, none⟩ = some (.string a0_2) := (blk_cell BK325.out 2).trans rfl; have hcz47_3 : w46.cell? ⟨gb325, 3, none⟩ = some (.string a0_3) := (blk_cell BK325.out 3).trans rfl; have hcz47_4 : w46.cell? ⟨gb325, 4, none⟩ = some (.string a0_4) := (blk_cell BK325.out 4).trans rfl; have hcz47_5 : w46.cell? ⟨gb325, 5, none⟩ = some (.string a0_5) := (blk_cell BK325.out 5).trans rfl; have hfz47_0 := blk_frozen BK325.out 0; have hfz47_1 := blk_frozen BK325.out 1; have hfz47_2 := blk_frozen BK325.out 2; have hfz47_3 := blk_frozen BK325.out 3; have hfz47_4 := blk_frozen BK325.out 4; have hfz47_5 := blk_frozen BK325.out 5) | ((with_reducible refine gate_callee (f := 22) rfl ?_); refine goesL_ (some 36) rfl rfl Tryd.func22 (by kernel_rfl) rfl #[.agg #[.string a0_3, .string a0_4, .string a0_5]] rfl (by (try simp only [List.map_toArray, List.map_cons, List.map_nil]); first | done | rfl | (simp only [List.length_drop, List.length_take]; rfl)) ?_; (with_reducible refine (tuple_ShowUser.calls a0_3 a0_4 a0_5 t333 t334 _ A16.out).mono ?_); rintro e w48 ⟨rfl, hb⟩; refine ⟨_, rfl, ?_⟩; have n0_ := Aside0.mk (blk_below (g := gb325) (o := .cells #[.string a0_0, .string a0_1, .string a0_2, .string a0_3, .string a0_4, .string a0_5] 26 (0, 0)) (by (with_reducible repeat (first | refine blk_drewN ?_ _ | refine blk_drew ?_ | refine blk_alloc ?_ _)); exact BK325.out) hb); have n1_ := Aside0.mk (below_step (by repeat (first | (with_reducible first | exact HB.out | apply below_alloc | apply pw_below_drewN | apply below_drew1 | refine below_set ?_ GE325.out) | exact HB.out)) hb); clear BK325; clear HB; have BK325 := n0_; have HB := n1_; clear n0_ n1_; (try clear hb); (try clear hb2); (try clear hk); (try clear hi)))
            go_ret
            exact ⟨by first | rfl | (simp [errW_none, errW_some] <;> rfl) | (simp [*, errW_none, errW_some] <;> rfl), by repeat (first | (with_reducible first | exact HB.out | apply below_alloc | apply pw_below_drewN | apply below_drew1 | refine below_set ?_ GE325.out) | exact HB.out)⟩

end Go.Proofs.YtggcipjdhhnnkaaDoor.K
