-- Written by a program of this session (wip/pp.py over the kit's print.py). Lean checks it.
import Derived.Test.YtggcipjdhhnnkaaDoorP0
import Derived.Test.YtggcipjdhhnnkaaDoorP2
import Derived.Test.YtggcipjdhhnnkaaDoorAW
import Derived.Test.YtggcipjdhhnnkaaDoorPMb
import Derived.Test.YtggcipjdhhnnkaaDoorP22
import Derived.Test.YtggcipjdhhnnkaaDoorP24
import Derived.Test.YtggcipjdhhnnkaaDoorPMd
namespace Go.Proofs.YtggcipjdhhnnkaaDoor.K
open Go.RowKit Go.Proofs.YtggcipjdhhnnkaaDoorW.PrintWords Go.Proofs.YtggcipjdhhnnkaaDoorW.PrintLast Go.Proofs.YtggcipjdhhnnkaaDoorW.PrintMore
attribute [local go_sem] max2_int min2_int max_two min_two max_three min_three max_four min_four   -- for this text's walks alone
set_option linter.unusedVariables false
set_option linter.unusedSimpArgs false

attribute [local go_sem high] eqA26
/-! ### lunettelaw11_TupleBacks: function 6 -/
mutual
def lunettelaw11_TupleBacks.j0 : Nat → Bool → ByteArray → ByteArray → ByteArray → ByteArray → ByteArray → ByteArray → ByteArray → ByteArray → ByteArray → ByteArray → ByteArray → ByteArray → Option (Bool)
  | 0, _, _, _, _, _, _, _, _, _, _, _, _, _ => none
  | k + 1, x22, x303000, x303001, x303002, x303003, x303004, x303005, x304000, x304001, x304002, x304003, x304004, x304005 => if x22 = true then ((lunettelaw11_awake.f k).bind fun t307 => (some t307)) else ((tuple_Back.f x303000 x303001 x303002 x303003 x303004 x303005).bind fun bt308 => ((tuple_Back.f x304000 x304001 x304002 x304003 x304004 x304005).bind fun bt310 => (if bt308.2 = 0 then (lunettelaw11_TupleBacks.j1 k bt308.1 bt308.2 bt310.1 bt310.2 (bt310.2 != 0) x303000 x303001 x303002 x303003 x303004 x303005 x304000 x304001 x304002 x304003 x304004 x304005) else (lunettelaw11_TupleBacks.j1 k bt308.1 bt308.2 bt310.1 bt310.2 true x303000 x303001 x303002 x303003 x303004 x303005 x304000 x304001 x304002 x304003 x304004 x304005))))
def lunettelaw11_TupleBacks.j1 : Nat → ByteArray → Int → ByteArray → Int → Bool → ByteArray → ByteArray → ByteArray → ByteArray → ByteArray → ByteArray → ByteArray → ByteArray → ByteArray → ByteArray → ByteArray → ByteArray → Option (Bool)
  | 0, _, _, _, _, _, _, _, _, _, _, _, _, _, _, _, _, _ => none
  | k + 1, x5, x6, x7, x8, x39, x303000, x303001, x303002, x303003, x303004, x303005, x304000, x304001, x304002, x304003, x304004, x304005 => if x39 = true then ((lunetteref11_Check.f k x303000 x303001 x303002 x303003 x303004 x303005).bind fun t312 => (if ((x6 == 0) == t312) = true then ((lunetteref11_Check.f k x304000 x304001 x304002 x304003 x304004 x304005).bind fun t313 => (some ((x8 == 0) == t313))) else (some false))) else ((lunetteref01_Below.f k x5 x7).bind fun t320 => ((lunetteref01_Less.f k (([x303003, x303004, x303005, x303000, x303001, x303002] : List ByteArray)) (([x304003, x304004, x304005, x304000, x304001, x304002] : List ByteArray))).bind fun t321 => (if (t320 == t321) = true then (some ((x5.toList == x7.toList) == (x303000.toList == x304000.toList && (x303001.toList == x304001.toList && (x303002.toList == x304002.toList && ((x303003.toList == x304003.toList && (x303004.toList == x304004.toList && (x303005.toList == x304005.toList))))))))) else (some false))))
end
def lunettelaw11_TupleBacks.f (k : Nat) (a0_0 : ByteArray) (a0_1 : ByteArray) (a0_2 : ByteArray) (a0_3 : ByteArray) (a0_4 : ByteArray) (a0_5 : ByteArray) (a1_0 : ByteArray) (a1_1 : ByteArray) (a1_2 : ByteArray) (a1_3 : ByteArray) (a1_4 : ByteArray) (a1_5 : ByteArray) : Option (Bool) := (lunettelaw11_awake.f k).bind fun t304 => (if t304 = true then ((lunettelaw11_few.f k a0_0 a0_1 a0_2 a0_3 a0_4 a0_5).bind fun t305 => (if t305 = true then ((lunettelaw11_few.f k a1_0 a1_1 a1_2 a1_3 a1_4 a1_5).bind fun t306 => (lunettelaw11_TupleBacks.j0 k (!t306) a0_0 a0_1 a0_2 a0_3 a0_4 a0_5 a1_0 a1_1 a1_2 a1_3 a1_4 a1_5)) else (lunettelaw11_TupleBacks.j0 k true a0_0 a0_1 a0_2 a0_3 a0_4 a0_5 a1_0 a1_1 a1_2 a1_3 a1_4 a1_5))) else (lunettelaw11_TupleBacks.j0 k true a0_0 a0_1 a0_2 a0_3 a0_4 a0_5 a1_0 a1_1 a1_2 a1_3 a1_4 a1_5))
theorem lunettelaw11_TupleBacks.mono_l : ∀ k, (∀ y0 y1 y2 y3 y4 y5 y6 y7 y8 y9 y10 y11 y12, LeO (lunettelaw11_TupleBacks.j0 k y0 y1 y2 y3 y4 y5 y6 y7 y8 y9 y10 y11 y12) (lunettelaw11_TupleBacks.j0 (k + 1) y0 y1 y2 y3 y4 y5 y6 y7 y8 y9 y10 y11 y12)) ∧ (∀ y0 y1 y2 y3 y4 y5 y6 y7 y8 y9 y10 y11 y12 y13 y14 y15 y16, LeO (lunettelaw11_TupleBacks.j1 k y0 y1 y2 y3 y4 y5 y6 y7 y8 y9 y10 y11 y12 y13 y14 y15 y16) (lunettelaw11_TupleBacks.j1 (k + 1) y0 y1 y2 y3 y4 y5 y6 y7 y8 y9 y10 y11 y12 y13 y14 y15 y16))
  | 0 => ⟨fun _ _ _ _ _ _ _ _ _ _ _ _ _ r h => by simp [lunettelaw11_TupleBacks.j0] at h, fun _ _ _ _ _ _ _ _ _ _ _ _ _ _ _ _ _ r h => by simp [lunettelaw11_TupleBacks.j1] at h⟩
  | k + 1 => by
    obtain ⟨ih0, ih1⟩ := lunettelaw11_TupleBacks.mono_l k
    refine ⟨?_, ?_⟩
    · intro y0 y1 y2 y3 y4 y5 y6 y7 y8 y9 y10 y11 y12
      unfold lunettelaw11_TupleBacks.j0
      repeat' first
      | (with_reducible exact ih0 _ _ _ _ _ _ _ _ _ _ _ _ _)
      | (with_reducible exact ih1 _ _ _ _ _ _ _ _ _ _ _ _ _ _ _ _ _)
      | (with_reducible exact lunettelaw11_awake.mono _)
      | (with_reducible exact lunettelaw11_few.mono _ _ _ _ _ _ _)
      | (with_reducible exact lunetteref01_Below.mono _ _ _)
      | (with_reducible exact lunetteref01_Less.mono _ _ _)
      | (with_reducible exact lunetteref11_Check.mono _ _ _ _ _ _ _)
      | (with_reducible exact LeO.refl _)
      | (with_reducible exact LeO.none _)
      | (with_reducible refine LeO.ite ?_ ?_)
      | (with_reducible refine LeO.bind ?_ (fun _ => ?_))
      | exact ih0 _ _ _ _ _ _ _ _ _ _ _ _ _
      | exact ih1 _ _ _ _ _ _ _ _ _ _ _ _ _ _ _ _ _
      | exact lunettelaw11_awake.mono _
      | exact lunettelaw11_few.mono _ _ _ _ _ _ _
      | exact lunetteref01_Below.mono _ _ _
      | exact lunetteref01_Less.mono _ _ _
      | exact lunetteref11_Check.mono _ _ _ _ _ _ _
      | exact LeO.none _
      | refine LeO.ite ?_ ?_
      | refine LeO.bind ?_ (fun _ => ?_)
    · intro y0 y1 y2 y3 y4 y5 y6 y7 y8 y9 y10 y11 y12 y13 y14 y15 y16
      unfold lunettelaw11_TupleBacks.j1
      repeat' first
      | (with_reducible exact ih0 _ _ _ _ _ _ _ _ _ _ _ _ _)
      | (with_reducible exact ih1 _ _ _ _ _ _ _ _ _ _ _ _ _ _ _ _ _)
      | (with_reducible exact lunettelaw11_awake.mono _)
      | (with_reducible exact lunettelaw11_few.mono _ _ _ _ _ _ _)
      | (with_reducible exact lunetteref01_Below.mono _ _ _)
      | (with_reducible exact lunetteref01_Less.mono _ _ _)
      | (with_reducible exact lunetteref11_Check.mono _ _ _ _ _ _ _)
      | (with_reducible exact LeO.refl _)
      | (with_reducible exact LeO.none _)
      | (with_reducible refine LeO.ite ?_ ?_)
      | (with_reducible refine LeO.bind ?_ (fun _ => ?_))
      | exact ih0 _ _ _ _ _ _ _ _ _ _ _ _ _
      | exact ih1 _ _ _ _ _ _ _ _ _ _ _ _ _ _ _ _ _
      | exact lunettelaw11_awake.mono _
      | exact lunettelaw11_few.mono _ _ _ _ _ _ _
      | exact lunetteref01_Below.mono _ _ _
      | exact lunetteref01_Less.mono _ _ _
      | exact lunetteref11_Check.mono _ _ _ _ _ _ _
      | exact LeO.none _
      | refine LeO.ite ?_ ?_
      | refine LeO.bind ?_ (fun _ => ?_)
theorem lunettelaw11_TupleBacks.mono : ∀ a0 a1 a2 a3 a4 a5 a6 a7 a8 a9 a10 a11 k, LeO (lunettelaw11_TupleBacks.f k a0 a1 a2 a3 a4 a5 a6 a7 a8 a9 a10 a11) (lunettelaw11_TupleBacks.f (k + 1) a0 a1 a2 a3 a4 a5 a6 a7 a8 a9 a10 a11) := by
  intro a0 a1 a2 a3 a4 a5 a6 a7 a8 a9 a10 a11 k
  obtain ⟨ih0, ih1⟩ := lunettelaw11_TupleBacks.mono_l k
  unfold lunettelaw11_TupleBacks.f
  repeat' first
      | (with_reducible exact ih0 _ _ _ _ _ _ _ _ _ _ _ _ _)
      | (with_reducible exact ih1 _ _ _ _ _ _ _ _ _ _ _ _ _ _ _ _ _)
      | (with_reducible exact lunettelaw11_awake.mono _)
      | (with_reducible exact lunettelaw11_few.mono _ _ _ _ _ _ _)
      | (with_reducible exact lunetteref01_Below.mono _ _ _)
      | (with_reducible exact lunetteref01_Less.mono _ _ _)
      | (with_reducible exact lunetteref11_Check.mono _ _ _ _ _ _ _)
      | (with_reducible exact LeO.refl _)
      | (with_reducible exact LeO.none _)
      | (with_reducible refine LeO.ite ?_ ?_)
      | (with_reducible refine LeO.bind ?_ (fun _ => ?_))
      | exact ih0 _ _ _ _ _ _ _ _ _ _ _ _ _
      | exact ih1 _ _ _ _ _ _ _ _ _ _ _ _ _ _ _ _ _
      | exact lunettelaw11_awake.mono _
      | exact lunettelaw11_few.mono _ _ _ _ _ _ _
      | exact lunetteref01_Below.mono _ _ _
      | exact lunetteref01_Less.mono _ _ _
      | exact lunetteref11_Check.mono _ _ _ _ _ _ _
      | exact LeO.none _
      | refine LeO.ite ?_ ?_
      | refine LeO.bind ?_ (fun _ => ?_)
set_option maxHeartbeats 8000000 in
set_option maxRecDepth 100000 in
theorem lunettelaw11_TupleBacks.callsT (k : Nat) (a0_0 : ByteArray) (a0_1 : ByteArray) (a0_2 : ByteArray) (a0_3 : ByteArray) (a0_4 : ByteArray) (a0_5 : ByteArray) (a1_0 : ByteArray) (a1_1 : ByteArray) (a1_2 : ByteArray) (a1_3 : ByteArray) (a1_4 : ByteArray) (a1_5 : ByteArray) (r : Bool) (w : World) (h : lunettelaw11_TupleBacks.f k a0_0 a0_1 a0_2 a0_3 a0_4 a0_5 a1_0 a1_1 a1_2 a1_3 a1_4 a1_5 = some r) (hT : r = true) :
    Calls Tryd.prog 6 #[.agg #[.string a0_0, .string a0_1, .string a0_2, .string a0_3, .string a0_4, .string a0_5], .agg #[.string a1_0, .string a1_1, .string a1_2, .string a1_3, .string a1_4, .string a1_5]] w fun e w' => e = .returned (.bool r) ∧ Below w.heap.size w w' := by
  have hu26 := Tryd.underlying26
  have HB := Aside0.mk (Below.refl w.heap.size w)
  have HTRUE := Aside0.mk hT
  clear hT
  have H : ((lunettelaw11_awake.f k).bind fun t304 => (if t304 = true then ((lunettelaw11_few.f k a0_0 a0_1 a0_2 a0_3 a0_4 a0_5).bind fun t305 => (if t305 = true then ((lunettelaw11_few.f k a1_0 a1_1 a1_2 a1_3 a1_4 a1_5).bind fun t306 => (lunettelaw11_TupleBacks.j0 k (!t306) a0_0 a0_1 a0_2 a0_3 a0_4 a0_5 a1_0 a1_1 a1_2 a1_3 a1_4 a1_5)) else (lunettelaw11_TupleBacks.j0 k true a0_0 a0_1 a0_2 a0_3 a0_4 a0_5 a1_0 a1_1 a1_2 a1_3 a1_4 a1_5))) else (lunettelaw11_TupleBacks.j0 k true a0_0 a0_1 a0_2 a0_3 a0_4 a0_5 a1_0 a1_1 a1_2 a1_3 a1_4 a1_5))) = some r := h
  clear h
  have HC3 := Aside0.mk H
  clear H
  go_enter Tryd.func6, Tryd.ntmps6
  go_upto_region 1 with (first | ((with_reducible refine gate_dst (N := 2) rfl ?_); refine box_event ?hg (N := 2) ?hd (cs := #[.string a0_0, .string a0_1, .string a0_2, .string a0_3, .string a0_4, .string a0_5]) (t := 26) ?hr ?_; (case hd => rfl); (case hg => rfl); (case hr => first | (go_simp; done) | (go_simp; rfl)); intro gb302 hg w4 hbox hb; have n0_ := Aside0.mk (below_step (by repeat (first | (with_reducible first | exact HB.out | apply below_alloc | apply pw_below_drewN | apply below_drew1) | exact HB.out)) hb); have n1_ := Aside0.mk (hbox); have n2_ := Aside0.mk ((by rw [hg]; exact (below_size (by repeat (first | (with_reducible first | exact HB.out | apply below_alloc | apply pw_below_drewN | apply below_drew1) | exact HB.out))) : w.heap.size ≤ gb302)); have n3_ := Aside0.mk ((by rw [hg]; exact (below_size (by repeat (first | (with_reducible first | exact HB.out | apply below_alloc | apply pw_below_drewN | apply below_drew1) | exact HB.out))) : w.heap.size ≤ gb302)); clear HB; have HB := n0_; have BK302 := n1_; have GW302 := n2_; have GE302 := n3_; clear n0_ n1_ n2_ n3_; clear hb hbox hg) | ((with_reducible refine gate_dst (N := 3) rfl ?_); refine box_event ?hg (N := 3) ?hd (cs := #[.string a1_0, .string a1_1, .string a1_2, .string a1_3, .string a1_4, .string a1_5]) (t := 26) ?hr ?_; (case hd => rfl); (case hg => rfl); (case hr => first | (go_simp; done) | (go_simp; rfl)); intro gb303 hg w5 hbox hb; have n0_ := Aside0.mk (blk_below (g := gb302) (o := .cells #[.string a0_0, .string a0_1, .string a0_2, .string a0_3, .string a0_4, .string a0_5] 26 (0, 0)) (by (with_reducible repeat (first | refine blk_drewN ?_ _ | refine blk_drew ?_ | refine blk_alloc ?_ _)); exact BK302.out) hb); have n1_ := Aside0.mk (below_step (by repeat (first | (with_reducible first | exact HB.out | apply below_alloc | apply pw_below_drewN | apply below_drew1 | refine below_set ?_ GE302.out) | exact HB.out)) hb); have n2_ := Aside0.mk (hbox); have n3_ := Aside0.mk ((by rw [hg]; exact (below_size (by repeat (first | (with_reducible first | exact HB.out | apply below_alloc | apply pw_below_drewN | apply below_drew1 | refine below_set ?_ GE302.out) | exact HB.out))) : w.heap.size ≤ gb303)); have n4_ := Aside0.mk ((by rw [hg]; exact (below_size (by repeat (first | (with_reducible first | exact HB.out | apply below_alloc | apply pw_below_drewN | apply below_drew1 | refine below_set ?_ GE302.out) | exact HB.out))) : w.heap.size ≤ gb303)); have n5_ := Aside0.mk ((by rw [hg]; exact Nat.ne_of_lt (blk_lt (g := gb302) (o := .cells #[.string a0_0, .string a0_1, .string a0_2, .string a0_3, .string a0_4, .string a0_5] 26 (0, 0)) (by (with_reducible repeat (first | refine blk_drewN ?_ _ | refine blk_drew ?_ | refine blk_alloc ?_ _)); exact BK302.out)) : gb302 ≠ gb303)); have n6_ := Aside0.mk ((by rw [hg]; exact Nat.ne_of_gt (blk_lt (g := gb302) (o := .cells #[.string a0_0, .string a0_1, .string a0_2, .string a0_3, .string a0_4, .string a0_5] 26 (0, 0)) (by (with_reducible repeat (first | refine blk_drewN ?_ _ | refine blk_drew ?_ | refine blk_alloc ?_ _)); exact BK302.out)) : gb303 ≠ gb302)); clear BK302; clear HB; have BK302 := n0_; have HB := n1_; have BK303 := n2_; have GW303 := n3_; have GE303 := n4_; have NB302_303 := n5_; have NB303_302 := n6_; clear n0_ n1_ n2_ n3_ n4_ n5_ n6_; clear hb hbox hg))
  (try simp only [Act.put, List.setIfInBounds_toArray, List.set_cons_zero, List.set_cons_succ])
  go_cut [22] (fun v22 wc => ∃ (kq : Nat) (x22_2 : Bool), v22 = .bool x22_2 ∧ Aside0 (lunettelaw11_TupleBacks.j0 kq x22_2 a0_0 a0_1 a0_2 a0_3 a0_4 a0_5 a1_0 a1_1 a1_2 a1_3 a1_4 a1_5 = some r) ∧ Aside0 (kq ≤ k) ∧ Aside0 (wc.heap[gb302]? = some (.cells #[.string a0_0, .string a0_1, .string a0_2, .string a0_3, .string a0_4, .string a0_5] 26 (0, 0))) ∧ Aside0 (wc.heap[gb303]? = some (.cells #[.string a1_0, .string a1_1, .string a1_2, .string a1_3, .string a1_4, .string a1_5] 26 (0, 0))) ∧ Aside0 (Below w.heap.size w wc))
  case first =>
    have H := HC3.out
    clear HC3
    replace H := Option.bind_eq_some_iff.mp H
    obtain ⟨t304, A60, H⟩ := H
    replace H : (if t304 = true then ((lunettelaw11_few.f k a0_0 a0_1 a0_2 a0_3 a0_4 a0_5).bind fun t305 => (if t305 = true then ((lunettelaw11_few.f k a1_0 a1_1 a1_2 a1_3 a1_4 a1_5).bind fun t306 => (lunettelaw11_TupleBacks.j0 k (!t306) a0_0 a0_1 a0_2 a0_3 a0_4 a0_5 a1_0 a1_1 a1_2 a1_3 a1_4 a1_5)) else (lunettelaw11_TupleBacks.j0 k true a0_0 a0_1 a0_2 a0_3 a0_4 a0_5 a1_0 a1_1 a1_2 a1_3 a1_4 a1_5))) else (lunettelaw11_TupleBacks.j0 k true a0_0 a0_1 a0_2 a0_3 a0_4 a0_5 a1_0 a1_1 a1_2 a1_3 a1_4 a1_5)) = some r := H
    have A6 := Aside0.mk A60
    clear A60
    by_cases c7 : t304 = true
    · subst c7
      have H1 : ((lunettelaw11_few.f k a0_0 a0_1 a0_2 a0_3 a0_4 a0_5).bind fun t305 => (if t305 = true then ((lunettelaw11_few.f k a1_0 a1_1 a1_2 a1_3 a1_4 a1_5).bind fun t306 => (lunettelaw11_TupleBacks.j0 k (!t306) a0_0 a0_1 a0_2 a0_3 a0_4 a0_5 a1_0 a1_1 a1_2 a1_3 a1_4 a1_5)) else (lunettelaw11_TupleBacks.j0 k true a0_0 a0_1 a0_2 a0_3 a0_4 a0_5 a1_0 a1_1 a1_2 a1_3 a1_4 a1_5))) = some r := by rw [if_pos rfl] at H; exact H
      clear H
      have H := H1
      clear H1
      replace H := Option.bind_eq_some_iff.mp H
      obtain ⟨t305, A80, H⟩ := H
      replace H : (if t305 = true then ((lunettelaw11_few.f k a1_0 a1_1 a1_2 a1_3 a1_4 a1_5).bind fun t306 => (lunettelaw11_TupleBacks.j0 k (!t306) a0_0 a0_1 a0_2 a0_3 a0_4 a0_5 a1_0 a1_1 a1_2 a1_3 a1_4 a1_5)) else (lunettelaw11_TupleBacks.j0 k true a0_0 a0_1 a0_2 a0_3 a0_4 a0_5 a1_0 a1_1 a1_2 a1_3 a1_4 a1_5)) = some r := H
      have A8 := Aside0.mk A80
      clear A80
      by_cases c9 : t305 = true
      · subst c9
        have H1 : ((lunettelaw11_few.f k a1_0 a1_1 a1_2 a1_3 a1_4 a1_5).bind fun t306 => (lunettelaw11_TupleBacks.j0 k (!t306) a0_0 a0_1 a0_2 a0_3 a0_4 a0_5 a1_0 a1_1 a1_2 a1_3 a1_4 a1_5)) = some r := by rw [if_pos rfl] at H; exact H
        clear H
        have H := H1
        clear H1
        replace H := Option.bind_eq_some_iff.mp H
        obtain ⟨t306, A100, H⟩ := H
        replace H : (lunettelaw11_TupleBacks.j0 k (!t306) a0_0 a0_1 a0_2 a0_3 a0_4 a0_5 a1_0 a1_1 a1_2 a1_3 a1_4 a1_5) = some r := H
        have A10 := Aside0.mk A100
        clear A100
        have H' := Aside0.mk H
        clear H
        go_wp2_with (first | ((with_reducible refine gate_callee (f := 11) rfl ?_); refine goesL_ (some 11) rfl rfl Tryd.func11 (by kernel_rfl) rfl #[] rfl (by (try simp only [List.map_toArray, List.map_cons, List.map_nil]); first | done | rfl | (simp only [List.length_drop, List.length_take]; rfl)) ?_; (with_reducible refine (lunettelaw11_awake.calls k  true _ A6.out).mono ?_); rintro e w11 ⟨rfl, hb⟩; refine ⟨_, rfl, ?_⟩; have n0_ := Aside0.mk (blk_below (g := gb302) (o := .cells #[.string a0_0, .string a0_1, .string a0_2, .string a0_3, .string a0_4, .string a0_5] 26 (0, 0)) (by (with_reducible repeat (first | refine blk_drewN ?_ _ | refine blk_drew ?_ | refine blk_alloc ?_ _)); exact BK302.out) hb); have n1_ := Aside0.mk (blk_below (g := gb303) (o := .cells #[.string a1_0, .string a1_1, .string a1_2, .string a1_3, .string a1_4, .string a1_5] 26 (0, 0)) (by (with_reducible repeat (first | refine blk_drewN ?_ _ | refine blk_drew ?_ | refine blk_alloc ?_ _)); exact BK303.out) hb); have n2_ := Aside0.mk (below_step (by repeat (first | (with_reducible first | exact HB.out | apply below_alloc | apply pw_below_drewN | apply below_drew1 | refine below_set ?_ GE302.out | refine below_set ?_ GE303.out) | exact HB.out)) hb); clear BK302; clear BK303; clear HB; have BK302 := n0_; have BK303 := n1_; have HB := n2_; clear n0_ n1_ n2_; (try clear hb); (try clear hb2); (try clear hk); (try clear hi); have hnb12 := NB302_303.out; have hnc12 := NB303_302.out; have hcz13_0 : w11.cell? ⟨gb302, 0, none⟩ = some (.string a0_0) := (blk_cell BK302.out 0).trans rfl; have hcz13_1 : w11.cell? ⟨gb302, 1, none⟩ = some (.string a0_1) := (blk_cell BK302.out 1).trans rfl; have hcz13_2 : w11.cell? ⟨gb302, 2, none⟩ = some (.string a0_2) := (blk_cell BK302.out 2).trans rfl; have hcz13_3 : w11.cell? ⟨gb302, 3, none⟩ = some (.string a0_3) := (blk_cell BK302.out 3).trans rfl; have hcz13_4 : w11.cell? ⟨gb302, 4, none⟩ = some (.string a0_4) := (blk_cell BK302.out 4).trans rfl; have hcz13_5 : w11.cell? ⟨gb302, 5, none⟩ = some (.string a0_5) := (blk_cell BK302.out 5).trans rfl; have hfz13_0 := blk_frozen BK302.out 0; have hfz13_1 := blk_frozen BK302.out 1; have hfz13_2 := blk_frozen BK302.out 2; have hfz13_3 := blk_frozen BK302.out 3; have hfz13_4 := blk_frozen BK302.out 4; have hfz13_5 := blk_frozen BK302.out 5) | (go_at_call 16; (with_reducible refine (lunettelaw11_few.calls k a0_0 a0_1 a0_2 a0_3 a0_4 a0_5 true _ A8.out).mono ?_); rintro e w14 ⟨rfl, hb⟩; have n0_ := Aside0.mk (blk_below (g := gb302) (o := .cells #[.string a0_0, .string a0_1, .string a0_2, .string a0_3, .string a0_4, .string a0_5] 26 (0, 0)) (by (with_reducible repeat (first | refine blk_drewN ?_ _ | refine blk_drew ?_ | refine blk_alloc ?_ _)); exact BK302.out) hb); have n1_ := Aside0.mk (blk_below (g := gb303) (o := .cells #[.string a1_0, .string a1_1, .string a1_2, .string a1_3, .string a1_4, .string a1_5] 26 (0, 0)) (by (with_reducible repeat (first | refine blk_drewN ?_ _ | refine blk_drew ?_ | refine blk_alloc ?_ _)); exact BK303.out) hb); have n2_ := Aside0.mk (below_step (by repeat (first | (with_reducible first | exact HB.out | apply below_alloc | apply pw_below_drewN | apply below_drew1 | refine below_set ?_ GE302.out | refine below_set ?_ GE303.out) | exact HB.out)) hb); clear BK302; clear BK303; clear HB; have BK302 := n0_; have BK303 := n1_; have HB := n2_; clear n0_ n1_ n2_; (try clear hb); (try clear hb2); (try clear hk); (try clear hi); have hcz15_0 : w14.cell? ⟨gb303, 0, none⟩ = some (.string a1_0) := (blk_cell BK303.out 0).trans rfl; have hcz15_1 : w14.cell? ⟨gb303, 1, none⟩ = some (.string a1_1) := (blk_cell BK303.out 1).trans rfl; have hcz15_2 : w14.cell? ⟨gb303, 2, none⟩ = some (.string a1_2) := (blk_cell BK303.out 2).trans rfl; have hcz15_3 : w14.cell? ⟨gb303, 3, none⟩ = some (.string a1_3) := (blk_cell BK303.out 3).trans rfl; have hcz15_4 : w14.cell? ⟨gb303, 4, none⟩ = some (.string a1_4) := (blk_cell BK303.out 4).trans rfl; have hcz15_5 : w14.cell? ⟨gb303, 5, none⟩ = some (.string a1_5) := (blk_cell BK303.out 5).trans rfl; have hfz15_0 := blk_frozen BK303.out 0; have hfz15_1 := blk_frozen BK303.out 1; have hfz15_2 := blk_frozen BK303.out 2; have hfz15_3 := blk_frozen BK303.out 3; have hfz15_4 := blk_frozen BK303.out 4; have hfz15_5 := blk_frozen BK303.out 5) | (go_at_call 16; (with_reducible refine (lunettelaw11_few.calls k a1_0 a1_1 a1_2 a1_3 a1_4 a1_5 t306 _ A10.out).mono ?_); rintro e w16 ⟨rfl, hb⟩; have n0_ := Aside0.mk (blk_below (g := gb302) (o := .cells #[.string a0_0, .string a0_1, .string a0_2, .string a0_3, .string a0_4, .string a0_5] 26 (0, 0)) (by (with_reducible repeat (first | refine blk_drewN ?_ _ | refine blk_drew ?_ | refine blk_alloc ?_ _)); exact BK302.out) hb); have n1_ := Aside0.mk (blk_below (g := gb303) (o := .cells #[.string a1_0, .string a1_1, .string a1_2, .string a1_3, .string a1_4, .string a1_5] 26 (0, 0)) (by (with_reducible repeat (first | refine blk_drewN ?_ _ | refine blk_drew ?_ | refine blk_alloc ?_ _)); exact BK303.out) hb); have n2_ := Aside0.mk (below_step (by repeat (first | (with_reducible first | exact HB.out | apply below_alloc | apply pw_below_drewN | apply below_drew1 | refine below_set ?_ GE302.out | refine below_set ?_ GE303.out) | exact HB.out)) hb); clear BK302; clear BK303; clear HB; have BK302 := n0_; have BK303 := n1_; have HB := n2_; clear n0_ n1_ n2_; (try clear hb); (try clear hb2); (try clear hk); (try clear hi)))
        go_meet
        case rel => exact ⟨_, (!t306), (by first | rfl | (simp; done) | (simp [*]; done)), H', ⟨by first | omega | exact Nat.le_refl _⟩, ⟨by (with_reducible repeat (first | refine blk_drewN ?_ _ | refine blk_drew ?_ | refine blk_alloc ?_ _)); exact BK302.out⟩, ⟨by (with_reducible repeat (first | refine blk_drewN ?_ _ | refine blk_drew ?_ | refine blk_alloc ?_ _)); exact BK303.out⟩, ⟨by repeat (first | (with_reducible first | exact HB.out | apply below_alloc | apply pw_below_drewN | apply below_drew1 | refine below_set ?_ GE302.out | refine below_set ?_ GE303.out) | exact HB.out)⟩⟩
      · replace c9 := Bool.eq_false_iff.mpr c9
        subst c9
        have H1 : (lunettelaw11_TupleBacks.j0 k true a0_0 a0_1 a0_2 a0_3 a0_4 a0_5 a1_0 a1_1 a1_2 a1_3 a1_4 a1_5) = some r := by rw [if_neg (show ¬ (false = true) by decide)] at H; exact H
        clear H
        have H := H1
        clear H1
        have H' := Aside0.mk H
        clear H
        go_wp2_with (first | ((with_reducible refine gate_callee (f := 11) rfl ?_); refine goesL_ (some 11) rfl rfl Tryd.func11 (by kernel_rfl) rfl #[] rfl (by (try simp only [List.map_toArray, List.map_cons, List.map_nil]); first | done | rfl | (simp only [List.length_drop, List.length_take]; rfl)) ?_; (with_reducible refine (lunettelaw11_awake.calls k  true _ A6.out).mono ?_); rintro e w17 ⟨rfl, hb⟩; refine ⟨_, rfl, ?_⟩; have n0_ := Aside0.mk (blk_below (g := gb302) (o := .cells #[.string a0_0, .string a0_1, .string a0_2, .string a0_3, .string a0_4, .string a0_5] 26 (0, 0)) (by (with_reducible repeat (first | refine blk_drewN ?_ _ | refine blk_drew ?_ | refine blk_alloc ?_ _)); exact BK302.out) hb); have n1_ := Aside0.mk (blk_below (g := gb303) (o := .cells #[.string a1_0, .string a1_1, .string a1_2, .string a1_3, .string a1_4, .string a1_5] 26 (0, 0)) (by (with_reducible repeat (first | refine blk_drewN ?_ _ | refine blk_drew ?_ | refine blk_alloc ?_ _)); exact BK303.out) hb); have n2_ := Aside0.mk (below_step (by repeat (first | (with_reducible first | exact HB.out | apply below_alloc | apply pw_below_drewN | apply below_drew1 | refine below_set ?_ GE302.out | refine below_set ?_ GE303.out) | exact HB.out)) hb); clear BK302; clear BK303; clear HB; have BK302 := n0_; have BK303 := n1_; have HB := n2_; clear n0_ n1_ n2_; (try clear hb); (try clear hb2); (try clear hk); (try clear hi); have hnb18 := NB302_303.out; have hnc18 := NB303_302.out; have hcz19_0 : w17.cell? ⟨gb302, 0, none⟩ = some (.string a0_0) := (blk_cell BK302.out 0).trans rfl; have hcz19_1 : w17.cell? ⟨gb302, 1, none⟩ = some (.string a0_1) := (blk_cell BK302.out 1).trans rfl; have hcz19_2 : w17.cell? ⟨gb302, 2, none⟩ = some (.string a0_2) := (blk_cell BK302.out 2).trans rfl; have hcz19_3 : w17.cell? ⟨gb302, 3, none⟩ = some (.string a0_3) := (blk_cell BK302.out 3).trans rfl; have hcz19_4 : w17.cell? ⟨gb302, 4, none⟩ = some (.string a0_4) := (blk_cell BK302.out 4).trans rfl; have hcz19_5 : w17.cell? ⟨gb302, 5, none⟩ = some (.string a0_5) := (blk_cell BK302.out 5).trans rfl; have hfz19_0 := blk_frozen BK302.out 0; have hfz19_1 := blk_frozen BK302.out 1; have hfz19_2 := blk_frozen BK302.out 2; have hfz19_3 := blk_frozen BK302.out 3; have hfz19_4 := blk_frozen BK302.out 4; have hfz19_5 := blk_frozen BK302.out 5) | (go_at_call 16; (with_reducible refine (lunettelaw11_few.calls k a0_0 a0_1 a0_2 a0_3 a0_4 a0_5 false _ A8.out).mono ?_); rintro e w20 ⟨rfl, hb⟩; have n0_ := Aside0.mk (blk_below (g := gb302) (o := .cells #[.string a0_0, .string a0_1, .string a0_2, .string a0_3, .string a0_4, .string a0_5] 26 (0, 0)) (by (with_reducible repeat (first | refine blk_drewN ?_ _ | refine blk_drew ?_ | refine blk_alloc ?_ _)); exact BK302.out) hb); have n1_ := Aside0.mk (blk_below (g := gb303) (o := .cells #[.string a1_0, .string a1_1, .string a1_2, .string a1_3, .string a1_4, .string a1_5] 26 (0, 0)) (by (with_reducible repeat (first | refine blk_drewN ?_ _ | refine blk_drew ?_ | refine blk_alloc ?_ _)); exact BK303.out) hb); have n2_ := Aside0.mk (below_step (by repeat (first | (with_reducible first | exact HB.out | apply below_alloc | apply pw_below_drewN | apply below_drew1 | refine below_set ?_ GE302.out | refine below_set ?_ GE303.out) | exact HB.out)) hb); clear BK302; clear BK303; clear HB; have BK302 := n0_; have BK303 := n1_; have HB := n2_; clear n0_ n1_ n2_; (try clear hb); (try clear hb2); (try clear hk); (try clear hi)))
        go_meet
        case rel => exact ⟨_, (true), (by first | rfl | (simp; done) | (simp [*]; done)), H', ⟨by first | omega | exact Nat.le_refl _⟩, ⟨by (with_reducible repeat (first | refine blk_drewN ?_ _ | refine blk_drew ?_ | refine blk_alloc ?_ _)); exact BK302.out⟩, ⟨by (with_reducible repeat (first | refine blk_drewN ?_ _ | refine blk_drew ?_ | refine blk_alloc ?_ _)); exact BK303.out⟩, ⟨by repeat (first | (with_reducible first | exact HB.out | apply below_alloc | apply pw_below_drewN | apply below_drew1 | refine below_set ?_ GE302.out | refine below_set ?_ GE303.out) | exact HB.out)⟩⟩
    · replace c7 := Bool.eq_false_iff.mpr c7
      subst c7
      have H1 : (lunettelaw11_TupleBacks.j0 k true a0_0 a0_1 a0_2 a0_3 a0_4 a0_5 a1_0 a1_1 a1_2 a1_3 a1_4 a1_5) = some r := by rw [if_neg (show ¬ (false = true) by decide)] at H; exact H
      clear H
      have H := H1
      clear H1
      have H' := Aside0.mk H
      clear H
      go_wp2_with (first | ((with_reducible refine gate_callee (f := 11) rfl ?_); refine goesL_ (some 11) rfl rfl Tryd.func11 (by kernel_rfl) rfl #[] rfl (by (try simp only [List.map_toArray, List.map_cons, List.map_nil]); first | done | rfl | (simp only [List.length_drop, List.length_take]; rfl)) ?_; (with_reducible refine (lunettelaw11_awake.calls k  false _ A6.out).mono ?_); rintro e w21 ⟨rfl, hb⟩; refine ⟨_, rfl, ?_⟩; have n0_ := Aside0.mk (blk_below (g := gb302) (o := .cells #[.string a0_0, .string a0_1, .string a0_2, .string a0_3, .string a0_4, .string a0_5] 26 (0, 0)) (by (with_reducible repeat (first | refine blk_drewN ?_ _ | refine blk_drew ?_ | refine blk_alloc ?_ _)); exact BK302.out) hb); have n1_ := Aside0.mk (blk_below (g := gb303) (o := .cells #[.string a1_0, .string a1_1, .string a1_2, .string a1_3, .string a1_4, .string a1_5] 26 (0, 0)) (by (with_reducible repeat (first | refine blk_drewN ?_ _ | refine blk_drew ?_ | refine blk_alloc ?_ _)); exact BK303.out) hb); have n2_ := Aside0.mk (below_step (by repeat (first | (with_reducible first | exact HB.out | apply below_alloc | apply pw_below_drewN | apply below_drew1 | refine below_set ?_ GE302.out | refine below_set ?_ GE303.out) | exact HB.out)) hb); clear BK302; clear BK303; clear HB; have BK302 := n0_; have BK303 := n1_; have HB := n2_; clear n0_ n1_ n2_; (try clear hb); (try clear hb2); (try clear hk); (try clear hi)))
      go_meet
      case rel => exact ⟨_, (true), (by first | rfl | (simp; done) | (simp [*]; done)), H', ⟨by first | omega | exact Nat.le_refl _⟩, ⟨by (with_reducible repeat (first | refine blk_drewN ?_ _ | refine blk_drew ?_ | refine blk_alloc ?_ _)); exact BK302.out⟩, ⟨by (with_reducible repeat (first | refine blk_drewN ?_ _ | refine blk_drew ?_ | refine blk_alloc ?_ _)); exact BK303.out⟩, ⟨by repeat (first | (with_reducible first | exact HB.out | apply below_alloc | apply pw_below_drewN | apply below_drew1 | refine below_set ?_ GE302.out | refine below_set ?_ GE303.out) | exact HB.out)⟩⟩
  case rest =>
    clear HC3
    try clear c1
    try clear p2
    try clear c6
    try clear c7
    try clear c9
    try clear c11
    try clear c12
    try clear c18
    try clear hcz13_0
    try clear hcz13_1
    try clear hcz13_2
    try clear hcz13_3
    try clear hcz13_4
    try clear hcz13_5
    try clear hcz15_0
    try clear hcz15_1
    try clear hcz15_2
    try clear hcz15_3
    try clear hcz15_4
    try clear hcz15_5
    try clear hcz19_0
    try clear hcz19_1
    try clear hcz19_2
    try clear hcz19_3
    try clear hcz19_4
    try clear hcz19_5
    try clear hfz13_0
    try clear hfz13_1
    try clear hfz13_2
    try clear hfz13_3
    try clear hfz13_4
    try clear hfz13_5
    try clear hfz15_0
    try clear hfz15_1
    try clear hfz15_2
    try clear hfz15_3
    try clear hfz15_4
    try clear hfz15_5
    try clear hfz19_0
    try clear hfz19_1
    try clear hfz19_2
    try clear hfz19_3
    try clear hfz19_4
    try clear hfz19_5
    obtain ⟨kq, x22_2, rfl, HA, HJ2, BK302, BK303, HB⟩ := hcut
    cases kq with
    | zero => exact absurd HA.out (by simp [lunettelaw11_TupleBacks.j0])
    | succ kj2 =>
      have H := HA.out
      clear HA
      simp only [lunettelaw11_TupleBacks.j0] at H
      by_cases c22 : x22_2 = true
      · subst c22
        have H1 : ((lunettelaw11_awake.f kj2).bind fun t307 => (some t307)) = some r := by rw [if_pos rfl] at H; exact H
        clear H
        have H := H1
        clear H1
        replace H := Option.bind_eq_some_iff.mp H
        obtain ⟨t307, A230, H⟩ := H
        replace H : (some t307) = some r := H
        have A23 := Aside0.mk A230
        clear A230
        obtain rfl := Option.some.inj H
        go_wp2_with (first | ((with_reducible refine gate_callee (f := 11) rfl ?_); refine goesL_ (some 23) rfl rfl Tryd.func11 (by kernel_rfl) rfl #[] rfl (by (try simp only [List.map_toArray, List.map_cons, List.map_nil]); first | done | rfl | (simp only [List.length_drop, List.length_take]; rfl)) ?_; (with_reducible refine (lunettelaw11_awake.calls kj2  t307 _ A23.out).mono ?_); rintro e w24 ⟨rfl, hb⟩; refine ⟨_, rfl, ?_⟩; have n0_ := Aside0.mk (blk_below (g := gb302) (o := .cells #[.string a0_0, .string a0_1, .string a0_2, .string a0_3, .string a0_4, .string a0_5] 26 (0, 0)) (by (with_reducible repeat (first | refine blk_drewN ?_ _ | refine blk_drew ?_ | refine blk_alloc ?_ _)); exact BK302.out) hb); have n1_ := Aside0.mk (blk_below (g := gb303) (o := .cells #[.string a1_0, .string a1_1, .string a1_2, .string a1_3, .string a1_4, .string a1_5] 26 (0, 0)) (by (with_reducible repeat (first | refine blk_drewN ?_ _ | refine blk_drew ?_ | refine blk_alloc ?_ _)); exact BK303.out) hb); have n2_ := Aside0.mk (below_step (by repeat (first | (with_reducible first | exact HB.out | apply below_alloc | apply pw_below_drewN | apply below_drew1 | refine below_set ?_ GE302.out | refine below_set ?_ GE303.out) | exact HB.out)) hb); clear BK302; clear BK303; clear HB; have BK302 := n0_; have BK303 := n1_; have HB := n2_; clear n0_ n1_ n2_; (try clear hb); (try clear hb2); (try clear hk); (try clear hi)))
        go_ret
        exact ⟨by first | rfl | (simp [errW_none, errW_some] <;> rfl) | (simp [*, errW_none, errW_some] <;> rfl), by repeat (first | (with_reducible first | exact HB.out | apply below_alloc | apply pw_below_drewN | apply below_drew1 | refine below_set ?_ GE302.out | refine below_set ?_ GE303.out) | exact HB.out)⟩
      · replace c22 := Bool.eq_false_iff.mpr c22
        subst c22
        have H1 : ((tuple_Back.f a0_0 a0_1 a0_2 a0_3 a0_4 a0_5).bind fun bt308 => ((tuple_Back.f a1_0 a1_1 a1_2 a1_3 a1_4 a1_5).bind fun bt310 => (if bt308.2 = 0 then (lunettelaw11_TupleBacks.j1 kj2 bt308.1 bt308.2 bt310.1 bt310.2 (bt310.2 != 0) a0_0 a0_1 a0_2 a0_3 a0_4 a0_5 a1_0 a1_1 a1_2 a1_3 a1_4 a1_5) else (lunettelaw11_TupleBacks.j1 kj2 bt308.1 bt308.2 bt310.1 bt310.2 true a0_0 a0_1 a0_2 a0_3 a0_4 a0_5 a1_0 a1_1 a1_2 a1_3 a1_4 a1_5)))) = some r := by rw [if_neg (show ¬ (false = true) by decide)] at H; exact H
        clear H
        have H := H1
        clear H1
        replace H := Option.bind_eq_some_iff.mp H
        obtain ⟨⟨t308, t309⟩, A250, H⟩ := H
        replace H : ((tuple_Back.f a1_0 a1_1 a1_2 a1_3 a1_4 a1_5).bind fun bt310 => (if t309 = 0 then (lunettelaw11_TupleBacks.j1 kj2 t308 t309 bt310.1 bt310.2 (bt310.2 != 0) a0_0 a0_1 a0_2 a0_3 a0_4 a0_5 a1_0 a1_1 a1_2 a1_3 a1_4 a1_5) else (lunettelaw11_TupleBacks.j1 kj2 t308 t309 bt310.1 bt310.2 true a0_0 a0_1 a0_2 a0_3 a0_4 a0_5 a1_0 a1_1 a1_2 a1_3 a1_4 a1_5))) = some r := H
        have A25 := Aside0.mk A250
        clear A250
        replace H := Option.bind_eq_some_iff.mp H
        obtain ⟨⟨t310, t311⟩, A260, H⟩ := H
        replace H : (if t309 = 0 then (lunettelaw11_TupleBacks.j1 kj2 t308 t309 t310 t311 (t311 != 0) a0_0 a0_1 a0_2 a0_3 a0_4 a0_5 a1_0 a1_1 a1_2 a1_3 a1_4 a1_5) else (lunettelaw11_TupleBacks.j1 kj2 t308 t309 t310 t311 true a0_0 a0_1 a0_2 a0_3 a0_4 a0_5 a1_0 a1_1 a1_2 a1_3 a1_4 a1_5)) = some r := H
        have A26 := Aside0.mk A260
        clear A260
        have HC27 := Aside0.mk H
        clear H
        have hnb28 := NB302_303.out
        have hnc28 := NB303_302.out
        have hcz29_0 : wc.cell? ⟨gb302, 0, none⟩ = some (.string a0_0) := (blk_cell BK302.out 0).trans rfl
        have hcz29_1 : wc.cell? ⟨gb302, 1, none⟩ = some (.string a0_1) := (blk_cell BK302.out 1).trans rfl
        have hcz29_2 : wc.cell? ⟨gb302, 2, none⟩ = some (.string a0_2) := (blk_cell BK302.out 2).trans rfl
        have hcz29_3 : wc.cell? ⟨gb302, 3, none⟩ = some (.string a0_3) := (blk_cell BK302.out 3).trans rfl
        have hcz29_4 : wc.cell? ⟨gb302, 4, none⟩ = some (.string a0_4) := (blk_cell BK302.out 4).trans rfl
        have hcz29_5 : wc.cell? ⟨gb302, 5, none⟩ = some (.string a0_5) := (blk_cell BK302.out 5).trans rfl
        have hfz29_0 := blk_frozen BK302.out 0
        have hfz29_1 := blk_frozen BK302.out 1
        have hfz29_2 := blk_frozen BK302.out 2
        have hfz29_3 := blk_frozen BK302.out 3
        have hfz29_4 := blk_frozen BK302.out 4
        have hfz29_5 := blk_frozen BK302.out 5
        go_upto_region 5 with (first | ((with_reducible refine gate_callee (f := 19) rfl ?_); refine goesL_ (some 26) rfl rfl Tryd.func19 (by kernel_rfl) rfl #[.agg #[.string a0_0, .string a0_1, .string a0_2, .string a0_3, .string a0_4, .string a0_5]] rfl (by (try simp only [List.map_toArray, List.map_cons, List.map_nil]); first | done | rfl | (simp only [List.length_drop, List.length_take]; rfl)) ?_; (with_reducible refine (tuple_Back.calls a0_0 a0_1 a0_2 a0_3 a0_4 a0_5 t308 t309 _ A25.out).mono ?_); rintro e w30 ⟨rfl, hb⟩; refine ⟨_, rfl, ?_⟩; have n0_ := Aside0.mk (blk_below (g := gb302) (o := .cells #[.string a0_0, .string a0_1, .string a0_2, .string a0_3, .string a0_4, .string a0_5] 26 (0, 0)) (by (with_reducible repeat (first | refine blk_drewN ?_ _ | refine blk_drew ?_ | refine blk_alloc ?_ _)); exact BK302.out) hb); have n1_ := Aside0.mk (blk_below (g := gb303) (o := .cells #[.string a1_0, .string a1_1, .string a1_2, .string a1_3, .string a1_4, .string a1_5] 26 (0, 0)) (by (with_reducible repeat (first | refine blk_drewN ?_ _ | refine blk_drew ?_ | refine blk_alloc ?_ _)); exact BK303.out) hb); have n2_ := Aside0.mk (below_step (by repeat (first | (with_reducible first | exact HB.out | apply below_alloc | apply pw_below_drewN | apply below_drew1 | refine below_set ?_ GE302.out | refine below_set ?_ GE303.out) | exact HB.out)) hb); clear BK302; clear BK303; clear HB; have BK302 := n0_; have BK303 := n1_; have HB := n2_; clear n0_ n1_ n2_; (try clear hb); (try clear hb2); (try clear hk); (try clear hi); have hcz31_0 : w30.cell? ⟨gb303, 0, none⟩ = some (.string a1_0) := (blk_cell BK303.out 0).trans rfl; have hcz31_1 : w30.cell? ⟨gb303, 1, none⟩ = some (.string a1_1) := (blk_cell BK303.out 1).trans rfl; have hcz31_2 : w30.cell? ⟨gb303, 2, none⟩ = some (.string a1_2) := (blk_cell BK303.out 2).trans rfl; have hcz31_3 : w30.cell? ⟨gb303, 3, none⟩ = some (.string a1_3) := (blk_cell BK303.out 3).trans rfl; have hcz31_4 : w30.cell? ⟨gb303, 4, none⟩ = some (.string a1_4) := (blk_cell BK303.out 4).trans rfl; have hcz31_5 : w30.cell? ⟨gb303, 5, none⟩ = some (.string a1_5) := (blk_cell BK303.out 5).trans rfl; have hfz31_0 := blk_frozen BK303.out 0; have hfz31_1 := blk_frozen BK303.out 1; have hfz31_2 := blk_frozen BK303.out 2; have hfz31_3 := blk_frozen BK303.out 3; have hfz31_4 := blk_frozen BK303.out 4; have hfz31_5 := blk_frozen BK303.out 5) | ((with_reducible refine gate_callee (f := 19) rfl ?_); refine goesL_ (some 31) rfl rfl Tryd.func19 (by kernel_rfl) rfl #[.agg #[.string a1_0, .string a1_1, .string a1_2, .string a1_3, .string a1_4, .string a1_5]] rfl (by (try simp only [List.map_toArray, List.map_cons, List.map_nil]); first | done | rfl | (simp only [List.length_drop, List.length_take]; rfl)) ?_; (with_reducible refine (tuple_Back.calls a1_0 a1_1 a1_2 a1_3 a1_4 a1_5 t310 t311 _ A26.out).mono ?_); rintro e w32 ⟨rfl, hb⟩; refine ⟨_, rfl, ?_⟩; have n0_ := Aside0.mk (blk_below (g := gb302) (o := .cells #[.string a0_0, .string a0_1, .string a0_2, .string a0_3, .string a0_4, .string a0_5] 26 (0, 0)) (by (with_reducible repeat (first | refine blk_drewN ?_ _ | refine blk_drew ?_ | refine blk_alloc ?_ _)); exact BK302.out) hb); have n1_ := Aside0.mk (blk_below (g := gb303) (o := .cells #[.string a1_0, .string a1_1, .string a1_2, .string a1_3, .string a1_4, .string a1_5] 26 (0, 0)) (by (with_reducible repeat (first | refine blk_drewN ?_ _ | refine blk_drew ?_ | refine blk_alloc ?_ _)); exact BK303.out) hb); have n2_ := Aside0.mk (below_step (by repeat (first | (with_reducible first | exact HB.out | apply below_alloc | apply pw_below_drewN | apply below_drew1 | refine below_set ?_ GE302.out | refine below_set ?_ GE303.out) | exact HB.out)) hb); clear BK302; clear BK303; clear HB; have BK302 := n0_; have BK303 := n1_; have HB := n2_; clear n0_ n1_ n2_; (try clear hb); (try clear hb2); (try clear hk); (try clear hi)))
        (try simp only [Act.put, List.setIfInBounds_toArray, List.set_cons_zero, List.set_cons_succ])
        go_cut [39] (fun v39 wc => ∃ (kq : Nat) (x39_26 : Bool), v39 = .bool x39_26 ∧ Aside0 (lunettelaw11_TupleBacks.j1 kq t308 t309 t310 t311 x39_26 a0_0 a0_1 a0_2 a0_3 a0_4 a0_5 a1_0 a1_1 a1_2 a1_3 a1_4 a1_5 = some r) ∧ Aside0 (kq ≤ kj2) ∧ Aside0 (wc.heap[gb302]? = some (.cells #[.string a0_0, .string a0_1, .string a0_2, .string a0_3, .string a0_4, .string a0_5] 26 (0, 0))) ∧ Aside0 (wc.heap[gb303]? = some (.cells #[.string a1_0, .string a1_1, .string a1_2, .string a1_3, .string a1_4, .string a1_5] 26 (0, 0))) ∧ Aside0 (Below w.heap.size w wc))
        case first =>
          have H := HC27.out
          clear HC27
          by_cases c33 : t309 = 0
          · rw [if_pos c33] at H
            have c33b0 : (t309 == 0) = true := beq_iff_eq.mpr c33
            have c33b1 : (t309 != 0) = false := bne_eq_false_iff_eq.mpr c33
            clear c33
            (first | rw [c33b0] | (simp only [i64_w, i32_w]; rw [c33b0]) | skip)
            have H' := Aside0.mk H
            clear H
            go_wp2
            go_meet
            case rel => exact ⟨_, ((t311 != 0)), (by first | rfl | (simp; done) | (simp [*]; done)), H', ⟨by have := HJ2.out; first | omega | exact Nat.le_refl _⟩, ⟨by (with_reducible repeat (first | refine blk_drewN ?_ _ | refine blk_drew ?_ | refine blk_alloc ?_ _)); exact BK302.out⟩, ⟨by (with_reducible repeat (first | refine blk_drewN ?_ _ | refine blk_drew ?_ | refine blk_alloc ?_ _)); exact BK303.out⟩, ⟨by repeat (first | (with_reducible first | exact HB.out | apply below_alloc | apply pw_below_drewN | apply below_drew1 | refine below_set ?_ GE302.out | refine below_set ?_ GE303.out) | exact HB.out)⟩⟩
          · rw [if_neg c33] at H
            have c33b0 : (t309 == 0) = false := beq_eq_false_iff_ne.mpr c33
            have c33b1 : (t309 != 0) = true := bne_iff_ne.mpr c33
            (first | rw [c33b0] | (simp only [i64_w, i32_w]; rw [c33b0]) | skip)
            have H' := Aside0.mk H
            clear H
            go_wp2
            go_meet
            case rel => exact ⟨_, (true), (by first | rfl | (simp; done) | (simp [*]; done)), H', ⟨by have := HJ2.out; first | omega | exact Nat.le_refl _⟩, ⟨by (with_reducible repeat (first | refine blk_drewN ?_ _ | refine blk_drew ?_ | refine blk_alloc ?_ _)); exact BK302.out⟩, ⟨by (with_reducible repeat (first | refine blk_drewN ?_ _ | refine blk_drew ?_ | refine blk_alloc ?_ _)); exact BK303.out⟩, ⟨by repeat (first | (with_reducible first | exact HB.out | apply below_alloc | apply pw_below_drewN | apply below_drew1 | refine below_set ?_ GE302.out | refine below_set ?_ GE303.out) | exact HB.out)⟩⟩
        case rest =>
          clear HC27
          try clear c1
          try clear c2
          try clear p2
          try clear c3
          try clear c6
          try clear c7
          try clear c9
          try clear c11
          try clear c12
          try clear c18
          try clear c19
          try clear c22
          try clear c28
          try clear c33
          try clear c33b0
          try clear c33b1
          try clear hcz13_0
          try clear hcz13_1
          try clear hcz13_2
          try clear hcz13_3
          try clear hcz13_4
          try clear hcz13_5
          try clear hcz15_0
          try clear hcz15_1
          try clear hcz15_2
          try clear hcz15_3
          try clear hcz15_4
          try clear hcz15_5
          try clear hcz19_0
          try clear hcz19_1
          try clear hcz19_2
          try clear hcz19_3
          try clear hcz19_4
          try clear hcz19_5
          try clear hcz29_0
          try clear hcz29_1
          try clear hcz29_2
          try clear hcz29_3
          try clear hcz29_4
          try clear hcz29_5
          try clear hcz31_0
          try clear hcz31_1
          try clear hcz31_2
          try clear hcz31_3
          try clear hcz31_4
          try clear hcz31_5
          try clear hfz13_0
          try clear hfz13_1
          try clear hfz13_2
          try clear hfz13_3
          try clear hfz13_4
          try clear hfz13_5
          try clear hfz15_0
          try clear hfz15_1
          try clear hfz15_2
          try clear hfz15_3
          try clear hfz15_4
          try clear hfz15_5
          try clear hfz19_0
          try clear hfz19_1
          try clear hfz19_2
          try clear hfz19_3
          try clear hfz19_4
          try clear hfz19_5
          try clear hfz29_0
          try clear hfz29_1
          try clear hfz29_2
          try clear hfz29_3
          try clear hfz29_4
          try clear hfz29_5
          try clear hfz31_0
          try clear hfz31_1
          try clear hfz31_2
          try clear hfz31_3
          try clear hfz31_4
          try clear hfz31_5
          try clear p2
          obtain ⟨kq, x39_26, rfl, HA, HJ26, BK302, BK303, HB⟩ := hcut
          cases kq with
          | zero => exact absurd HA.out (by simp [lunettelaw11_TupleBacks.j1])
          | succ kj26 =>
            have H := HA.out
            clear HA
            simp only [lunettelaw11_TupleBacks.j1] at H
            by_cases c34 : x39_26 = true
            · subst c34
              have H1 : ((lunetteref11_Check.f kj26 a0_0 a0_1 a0_2 a0_3 a0_4 a0_5).bind fun t312 => (if ((t309 == 0) == t312) = true then ((lunetteref11_Check.f kj26 a1_0 a1_1 a1_2 a1_3 a1_4 a1_5).bind fun t313 => (some ((t311 == 0) == t313))) else (some false))) = some r := by rw [if_pos rfl] at H; exact H
              clear H
              have H := H1
              clear H1
              replace H := Option.bind_eq_some_iff.mp H
              obtain ⟨t312, A350, H⟩ := H
              replace H : (if ((t309 == 0) == t312) = true then ((lunetteref11_Check.f kj26 a1_0 a1_1 a1_2 a1_3 a1_4 a1_5).bind fun t313 => (some ((t311 == 0) == t313))) else (some false)) = some r := H
              have A35 := Aside0.mk A350
              clear A350
              by_cases c36 : ((t309 == 0) == t312) = true
              · rw [if_pos c36] at H
                have c36b0 : ((t309 == 0) == t312) = true := c36
                (try (have c36b1 : decide ((t309 == 0) = t312) = true := by simpa using c36))
                (try (have c36b2 : ((t309 == 0) == t312) = true := by simpa using c36))
                clear c36
                replace H := Option.bind_eq_some_iff.mp H
                obtain ⟨t313, A370, H⟩ := H
                replace H : (some ((t311 == 0) == t313)) = some r := H
                have A37 := Aside0.mk A370
                clear A370
                obtain rfl := Option.some.inj H
                have hnb38 := NB302_303.out
                have hnc38 := NB303_302.out
                have hcz39_0 : wc.cell? ⟨gb302, 0, none⟩ = some (.string a0_0) := (blk_cell BK302.out 0).trans rfl
                have hcz39_1 : wc.cell? ⟨gb302, 1, none⟩ = some (.string a0_1) := (blk_cell BK302.out 1).trans rfl
                have hcz39_2 : wc.cell? ⟨gb302, 2, none⟩ = some (.string a0_2) := (blk_cell BK302.out 2).trans rfl
                have hcz39_3 : wc.cell? ⟨gb302, 3, none⟩ = some (.string a0_3) := (blk_cell BK302.out 3).trans rfl
                have hcz39_4 : wc.cell? ⟨gb302, 4, none⟩ = some (.string a0_4) := (blk_cell BK302.out 4).trans rfl
                have hcz39_5 : wc.cell? ⟨gb302, 5, none⟩ = some (.string a0_5) := (blk_cell BK302.out 5).trans rfl
                have hfz39_0 := blk_frozen BK302.out 0
                have hfz39_1 := blk_frozen BK302.out 1
                have hfz39_2 := blk_frozen BK302.out 2
                have hfz39_3 := blk_frozen BK302.out 3
                have hfz39_4 := blk_frozen BK302.out 4
                have hfz39_5 := blk_frozen BK302.out 5
                go_wp2_with (first | ((with_reducible refine gate_callee (f := 13) rfl ?_); refine goesL_ (some 43) rfl rfl Tryd.func13 (by kernel_rfl) rfl #[.agg #[.string a0_0, .string a0_1, .string a0_2, .string a0_3, .string a0_4, .string a0_5]] rfl (by (try simp only [List.map_toArray, List.map_cons, List.map_nil]); first | done | rfl | (simp only [List.length_drop, List.length_take]; rfl)) ?_; (with_reducible refine (lunetteref11_Check.calls kj26 a0_0 a0_1 a0_2 a0_3 a0_4 a0_5 t312 _ A35.out).mono ?_); rintro e w40 ⟨rfl, hb⟩; refine ⟨_, rfl, ?_⟩; have n0_ := Aside0.mk (blk_below (g := gb302) (o := .cells #[.string a0_0, .string a0_1, .string a0_2, .string a0_3, .string a0_4, .string a0_5] 26 (0, 0)) (by (with_reducible repeat (first | refine blk_drewN ?_ _ | refine blk_drew ?_ | refine blk_alloc ?_ _)); exact BK302.out) hb); have n1_ := Aside0.mk (blk_below (g := gb303) (o := .cells #[.string a1_0, .string a1_1, .string a1_2, .string a1_3, .string a1_4, .string a1_5] 26 (0, 0)) (by (with_reducible repeat (first | refine blk_drewN ?_ _ | refine blk_drew ?_ | refine blk_alloc ?_ _)); exact BK303.out) hb); have n2_ := Aside0.mk (below_step (by repeat (first | (with_reducible first | exact HB.out | apply below_alloc | apply pw_below_drewN | apply below_drew1 | refine below_set ?_ GE302.out | refine below_set ?_ GE303.out) | exact HB.out)) hb); clear BK302; clear BK303; clear HB; have BK302 := n0_; have BK303 := n1_; have HB := n2_; clear n0_ n1_ n2_; (try clear hb); (try clear hb2); (try clear hk); (try clear hi); have hcz41_0 : w40.cell? ⟨gb303, 0, none⟩ = some (.string a1_0) := (blk_cell BK303.out 0).trans rfl; have hcz41_1 : w40.cell? ⟨gb303, 1, none⟩ = some (.string a1_1) := (blk_cell BK303.out 1).trans rfl; have hcz41_2 : w40.cell? ⟨gb303, 2, none⟩ = some (.string a1_2) := (blk_cell BK303.out 2).trans rfl; have hcz41_3 : w40.cell? ⟨gb303, 3, none⟩ = some (.string a1_3) := (blk_cell BK303.out 3).trans rfl; have hcz41_4 : w40.cell? ⟨gb303, 4, none⟩ = some (.string a1_4) := (blk_cell BK303.out 4).trans rfl; have hcz41_5 : w40.cell? ⟨gb303, 5, none⟩ = some (.string a1_5) := (blk_cell BK303.out 5).trans rfl; have hfz41_0 := blk_frozen BK303.out 0; have hfz41_1 := blk_frozen BK303.out 1; have hfz41_2 := blk_frozen BK303.out 2; have hfz41_3 := blk_frozen BK303.out 3; have hfz41_4 := blk_frozen BK303.out 4; have hfz41_5 := blk_frozen BK303.out 5) | (go_at_call 13; (with_reducible refine (lunetteref11_Check.calls kj26 a1_0 a1_1 a1_2 a1_3 a1_4 a1_5 t313 _ A37.out).mono ?_); rintro e w42 ⟨rfl, hb⟩; have n0_ := Aside0.mk (blk_below (g := gb302) (o := .cells #[.string a0_0, .string a0_1, .string a0_2, .string a0_3, .string a0_4, .string a0_5] 26 (0, 0)) (by (with_reducible repeat (first | refine blk_drewN ?_ _ | refine blk_drew ?_ | refine blk_alloc ?_ _)); exact BK302.out) hb); have n1_ := Aside0.mk (blk_below (g := gb303) (o := .cells #[.string a1_0, .string a1_1, .string a1_2, .string a1_3, .string a1_4, .string a1_5] 26 (0, 0)) (by (with_reducible repeat (first | refine blk_drewN ?_ _ | refine blk_drew ?_ | refine blk_alloc ?_ _)); exact BK303.out) hb); have n2_ := Aside0.mk (below_step (by repeat (first | (with_reducible first | exact HB.out | apply below_alloc | apply pw_below_drewN | apply below_drew1 | refine below_set ?_ GE302.out | refine below_set ?_ GE303.out) | exact HB.out)) hb); clear BK302; clear BK303; clear HB; have BK302 := n0_; have BK303 := n1_; have HB := n2_; clear n0_ n1_ n2_; (try clear hb); (try clear hb2); (try clear hk); (try clear hi)))
                go_ret
                exact ⟨by first | rfl | (simp [errW_none, errW_some] <;> rfl) | (simp [*, errW_none, errW_some] <;> rfl), by repeat (first | (with_reducible first | exact HB.out | apply below_alloc | apply pw_below_drewN | apply below_drew1 | refine below_set ?_ GE302.out | refine below_set ?_ GE303.out) | exact HB.out)⟩
              · rw [if_neg c36] at H
                have c36b0 : ((t309 == 0) == t312) = false := by simpa using c36
                (try (have c36b1 : decide ((t309 == 0) = t312) = false := by simpa using c36))
                (try (have c36b2 : ((t309 == 0) == t312) = false := by simpa using c36))
                (try (have c36b3 : ¬ ((t309 == 0) = t312) := by simpa using c36))
                clear c36
                exact absurd ((Option.some.inj H).trans HTRUE.out) (by decide)
            · replace c34 := Bool.eq_false_iff.mpr c34
              subst c34
              have H1 : ((lunetteref01_Below.f kj26 t308 t310).bind fun t320 => ((lunetteref01_Less.f kj26 (([a0_3, a0_4, a0_5, a0_0, a0_1, a0_2] : List ByteArray)) (([a1_3, a1_4, a1_5, a1_0, a1_1, a1_2] : List ByteArray))).bind fun t321 => (if (t320 == t321) = true then (some ((t308.toList == t310.toList) == (a0_0.toList == a1_0.toList && (a0_1.toList == a1_1.toList && (a0_2.toList == a1_2.toList && ((a0_3.toList == a1_3.toList && (a0_4.toList == a1_4.toList && (a0_5.toList == a1_5.toList))))))))) else (some false)))) = some r := by rw [if_neg (show ¬ (false = true) by decide)] at H; exact H
              clear H
              have H := H1
              clear H1
              obtain ⟨y314, hy314⟩ : ∃ y_ : List ByteArray, y_ = (([a0_3, a0_4, a0_5, a0_0, a0_1, a0_2] : List ByteArray)) := ⟨_, rfl⟩
              replace H : ((lunetteref01_Below.f kj26 t308 t310).bind fun t320 => ((lunetteref01_Less.f kj26 y314 (([a1_3, a1_4, a1_5, a1_0, a1_1, a1_2] : List ByteArray))).bind fun t321 => (if (t320 == t321) = true then (some ((t308.toList == t310.toList) == (a0_0.toList == a1_0.toList && (a0_1.toList == a1_1.toList && (a0_2.toList == a1_2.toList && ((a0_3.toList == a1_3.toList && (a0_4.toList == a1_4.toList && (a0_5.toList == a1_5.toList))))))))) else (some false)))) = some r := by first | (rw [hy314]; with_reducible exact H) | (have H2_ := (Option.bind_some _ _).symm.trans H; rw [hy314]; with_reducible exact H2_) | (have H2_ := (Option.bind_some _ _).symm.trans H; with_reducible exact H2_) | with_reducible exact H | (rw [hy314]; exact H) | exact H
              have Ny314 := Aside0.mk hy314
              clear hy314
              obtain ⟨y317, hy317⟩ : ∃ y_ : List ByteArray, y_ = (([a1_3, a1_4, a1_5, a1_0, a1_1, a1_2] : List ByteArray)) := ⟨_, rfl⟩
              replace H : ((lunetteref01_Below.f kj26 t308 t310).bind fun t320 => ((lunetteref01_Less.f kj26 y314 y317).bind fun t321 => (if (t320 == t321) = true then (some ((t308.toList == t310.toList) == (a0_0.toList == a1_0.toList && (a0_1.toList == a1_1.toList && (a0_2.toList == a1_2.toList && ((a0_3.toList == a1_3.toList && (a0_4.toList == a1_4.toList && (a0_5.toList == a1_5.toList))))))))) else (some false)))) = some r := by first | (rw [hy317]; with_reducible exact H) | (have H2_ := (Option.bind_some _ _).symm.trans H; rw [hy317]; with_reducible exact H2_) | (have H2_ := (Option.bind_some _ _).symm.trans H; with_reducible exact H2_) | with_reducible exact H | (rw [hy317]; exact H) | exact H
              have Ny317 := Aside0.mk hy317
              clear hy317
              replace H := Option.bind_eq_some_iff.mp H
              obtain ⟨t320, A430, H⟩ := H
              replace H : ((lunetteref01_Less.f kj26 y314 y317).bind fun t321 => (if (t320 == t321) = true then (some ((t308.toList == t310.toList) == (a0_0.toList == a1_0.toList && (a0_1.toList == a1_1.toList && (a0_2.toList == a1_2.toList && ((a0_3.toList == a1_3.toList && (a0_4.toList == a1_4.toList && (a0_5.toList == a1_5.toList))))))))) else (some false))) = some r := H
              have A43 := Aside0.mk A430
              clear A430
              replace H := Option.bind_eq_some_iff.mp H
              obtain ⟨t321, A440, H⟩ := H
              replace H : (if (t320 == t321) = true then (some ((t308.toList == t310.toList) == (a0_0.toList == a1_0.toList && (a0_1.toList == a1_1.toList && (a0_2.toList == a1_2.toList && ((a0_3.toList == a1_3.toList && (a0_4.toList == a1_4.toList && (a0_5.toList == a1_5.toList))))))))) else (some false)) = some r := H
              have A44 := Aside0.mk A440
              clear A440
              by_cases c45 : (t320 == t321) = true
              · rw [if_pos c45] at H
                have c45b0 : (t320 == t321) = true := c45
                (try (have c45b1 : decide (t320 = t321) = true := by simpa using c45))
                (try (have c45b2 : (t320 == t321) = true := by simpa using c45))
                clear c45
                obtain rfl := Option.some.inj H
                have hnb46 := NB302_303.out
                have hnc46 := NB303_302.out
                have hcz47_0 : wc.cell? ⟨gb302, 0, none⟩ = some (.string a0_0) := (blk_cell BK302.out 0).trans rfl
                have hcz47_1 : wc.cell? ⟨gb302, 1, none⟩ = some (.string a0_1) := (blk_cell BK302.out 1).trans rfl
                have hcz47_2 : wc.cell? ⟨gb302, 2, none⟩ = some (.string a0_2) := (blk_cell BK302.out 2).trans rfl
                have hcz47_3 : wc.cell? ⟨gb302, 3, none⟩ = some (.string a0_3) := (blk_cell BK302.out 3).trans rfl
                have hcz47_4 : wc.cell? ⟨gb302, 4, none⟩ = some (.string a0_4) := (blk_cell BK302.out 4).trans rfl
                have hcz47_5 : wc.cell? ⟨gb302, 5, none⟩ = some (.string a0_5) := (blk_cell BK302.out 5).trans rfl
                have hfz47_0 := blk_frozen BK302.out 0
                have hfz47_1 := blk_frozen BK302.out 1
                have hfz47_2 := blk_frozen BK302.out 2
                have hfz47_3 := blk_frozen BK302.out 3
                have hfz47_4 := blk_frozen BK302.out 4
                have hfz47_5 := blk_frozen BK302.out 5
                go_wp2_with (first | ((with_reducible refine gate_dst (N := 67) rfl ?_); refine Kd.R_lit Kd.string _ 9 ?hg (N := 67) ?hd (xs := ([a0_3, a0_4, a0_5, a0_0, a0_1, a0_2] : List ByteArray)) (inner := [.string a0_3, .string a0_4, .string a0_5, .string a0_0, .string a0_1, .string a0_2]) (ok := fun _ => True) (okp := fun _ => True) ?hr ?hp (fun _ hk => hk) trivial (Below.refl _ _) (Nat.le_refl _) (by simp) ?_; (case hd => rfl); (case hg => rfl); (case hr => first | (go_simp; done) | (go_simp; rfl)); (case hp => exact (Reps.one (show Kd.M Kd.string _ _ _ a0_3 [.string a0_3] from rfl) (Reps.one (show Kd.M Kd.string _ _ _ a0_4 [.string a0_4] from rfl) (Reps.one (show Kd.M Kd.string _ _ _ a0_5 [.string a0_5] from rfl) (Reps.one (show Kd.M Kd.string _ _ _ a0_0 [.string a0_0] from rfl) (Reps.one (show Kd.M Kd.string _ _ _ a0_1 [.string a0_1] from rfl) (Reps.one (show Kd.M Kd.string _ _ _ a0_2 [.string a0_2] from rfl) (Reps.none _ _)))))))); intro v315 w48 ho49 hb hg_ hnew_; clear hg_ hnew_; (first | rw [← Ny314.out] at ho49 | (simp only [Int.reduceToNat] at ho49; rw [← Ny314.out] at ho49)); have n0_ := Aside0.mk (Kd.R_lower ho49 (below_size (by repeat (first | (with_reducible first | exact HB.out | apply below_alloc | apply pw_below_drewN | apply below_drew1 | refine below_set ?_ GE302.out | refine below_set ?_ GE303.out) | exact HB.out)))); have n1_ := Aside0.mk (blk_below (g := gb302) (o := .cells #[.string a0_0, .string a0_1, .string a0_2, .string a0_3, .string a0_4, .string a0_5] 26 (0, 0)) (by (with_reducible repeat (first | refine blk_drewN ?_ _ | refine blk_drew ?_ | refine blk_alloc ?_ _)); exact BK302.out) hb); have n2_ := Aside0.mk (blk_below (g := gb303) (o := .cells #[.string a1_0, .string a1_1, .string a1_2, .string a1_3, .string a1_4, .string a1_5] 26 (0, 0)) (by (with_reducible repeat (first | refine blk_drewN ?_ _ | refine blk_drew ?_ | refine blk_alloc ?_ _)); exact BK303.out) hb); have n3_ := Aside0.mk (below_step (by repeat (first | (with_reducible first | exact HB.out | apply below_alloc | apply pw_below_drewN | apply below_drew1 | refine below_set ?_ GE302.out | refine below_set ?_ GE303.out) | exact HB.out)) hb); clear BK302; clear BK303; clear HB; have HO316 := n0_; have BK302 := n1_; have BK303 := n2_; have HB := n3_; clear n0_ n1_ n2_ n3_; clear hb ho49; have hcz50_0 : w48.cell? ⟨gb303, 0, none⟩ = some (.string a1_0) := (blk_cell BK303.out 0).trans rfl; have hcz50_1 : w48.cell? ⟨gb303, 1, none⟩ = some (.string a1_1) := (blk_cell BK303.out 1).trans rfl; have hcz50_2 : w48.cell? ⟨gb303, 2, none⟩ = some (.string a1_2) := (blk_cell BK303.out 2).trans rfl; have hcz50_3 : w48.cell? ⟨gb303, 3, none⟩ = some (.string a1_3) := (blk_cell BK303.out 3).trans rfl; have hcz50_4 : w48.cell? ⟨gb303, 4, none⟩ = some (.string a1_4) := (blk_cell BK303.out 4).trans rfl; have hcz50_5 : w48.cell? ⟨gb303, 5, none⟩ = some (.string a1_5) := (blk_cell BK303.out 5).trans rfl; have hfz50_0 := blk_frozen BK303.out 0; have hfz50_1 := blk_frozen BK303.out 1; have hfz50_2 := blk_frozen BK303.out 2; have hfz50_3 := blk_frozen BK303.out 3; have hfz50_4 := blk_frozen BK303.out 4; have hfz50_5 := blk_frozen BK303.out 5) | ((with_reducible refine gate_dst (N := 83) rfl ?_); refine Kd.R_lit Kd.string _ 9 ?hg (N := 83) ?hd (xs := ([a1_3, a1_4, a1_5, a1_0, a1_1, a1_2] : List ByteArray)) (inner := [.string a1_3, .string a1_4, .string a1_5, .string a1_0, .string a1_1, .string a1_2]) (ok := fun _ => True) (okp := fun _ => True) ?hr ?hp (fun _ hk => hk) trivial (Below.refl _ _) (Nat.le_refl _) (by simp) ?_; (case hd => rfl); (case hg => rfl); (case hr => first | (go_simp; done) | (go_simp; rfl)); (case hp => exact (Reps.one (show Kd.M Kd.string _ _ _ a1_3 [.string a1_3] from rfl) (Reps.one (show Kd.M Kd.string _ _ _ a1_4 [.string a1_4] from rfl) (Reps.one (show Kd.M Kd.string _ _ _ a1_5 [.string a1_5] from rfl) (Reps.one (show Kd.M Kd.string _ _ _ a1_0 [.string a1_0] from rfl) (Reps.one (show Kd.M Kd.string _ _ _ a1_1 [.string a1_1] from rfl) (Reps.one (show Kd.M Kd.string _ _ _ a1_2 [.string a1_2] from rfl) (Reps.none _ _)))))))); intro v318 w51 ho52 hb hg_ hnew_; clear hg_ hnew_; (first | rw [← Ny317.out] at ho52 | (simp only [Int.reduceToNat] at ho52; rw [← Ny317.out] at ho52)); have n0_ := Aside0.mk (Kd.R_elder' (by (with_reducible repeat (first | apply Kd.R_alloc | apply Kd.R_drewN | apply Kd.R_drew)); exact HO316.out) (Kd.R_base ho52) hb); have n1_ := Aside0.mk (Kd.R_lower (Kd.R_new' ho52 (Kd.R_lt (by (with_reducible repeat (first | apply Kd.R_alloc | apply Kd.R_drewN | apply Kd.R_drew)); exact HO316.out))) (below_size (by repeat (first | (with_reducible first | exact HB.out | apply below_alloc | apply pw_below_drewN | apply below_drew1 | refine below_set ?_ GE302.out | refine below_set ?_ GE303.out) | exact HB.out)))); have n2_ := Aside0.mk (blk_below (g := gb302) (o := .cells #[.string a0_0, .string a0_1, .string a0_2, .string a0_3, .string a0_4, .string a0_5] 26 (0, 0)) (by (with_reducible repeat (first | refine blk_drewN ?_ _ | refine blk_drew ?_ | refine blk_alloc ?_ _)); exact BK302.out) hb); have n3_ := Aside0.mk (blk_below (g := gb303) (o := .cells #[.string a1_0, .string a1_1, .string a1_2, .string a1_3, .string a1_4, .string a1_5] 26 (0, 0)) (by (with_reducible repeat (first | refine blk_drewN ?_ _ | refine blk_drew ?_ | refine blk_alloc ?_ _)); exact BK303.out) hb); have n4_ := Aside0.mk (below_step (by repeat (first | (with_reducible first | exact HB.out | apply below_alloc | apply pw_below_drewN | apply below_drew1 | refine below_set ?_ GE302.out | refine below_set ?_ GE303.out) | exact HB.out)) hb); clear HO316; clear BK302; clear BK303; clear HB; have HO316 := n0_; have HO319 := n1_; have BK302 := n2_; have BK303 := n3_; have HB := n4_; clear n0_ n1_ n2_ n3_ n4_; clear hb ho52) | ((with_reducible refine gate_callee (f := 20) rfl ?_); refine goesL_ (some 86) rfl rfl Tryd.func20 (by kernel_rfl) rfl #[.string t308, .string t310] rfl (by (try simp only [List.map_toArray, List.map_cons, List.map_nil]); first | done | rfl | (simp only [List.length_drop, List.length_take]; rfl)) ?_; (with_reducible refine (lunetteref01_Below.calls kj26 t308 t310 t320 _ A43.out).mono ?_); rintro e w' ⟨rfl, ⟨nd, rfl⟩⟩; refine ⟨_, rfl, ?_⟩; obtain ⟨Ao53, co53, eo53⟩ := Kd.R_slice HO316.out; subst eo53; obtain ⟨Ao54, co54, eo54⟩ := Kd.R_slice HO319.out; subst eo54) | ((with_reducible refine gate_callee (f := 21) rfl ?_); refine goesL_ (some 89) rfl rfl Tryd.func21 (by kernel_rfl) rfl #[.slice Ao53 y314.length co53, .slice Ao54 y317.length co54] rfl (by (try simp only [List.map_toArray, List.map_cons, List.map_nil]); first | done | rfl | (simp only [List.length_drop, List.length_take]; rfl)) ?_; (with_reducible refine (lunetteref01_Less.calls kj26 _ _ y314 _ _ y317 t321 _ ?side1 ?side2 ?side3 ?side4 A44.out).mono ?_); (case side1 => repeat (first | exact (Kd.R_reads' HO316.out).2.2 | (with_reducible refine Kd.C_alloc ?_ _) | (with_reducible refine Kd.C_drewN ?_ _) | (with_reducible refine Kd.C_drew ?_))); (case side2 => exact (Kd.R_reads' HO316.out).2.1); (case side3 => repeat (first | exact (Kd.R_reads' HO319.out).2.2 | (with_reducible refine Kd.C_alloc ?_ _) | (with_reducible refine Kd.C_drewN ?_ _) | (with_reducible refine Kd.C_drew ?_))); (case side4 => exact (Kd.R_reads' HO319.out).2.1); rintro e w' ⟨rfl, ⟨nd, rfl⟩⟩; refine ⟨_, rfl, ?_⟩; have hcz55_0 : w51.cell? ⟨gb302, 0, none⟩ = some (.string a0_0) := (blk_cell BK302.out 0).trans rfl; have hcz55_1 : w51.cell? ⟨gb302, 1, none⟩ = some (.string a0_1) := (blk_cell BK302.out 1).trans rfl; have hcz55_2 : w51.cell? ⟨gb302, 2, none⟩ = some (.string a0_2) := (blk_cell BK302.out 2).trans rfl; have hcz55_3 : w51.cell? ⟨gb302, 3, none⟩ = some (.string a0_3) := (blk_cell BK302.out 3).trans rfl; have hcz55_4 : w51.cell? ⟨gb302, 4, none⟩ = some (.string a0_4) := (blk_cell BK302.out 4).trans rfl; have hcz55_5 : w51.cell? ⟨gb302, 5, none⟩ = some (.string a0_5) := (blk_cell BK302.out 5).trans rfl; have hfz55_0 := blk_frozen BK302.out 0; have hfz55_1 := blk_frozen BK302.out 1; have hfz55_2 := blk_frozen BK302.out 2; have hfz55_3 := blk_frozen BK302.out 3; have hfz55_4 := blk_frozen BK302.out 4; have hfz55_5 := blk_frozen BK302.out 5; have hcz56_0 : w51.cell? ⟨gb303, 0, none⟩ = some (.string a1_0) := (blk_cell BK303.out 0).trans rfl; have hcz56_1 : w51.cell? ⟨gb303, 1, none⟩ = some (.string a1_1) := (blk_cell BK303.out 1).trans rfl; have hcz56_2 : w51.cell? ⟨gb303, 2, none⟩ = some (.string a1_2) := (blk_cell BK303.out 2).trans rfl; have hcz56_3 : w51.cell? ⟨gb303, 3, none⟩ = some (.string a1_3) := (blk_cell BK303.out 3).trans rfl; have hcz56_4 : w51.cell? ⟨gb303, 4, none⟩ = some (.string a1_4) := (blk_cell BK303.out 4).trans rfl; have hcz56_5 : w51.cell? ⟨gb303, 5, none⟩ = some (.string a1_5) := (blk_cell BK303.out 5).trans rfl; have hfz56_0 := blk_frozen BK303.out 0; have hfz56_1 := blk_frozen BK303.out 1; have hfz56_2 := blk_frozen BK303.out 2; have hfz56_3 := blk_frozen BK303.out 3; have hfz56_4 := blk_frozen BK303.out 4; have hfz56_5 := blk_frozen BK303.out 5))
                go_ret
                exact ⟨by first | rfl | (simp [errW_none, errW_some] <;> rfl) | (simp [*, errW_none, errW_some] <;> rfl), by repeat (first | (with_reducible first | exact HB.out | apply below_alloc | apply pw_below_drewN | apply below_drew1 | refine below_set ?_ GE302.out | refine below_set ?_ GE303.out) | exact HB.out)⟩
              · rw [if_neg c45] at H
                have c45b0 : (t320 == t321) = false := by simpa using c45
                (try (have c45b1 : decide (t320 = t321) = false := by simpa using c45))
                (try (have c45b2 : (t320 == t321) = false := by simpa using c45))
                (try (have c45b3 : ¬ (t320 = t321) := by simpa using c45))
                clear c45
                exact absurd ((Option.some.inj H).trans HTRUE.out) (by decide)

end Go.Proofs.YtggcipjdhhnnkaaDoor.K
