-- Written by a program of this session (wip/pp.py over the kit's print.py). Lean checks it.
import Derived.Test.YtggcipjdhhnnkaaDoorP0
import Derived.Test.YtggcipjdhhnnkaaDoorPMa
namespace Go.Proofs.YtggcipjdhhnnkaaDoor.K
open Go.RowKit Go.Proofs.YtggcipjdhhnnkaaDoorW.PrintWords Go.Proofs.YtggcipjdhhnnkaaDoorW.PrintLast Go.Proofs.YtggcipjdhhnnkaaDoorW.PrintMore
attribute [local go_sem] max2_int min2_int max_two min_two max_three min_three max_four min_four   -- for this text's walks alone
set_option linter.unusedVariables false
set_option linter.unusedSimpArgs false

/-! ### tuple_OfKey: function 12 -/
mutual
def tuple_OfKey.j0 : Nat → List ByteArray → Bool → Option (ByteArray × ByteArray × ByteArray × ByteArray × ByteArray × ByteArray × Bool × Int)
  | 0, _, _ => none
  | k + 1, x5, x31 => if x31 = true then (some ((⟨#[]⟩ : ByteArray), (⟨#[]⟩ : ByteArray), (⟨#[]⟩ : ByteArray), (⟨#[]⟩ : ByteArray), (⟨#[]⟩ : ByteArray), (⟨#[]⟩ : ByteArray), false, 110)) else (if 1 < (x5.length : Int) then (if 2 < (x5.length : Int) then (if 3 < (x5.length : Int) then (if 4 < (x5.length : Int) then (if 5 < (x5.length : Int) then (if 6 < (x5.length : Int) then (if 0 < (x5.length : Int) then (if (rdOf ByteArray.empty x5 0).toList = ([114] : List UInt8) then (tuple_OfKey.j1 k x5 (rdOf ByteArray.empty x5 4) (rdOf ByteArray.empty x5 5) (rdOf ByteArray.empty x5 6) (rdOf ByteArray.empty x5 1) (rdOf ByteArray.empty x5 2) (rdOf ByteArray.empty x5 3)) else (tuple_OfKey.j1 k x5 (rdOf ByteArray.empty x5 1) (rdOf ByteArray.empty x5 2) (rdOf ByteArray.empty x5 3) (rdOf ByteArray.empty x5 4) (rdOf ByteArray.empty x5 5) (rdOf ByteArray.empty x5 6))) else (none)) else (none)) else (none)) else (none)) else (none)) else (none)) else (none))
def tuple_OfKey.j1 : Nat → List ByteArray → ByteArray → ByteArray → ByteArray → ByteArray → ByteArray → ByteArray → Option (ByteArray × ByteArray × ByteArray × ByteArray × ByteArray × ByteArray × Bool × Int)
  | 0, _, _, _, _, _, _, _ => none
  | k + 1, x5, x124000, x124001, x124002, x124003, x124004, x124005 => (tuple_Check.f x124000 x124001 x124002 x124003 x124004 x124005).bind fun t131 => (if t131 = 0 then (if 0 < (x5.length : Int) then (some (x124000, x124001, x124002, x124003, x124004, x124005, ((rdOf ByteArray.empty x5 0).toList == ([114] : List UInt8)), 0)) else (none)) else (some ((⟨#[]⟩ : ByteArray), (⟨#[]⟩ : ByteArray), (⟨#[]⟩ : ByteArray), (⟨#[]⟩ : ByteArray), (⟨#[]⟩ : ByteArray), (⟨#[]⟩ : ByteArray), false, 110)))
end
def tuple_OfKey.f (k : Nat) (a0 : ByteArray) : Option (ByteArray × ByteArray × ByteArray × ByteArray × ByteArray × ByteArray × Bool × Int) := (key_Get.f a0).bind fun bt111 => (if bt111.2 = 0 then (if (bt111.1.length : Int) = 7 then (if 0 < (bt111.1.length : Int) then (if (rdOf ByteArray.empty bt111.1 0).toList = ([102] : List UInt8) then (tuple_OfKey.j0 k bt111.1 false) else (tuple_OfKey.j0 k bt111.1 ((rdOf ByteArray.empty bt111.1 0).toList != ([114] : List UInt8)))) else (none)) else (tuple_OfKey.j0 k bt111.1 true)) else (tuple_OfKey.j0 k bt111.1 true))
theorem tuple_OfKey.mono_l : ∀ k, (∀ y0 y1, LeO (tuple_OfKey.j0 k y0 y1) (tuple_OfKey.j0 (k + 1) y0 y1)) ∧ (∀ y0 y1 y2 y3 y4 y5 y6, LeO (tuple_OfKey.j1 k y0 y1 y2 y3 y4 y5 y6) (tuple_OfKey.j1 (k + 1) y0 y1 y2 y3 y4 y5 y6))
  | 0 => ⟨fun _ _ r h => by simp [tuple_OfKey.j0] at h, fun _ _ _ _ _ _ _ r h => by simp [tuple_OfKey.j1] at h⟩
  | k + 1 => by
    obtain ⟨ih0, ih1⟩ := tuple_OfKey.mono_l k
    refine ⟨?_, ?_⟩
    · intro y0 y1
      unfold tuple_OfKey.j0
      repeat' first
      | (with_reducible exact ih0 _ _)
      | (with_reducible exact ih1 _ _ _ _ _ _ _)
      | (with_reducible exact LeO.refl _)
      | (with_reducible exact LeO.none _)
      | (with_reducible refine LeO.ite ?_ ?_)
      | (with_reducible refine LeO.bind ?_ (fun _ => ?_))
      | exact ih0 _ _
      | exact ih1 _ _ _ _ _ _ _
      | exact LeO.none _
      | refine LeO.ite ?_ ?_
      | refine LeO.bind ?_ (fun _ => ?_)
    · intro y0 y1 y2 y3 y4 y5 y6
      unfold tuple_OfKey.j1
      repeat' first
      | (with_reducible exact ih0 _ _)
      | (with_reducible exact ih1 _ _ _ _ _ _ _)
      | (with_reducible exact LeO.refl _)
      | (with_reducible exact LeO.none _)
      | (with_reducible refine LeO.ite ?_ ?_)
      | (with_reducible refine LeO.bind ?_ (fun _ => ?_))
      | exact ih0 _ _
      | exact ih1 _ _ _ _ _ _ _
      | exact LeO.none _
      | refine LeO.ite ?_ ?_
      | refine LeO.bind ?_ (fun _ => ?_)
theorem tuple_OfKey.mono : ∀ a0 k, LeO (tuple_OfKey.f k a0) (tuple_OfKey.f (k + 1) a0) := by
  intro a0 k
  obtain ⟨ih0, ih1⟩ := tuple_OfKey.mono_l k
  unfold tuple_OfKey.f
  repeat' first
      | (with_reducible exact ih0 _ _)
      | (with_reducible exact ih1 _ _ _ _ _ _ _)
      | (with_reducible exact LeO.refl _)
      | (with_reducible exact LeO.none _)
      | (with_reducible refine LeO.ite ?_ ?_)
      | (with_reducible refine LeO.bind ?_ (fun _ => ?_))
      | exact ih0 _ _
      | exact ih1 _ _ _ _ _ _ _
      | exact LeO.none _
      | refine LeO.ite ?_ ?_
      | refine LeO.bind ?_ (fun _ => ?_)
def tuple_OfKey.T4 : Bool × List (List Nat × List Nat) := (true, [([], []), ([0], [0]), ([1], [1]), ([], []), ([3], [3]), ([4], [4]), ([], []), ([6], [6]), ([7], [7]), ([], []), ([9], [9]), ([10], [10]), ([], []), ([12], [12]), ([13], [13]), ([], []), ([15], [15]), ([16], [16]), ([11, 14, 17], [11, 14, 17]), ([2, 5, 8, 18], [2, 5, 8, 18]), ([], []), ([20, 19, 0, 1, 2, 3, 4, 5, 6, 7, 8, 9, 10, 11, 12, 13, 14, 15, 16, 17, 18, 19, 20], [19, 20])])
def tuple_OfKey.B4 : List Nat := [0, 1, 3, 0, 8, 24, 0, 64, 192, 0, 512, 1536, 0, 4096, 12288, 0, 32768, 98304, 261632, 524287, 0, 2097151]
theorem tuple_OfKey.tab4 : rtab .any (opsOf Tryd.f12 4) = tuple_OfKey.T4 := by kernel_rfl
theorem tuple_OfKey.bits4 : waitsOk tuple_OfKey.T4.2 tuple_OfKey.B4 = true := by kernel_rfl
def tuple_OfKey.T6 : Bool × List (List Nat × List Nat) := (true, [([], []), ([0], [0]), ([1], [1]), ([], []), ([3], [3]), ([4], [4]), ([], []), ([6], [6]), ([7], [7]), ([], []), ([9], [9]), ([10], [10]), ([], []), ([12], [12]), ([13], [13]), ([], []), ([15], [15]), ([16], [16]), ([11, 14, 17], [11, 14, 17]), ([2, 5, 8, 18], [2, 5, 8, 18]), ([19, 0, 1, 2, 3, 4, 5, 6, 7, 8, 9, 10, 11, 12, 13, 14, 15, 16, 17, 18, 19], [19])])
def tuple_OfKey.B6 : List Nat := [0, 1, 3, 0, 8, 24, 0, 64, 192, 0, 512, 1536, 0, 4096, 12288, 0, 32768, 98304, 261632, 524287, 1048575]
theorem tuple_OfKey.tab6 : rtab .any (opsOf Tryd.f12 6) = tuple_OfKey.T6 := by kernel_rfl
theorem tuple_OfKey.bits6 : waitsOk tuple_OfKey.T6.2 tuple_OfKey.B6 = true := by kernel_rfl
def tuple_OfKey.T9 : Bool × List (List Nat × List Nat) := (true, [([], []), ([], []), ([1], [1]), ([2], [2]), ([3], [3]), ([0, 0], [0]), ([4, 5, 0, 1, 2, 3, 4, 5], [4]), ([6, 0, 1, 2, 3, 4, 5, 6], [])])
def tuple_OfKey.B9 : List Nat := [0, 0, 2, 6, 14, 1, 63, 127]
theorem tuple_OfKey.tab9 : rtab .any (opsOf Tryd.f12 9) = tuple_OfKey.T9 := by kernel_rfl
theorem tuple_OfKey.bits9 : waitsOk tuple_OfKey.T9.2 tuple_OfKey.B9 = true := by kernel_rfl
set_option maxHeartbeats 8000000 in
set_option maxRecDepth 100000 in
theorem tuple_OfKey.calls (k : Nat) (a0 : ByteArray) (r1 : ByteArray) (r2 : ByteArray) (r3 : ByteArray) (r4 : ByteArray) (r5 : ByteArray) (r6 : ByteArray) (r7 : Bool) (r8 : Int) (w : World) (h : tuple_OfKey.f k a0 = some (r1, r2, r3, r4, r5, r6, r7, r8)) :
    Calls Tryd.prog 12 #[.string a0] w fun e w' => e = .returned (.tuple #[.agg #[.string r1, .string r2, .string r3, .string r4, .string r5, .string r6], .bool r7, .int .i64 r8]) ∧ Below w.heap.size w w' := by
  have hu26 := Tryd.underlying26
  have hu24 := Tryd.underlying24
  have HB := Aside0.mk (Below.refl w.heap.size w)
  have H : ((key_Get.f a0).bind fun bt111 => (if bt111.2 = 0 then (if (bt111.1.length : Int) = 7 then (if 0 < (bt111.1.length : Int) then (if (rdOf ByteArray.empty bt111.1 0).toList = ([102] : List UInt8) then (tuple_OfKey.j0 k bt111.1 false) else (tuple_OfKey.j0 k bt111.1 ((rdOf ByteArray.empty bt111.1 0).toList != ([114] : List UInt8)))) else (none)) else (tuple_OfKey.j0 k bt111.1 true)) else (tuple_OfKey.j0 k bt111.1 true))) = some (r1, r2, r3, r4, r5, r6, r7, r8) := h
  clear h
  replace H := Option.bind_eq_some_iff.mp H
  obtain ⟨⟨t111, t112⟩, A20, H⟩ := H
  replace H : (if t112 = 0 then (if (t111.length : Int) = 7 then (if 0 < (t111.length : Int) then (if (rdOf ByteArray.empty t111 0).toList = ([102] : List UInt8) then (tuple_OfKey.j0 k t111 false) else (tuple_OfKey.j0 k t111 ((rdOf ByteArray.empty t111 0).toList != ([114] : List UInt8)))) else (none)) else (tuple_OfKey.j0 k t111 true)) else (tuple_OfKey.j0 k t111 true)) = some (r1, r2, r3, r4, r5, r6, r7, r8) := H
  have A2 := Aside0.mk A20
  clear A20
  have HC3 := Aside0.mk H
  clear H
  go_enter Tryd.func12, Tryd.ntmps12
  go_upto_region 2 with (first | ((with_reducible refine gate_dst (N := 2) rfl ?_); (try (refine gate_guard (by rfl) ?_; dsimp only)); refine box_event ?hg (N := 2) ?hd (cs := #[.string (⟨#[]⟩ : ByteArray), .string (⟨#[]⟩ : ByteArray), .string (⟨#[]⟩ : ByteArray), .string (⟨#[]⟩ : ByteArray), .string (⟨#[]⟩ : ByteArray), .string (⟨#[]⟩ : ByteArray)]) (t := 26) ?hr ?_; (case hd => rfl); (case hg => rfl); (case hr => first | (go_simp; done) | (go_simp; rfl)); intro gb110 hg w4 hbox hb; have n0_ := Aside0.mk (below_step (by repeat (first | (with_reducible first | exact HB.out | apply below_alloc | apply pw_below_drewN | apply below_drew1) | exact HB.out)) hb); have n1_ := Aside0.mk (hbox); have n2_ := Aside0.mk ((by rw [hg]; exact (below_size (by repeat (first | (with_reducible first | exact HB.out | apply below_alloc | apply pw_below_drewN | apply below_drew1) | exact HB.out))) : w.heap.size ≤ gb110)); have n3_ := Aside0.mk ((by rw [hg]; exact (below_size (by repeat (first | (with_reducible first | exact HB.out | apply below_alloc | apply pw_below_drewN | apply below_drew1) | exact HB.out))) : w.heap.size ≤ gb110)); clear HB; have HB := n0_; have BK110 := n1_; have GW110 := n2_; have GE110 := n3_; clear n0_ n1_ n2_ n3_; clear hb hbox hg) | ((with_reducible refine gate_callee (f := 35) rfl ?_); refine goesL_ (some 10) rfl rfl Tryd.func35 (by kernel_rfl) rfl #[.string a0] rfl (by (try simp only [List.map_toArray, List.map_cons, List.map_nil]); first | done | rfl | (simp only [List.length_drop, List.length_take]; rfl)) ?_; (with_reducible refine (key_Get.calls a0 t111 t112 _ A2.out).mono ?_); rintro e w5 ⟨v113, rfl, ho0, hb⟩; refine ⟨_, rfl, ?_⟩; have n0_ := Aside0.mk (Kd.R_lower ho0 (below_size (by repeat (first | (with_reducible first | exact HB.out | apply below_alloc | apply pw_below_drewN | apply below_drew1 | refine below_set ?_ GE110.out) | exact HB.out)))); have n1_ := Aside0.mk (blk_below (g := gb110) (o := .cells #[.string (⟨#[]⟩ : ByteArray), .string (⟨#[]⟩ : ByteArray), .string (⟨#[]⟩ : ByteArray), .string (⟨#[]⟩ : ByteArray), .string (⟨#[]⟩ : ByteArray), .string (⟨#[]⟩ : ByteArray)] 26 (0, 0)) (by (with_reducible repeat (first | refine blk_drewN ?_ _ | refine blk_drew ?_ | refine blk_alloc ?_ _)); exact BK110.out) hb); have n2_ := Aside0.mk (below_step (by repeat (first | (with_reducible first | exact HB.out | apply below_alloc | apply pw_below_drewN | apply below_drew1 | refine below_set ?_ GE110.out) | exact HB.out)) hb); clear BK110; clear HB; have HO114 := n0_; have BK110 := n1_; have HB := n2_; clear n0_ n1_ n2_; (try clear hb); (try clear hb2); (try clear hk); (try clear hi); (try clear ho0)))
  (try simp only [Act.put, List.setIfInBounds_toArray, List.set_cons_zero, List.set_cons_succ])
  go_cut [31] (fun v31 wc => ∃ (kq : Nat) (x31_2 : Bool), v31 = .bool x31_2 ∧ Aside0 (tuple_OfKey.j0 kq t111 x31_2 = some (r1, r2, r3, r4, r5, r6, r7, r8)) ∧ Aside0 (kq ≤ k) ∧ Aside0 (Kd.R Kd.string 9 wc w.heap.size (fun _ => True) v113 t111) ∧ Aside0 (wc.heap[gb110]? = some (.cells #[.string (⟨#[]⟩ : ByteArray), .string (⟨#[]⟩ : ByteArray), .string (⟨#[]⟩ : ByteArray), .string (⟨#[]⟩ : ByteArray), .string (⟨#[]⟩ : ByteArray), .string (⟨#[]⟩ : ByteArray)] 26 (0, 0))) ∧ Aside0 (Below w.heap.size w wc))
  case first =>
    have H := HC3.out
    clear HC3
    by_cases c6 : t112 = 0
    · rw [if_pos c6] at H
      have c6b0 : (t112 == 0) = true := beq_iff_eq.mpr c6
      have c6b1 : (t112 != 0) = false := bne_eq_false_iff_eq.mpr c6
      clear c6
      (first | rw [c6b0] | (simp only [i64_w, i32_w]; rw [c6b0]) | skip)
      by_cases c7 : (t111.length : Int) = 7
      · rw [if_pos c7] at H
        have c7b0 : ((t111.length : Int) == 7) = true := beq_iff_eq.mpr c7
        have c7b1 : ((t111.length : Int) != 7) = false := bne_eq_false_iff_eq.mpr c7
        clear c7
        by_cases c8 : 0 < (t111.length : Int)
        · rw [if_pos c8] at H
          have c8b0 : decide (0 < (t111.length : Int)) = true := decide_eq_true c8
          have c8b1 : decide (0 < t111.length) = true := decide_eq_true (by omega)
          clear c8
          by_cases c9 : (rdOf ByteArray.empty t111 0).toList = ([102] : List UInt8)
          · rw [if_pos c9] at H
            have c9b0 : ((rdOf ByteArray.empty t111 0).toList == ([102] : List UInt8)) = true := beq_iff_eq.mpr c9
            have c9b1 : ((rdOf ByteArray.empty t111 0).toList != ([102] : List UInt8)) = false := bne_eq_false_iff_eq.mpr c9
            clear c9
            have H' := Aside0.mk H
            clear H
            obtain ⟨Ao10, co10, eo10⟩ := Kd.R_slice HO114.out
            subst eo10
            have p115 : 0 ≤ (0 : Int) := (by omega)
            have q115 : 0 < (t111.length : Int) := of_decide_eq_true (by first | (with_reducible assumption) | assumption)
            obtain ⟨ad115, e115, hx115_0⟩ := Kd.at_string (Kd.R_reads' HO114.out).2.2 0 p115 q115
            cases e115
            have qi115 : (0 < t111.length) = True := eq_true (by omega)
            (try rw [show ((0 : Int)).toNat = 0 from rfl] at hx115_0)
            (try rw [Addr.add_zero'] at hx115_0)
            replace p115 := eq_true p115
            replace q115 := eq_true q115
            go_wp2
            go_meet
            case rel => exact ⟨_, (false), (by first | rfl | (simp; done) | (simp [*]; done)), H', ⟨by first | omega | exact Nat.le_refl _⟩, ⟨by (with_reducible repeat (first | apply Kd.R_alloc | apply Kd.R_drewN | apply Kd.R_drew)); exact HO114.out⟩, ⟨by (with_reducible repeat (first | refine blk_drewN ?_ _ | refine blk_drew ?_ | refine blk_alloc ?_ _)); exact BK110.out⟩, ⟨by repeat (first | (with_reducible first | exact HB.out | apply below_alloc | apply pw_below_drewN | apply below_drew1 | refine below_set ?_ GE110.out) | exact HB.out)⟩⟩
          · rw [if_neg c9] at H
            have c9b0 : ((rdOf ByteArray.empty t111 0).toList == ([102] : List UInt8)) = false := beq_eq_false_iff_ne.mpr c9
            have c9b1 : ((rdOf ByteArray.empty t111 0).toList != ([102] : List UInt8)) = true := bne_iff_ne.mpr c9
            have H' := Aside0.mk H
            clear H
            obtain ⟨Ao11, co11, eo11⟩ := Kd.R_slice HO114.out
            subst eo11
            have p115 : 0 ≤ (0 : Int) := (by omega)
            have q115 : 0 < (t111.length : Int) := of_decide_eq_true (by first | (with_reducible assumption) | assumption)
            obtain ⟨ad115, e115, hx115_0⟩ := Kd.at_string (Kd.R_reads' HO114.out).2.2 0 p115 q115
            cases e115
            have qi115 : (0 < t111.length) = True := eq_true (by omega)
            (try rw [show ((0 : Int)).toNat = 0 from rfl] at hx115_0)
            (try rw [Addr.add_zero'] at hx115_0)
            replace p115 := eq_true p115
            replace q115 := eq_true q115
            have p116 : 0 ≤ (0 : Int) := (by omega)
            have q116 : 0 < (t111.length : Int) := of_decide_eq_true (by first | (with_reducible assumption) | assumption)
            obtain ⟨ad116, e116, hx116_0⟩ := Kd.at_string (Kd.R_reads' HO114.out).2.2 0 p116 q116
            obtain rfl : ad115 = ad116 := (by injection e116)
            have qi116 : (0 < t111.length) = True := eq_true (by omega)
            (try rw [show ((0 : Int)).toNat = 0 from rfl] at hx116_0)
            (try rw [Addr.add_zero'] at hx116_0)
            replace p116 := eq_true p116
            replace q116 := eq_true q116
            go_wp2
            go_meet
            case rel => exact ⟨_, (((rdOf ByteArray.empty t111 0).toList != ([114] : List UInt8))), (by first | rfl | (simp; done) | (simp [*]; done)), H', ⟨by first | omega | exact Nat.le_refl _⟩, ⟨by (with_reducible repeat (first | apply Kd.R_alloc | apply Kd.R_drewN | apply Kd.R_drew)); exact HO114.out⟩, ⟨by (with_reducible repeat (first | refine blk_drewN ?_ _ | refine blk_drew ?_ | refine blk_alloc ?_ _)); exact BK110.out⟩, ⟨by repeat (first | (with_reducible first | exact HB.out | apply below_alloc | apply pw_below_drewN | apply below_drew1 | refine below_set ?_ GE110.out) | exact HB.out)⟩⟩
        · rw [if_neg c8] at H
          exact absurd H (by simp)
      · rw [if_neg c7] at H
        have c7b0 : ((t111.length : Int) == 7) = false := beq_eq_false_iff_ne.mpr c7
        have c7b1 : ((t111.length : Int) != 7) = true := bne_iff_ne.mpr c7
        have H' := Aside0.mk H
        clear H
        obtain ⟨Ao12, co12, eo12⟩ := Kd.R_slice HO114.out
        subst eo12
        go_wp2
        go_meet
        case rel => exact ⟨_, (true), (by first | rfl | (simp; done) | (simp [*]; done)), H', ⟨by first | omega | exact Nat.le_refl _⟩, ⟨by (with_reducible repeat (first | apply Kd.R_alloc | apply Kd.R_drewN | apply Kd.R_drew)); exact HO114.out⟩, ⟨by (with_reducible repeat (first | refine blk_drewN ?_ _ | refine blk_drew ?_ | refine blk_alloc ?_ _)); exact BK110.out⟩, ⟨by repeat (first | (with_reducible first | exact HB.out | apply below_alloc | apply pw_below_drewN | apply below_drew1 | refine below_set ?_ GE110.out) | exact HB.out)⟩⟩
    · rw [if_neg c6] at H
      have c6b0 : (t112 == 0) = false := beq_eq_false_iff_ne.mpr c6
      have c6b1 : (t112 != 0) = true := bne_iff_ne.mpr c6
      (first | rw [c6b0] | (simp only [i64_w, i32_w]; rw [c6b0]) | skip)
      have H' := Aside0.mk H
      clear H
      go_wp2
      go_meet
      case rel => exact ⟨_, (true), (by first | rfl | (simp; done) | (simp [*]; done)), H', ⟨by first | omega | exact Nat.le_refl _⟩, ⟨by (with_reducible repeat (first | apply Kd.R_alloc | apply Kd.R_drewN | apply Kd.R_drew)); exact HO114.out⟩, ⟨by (with_reducible repeat (first | refine blk_drewN ?_ _ | refine blk_drew ?_ | refine blk_alloc ?_ _)); exact BK110.out⟩, ⟨by repeat (first | (with_reducible first | exact HB.out | apply below_alloc | apply pw_below_drewN | apply below_drew1 | refine below_set ?_ GE110.out) | exact HB.out)⟩⟩
  case rest =>
    clear HC3
    try clear c1
    try clear p1
    try clear q1
    try clear hx1
    try clear qi1
    try clear p2
    try clear c3
    try clear c6
    try clear c6b0
    try clear c6b1
    try clear c7
    try clear c7b0
    try clear c7b1
    try clear c8
    try clear c8b0
    try clear c8b1
    try clear c9
    try clear c9b0
    try clear c9b1
    try clear p11
    try clear q11
    try clear hx11
    try clear qi11
    try clear c12
    try clear hx115_0
    try clear hx116_0
    try clear p115
    try clear p116
    try clear q115
    try clear q116
    obtain ⟨kq, x31_2, rfl, HA, HJ2, HO_5, BK110, HB⟩ := hcut
    cases kq with
    | zero => exact absurd HA.out (by simp [tuple_OfKey.j0])
    | succ kj2 =>
      have H := HA.out
      clear HA
      simp only [tuple_OfKey.j0] at H
      by_cases c13 : x31_2 = true
      · subst c13
        have H1 : (some ((⟨#[]⟩ : ByteArray), (⟨#[]⟩ : ByteArray), (⟨#[]⟩ : ByteArray), (⟨#[]⟩ : ByteArray), (⟨#[]⟩ : ByteArray), (⟨#[]⟩ : ByteArray), false, 110)) = some (r1, r2, r3, r4, r5, r6, r7, r8) := by rw [if_pos rfl] at H; exact H
        clear H
        have H := H1
        clear H1
        simp only [Option.some.injEq, Prod.mk.injEq] at H
        obtain ⟨rfl, rfl, rfl, rfl, rfl, rfl, rfl, rfl⟩ := H
        have hcz14_0 : wc.cell? ⟨gb110, 0, none⟩ = some (.string (⟨#[]⟩ : ByteArray)) := (blk_cell BK110.out 0).trans rfl
        have hcz14_1 : wc.cell? ⟨gb110, 1, none⟩ = some (.string (⟨#[]⟩ : ByteArray)) := (blk_cell BK110.out 1).trans rfl
        have hcz14_2 : wc.cell? ⟨gb110, 2, none⟩ = some (.string (⟨#[]⟩ : ByteArray)) := (blk_cell BK110.out 2).trans rfl
        have hcz14_3 : wc.cell? ⟨gb110, 3, none⟩ = some (.string (⟨#[]⟩ : ByteArray)) := (blk_cell BK110.out 3).trans rfl
        have hcz14_4 : wc.cell? ⟨gb110, 4, none⟩ = some (.string (⟨#[]⟩ : ByteArray)) := (blk_cell BK110.out 4).trans rfl
        have hcz14_5 : wc.cell? ⟨gb110, 5, none⟩ = some (.string (⟨#[]⟩ : ByteArray)) := (blk_cell BK110.out 5).trans rfl
        have hfz14_0 := blk_frozen BK110.out 0
        have hfz14_1 := blk_frozen BK110.out 1
        have hfz14_2 := blk_frozen BK110.out 2
        have hfz14_3 := blk_frozen BK110.out 3
        have hfz14_4 := blk_frozen BK110.out 4
        have hfz14_5 := blk_frozen BK110.out 5
        go_wp2
        refine bodyPost_ret (results_ctt rfl _ _ gb110 26 #[.string (⟨#[]⟩ : ByteArray), .string (⟨#[]⟩ : ByteArray), .string (⟨#[]⟩ : ByteArray), .string (⟨#[]⟩ : ByteArray), .string (⟨#[]⟩ : ByteArray), .string (⟨#[]⟩ : ByteArray)] (0, 0) _ rfl (by (with_reducible repeat (first | refine blk_drewN ?_ _ | refine blk_drew ?_ | refine blk_alloc ?_ _)); refine blk_put (cs := #[.string (⟨#[]⟩ : ByteArray), .string (⟨#[]⟩ : ByteArray), .string (⟨#[]⟩ : ByteArray), .string (⟨#[]⟩ : ByteArray), .string (⟨#[]⟩ : ByteArray), .string (⟨#[]⟩ : ByteArray)]) ?_ 5 _ rfl; (with_reducible repeat (first | refine blk_drewN ?_ _ | refine blk_drew ?_ | refine blk_alloc ?_ _)); refine blk_put (cs := #[.string (⟨#[]⟩ : ByteArray), .string (⟨#[]⟩ : ByteArray), .string (⟨#[]⟩ : ByteArray), .string (⟨#[]⟩ : ByteArray), .string (⟨#[]⟩ : ByteArray), .string (⟨#[]⟩ : ByteArray)]) ?_ 4 _ rfl; (with_reducible repeat (first | refine blk_drewN ?_ _ | refine blk_drew ?_ | refine blk_alloc ?_ _)); refine blk_put (cs := #[.string (⟨#[]⟩ : ByteArray), .string (⟨#[]⟩ : ByteArray), .string (⟨#[]⟩ : ByteArray), .string (⟨#[]⟩ : ByteArray), .string (⟨#[]⟩ : ByteArray), .string (⟨#[]⟩ : ByteArray)]) ?_ 3 _ rfl; (with_reducible repeat (first | refine blk_drewN ?_ _ | refine blk_drew ?_ | refine blk_alloc ?_ _)); refine blk_put (cs := #[.string (⟨#[]⟩ : ByteArray), .string (⟨#[]⟩ : ByteArray), .string (⟨#[]⟩ : ByteArray), .string (⟨#[]⟩ : ByteArray), .string (⟨#[]⟩ : ByteArray), .string (⟨#[]⟩ : ByteArray)]) ?_ 2 _ rfl; (with_reducible repeat (first | refine blk_drewN ?_ _ | refine blk_drew ?_ | refine blk_alloc ?_ _)); refine blk_put (cs := #[.string (⟨#[]⟩ : ByteArray), .string (⟨#[]⟩ : ByteArray), .string (⟨#[]⟩ : ByteArray), .string (⟨#[]⟩ : ByteArray), .string (⟨#[]⟩ : ByteArray), .string (⟨#[]⟩ : ByteArray)]) ?_ 1 _ rfl; (with_reducible repeat (first | refine blk_drewN ?_ _ | refine blk_drew ?_ | refine blk_alloc ?_ _)); refine blk_put (cs := #[.string (⟨#[]⟩ : ByteArray), .string (⟨#[]⟩ : ByteArray), .string (⟨#[]⟩ : ByteArray), .string (⟨#[]⟩ : ByteArray), .string (⟨#[]⟩ : ByteArray), .string (⟨#[]⟩ : ByteArray)]) ?_ 0 _ rfl; (with_reducible repeat (first | refine blk_drewN ?_ _ | refine blk_drew ?_ | refine blk_alloc ?_ _)); exact BK110.out) Tryd.underlying26 rfl (by kernel_rfl)) rfl ?_
        exact ⟨by first | rfl | (simp [errW_none, errW_some] <;> rfl) | (simp [*, errW_none, errW_some] <;> rfl), by repeat (first | (with_reducible first | exact HB.out | apply below_alloc | apply pw_below_drewN | apply below_drew1 | refine below_set ?_ GE110.out) | exact HB.out)⟩
      · replace c13 := Bool.eq_false_iff.mpr c13
        subst c13
        have H1 : (if 1 < (t111.length : Int) then (if 2 < (t111.length : Int) then (if 3 < (t111.length : Int) then (if 4 < (t111.length : Int) then (if 5 < (t111.length : Int) then (if 6 < (t111.length : Int) then (if 0 < (t111.length : Int) then (if (rdOf ByteArray.empty t111 0).toList = ([114] : List UInt8) then (tuple_OfKey.j1 kj2 t111 (rdOf ByteArray.empty t111 4) (rdOf ByteArray.empty t111 5) (rdOf ByteArray.empty t111 6) (rdOf ByteArray.empty t111 1) (rdOf ByteArray.empty t111 2) (rdOf ByteArray.empty t111 3)) else (tuple_OfKey.j1 kj2 t111 (rdOf ByteArray.empty t111 1) (rdOf ByteArray.empty t111 2) (rdOf ByteArray.empty t111 3) (rdOf ByteArray.empty t111 4) (rdOf ByteArray.empty t111 5) (rdOf ByteArray.empty t111 6))) else (none)) else (none)) else (none)) else (none)) else (none)) else (none)) else (none)) = some (r1, r2, r3, r4, r5, r6, r7, r8) := by rw [if_neg (show ¬ (false = true) by decide)] at H; exact H
        clear H
        have H := H1
        clear H1
        by_cases c15 : 1 < (t111.length : Int)
        · rw [if_pos c15] at H
          have c15b0 : decide (1 < (t111.length : Int)) = true := decide_eq_true c15
          have c15b1 : decide (1 < t111.length) = true := decide_eq_true (by omega)
          clear c15
          by_cases c16 : 2 < (t111.length : Int)
          · rw [if_pos c16] at H
            have c16b0 : decide (2 < (t111.length : Int)) = true := decide_eq_true c16
            have c16b1 : decide (2 < t111.length) = true := decide_eq_true (by omega)
            clear c16
            by_cases c17 : 3 < (t111.length : Int)
            · rw [if_pos c17] at H
              have c17b0 : decide (3 < (t111.length : Int)) = true := decide_eq_true c17
              have c17b1 : decide (3 < t111.length) = true := decide_eq_true (by omega)
              clear c17
              by_cases c18 : 4 < (t111.length : Int)
              · rw [if_pos c18] at H
                have c18b0 : decide (4 < (t111.length : Int)) = true := decide_eq_true c18
                have c18b1 : decide (4 < t111.length) = true := decide_eq_true (by omega)
                clear c18
                by_cases c19 : 5 < (t111.length : Int)
                · rw [if_pos c19] at H
                  have c19b0 : decide (5 < (t111.length : Int)) = true := decide_eq_true c19
                  have c19b1 : decide (5 < t111.length) = true := decide_eq_true (by omega)
                  clear c19
                  by_cases c20 : 6 < (t111.length : Int)
                  · rw [if_pos c20] at H
                    have c20b0 : decide (6 < (t111.length : Int)) = true := decide_eq_true c20
                    have c20b1 : decide (6 < t111.length) = true := decide_eq_true (by omega)
                    clear c20
                    by_cases c21 : 0 < (t111.length : Int)
                    · rw [if_pos c21] at H
                      have c21b0 : decide (0 < (t111.length : Int)) = true := decide_eq_true c21
                      have c21b1 : decide (0 < t111.length) = true := decide_eq_true (by omega)
                      clear c21
                      have HC22 := Aside0.mk H
                      clear H
                      try go_wp2
                      have n0_ := Aside0.mk (Kd.R_drew HO_5.out)
                      have n1_ := Aside0.mk (blk_drew BK110.out)
                      have n2_ := Aside0.mk (below_drew1 HB.out)
                      clear HO_5
                      clear BK110
                      clear HB
                      have HO_5 := n0_
                      have BK110 := n1_
                      have HB := n2_
                      clear n0_ n1_ n2_
                      obtain ⟨Ao24, co24, eo24⟩ := Kd.R_slice HO_5.out
                      (first | subst eo24 | (injection eo24 with f1_ f2_ f3_; have f4_ := f1_.symm; have f5_ := f3_.symm; clear f1_ f2_ f3_; subst f4_; subst f5_))
                      have p117 : 0 ≤ (1 : Int) := (by omega)
                      have q117 : 1 < (t111.length : Int) := of_decide_eq_true (by first | (with_reducible assumption) | assumption)
                      obtain ⟨ad117, e117, hx117_0⟩ := Kd.at_string (Kd.R_reads' HO_5.out).2.2 1 p117 q117
                      cases e117
                      (try simp only [show (1 : Int).toNat = 1 from rfl, Nat.reduceMul, Nat.reduceEqDiff, Go.Addr.add, ↓reduceIte] at hx117_0)
                      have qi117 : (1 < t111.length) = True := eq_true (by omega)
                      (try rw [show ((1 : Int)).toNat = 1 from rfl] at hx117_0)
                      replace p117 := eq_true p117
                      replace q117 := eq_true q117
                      have p118 : 0 ≤ (2 : Int) := (by omega)
                      have q118 : 2 < (t111.length : Int) := of_decide_eq_true (by first | (with_reducible assumption) | assumption)
                      obtain ⟨ad118, e118, hx118_0⟩ := Kd.at_string (Kd.R_reads' HO_5.out).2.2 2 p118 q118
                      obtain rfl : ad117 = ad118 := (by injection e118)
                      (try simp only [show (2 : Int).toNat = 2 from rfl, Nat.reduceMul, Nat.reduceEqDiff, Go.Addr.add, ↓reduceIte] at hx118_0)
                      have qi118 : (2 < t111.length) = True := eq_true (by omega)
                      (try rw [show ((2 : Int)).toNat = 2 from rfl] at hx118_0)
                      replace p118 := eq_true p118
                      replace q118 := eq_true q118
                      have p119 : 0 ≤ (3 : Int) := (by omega)
                      have q119 : 3 < (t111.length : Int) := of_decide_eq_true (by first | (with_reducible assumption) | assumption)
                      obtain ⟨ad119, e119, hx119_0⟩ := Kd.at_string (Kd.R_reads' HO_5.out).2.2 3 p119 q119
                      obtain rfl : ad117 = ad119 := (by injection e119)
                      (try simp only [show (3 : Int).toNat = 3 from rfl, Nat.reduceMul, Nat.reduceEqDiff, Go.Addr.add, ↓reduceIte] at hx119_0)
                      have qi119 : (3 < t111.length) = True := eq_true (by omega)
                      (try rw [show ((3 : Int)).toNat = 3 from rfl] at hx119_0)
                      replace p119 := eq_true p119
                      replace q119 := eq_true q119
                      have p120 : 0 ≤ (4 : Int) := (by omega)
                      have q120 : 4 < (t111.length : Int) := of_decide_eq_true (by first | (with_reducible assumption) | assumption)
                      obtain ⟨ad120, e120, hx120_0⟩ := Kd.at_string (Kd.R_reads' HO_5.out).2.2 4 p120 q120
                      obtain rfl : ad117 = ad120 := (by injection e120)
                      (try simp only [show (4 : Int).toNat = 4 from rfl, Nat.reduceMul, Nat.reduceEqDiff, Go.Addr.add, ↓reduceIte] at hx120_0)
                      have qi120 : (4 < t111.length) = True := eq_true (by omega)
                      (try rw [show ((4 : Int)).toNat = 4 from rfl] at hx120_0)
                      replace p120 := eq_true p120
                      replace q120 := eq_true q120
                      have p121 : 0 ≤ (5 : Int) := (by omega)
                      have q121 : 5 < (t111.length : Int) := of_decide_eq_true (by first | (with_reducible assumption) | assumption)
                      obtain ⟨ad121, e121, hx121_0⟩ := Kd.at_string (Kd.R_reads' HO_5.out).2.2 5 p121 q121
                      obtain rfl : ad117 = ad121 := (by injection e121)
                      (try simp only [show (5 : Int).toNat = 5 from rfl, Nat.reduceMul, Nat.reduceEqDiff, Go.Addr.add, ↓reduceIte] at hx121_0)
                      have qi121 : (5 < t111.length) = True := eq_true (by omega)
                      (try rw [show ((5 : Int)).toNat = 5 from rfl] at hx121_0)
                      replace p121 := eq_true p121
                      replace q121 := eq_true q121
                      have p122 : 0 ≤ (6 : Int) := (by omega)
                      have q122 : 6 < (t111.length : Int) := of_decide_eq_true (by first | (with_reducible assumption) | assumption)
                      obtain ⟨ad122, e122, hx122_0⟩ := Kd.at_string (Kd.R_reads' HO_5.out).2.2 6 p122 q122
                      obtain rfl : ad117 = ad122 := (by injection e122)
                      (try simp only [show (6 : Int).toNat = 6 from rfl, Nat.reduceMul, Nat.reduceEqDiff, Go.Addr.add, ↓reduceIte] at hx122_0)
                      have qi122 : (6 < t111.length) = True := eq_true (by omega)
                      (try rw [show ((6 : Int)).toNat = 6 from rfl] at hx122_0)
                      replace p122 := eq_true p122
                      replace q122 := eq_true q122
                      refine start_ (n := 22) (S := fun w' => w'.cell? ⟨ad117.block, ad117.off + 1, none⟩ = some (.string (rdOf ByteArray.empty t111 1)) ∧ w'.cell? ⟨ad117.block, ad117.off + 2, none⟩ = some (.string (rdOf ByteArray.empty t111 2)) ∧ w'.cell? ⟨ad117.block, ad117.off + 3, none⟩ = some (.string (rdOf ByteArray.empty t111 3)) ∧ w'.cell? ⟨ad117.block, ad117.off + 4, none⟩ = some (.string (rdOf ByteArray.empty t111 4)) ∧ w'.cell? ⟨ad117.block, ad117.off + 5, none⟩ = some (.string (rdOf ByteArray.empty t111 5)) ∧ w'.cell? ⟨ad117.block, ad117.off + 6, none⟩ = some (.string (rdOf ByteArray.empty t111 6))) (ds := []) #[false, false, false, false, false, false, false, false, false, false, false, false, false, false, false, false, false, false, false, false, false, false] (by kernel_rfl) rfl rfl ⟨hx117_0, hx118_0, hx119_0, hx120_0, hx121_0, hx122_0⟩ (fun hHeld => ?_); refine with_tabW tuple_OfKey.tab4 tuple_OfKey.bits4 (fun HT_ HW_ => ?_)
                      generalize wc.drew = w23 at HO_5 BK110 HB hx117_0 hx118_0 hx119_0 hx120_0 hx121_0 hx122_0 hHeld ⊢
                      refine pure_ (i := 0) (N := some 33) (v := ?_) (a' := ?_) #[true, false, false, false, false, false, false, false, false, false, false, false, false, false, false, false, false, false, false, false, false, false] rfl rfl (any_of HT_.out (by kernel_rfl)) (fun _ _ _ h => h) (Or.inl ⟨by rfl, ?_⟩) ?_ ?_
                      rotate_left
                      · intro w'
                        go_simp
                        with_reducible rfl
                      rotate_left
                      · simp only [Act.put, List.setIfInBounds_toArray, List.set_cons_zero, List.set_cons_succ, i64_w, i32_w]
                        rfl
                      refine pure_ (i := 1) (N := some 34) (v := ?_) (a' := ?_) #[true, true, false, false, false, false, false, false, false, false, false, false, false, false, false, false, false, false, false, false, false, false] rfl rfl (any_of HT_.out (by kernel_rfl)) (fun _ _ _ h => h) (Or.inl ⟨by rfl, ?_⟩) ?_ ?_
                      rotate_left
                      · intro w'
                        go_simp
                        with_reducible rfl
                      rotate_left
                      · simp only [Act.put, List.setIfInBounds_toArray, List.set_cons_zero, List.set_cons_succ, i64_w, i32_w]
                        rfl
                      refine pure_ (i := 3) (N := some 36) (v := ?_) (a' := ?_) #[true, true, false, true, false, false, false, false, false, false, false, false, false, false, false, false, false, false, false, false, false, false] rfl rfl (any_of HT_.out (by kernel_rfl)) (fun _ _ _ h => h) (Or.inl ⟨by rfl, ?_⟩) ?_ ?_
                      rotate_left
                      · intro w'
                        go_simp
                        with_reducible rfl
                      rotate_left
                      · simp only [Act.put, List.setIfInBounds_toArray, List.set_cons_zero, List.set_cons_succ, i64_w, i32_w]
                        rfl
                      refine pure_ (i := 4) (N := some 37) (v := ?_) (a' := ?_) #[true, true, false, true, true, false, false, false, false, false, false, false, false, false, false, false, false, false, false, false, false, false] rfl rfl (any_of HT_.out (by kernel_rfl)) (fun _ _ _ h => h) (Or.inl ⟨by rfl, ?_⟩) ?_ ?_
                      rotate_left
                      · intro w'
                        go_simp
                        with_reducible rfl
                      rotate_left
                      · simp only [Act.put, List.setIfInBounds_toArray, List.set_cons_zero, List.set_cons_succ, i64_w, i32_w]
                        rfl
                      refine pure_ (i := 6) (N := some 39) (v := ?_) (a' := ?_) #[true, true, false, true, true, false, true, false, false, false, false, false, false, false, false, false, false, false, false, false, false, false] rfl rfl (any_of HT_.out (by kernel_rfl)) (fun _ _ _ h => h) (Or.inl ⟨by rfl, ?_⟩) ?_ ?_
                      rotate_left
                      · intro w'
                        go_simp
                        with_reducible rfl
                      rotate_left
                      · simp only [Act.put, List.setIfInBounds_toArray, List.set_cons_zero, List.set_cons_succ, i64_w, i32_w]
                        rfl
                      refine pure_ (i := 7) (N := some 40) (v := ?_) (a' := ?_) #[true, true, false, true, true, false, true, true, false, false, false, false, false, false, false, false, false, false, false, false, false, false] rfl rfl (any_of HT_.out (by kernel_rfl)) (fun _ _ _ h => h) (Or.inl ⟨by rfl, ?_⟩) ?_ ?_
                      rotate_left
                      · intro w'
                        go_simp
                        with_reducible rfl
                      rotate_left
                      · simp only [Act.put, List.setIfInBounds_toArray, List.set_cons_zero, List.set_cons_succ, i64_w, i32_w]
                        rfl
                      refine pure_ (i := 9) (N := some 42) (v := ?_) (a' := ?_) #[true, true, false, true, true, false, true, true, false, true, false, false, false, false, false, false, false, false, false, false, false, false] rfl rfl (any_of HT_.out (by kernel_rfl)) (fun _ _ _ h => h) (Or.inl ⟨by rfl, ?_⟩) ?_ ?_
                      rotate_left
                      · intro w'
                        go_simp
                        with_reducible rfl
                      rotate_left
                      · simp only [Act.put, List.setIfInBounds_toArray, List.set_cons_zero, List.set_cons_succ, i64_w, i32_w]
                        rfl
                      refine pure_ (i := 10) (N := some 43) (v := ?_) (a' := ?_) #[true, true, false, true, true, false, true, true, false, true, true, false, false, false, false, false, false, false, false, false, false, false] rfl rfl (any_of HT_.out (by kernel_rfl)) (fun _ _ _ h => h) (Or.inl ⟨by rfl, ?_⟩) ?_ ?_
                      rotate_left
                      · intro w'
                        go_simp
                        with_reducible rfl
                      rotate_left
                      · simp only [Act.put, List.setIfInBounds_toArray, List.set_cons_zero, List.set_cons_succ, i64_w, i32_w]
                        rfl
                      refine pure_ (i := 12) (N := some 45) (v := ?_) (a' := ?_) #[true, true, false, true, true, false, true, true, false, true, true, false, true, false, false, false, false, false, false, false, false, false] rfl rfl (any_of HT_.out (by kernel_rfl)) (fun _ _ _ h => h) (Or.inl ⟨by rfl, ?_⟩) ?_ ?_
                      rotate_left
                      · intro w'
                        go_simp
                        with_reducible rfl
                      rotate_left
                      · simp only [Act.put, List.setIfInBounds_toArray, List.set_cons_zero, List.set_cons_succ, i64_w, i32_w]
                        rfl
                      refine pure_ (i := 13) (N := some 46) (v := ?_) (a' := ?_) #[true, true, false, true, true, false, true, true, false, true, true, false, true, true, false, false, false, false, false, false, false, false] rfl rfl (any_of HT_.out (by kernel_rfl)) (fun _ _ _ h => h) (Or.inl ⟨by rfl, ?_⟩) ?_ ?_
                      rotate_left
                      · intro w'
                        go_simp
                        with_reducible rfl
                      rotate_left
                      · simp only [Act.put, List.setIfInBounds_toArray, List.set_cons_zero, List.set_cons_succ, i64_w, i32_w]
                        rfl
                      refine pure_ (i := 15) (N := some 48) (v := ?_) (a' := ?_) #[true, true, false, true, true, false, true, true, false, true, true, false, true, true, false, true, false, false, false, false, false, false] rfl rfl (any_of HT_.out (by kernel_rfl)) (fun _ _ _ h => h) (Or.inl ⟨by rfl, ?_⟩) ?_ ?_
                      rotate_left
                      · intro w'
                        go_simp
                        with_reducible rfl
                      rotate_left
                      · simp only [Act.put, List.setIfInBounds_toArray, List.set_cons_zero, List.set_cons_succ, i64_w, i32_w]
                        rfl
                      refine pure_ (i := 16) (N := some 49) (v := ?_) (a' := ?_) #[true, true, false, true, true, false, true, true, false, true, true, false, true, true, false, true, true, false, false, false, false, false] rfl rfl (any_of HT_.out (by kernel_rfl)) (fun _ _ _ h => h) (Or.inl ⟨by rfl, ?_⟩) ?_ ?_
                      rotate_left
                      · intro w'
                        go_simp
                        with_reducible rfl
                      rotate_left
                      · simp only [Act.put, List.setIfInBounds_toArray, List.set_cons_zero, List.set_cons_succ, i64_w, i32_w]
                        rfl
                      refine take_ (i := 2) (N := some 35) (v := ?_) (a' := ?_) #[true, true, true, true, true, false, true, true, false, true, true, false, true, true, false, true, true, false, false, false, false, false] rfl rfl (take_ofW HT_.out HW_.out (by kernel_rfl)) (fun _ _ _ h => h) (Or.inl ⟨by rfl, ?_⟩) hHeld ?_ ?_
                      rotate_left
                      · rintro w' ⟨s0, s1, s2, s3, s4, s5⟩
                        go_simp
                        with_reducible rfl
                      rotate_left
                      · simp only [Act.put, List.setIfInBounds_toArray, List.set_cons_zero, List.set_cons_succ, i64_w, i32_w]
                        rfl
                      refine take_ (i := 5) (N := some 38) (v := ?_) (a' := ?_) #[true, true, true, true, true, true, true, true, false, true, true, false, true, true, false, true, true, false, false, false, false, false] rfl rfl (take_ofW HT_.out HW_.out (by kernel_rfl)) (fun _ _ _ h => h) (Or.inl ⟨by rfl, ?_⟩) hHeld ?_ ?_
                      rotate_left
                      · rintro w' ⟨s0, s1, s2, s3, s4, s5⟩
                        go_simp
                        with_reducible rfl
                      rotate_left
                      · simp only [Act.put, List.setIfInBounds_toArray, List.set_cons_zero, List.set_cons_succ, i64_w, i32_w]
                        rfl
                      refine take_ (i := 8) (N := some 41) (v := ?_) (a' := ?_) #[true, true, true, true, true, true, true, true, true, true, true, false, true, true, false, true, true, false, false, false, false, false] rfl rfl (take_ofW HT_.out HW_.out (by kernel_rfl)) (fun _ _ _ h => h) (Or.inl ⟨by rfl, ?_⟩) hHeld ?_ ?_
                      rotate_left
                      · rintro w' ⟨s0, s1, s2, s3, s4, s5⟩
                        go_simp
                        with_reducible rfl
                      rotate_left
                      · simp only [Act.put, List.setIfInBounds_toArray, List.set_cons_zero, List.set_cons_succ, i64_w, i32_w]
                        rfl
                      refine take_ (i := 11) (N := some 44) (v := ?_) (a' := ?_) #[true, true, true, true, true, true, true, true, true, true, true, true, true, true, false, true, true, false, false, false, false, false] rfl rfl (take_ofW HT_.out HW_.out (by kernel_rfl)) (fun _ _ _ h => h) (Or.inl ⟨by rfl, ?_⟩) hHeld ?_ ?_
                      rotate_left
                      · rintro w' ⟨s0, s1, s2, s3, s4, s5⟩
                        go_simp
                        with_reducible rfl
                      rotate_left
                      · simp only [Act.put, List.setIfInBounds_toArray, List.set_cons_zero, List.set_cons_succ, i64_w, i32_w]
                        rfl
                      refine take_ (i := 14) (N := some 47) (v := ?_) (a' := ?_) #[true, true, true, true, true, true, true, true, true, true, true, true, true, true, true, true, true, false, false, false, false, false] rfl rfl (take_ofW HT_.out HW_.out (by kernel_rfl)) (fun _ _ _ h => h) (Or.inl ⟨by rfl, ?_⟩) hHeld ?_ ?_
                      rotate_left
                      · rintro w' ⟨s0, s1, s2, s3, s4, s5⟩
                        go_simp
                        with_reducible rfl
                      rotate_left
                      · simp only [Act.put, List.setIfInBounds_toArray, List.set_cons_zero, List.set_cons_succ, i64_w, i32_w]
                        rfl
                      refine take_ (i := 17) (N := some 50) (v := ?_) (a' := ?_) #[true, true, true, true, true, true, true, true, true, true, true, true, true, true, true, true, true, true, false, false, false, false] rfl rfl (take_ofW HT_.out HW_.out (by kernel_rfl)) (fun _ _ _ h => h) (Or.inl ⟨by rfl, ?_⟩) hHeld ?_ ?_
                      rotate_left
                      · rintro w' ⟨s0, s1, s2, s3, s4, s5⟩
                        go_simp
                        with_reducible rfl
                      rotate_left
                      · simp only [Act.put, List.setIfInBounds_toArray, List.set_cons_zero, List.set_cons_succ, i64_w, i32_w]
                        rfl
                      refine pure_ (i := 18) (N := some 51) (v := ?_) (a' := ?_) #[true, true, true, true, true, true, true, true, true, true, true, true, true, true, true, true, true, true, true, false, false, false] rfl rfl (any_of HT_.out (by kernel_rfl)) (fun _ _ _ h => h) (Or.inl ⟨by rfl, ?_⟩) ?_ ?_
                      rotate_left
                      · intro w'
                        go_simp
                        with_reducible rfl
                      rotate_left
                      · simp only [Act.put, List.setIfInBounds_toArray, List.set_cons_zero, List.set_cons_succ, i64_w, i32_w]
                        rfl
                      refine pure_ (i := 19) (N := some 52) (v := ?_) (a' := ?_) #[true, true, true, true, true, true, true, true, true, true, true, true, true, true, true, true, true, true, true, true, false, false] rfl rfl (any_of HT_.out (by kernel_rfl)) (fun _ _ _ h => h) (Or.inl ⟨by rfl, ?_⟩) ?_ ?_
                      rotate_left
                      · intro w'
                        go_simp
                        with_reducible rfl
                      rotate_left
                      · simp only [Act.put, List.setIfInBounds_toArray, List.set_cons_zero, List.set_cons_succ, i64_w, i32_w]
                        rfl
                      refine one_ (i := 20) (N := some 7) #[true, true, true, true, true, true, true, true, true, true, true, true, true, true, true, true, true, true, true, true, true, false] rfl rfl (one_of HT_.out (by kernel_rfl)) (by decide) (fun K hK => ?_)
                      refine box_step ?hg (N := 7) ?hd (cs := #[.string (⟨#[]⟩ : ByteArray), .string (⟨#[]⟩ : ByteArray), .string (⟨#[]⟩ : ByteArray), .string (⟨#[]⟩ : ByteArray), .string (⟨#[]⟩ : ByteArray), .string (⟨#[]⟩ : ByteArray)]) (t := 26) ?hr ?_; (case hd => rfl); (case hg => rfl); (case hr => first | (go_simp; done) | (go_simp; rfl))
                      intro gb123 hg w25 hbox hb
                      have HS0_ := (hb.cell (World.block_lt_of_cell? _ _ (hHeld.1))).trans (hHeld.1)
                      have HS1_ := (hb.cell (World.block_lt_of_cell? _ _ (hHeld.2.1))).trans (hHeld.2.1)
                      have HS2_ := (hb.cell (World.block_lt_of_cell? _ _ (hHeld.2.2.1))).trans (hHeld.2.2.1)
                      have HS3_ := (hb.cell (World.block_lt_of_cell? _ _ (hHeld.2.2.2.1))).trans (hHeld.2.2.2.1)
                      have HS4_ := (hb.cell (World.block_lt_of_cell? _ _ (hHeld.2.2.2.2.1))).trans (hHeld.2.2.2.2.1)
                      have HS5_ := (hb.cell (World.block_lt_of_cell? _ _ (hHeld.2.2.2.2.2))).trans (hHeld.2.2.2.2.2)
                      have n0_ := Aside0.mk (Kd.R_below (by (with_reducible repeat (first | apply Kd.R_alloc | apply Kd.R_drewN | apply Kd.R_drew)); exact HO_5.out) hb)
                      have n1_ := Aside0.mk (blk_below (g := gb110) (o := .cells #[.string (⟨#[]⟩ : ByteArray), .string (⟨#[]⟩ : ByteArray), .string (⟨#[]⟩ : ByteArray), .string (⟨#[]⟩ : ByteArray), .string (⟨#[]⟩ : ByteArray), .string (⟨#[]⟩ : ByteArray)] 26 (0, 0)) (by (with_reducible repeat (first | refine blk_drewN ?_ _ | refine blk_drew ?_ | refine blk_alloc ?_ _)); exact BK110.out) hb)
                      have n2_ := Aside0.mk (below_step (by repeat (first | (with_reducible first | exact HB.out | apply below_alloc | apply pw_below_drewN | apply below_drew1 | refine below_set ?_ GE110.out) | exact HB.out)) hb)
                      have n3_ := Aside0.mk (hbox)
                      have n4_ := Aside0.mk ((by rw [hg]; exact (below_size (by repeat (first | (with_reducible first | exact HB.out | apply below_alloc | apply pw_below_drewN | apply below_drew1 | refine below_set ?_ GE110.out) | exact HB.out))) : w.heap.size ≤ gb123))
                      have n5_ := Aside0.mk ((by rw [hg]; exact (below_size (by repeat (first | (with_reducible first | exact HB.out | apply below_alloc | apply pw_below_drewN | apply below_drew1 | refine below_set ?_ GE110.out) | exact HB.out))) : w.heap.size ≤ gb123))
                      have n6_ := Aside0.mk ((by rw [hg]; exact Nat.ne_of_lt (blk_lt (g := gb110) (o := .cells #[.string (⟨#[]⟩ : ByteArray), .string (⟨#[]⟩ : ByteArray), .string (⟨#[]⟩ : ByteArray), .string (⟨#[]⟩ : ByteArray), .string (⟨#[]⟩ : ByteArray), .string (⟨#[]⟩ : ByteArray)] 26 (0, 0)) (by (with_reducible repeat (first | refine blk_drewN ?_ _ | refine blk_drew ?_ | refine blk_alloc ?_ _)); exact BK110.out)) : gb110 ≠ gb123))
                      have n7_ := Aside0.mk ((by rw [hg]; exact Nat.ne_of_gt (blk_lt (g := gb110) (o := .cells #[.string (⟨#[]⟩ : ByteArray), .string (⟨#[]⟩ : ByteArray), .string (⟨#[]⟩ : ByteArray), .string (⟨#[]⟩ : ByteArray), .string (⟨#[]⟩ : ByteArray), .string (⟨#[]⟩ : ByteArray)] 26 (0, 0)) (by (with_reducible repeat (first | refine blk_drewN ?_ _ | refine blk_drew ?_ | refine blk_alloc ?_ _)); exact BK110.out)) : gb123 ≠ gb110))
                      clear HO_5
                      clear BK110
                      clear HB
                      have HO_5 := n0_
                      have BK110 := n1_
                      have HB := n2_
                      have BK123 := n3_
                      have GW123 := n4_
                      have GE123 := n5_
                      have NB110_123 := n6_
                      have NB123_110 := n7_
                      clear n0_ n1_ n2_ n3_ n4_ n5_ n6_ n7_
                      clear hb hbox hg
                      refine hK.out _ _ ⟨HS0_, HS1_, HS2_, HS3_, HS4_, HS5_⟩ (fun hHeld => ?_)
                      clear hK K
                      refine norm_ (a' := ?_) ?_ ?_
                      rotate_left
                      · show Act.put _ (some 7) _ = _
                        simp only [Act.put, List.setIfInBounds_toArray, List.set_cons_zero, List.set_cons_succ, i64_w, i32_w]
                        rfl
                      refine one_ (i := 21) (N := none) #[true, true, true, true, true, true, true, true, true, true, true, true, true, true, true, true, true, true, true, true, true, true] rfl rfl (one_of HT_.out (by kernel_rfl)) (by decide) (fun K hK => ?_)
                      have hs26 : w25.cell? ⟨gb123, 0, none⟩ = some (.string (⟨#[]⟩ : ByteArray)) := (blk_cell BK123.out 0).trans rfl
                      have hfs26 := blk_frozen BK123.out 0
                      have hns26_0 := NB110_123.out
                      have hms26_0 := NB123_110.out
                      have hs27 : w25.cell? ⟨gb123, 1, none⟩ = some (.string (⟨#[]⟩ : ByteArray)) := (blk_cell BK123.out 1).trans rfl
                      have hfs27 := blk_frozen BK123.out 1
                      have hns27_0 := NB110_123.out
                      have hms27_0 := NB123_110.out
                      have hs28 : w25.cell? ⟨gb123, 2, none⟩ = some (.string (⟨#[]⟩ : ByteArray)) := (blk_cell BK123.out 2).trans rfl
                      have hfs28 := blk_frozen BK123.out 2
                      have hns28_0 := NB110_123.out
                      have hms28_0 := NB123_110.out
                      have hs29 : w25.cell? ⟨gb123, 3, none⟩ = some (.string (⟨#[]⟩ : ByteArray)) := (blk_cell BK123.out 3).trans rfl
                      have hfs29 := blk_frozen BK123.out 3
                      have hns29_0 := NB110_123.out
                      have hms29_0 := NB123_110.out
                      have hs30 : w25.cell? ⟨gb123, 4, none⟩ = some (.string (⟨#[]⟩ : ByteArray)) := (blk_cell BK123.out 4).trans rfl
                      have hfs30 := blk_frozen BK123.out 4
                      have hns30_0 := NB110_123.out
                      have hms30_0 := NB123_110.out
                      have hs31 : w25.cell? ⟨gb123, 5, none⟩ = some (.string (⟨#[]⟩ : ByteArray)) := (blk_cell BK123.out 5).trans rfl
                      have hfs31 := blk_frozen BK123.out 5
                      have hns31_0 := NB110_123.out
                      have hms31_0 := NB123_110.out
                      refine skip_ (w1 := ?_) (by rfl) rfl ?_ ?_
                      rotate_left
                      · go_simp
                        rfl
                      have hfar_ : ∀ (q_ : Addr) (W_ : World) (u0_ u1_ u2_ u3_ u4_ u5_ : Value), q_.block ≠ gb123 → ((((((W_.setCell ⟨gb123, 0, none⟩ u0_).setCell ⟨gb123, 1, none⟩ u1_).setCell ⟨gb123, 2, none⟩ u2_).setCell ⟨gb123, 3, none⟩ u3_).setCell ⟨gb123, 4, none⟩ u4_).setCell ⟨gb123, 5, none⟩ u5_).cell? q_ = W_.cell? q_ := fun q_ W_ u0_ u1_ u2_ u3_ u4_ u5_ h_ => (cell_far (p := ⟨gb123, 5, none⟩) (a := q_) h_ _).trans ((cell_far (p := ⟨gb123, 4, none⟩) (a := q_) h_ _).trans ((cell_far (p := ⟨gb123, 3, none⟩) (a := q_) h_ _).trans ((cell_far (p := ⟨gb123, 2, none⟩) (a := q_) h_ _).trans ((cell_far (p := ⟨gb123, 1, none⟩) (a := q_) h_ _).trans (cell_far (p := ⟨gb123, 0, none⟩) (a := q_) h_ _)))))
                      have hne0_ := Kd.own_blk (Kd.R_ne HO_5.out BK123.out (by decide))
                      refine hK.out _ _ ⟨(hfar_ _ _ _ _ _ _ _ _ (by exact hne0_)).trans hHeld.1, (hfar_ _ _ _ _ _ _ _ _ (by exact hne0_)).trans hHeld.2.1, (hfar_ _ _ _ _ _ _ _ _ (by exact hne0_)).trans hHeld.2.2.1, (hfar_ _ _ _ _ _ _ _ _ (by exact hne0_)).trans hHeld.2.2.2.1, (hfar_ _ _ _ _ _ _ _ _ (by exact hne0_)).trans hHeld.2.2.2.2.1, (hfar_ _ _ _ _ _ _ _ _ (by exact hne0_)).trans hHeld.2.2.2.2.2⟩ (fun hHeld => ?_)
                      clear hfar_ hne0_
                      clear hK K
                      refine done_ (done_of HT_.out (by kernel_rfl)) ?_
                      have p124 : 0 ≤ (0 : Int) := (by omega)
                      have q124 : 0 < (t111.length : Int) := of_decide_eq_true (by first | (with_reducible assumption) | assumption)
                      obtain ⟨ad124, e124, hx124_0⟩ := Kd.at_string (Kd.R_reads' HO_5.out).2.2 0 p124 q124
                      obtain rfl : ad117 = ad124 := (by injection e124)
                      have qi124 : (0 < t111.length) = True := eq_true (by omega)
                      (try rw [show ((0 : Int)).toNat = 0 from rfl] at hx124_0)
                      (try rw [Addr.add_zero'] at hx124_0)
                      have hn124_0 : ad117.block ≠ gb123 := Kd.own_blk (Kd.R_ne HO_5.out BK123.out (by decide))
                      have hn124_1 : ad117.block ≠ gb123 := Kd.own_blk (Kd.R_ne HO_5.out BK123.out (by decide))
                      have hn124_2 : ad117.block ≠ gb123 := Kd.own_blk (Kd.R_ne HO_5.out BK123.out (by decide))
                      have hn124_3 : ad117.block ≠ gb123 := Kd.own_blk (Kd.R_ne HO_5.out BK123.out (by decide))
                      have hn124_4 : ad117.block ≠ gb123 := Kd.own_blk (Kd.R_ne HO_5.out BK123.out (by decide))
                      have hn124_5 : ad117.block ≠ gb123 := Kd.own_blk (Kd.R_ne HO_5.out BK123.out (by decide))
                      replace hx124_0 := (cell_far (p := ⟨gb123, 0, none⟩) (by first | (rw [add_block]; exact hn124_0) | (show (Addr.add _ _).block ≠ _; rw [add_block]; exact hn124_0) | exact hn124_0) (.string (rdOf ByteArray.empty t111 1))).trans hx124_0
                      replace hx124_0 := (cell_far (p := ⟨gb123, 1, none⟩) (by first | (rw [add_block]; exact hn124_1) | (show (Addr.add _ _).block ≠ _; rw [add_block]; exact hn124_1) | exact hn124_1) (.string (rdOf ByteArray.empty t111 2))).trans hx124_0
                      replace hx124_0 := (cell_far (p := ⟨gb123, 2, none⟩) (by first | (rw [add_block]; exact hn124_2) | (show (Addr.add _ _).block ≠ _; rw [add_block]; exact hn124_2) | exact hn124_2) (.string (rdOf ByteArray.empty t111 3))).trans hx124_0
                      replace hx124_0 := (cell_far (p := ⟨gb123, 3, none⟩) (by first | (rw [add_block]; exact hn124_3) | (show (Addr.add _ _).block ≠ _; rw [add_block]; exact hn124_3) | exact hn124_3) (.string (rdOf ByteArray.empty t111 4))).trans hx124_0
                      replace hx124_0 := (cell_far (p := ⟨gb123, 4, none⟩) (by first | (rw [add_block]; exact hn124_4) | (show (Addr.add _ _).block ≠ _; rw [add_block]; exact hn124_4) | exact hn124_4) (.string (rdOf ByteArray.empty t111 5))).trans hx124_0
                      replace hx124_0 := (cell_far (p := ⟨gb123, 5, none⟩) (by first | (rw [add_block]; exact hn124_5) | (show (Addr.add _ _).block ≠ _; rw [add_block]; exact hn124_5) | exact hn124_5) (.string (rdOf ByteArray.empty t111 6))).trans hx124_0
                      clear hn124_0
                      clear hn124_1
                      clear hn124_2
                      clear hn124_3
                      clear hn124_4
                      clear hn124_5
                      replace p124 := eq_true p124
                      replace q124 := eq_true q124
                      go_upto_if 56 with (fail)
                      go_cut [] (fun wc => ∃ (kq : Nat) (x124000_21 : ByteArray) (x124001_21 : ByteArray) (x124002_21 : ByteArray) (x124003_21 : ByteArray) (x124004_21 : ByteArray) (x124005_21 : ByteArray), Aside0 (tuple_OfKey.j1 kq t111 x124000_21 x124001_21 x124002_21 x124003_21 x124004_21 x124005_21 = some (r1, r2, r3, r4, r5, r6, r7, r8)) ∧ Aside0 (kq ≤ kj2) ∧ Aside0 (Kd.R Kd.string 9 wc w.heap.size (fun _ => True) (.slice (some ad117) t111.length co24) t111) ∧ Aside0 (wc.heap[gb110]? = some (.cells #[.string (⟨#[]⟩ : ByteArray), .string (⟨#[]⟩ : ByteArray), .string (⟨#[]⟩ : ByteArray), .string (⟨#[]⟩ : ByteArray), .string (⟨#[]⟩ : ByteArray), .string (⟨#[]⟩ : ByteArray)] 26 (0, 0))) ∧ Aside0 (wc.heap[gb123]? = some (.cells #[.string x124000_21, .string x124001_21, .string x124002_21, .string x124003_21, .string x124004_21, .string x124005_21] 26 (0, 0))) ∧ Aside0 (Below w.heap.size w wc))
                      case first =>
                        have H := HC22.out
                        clear HC22
                        by_cases c32 : (rdOf ByteArray.empty t111 0).toList = ([114] : List UInt8)
                        · rw [if_pos c32] at H
                          have c32b0 : ((rdOf ByteArray.empty t111 0).toList == ([114] : List UInt8)) = true := beq_iff_eq.mpr c32
                          have c32b1 : ((rdOf ByteArray.empty t111 0).toList != ([114] : List UInt8)) = false := bne_eq_false_iff_eq.mpr c32
                          clear c32
                          (first | rw [c32b0] | (simp only [i64_w, i32_w]; rw [c32b0]) | skip)
                          have H' := Aside0.mk H
                          clear H
                          try go_wp2
                          have n0_ : Aside0 (Kd.R Kd.string 9 ((((((w25.setCell ⟨gb123, 0, none⟩ (.string (rdOf ByteArray.empty t111 1))).setCell ⟨gb123, 1, none⟩ (.string (rdOf ByteArray.empty t111 2))).setCell ⟨gb123, 2, none⟩ (.string (rdOf ByteArray.empty t111 3))).setCell ⟨gb123, 3, none⟩ (.string (rdOf ByteArray.empty t111 4))).setCell ⟨gb123, 4, none⟩ (.string (rdOf ByteArray.empty t111 5))).setCell ⟨gb123, 5, none⟩ (.string (rdOf ByteArray.empty t111 6))) w.heap.size (fun _ => True) (.slice (some ad117) t111.length co24) t111) := ⟨by (with_reducible repeat (first | apply Kd.R_alloc | apply Kd.R_drewN | apply Kd.R_drew)); exact Kd.R_mono (Kd.R_far (p := ⟨gb123, 5, none⟩) (Kd.R_far (p := ⟨gb123, 4, none⟩) (Kd.R_far (p := ⟨gb123, 3, none⟩) (Kd.R_far (p := ⟨gb123, 2, none⟩) (Kd.R_far (p := ⟨gb123, 1, none⟩) (Kd.R_far (p := ⟨gb123, 0, none⟩) (Kd.R_types HO_5.out BK123.out (by decide)) (fun _ hk => hk.2) (.string (rdOf ByteArray.empty t111 1))) (fun _ hk => hk.2) (.string (rdOf ByteArray.empty t111 2))) (fun _ hk => hk.2) (.string (rdOf ByteArray.empty t111 3))) (fun _ hk => hk.2) (.string (rdOf ByteArray.empty t111 4))) (fun _ hk => hk.2) (.string (rdOf ByteArray.empty t111 5))) (fun _ hk => hk.2) (.string (rdOf ByteArray.empty t111 6))) (fun _ hk => trivial)⟩
                          have n1_ : Aside0 (((((((w25.setCell ⟨gb123, 0, none⟩ (.string (rdOf ByteArray.empty t111 1))).setCell ⟨gb123, 1, none⟩ (.string (rdOf ByteArray.empty t111 2))).setCell ⟨gb123, 2, none⟩ (.string (rdOf ByteArray.empty t111 3))).setCell ⟨gb123, 3, none⟩ (.string (rdOf ByteArray.empty t111 4))).setCell ⟨gb123, 4, none⟩ (.string (rdOf ByteArray.empty t111 5))).setCell ⟨gb123, 5, none⟩ (.string (rdOf ByteArray.empty t111 6))).heap[gb110]? = some (.cells #[.string (⟨#[]⟩ : ByteArray), .string (⟨#[]⟩ : ByteArray), .string (⟨#[]⟩ : ByteArray), .string (⟨#[]⟩ : ByteArray), .string (⟨#[]⟩ : ByteArray), .string (⟨#[]⟩ : ByteArray)] 26 (0, 0))) := ⟨by (with_reducible repeat (first | refine blk_drewN ?_ _ | refine blk_drew ?_ | refine blk_alloc ?_ _)); refine blk_far ?_ NB110_123.out _; (with_reducible repeat (first | refine blk_drewN ?_ _ | refine blk_drew ?_ | refine blk_alloc ?_ _)); refine blk_far ?_ NB110_123.out _; (with_reducible repeat (first | refine blk_drewN ?_ _ | refine blk_drew ?_ | refine blk_alloc ?_ _)); refine blk_far ?_ NB110_123.out _; (with_reducible repeat (first | refine blk_drewN ?_ _ | refine blk_drew ?_ | refine blk_alloc ?_ _)); refine blk_far ?_ NB110_123.out _; (with_reducible repeat (first | refine blk_drewN ?_ _ | refine blk_drew ?_ | refine blk_alloc ?_ _)); refine blk_far ?_ NB110_123.out _; (with_reducible repeat (first | refine blk_drewN ?_ _ | refine blk_drew ?_ | refine blk_alloc ?_ _)); refine blk_far ?_ NB110_123.out _; (with_reducible repeat (first | refine blk_drewN ?_ _ | refine blk_drew ?_ | refine blk_alloc ?_ _)); exact BK110.out⟩
                          have n2_ : Aside0 (((((((w25.setCell ⟨gb123, 0, none⟩ (.string (rdOf ByteArray.empty t111 1))).setCell ⟨gb123, 1, none⟩ (.string (rdOf ByteArray.empty t111 2))).setCell ⟨gb123, 2, none⟩ (.string (rdOf ByteArray.empty t111 3))).setCell ⟨gb123, 3, none⟩ (.string (rdOf ByteArray.empty t111 4))).setCell ⟨gb123, 4, none⟩ (.string (rdOf ByteArray.empty t111 5))).setCell ⟨gb123, 5, none⟩ (.string (rdOf ByteArray.empty t111 6))).heap[gb123]? = some (.cells #[.string (rdOf ByteArray.empty t111 1), .string (rdOf ByteArray.empty t111 2), .string (rdOf ByteArray.empty t111 3), .string (rdOf ByteArray.empty t111 4), .string (rdOf ByteArray.empty t111 5), .string (rdOf ByteArray.empty t111 6)] 26 (0, 0))) := ⟨by (with_reducible repeat (first | refine blk_drewN ?_ _ | refine blk_drew ?_ | refine blk_alloc ?_ _)); refine blk_put (cs := #[.string (rdOf ByteArray.empty t111 1), .string (rdOf ByteArray.empty t111 2), .string (rdOf ByteArray.empty t111 3), .string (rdOf ByteArray.empty t111 4), .string (rdOf ByteArray.empty t111 5), .string (⟨#[]⟩ : ByteArray)]) ?_ 5 _ rfl; (with_reducible repeat (first | refine blk_drewN ?_ _ | refine blk_drew ?_ | refine blk_alloc ?_ _)); refine blk_put (cs := #[.string (rdOf ByteArray.empty t111 1), .string (rdOf ByteArray.empty t111 2), .string (rdOf ByteArray.empty t111 3), .string (rdOf ByteArray.empty t111 4), .string (⟨#[]⟩ : ByteArray), .string (⟨#[]⟩ : ByteArray)]) ?_ 4 _ rfl; (with_reducible repeat (first | refine blk_drewN ?_ _ | refine blk_drew ?_ | refine blk_alloc ?_ _)); refine blk_put (cs := #[.string (rdOf ByteArray.empty t111 1), .string (rdOf ByteArray.empty t111 2), .string (rdOf ByteArray.empty t111 3), .string (⟨#[]⟩ : ByteArray), .string (⟨#[]⟩ : ByteArray), .string (⟨#[]⟩ : ByteArray)]) ?_ 3 _ rfl; (with_reducible repeat (first | refine blk_drewN ?_ _ | refine blk_drew ?_ | refine blk_alloc ?_ _)); refine blk_put (cs := #[.string (rdOf ByteArray.empty t111 1), .string (rdOf ByteArray.empty t111 2), .string (⟨#[]⟩ : ByteArray), .string (⟨#[]⟩ : ByteArray), .string (⟨#[]⟩ : ByteArray), .string (⟨#[]⟩ : ByteArray)]) ?_ 2 _ rfl; (with_reducible repeat (first | refine blk_drewN ?_ _ | refine blk_drew ?_ | refine blk_alloc ?_ _)); refine blk_put (cs := #[.string (rdOf ByteArray.empty t111 1), .string (⟨#[]⟩ : ByteArray), .string (⟨#[]⟩ : ByteArray), .string (⟨#[]⟩ : ByteArray), .string (⟨#[]⟩ : ByteArray), .string (⟨#[]⟩ : ByteArray)]) ?_ 1 _ rfl; (with_reducible repeat (first | refine blk_drewN ?_ _ | refine blk_drew ?_ | refine blk_alloc ?_ _)); refine blk_put (cs := #[.string (⟨#[]⟩ : ByteArray), .string (⟨#[]⟩ : ByteArray), .string (⟨#[]⟩ : ByteArray), .string (⟨#[]⟩ : ByteArray), .string (⟨#[]⟩ : ByteArray), .string (⟨#[]⟩ : ByteArray)]) ?_ 0 _ rfl; (with_reducible repeat (first | refine blk_drewN ?_ _ | refine blk_drew ?_ | refine blk_alloc ?_ _)); exact BK123.out⟩
                          have n3_ : Aside0 (Below w.heap.size w ((((((w25.setCell ⟨gb123, 0, none⟩ (.string (rdOf ByteArray.empty t111 1))).setCell ⟨gb123, 1, none⟩ (.string (rdOf ByteArray.empty t111 2))).setCell ⟨gb123, 2, none⟩ (.string (rdOf ByteArray.empty t111 3))).setCell ⟨gb123, 3, none⟩ (.string (rdOf ByteArray.empty t111 4))).setCell ⟨gb123, 4, none⟩ (.string (rdOf ByteArray.empty t111 5))).setCell ⟨gb123, 5, none⟩ (.string (rdOf ByteArray.empty t111 6)))) := ⟨by repeat (first | (with_reducible first | exact HB.out | apply below_alloc | apply pw_below_drewN | apply below_drew1 | refine below_set ?_ GE110.out | refine below_set ?_ GE123.out) | exact HB.out)⟩
                          (try clear HO_5)
                          (try clear BK110)
                          (try clear BK123)
                          (try clear HB)
                          generalize ((((((w25.setCell ⟨gb123, 0, none⟩ (.string (rdOf ByteArray.empty t111 1))).setCell ⟨gb123, 1, none⟩ (.string (rdOf ByteArray.empty t111 2))).setCell ⟨gb123, 2, none⟩ (.string (rdOf ByteArray.empty t111 3))).setCell ⟨gb123, 3, none⟩ (.string (rdOf ByteArray.empty t111 4))).setCell ⟨gb123, 4, none⟩ (.string (rdOf ByteArray.empty t111 5))).setCell ⟨gb123, 5, none⟩ (.string (rdOf ByteArray.empty t111 6))) = w33 at n0_ n1_ n2_ n3_ ⊢
                          have HO_5 := n0_
                          have BK110 := n1_
                          have BK123 := n2_
                          have HB := n3_
                          clear n0_ n1_ n2_ n3_
                          have n0_ := Aside0.mk (Kd.R_drew HO_5.out)
                          have n1_ := Aside0.mk (blk_drew BK110.out)
                          have n2_ := Aside0.mk (blk_drew BK123.out)
                          have n3_ := Aside0.mk (below_drew1 HB.out)
                          clear HO_5
                          clear BK110
                          clear BK123
                          clear HB
                          have HO_5 := n0_
                          have BK110 := n1_
                          have BK123 := n2_
                          have HB := n3_
                          clear n0_ n1_ n2_ n3_
                          have p125 : 0 ≤ (4 : Int) := (by omega)
                          have q125 : 4 < (t111.length : Int) := of_decide_eq_true (by first | (with_reducible assumption) | assumption)
                          obtain ⟨ad125, e125, hx125_0⟩ := Kd.at_string (Kd.R_reads' HO_5.out).2.2 4 p125 q125
                          obtain rfl : ad117 = ad125 := (by injection e125)
                          (try simp only [show (4 : Int).toNat = 4 from rfl, Nat.reduceMul, Nat.reduceEqDiff, Go.Addr.add, ↓reduceIte] at hx125_0)
                          have qi125 : (4 < t111.length) = True := eq_true (by omega)
                          (try rw [show ((4 : Int)).toNat = 4 from rfl] at hx125_0)
                          replace p125 := eq_true p125
                          replace q125 := eq_true q125
                          have p126 : 0 ≤ (5 : Int) := (by omega)
                          have q126 : 5 < (t111.length : Int) := of_decide_eq_true (by first | (with_reducible assumption) | assumption)
                          obtain ⟨ad126, e126, hx126_0⟩ := Kd.at_string (Kd.R_reads' HO_5.out).2.2 5 p126 q126
                          obtain rfl : ad117 = ad126 := (by injection e126)
                          (try simp only [show (5 : Int).toNat = 5 from rfl, Nat.reduceMul, Nat.reduceEqDiff, Go.Addr.add, ↓reduceIte] at hx126_0)
                          have qi126 : (5 < t111.length) = True := eq_true (by omega)
                          (try rw [show ((5 : Int)).toNat = 5 from rfl] at hx126_0)
                          replace p126 := eq_true p126
                          replace q126 := eq_true q126
                          have p127 : 0 ≤ (6 : Int) := (by omega)
                          have q127 : 6 < (t111.length : Int) := of_decide_eq_true (by first | (with_reducible assumption) | assumption)
                          obtain ⟨ad127, e127, hx127_0⟩ := Kd.at_string (Kd.R_reads' HO_5.out).2.2 6 p127 q127
                          obtain rfl : ad117 = ad127 := (by injection e127)
                          (try simp only [show (6 : Int).toNat = 6 from rfl, Nat.reduceMul, Nat.reduceEqDiff, Go.Addr.add, ↓reduceIte] at hx127_0)
                          have qi127 : (6 < t111.length) = True := eq_true (by omega)
                          (try rw [show ((6 : Int)).toNat = 6 from rfl] at hx127_0)
                          replace p127 := eq_true p127
                          replace q127 := eq_true q127
                          have p128 : 0 ≤ (1 : Int) := (by omega)
                          have q128 : 1 < (t111.length : Int) := of_decide_eq_true (by first | (with_reducible assumption) | assumption)
                          obtain ⟨ad128, e128, hx128_0⟩ := Kd.at_string (Kd.R_reads' HO_5.out).2.2 1 p128 q128
                          obtain rfl : ad117 = ad128 := (by injection e128)
                          (try simp only [show (1 : Int).toNat = 1 from rfl, Nat.reduceMul, Nat.reduceEqDiff, Go.Addr.add, ↓reduceIte] at hx128_0)
                          have qi128 : (1 < t111.length) = True := eq_true (by omega)
                          (try rw [show ((1 : Int)).toNat = 1 from rfl] at hx128_0)
                          replace p128 := eq_true p128
                          replace q128 := eq_true q128
                          have p129 : 0 ≤ (2 : Int) := (by omega)
                          have q129 : 2 < (t111.length : Int) := of_decide_eq_true (by first | (with_reducible assumption) | assumption)
                          obtain ⟨ad129, e129, hx129_0⟩ := Kd.at_string (Kd.R_reads' HO_5.out).2.2 2 p129 q129
                          obtain rfl : ad117 = ad129 := (by injection e129)
                          (try simp only [show (2 : Int).toNat = 2 from rfl, Nat.reduceMul, Nat.reduceEqDiff, Go.Addr.add, ↓reduceIte] at hx129_0)
                          have qi129 : (2 < t111.length) = True := eq_true (by omega)
                          (try rw [show ((2 : Int)).toNat = 2 from rfl] at hx129_0)
                          replace p129 := eq_true p129
                          replace q129 := eq_true q129
                          have p130 : 0 ≤ (3 : Int) := (by omega)
                          have q130 : 3 < (t111.length : Int) := of_decide_eq_true (by first | (with_reducible assumption) | assumption)
                          obtain ⟨ad130, e130, hx130_0⟩ := Kd.at_string (Kd.R_reads' HO_5.out).2.2 3 p130 q130
                          obtain rfl : ad117 = ad130 := (by injection e130)
                          (try simp only [show (3 : Int).toNat = 3 from rfl, Nat.reduceMul, Nat.reduceEqDiff, Go.Addr.add, ↓reduceIte] at hx130_0)
                          have qi130 : (3 < t111.length) = True := eq_true (by omega)
                          (try rw [show ((3 : Int)).toNat = 3 from rfl] at hx130_0)
                          replace p130 := eq_true p130
                          replace q130 := eq_true q130
                          refine start_ (n := 21) (S := fun w' => w'.cell? ⟨ad117.block, ad117.off + 4, none⟩ = some (.string (rdOf ByteArray.empty t111 4)) ∧ w'.cell? ⟨ad117.block, ad117.off + 5, none⟩ = some (.string (rdOf ByteArray.empty t111 5)) ∧ w'.cell? ⟨ad117.block, ad117.off + 6, none⟩ = some (.string (rdOf ByteArray.empty t111 6)) ∧ w'.cell? ⟨ad117.block, ad117.off + 1, none⟩ = some (.string (rdOf ByteArray.empty t111 1)) ∧ w'.cell? ⟨ad117.block, ad117.off + 2, none⟩ = some (.string (rdOf ByteArray.empty t111 2)) ∧ w'.cell? ⟨ad117.block, ad117.off + 3, none⟩ = some (.string (rdOf ByteArray.empty t111 3))) (ds := []) #[false, false, false, false, false, false, false, false, false, false, false, false, false, false, false, false, false, false, false, false, false] (by kernel_rfl) rfl rfl ⟨hx125_0, hx126_0, hx127_0, hx128_0, hx129_0, hx130_0⟩ (fun hHeld => ?_); refine with_tabW tuple_OfKey.tab6 tuple_OfKey.bits6 (fun HT_ HW_ => ?_)
                          generalize w33.drew = w34 at HO_5 BK110 BK123 HB hx125_0 hx126_0 hx127_0 hx128_0 hx129_0 hx130_0 hHeld ⊢
                          refine pure_ (i := 0) (N := some 57) (v := ?_) (a' := ?_) #[true, false, false, false, false, false, false, false, false, false, false, false, false, false, false, false, false, false, false, false, false] rfl rfl (any_of HT_.out (by kernel_rfl)) (fun _ _ _ h => h) (Or.inl ⟨by rfl, ?_⟩) ?_ ?_
                          rotate_left
                          · intro w'
                            go_simp
                            with_reducible rfl
                          rotate_left
                          · simp only [Act.put, List.setIfInBounds_toArray, List.set_cons_zero, List.set_cons_succ, i64_w, i32_w]
                            rfl
                          refine pure_ (i := 1) (N := some 58) (v := ?_) (a' := ?_) #[true, true, false, false, false, false, false, false, false, false, false, false, false, false, false, false, false, false, false, false, false] rfl rfl (any_of HT_.out (by kernel_rfl)) (fun _ _ _ h => h) (Or.inl ⟨by rfl, ?_⟩) ?_ ?_
                          rotate_left
                          · intro w'
                            go_simp
                            with_reducible rfl
                          rotate_left
                          · simp only [Act.put, List.setIfInBounds_toArray, List.set_cons_zero, List.set_cons_succ, i64_w, i32_w]
                            rfl
                          refine pure_ (i := 3) (N := some 60) (v := ?_) (a' := ?_) #[true, true, false, true, false, false, false, false, false, false, false, false, false, false, false, false, false, false, false, false, false] rfl rfl (any_of HT_.out (by kernel_rfl)) (fun _ _ _ h => h) (Or.inl ⟨by rfl, ?_⟩) ?_ ?_
                          rotate_left
                          · intro w'
                            go_simp
                            with_reducible rfl
                          rotate_left
                          · simp only [Act.put, List.setIfInBounds_toArray, List.set_cons_zero, List.set_cons_succ, i64_w, i32_w]
                            rfl
                          refine pure_ (i := 4) (N := some 61) (v := ?_) (a' := ?_) #[true, true, false, true, true, false, false, false, false, false, false, false, false, false, false, false, false, false, false, false, false] rfl rfl (any_of HT_.out (by kernel_rfl)) (fun _ _ _ h => h) (Or.inl ⟨by rfl, ?_⟩) ?_ ?_
                          rotate_left
                          · intro w'
                            go_simp
                            with_reducible rfl
                          rotate_left
                          · simp only [Act.put, List.setIfInBounds_toArray, List.set_cons_zero, List.set_cons_succ, i64_w, i32_w]
                            rfl
                          refine pure_ (i := 6) (N := some 63) (v := ?_) (a' := ?_) #[true, true, false, true, true, false, true, false, false, false, false, false, false, false, false, false, false, false, false, false, false] rfl rfl (any_of HT_.out (by kernel_rfl)) (fun _ _ _ h => h) (Or.inl ⟨by rfl, ?_⟩) ?_ ?_
                          rotate_left
                          · intro w'
                            go_simp
                            with_reducible rfl
                          rotate_left
                          · simp only [Act.put, List.setIfInBounds_toArray, List.set_cons_zero, List.set_cons_succ, i64_w, i32_w]
                            rfl
                          refine pure_ (i := 7) (N := some 64) (v := ?_) (a' := ?_) #[true, true, false, true, true, false, true, true, false, false, false, false, false, false, false, false, false, false, false, false, false] rfl rfl (any_of HT_.out (by kernel_rfl)) (fun _ _ _ h => h) (Or.inl ⟨by rfl, ?_⟩) ?_ ?_
                          rotate_left
                          · intro w'
                            go_simp
                            with_reducible rfl
                          rotate_left
                          · simp only [Act.put, List.setIfInBounds_toArray, List.set_cons_zero, List.set_cons_succ, i64_w, i32_w]
                            rfl
                          refine pure_ (i := 9) (N := some 66) (v := ?_) (a' := ?_) #[true, true, false, true, true, false, true, true, false, true, false, false, false, false, false, false, false, false, false, false, false] rfl rfl (any_of HT_.out (by kernel_rfl)) (fun _ _ _ h => h) (Or.inl ⟨by rfl, ?_⟩) ?_ ?_
                          rotate_left
                          · intro w'
                            go_simp
                            with_reducible rfl
                          rotate_left
                          · simp only [Act.put, List.setIfInBounds_toArray, List.set_cons_zero, List.set_cons_succ, i64_w, i32_w]
                            rfl
                          refine pure_ (i := 10) (N := some 67) (v := ?_) (a' := ?_) #[true, true, false, true, true, false, true, true, false, true, true, false, false, false, false, false, false, false, false, false, false] rfl rfl (any_of HT_.out (by kernel_rfl)) (fun _ _ _ h => h) (Or.inl ⟨by rfl, ?_⟩) ?_ ?_
                          rotate_left
                          · intro w'
                            go_simp
                            with_reducible rfl
                          rotate_left
                          · simp only [Act.put, List.setIfInBounds_toArray, List.set_cons_zero, List.set_cons_succ, i64_w, i32_w]
                            rfl
                          refine pure_ (i := 12) (N := some 69) (v := ?_) (a' := ?_) #[true, true, false, true, true, false, true, true, false, true, true, false, true, false, false, false, false, false, false, false, false] rfl rfl (any_of HT_.out (by kernel_rfl)) (fun _ _ _ h => h) (Or.inl ⟨by rfl, ?_⟩) ?_ ?_
                          rotate_left
                          · intro w'
                            go_simp
                            with_reducible rfl
                          rotate_left
                          · simp only [Act.put, List.setIfInBounds_toArray, List.set_cons_zero, List.set_cons_succ, i64_w, i32_w]
                            rfl
                          refine pure_ (i := 13) (N := some 70) (v := ?_) (a' := ?_) #[true, true, false, true, true, false, true, true, false, true, true, false, true, true, false, false, false, false, false, false, false] rfl rfl (any_of HT_.out (by kernel_rfl)) (fun _ _ _ h => h) (Or.inl ⟨by rfl, ?_⟩) ?_ ?_
                          rotate_left
                          · intro w'
                            go_simp
                            with_reducible rfl
                          rotate_left
                          · simp only [Act.put, List.setIfInBounds_toArray, List.set_cons_zero, List.set_cons_succ, i64_w, i32_w]
                            rfl
                          refine pure_ (i := 15) (N := some 72) (v := ?_) (a' := ?_) #[true, true, false, true, true, false, true, true, false, true, true, false, true, true, false, true, false, false, false, false, false] rfl rfl (any_of HT_.out (by kernel_rfl)) (fun _ _ _ h => h) (Or.inl ⟨by rfl, ?_⟩) ?_ ?_
                          rotate_left
                          · intro w'
                            go_simp
                            with_reducible rfl
                          rotate_left
                          · simp only [Act.put, List.setIfInBounds_toArray, List.set_cons_zero, List.set_cons_succ, i64_w, i32_w]
                            rfl
                          refine pure_ (i := 16) (N := some 73) (v := ?_) (a' := ?_) #[true, true, false, true, true, false, true, true, false, true, true, false, true, true, false, true, true, false, false, false, false] rfl rfl (any_of HT_.out (by kernel_rfl)) (fun _ _ _ h => h) (Or.inl ⟨by rfl, ?_⟩) ?_ ?_
                          rotate_left
                          · intro w'
                            go_simp
                            with_reducible rfl
                          rotate_left
                          · simp only [Act.put, List.setIfInBounds_toArray, List.set_cons_zero, List.set_cons_succ, i64_w, i32_w]
                            rfl
                          refine take_ (i := 2) (N := some 59) (v := ?_) (a' := ?_) #[true, true, true, true, true, false, true, true, false, true, true, false, true, true, false, true, true, false, false, false, false] rfl rfl (take_ofW HT_.out HW_.out (by kernel_rfl)) (fun _ _ _ h => h) (Or.inl ⟨by rfl, ?_⟩) hHeld ?_ ?_
                          rotate_left
                          · rintro w' ⟨s0, s1, s2, s3, s4, s5⟩
                            go_simp
                            with_reducible rfl
                          rotate_left
                          · simp only [Act.put, List.setIfInBounds_toArray, List.set_cons_zero, List.set_cons_succ, i64_w, i32_w]
                            rfl
                          refine take_ (i := 5) (N := some 62) (v := ?_) (a' := ?_) #[true, true, true, true, true, true, true, true, false, true, true, false, true, true, false, true, true, false, false, false, false] rfl rfl (take_ofW HT_.out HW_.out (by kernel_rfl)) (fun _ _ _ h => h) (Or.inl ⟨by rfl, ?_⟩) hHeld ?_ ?_
                          rotate_left
                          · rintro w' ⟨s0, s1, s2, s3, s4, s5⟩
                            go_simp
                            with_reducible rfl
                          rotate_left
                          · simp only [Act.put, List.setIfInBounds_toArray, List.set_cons_zero, List.set_cons_succ, i64_w, i32_w]
                            rfl
                          refine take_ (i := 8) (N := some 65) (v := ?_) (a' := ?_) #[true, true, true, true, true, true, true, true, true, true, true, false, true, true, false, true, true, false, false, false, false] rfl rfl (take_ofW HT_.out HW_.out (by kernel_rfl)) (fun _ _ _ h => h) (Or.inl ⟨by rfl, ?_⟩) hHeld ?_ ?_
                          rotate_left
                          · rintro w' ⟨s0, s1, s2, s3, s4, s5⟩
                            go_simp
                            with_reducible rfl
                          rotate_left
                          · simp only [Act.put, List.setIfInBounds_toArray, List.set_cons_zero, List.set_cons_succ, i64_w, i32_w]
                            rfl
                          refine take_ (i := 11) (N := some 68) (v := ?_) (a' := ?_) #[true, true, true, true, true, true, true, true, true, true, true, true, true, true, false, true, true, false, false, false, false] rfl rfl (take_ofW HT_.out HW_.out (by kernel_rfl)) (fun _ _ _ h => h) (Or.inl ⟨by rfl, ?_⟩) hHeld ?_ ?_
                          rotate_left
                          · rintro w' ⟨s0, s1, s2, s3, s4, s5⟩
                            go_simp
                            with_reducible rfl
                          rotate_left
                          · simp only [Act.put, List.setIfInBounds_toArray, List.set_cons_zero, List.set_cons_succ, i64_w, i32_w]
                            rfl
                          refine take_ (i := 14) (N := some 71) (v := ?_) (a' := ?_) #[true, true, true, true, true, true, true, true, true, true, true, true, true, true, true, true, true, false, false, false, false] rfl rfl (take_ofW HT_.out HW_.out (by kernel_rfl)) (fun _ _ _ h => h) (Or.inl ⟨by rfl, ?_⟩) hHeld ?_ ?_
                          rotate_left
                          · rintro w' ⟨s0, s1, s2, s3, s4, s5⟩
                            go_simp
                            with_reducible rfl
                          rotate_left
                          · simp only [Act.put, List.setIfInBounds_toArray, List.set_cons_zero, List.set_cons_succ, i64_w, i32_w]
                            rfl
                          refine take_ (i := 17) (N := some 74) (v := ?_) (a' := ?_) #[true, true, true, true, true, true, true, true, true, true, true, true, true, true, true, true, true, true, false, false, false] rfl rfl (take_ofW HT_.out HW_.out (by kernel_rfl)) (fun _ _ _ h => h) (Or.inl ⟨by rfl, ?_⟩) hHeld ?_ ?_
                          rotate_left
                          · rintro w' ⟨s0, s1, s2, s3, s4, s5⟩
                            go_simp
                            with_reducible rfl
                          rotate_left
                          · simp only [Act.put, List.setIfInBounds_toArray, List.set_cons_zero, List.set_cons_succ, i64_w, i32_w]
                            rfl
                          refine pure_ (i := 18) (N := some 75) (v := ?_) (a' := ?_) #[true, true, true, true, true, true, true, true, true, true, true, true, true, true, true, true, true, true, true, false, false] rfl rfl (any_of HT_.out (by kernel_rfl)) (fun _ _ _ h => h) (Or.inl ⟨by rfl, ?_⟩) ?_ ?_
                          rotate_left
                          · intro w'
                            go_simp
                            with_reducible rfl
                          rotate_left
                          · simp only [Act.put, List.setIfInBounds_toArray, List.set_cons_zero, List.set_cons_succ, i64_w, i32_w]
                            rfl
                          refine pure_ (i := 19) (N := some 76) (v := ?_) (a' := ?_) #[true, true, true, true, true, true, true, true, true, true, true, true, true, true, true, true, true, true, true, true, false] rfl rfl (any_of HT_.out (by kernel_rfl)) (fun _ _ _ h => h) (Or.inl ⟨by rfl, ?_⟩) ?_ ?_
                          rotate_left
                          · intro w'
                            go_simp
                            with_reducible rfl
                          rotate_left
                          · simp only [Act.put, List.setIfInBounds_toArray, List.set_cons_zero, List.set_cons_succ, i64_w, i32_w]
                            rfl
                          refine one_ (i := 20) (N := none) #[true, true, true, true, true, true, true, true, true, true, true, true, true, true, true, true, true, true, true, true, true] rfl rfl (one_of HT_.out (by kernel_rfl)) (by decide) (fun K hK => ?_)
                          have hs35 : w34.cell? ⟨gb123, 0, none⟩ = some (.string (rdOf ByteArray.empty t111 1)) := (blk_cell BK123.out 0).trans rfl
                          have hfs35 := blk_frozen BK123.out 0
                          have hns35_0 := NB110_123.out
                          have hms35_0 := NB123_110.out
                          have hs36 : w34.cell? ⟨gb123, 1, none⟩ = some (.string (rdOf ByteArray.empty t111 2)) := (blk_cell BK123.out 1).trans rfl
                          have hfs36 := blk_frozen BK123.out 1
                          have hns36_0 := NB110_123.out
                          have hms36_0 := NB123_110.out
                          have hs37 : w34.cell? ⟨gb123, 2, none⟩ = some (.string (rdOf ByteArray.empty t111 3)) := (blk_cell BK123.out 2).trans rfl
                          have hfs37 := blk_frozen BK123.out 2
                          have hns37_0 := NB110_123.out
                          have hms37_0 := NB123_110.out
                          have hs38 : w34.cell? ⟨gb123, 3, none⟩ = some (.string (rdOf ByteArray.empty t111 4)) := (blk_cell BK123.out 3).trans rfl
                          have hfs38 := blk_frozen BK123.out 3
                          have hns38_0 := NB110_123.out
                          have hms38_0 := NB123_110.out
                          have hs39 : w34.cell? ⟨gb123, 4, none⟩ = some (.string (rdOf ByteArray.empty t111 5)) := (blk_cell BK123.out 4).trans rfl
                          have hfs39 := blk_frozen BK123.out 4
                          have hns39_0 := NB110_123.out
                          have hms39_0 := NB123_110.out
                          have hs40 : w34.cell? ⟨gb123, 5, none⟩ = some (.string (rdOf ByteArray.empty t111 6)) := (blk_cell BK123.out 5).trans rfl
                          have hfs40 := blk_frozen BK123.out 5
                          have hns40_0 := NB110_123.out
                          have hms40_0 := NB123_110.out
                          refine skip_ (w1 := ?_) (by rfl) rfl ?_ ?_
                          rotate_left
                          · go_simp
                            rfl
                          have hfar_ : ∀ (q_ : Addr) (W_ : World) (u0_ u1_ u2_ u3_ u4_ u5_ : Value), q_.block ≠ gb123 → ((((((W_.setCell ⟨gb123, 0, none⟩ u0_).setCell ⟨gb123, 1, none⟩ u1_).setCell ⟨gb123, 2, none⟩ u2_).setCell ⟨gb123, 3, none⟩ u3_).setCell ⟨gb123, 4, none⟩ u4_).setCell ⟨gb123, 5, none⟩ u5_).cell? q_ = W_.cell? q_ := fun q_ W_ u0_ u1_ u2_ u3_ u4_ u5_ h_ => (cell_far (p := ⟨gb123, 5, none⟩) (a := q_) h_ _).trans ((cell_far (p := ⟨gb123, 4, none⟩) (a := q_) h_ _).trans ((cell_far (p := ⟨gb123, 3, none⟩) (a := q_) h_ _).trans ((cell_far (p := ⟨gb123, 2, none⟩) (a := q_) h_ _).trans ((cell_far (p := ⟨gb123, 1, none⟩) (a := q_) h_ _).trans (cell_far (p := ⟨gb123, 0, none⟩) (a := q_) h_ _)))))
                          have hne0_ := Kd.own_blk (Kd.R_ne HO_5.out BK123.out (by decide))
                          refine hK.out _ _ ⟨(hfar_ _ _ _ _ _ _ _ _ (by exact hne0_)).trans hHeld.1, (hfar_ _ _ _ _ _ _ _ _ (by exact hne0_)).trans hHeld.2.1, (hfar_ _ _ _ _ _ _ _ _ (by exact hne0_)).trans hHeld.2.2.1, (hfar_ _ _ _ _ _ _ _ _ (by exact hne0_)).trans hHeld.2.2.2.1, (hfar_ _ _ _ _ _ _ _ _ (by exact hne0_)).trans hHeld.2.2.2.2.1, (hfar_ _ _ _ _ _ _ _ _ (by exact hne0_)).trans hHeld.2.2.2.2.2⟩ (fun hHeld => ?_)
                          clear hfar_ hne0_
                          clear hK K
                          refine done_ (done_of HT_.out (by kernel_rfl)) ?_
                          try go_wp2
                          go_meet
                          case rel => exact ⟨_, (rdOf ByteArray.empty t111 4), (rdOf ByteArray.empty t111 5), (rdOf ByteArray.empty t111 6), (rdOf ByteArray.empty t111 1), (rdOf ByteArray.empty t111 2), (rdOf ByteArray.empty t111 3), H', ⟨by have := HJ2.out; first | omega | exact Nat.le_refl _⟩, ⟨by (with_reducible repeat (first | apply Kd.R_alloc | apply Kd.R_drewN | apply Kd.R_drew)); exact Kd.R_mono (Kd.R_far (p := ⟨gb123, 5, none⟩) (Kd.R_far (p := ⟨gb123, 4, none⟩) (Kd.R_far (p := ⟨gb123, 3, none⟩) (Kd.R_far (p := ⟨gb123, 2, none⟩) (Kd.R_far (p := ⟨gb123, 1, none⟩) (Kd.R_far (p := ⟨gb123, 0, none⟩) (Kd.R_types HO_5.out BK123.out (by decide)) (fun _ hk => hk.2) (.string (rdOf ByteArray.empty t111 4))) (fun _ hk => hk.2) (.string (rdOf ByteArray.empty t111 5))) (fun _ hk => hk.2) (.string (rdOf ByteArray.empty t111 6))) (fun _ hk => hk.2) (.string (rdOf ByteArray.empty t111 1))) (fun _ hk => hk.2) (.string (rdOf ByteArray.empty t111 2))) (fun _ hk => hk.2) (.string (rdOf ByteArray.empty t111 3))) (fun _ hk => trivial)⟩, ⟨by (with_reducible repeat (first | refine blk_drewN ?_ _ | refine blk_drew ?_ | refine blk_alloc ?_ _)); refine blk_far ?_ NB110_123.out _; (with_reducible repeat (first | refine blk_drewN ?_ _ | refine blk_drew ?_ | refine blk_alloc ?_ _)); refine blk_far ?_ NB110_123.out _; (with_reducible repeat (first | refine blk_drewN ?_ _ | refine blk_drew ?_ | refine blk_alloc ?_ _)); refine blk_far ?_ NB110_123.out _; (with_reducible repeat (first | refine blk_drewN ?_ _ | refine blk_drew ?_ | refine blk_alloc ?_ _)); refine blk_far ?_ NB110_123.out _; (with_reducible repeat (first | refine blk_drewN ?_ _ | refine blk_drew ?_ | refine blk_alloc ?_ _)); refine blk_far ?_ NB110_123.out _; (with_reducible repeat (first | refine blk_drewN ?_ _ | refine blk_drew ?_ | refine blk_alloc ?_ _)); refine blk_far ?_ NB110_123.out _; (with_reducible repeat (first | refine blk_drewN ?_ _ | refine blk_drew ?_ | refine blk_alloc ?_ _)); exact BK110.out⟩, ⟨by (with_reducible repeat (first | refine blk_drewN ?_ _ | refine blk_drew ?_ | refine blk_alloc ?_ _)); refine blk_put (cs := #[.string (rdOf ByteArray.empty t111 4), .string (rdOf ByteArray.empty t111 5), .string (rdOf ByteArray.empty t111 6), .string (rdOf ByteArray.empty t111 1), .string (rdOf ByteArray.empty t111 2), .string (rdOf ByteArray.empty t111 6)]) ?_ 5 _ rfl; (with_reducible repeat (first | refine blk_drewN ?_ _ | refine blk_drew ?_ | refine blk_alloc ?_ _)); refine blk_put (cs := #[.string (rdOf ByteArray.empty t111 4), .string (rdOf ByteArray.empty t111 5), .string (rdOf ByteArray.empty t111 6), .string (rdOf ByteArray.empty t111 1), .string (rdOf ByteArray.empty t111 5), .string (rdOf ByteArray.empty t111 6)]) ?_ 4 _ rfl; (with_reducible repeat (first | refine blk_drewN ?_ _ | refine blk_drew ?_ | refine blk_alloc ?_ _)); refine blk_put (cs := #[.string (rdOf ByteArray.empty t111 4), .string (rdOf ByteArray.empty t111 5), .string (rdOf ByteArray.empty t111 6), .string (rdOf ByteArray.empty t111 4), .string (rdOf ByteArray.empty t111 5), .string (rdOf ByteArray.empty t111 6)]) ?_ 3 _ rfl; (with_reducible repeat (first | refine blk_drewN ?_ _ | refine blk_drew ?_ | refine blk_alloc ?_ _)); refine blk_put (cs := #[.string (rdOf ByteArray.empty t111 4), .string (rdOf ByteArray.empty t111 5), .string (rdOf ByteArray.empty t111 3), .string (rdOf ByteArray.empty t111 4), .string (rdOf ByteArray.empty t111 5), .string (rdOf ByteArray.empty t111 6)]) ?_ 2 _ rfl; (with_reducible repeat (first | refine blk_drewN ?_ _ | refine blk_drew ?_ | refine blk_alloc ?_ _)); refine blk_put (cs := #[.string (rdOf ByteArray.empty t111 4), .string (rdOf ByteArray.empty t111 2), .string (rdOf ByteArray.empty t111 3), .string (rdOf ByteArray.empty t111 4), .string (rdOf ByteArray.empty t111 5), .string (rdOf ByteArray.empty t111 6)]) ?_ 1 _ rfl; (with_reducible repeat (first | refine blk_drewN ?_ _ | refine blk_drew ?_ | refine blk_alloc ?_ _)); refine blk_put (cs := #[.string (rdOf ByteArray.empty t111 1), .string (rdOf ByteArray.empty t111 2), .string (rdOf ByteArray.empty t111 3), .string (rdOf ByteArray.empty t111 4), .string (rdOf ByteArray.empty t111 5), .string (rdOf ByteArray.empty t111 6)]) ?_ 0 _ rfl; (with_reducible repeat (first | refine blk_drewN ?_ _ | refine blk_drew ?_ | refine blk_alloc ?_ _)); exact BK123.out⟩, ⟨by repeat (first | (with_reducible first | exact HB.out | apply below_alloc | apply pw_below_drewN | apply below_drew1 | refine below_set ?_ GE110.out | refine below_set ?_ GE123.out) | exact HB.out)⟩⟩
                        · rw [if_neg c32] at H
                          have c32b0 : ((rdOf ByteArray.empty t111 0).toList == ([114] : List UInt8)) = false := beq_eq_false_iff_ne.mpr c32
                          have c32b1 : ((rdOf ByteArray.empty t111 0).toList != ([114] : List UInt8)) = true := bne_iff_ne.mpr c32
                          (first | rw [c32b0] | (simp only [i64_w, i32_w]; rw [c32b0]) | skip)
                          have H' := Aside0.mk H
                          clear H
                          go_wp2
                          go_meet
                          case rel => exact ⟨_, (rdOf ByteArray.empty t111 1), (rdOf ByteArray.empty t111 2), (rdOf ByteArray.empty t111 3), (rdOf ByteArray.empty t111 4), (rdOf ByteArray.empty t111 5), (rdOf ByteArray.empty t111 6), H', ⟨by have := HJ2.out; first | omega | exact Nat.le_refl _⟩, ⟨by (with_reducible repeat (first | apply Kd.R_alloc | apply Kd.R_drewN | apply Kd.R_drew)); exact Kd.R_mono (Kd.R_far (p := ⟨gb123, 5, none⟩) (Kd.R_far (p := ⟨gb123, 4, none⟩) (Kd.R_far (p := ⟨gb123, 3, none⟩) (Kd.R_far (p := ⟨gb123, 2, none⟩) (Kd.R_far (p := ⟨gb123, 1, none⟩) (Kd.R_far (p := ⟨gb123, 0, none⟩) (Kd.R_types HO_5.out BK123.out (by decide)) (fun _ hk => hk.2) (.string (rdOf ByteArray.empty t111 1))) (fun _ hk => hk.2) (.string (rdOf ByteArray.empty t111 2))) (fun _ hk => hk.2) (.string (rdOf ByteArray.empty t111 3))) (fun _ hk => hk.2) (.string (rdOf ByteArray.empty t111 4))) (fun _ hk => hk.2) (.string (rdOf ByteArray.empty t111 5))) (fun _ hk => hk.2) (.string (rdOf ByteArray.empty t111 6))) (fun _ hk => trivial)⟩, ⟨by (with_reducible repeat (first | refine blk_drewN ?_ _ | refine blk_drew ?_ | refine blk_alloc ?_ _)); refine blk_far ?_ NB110_123.out _; (with_reducible repeat (first | refine blk_drewN ?_ _ | refine blk_drew ?_ | refine blk_alloc ?_ _)); refine blk_far ?_ NB110_123.out _; (with_reducible repeat (first | refine blk_drewN ?_ _ | refine blk_drew ?_ | refine blk_alloc ?_ _)); refine blk_far ?_ NB110_123.out _; (with_reducible repeat (first | refine blk_drewN ?_ _ | refine blk_drew ?_ | refine blk_alloc ?_ _)); refine blk_far ?_ NB110_123.out _; (with_reducible repeat (first | refine blk_drewN ?_ _ | refine blk_drew ?_ | refine blk_alloc ?_ _)); refine blk_far ?_ NB110_123.out _; (with_reducible repeat (first | refine blk_drewN ?_ _ | refine blk_drew ?_ | refine blk_alloc ?_ _)); refine blk_far ?_ NB110_123.out _; (with_reducible repeat (first | refine blk_drewN ?_ _ | refine blk_drew ?_ | refine blk_alloc ?_ _)); exact BK110.out⟩, ⟨by (with_reducible repeat (first | refine blk_drewN ?_ _ | refine blk_drew ?_ | refine blk_alloc ?_ _)); refine blk_put (cs := #[.string (rdOf ByteArray.empty t111 1), .string (rdOf ByteArray.empty t111 2), .string (rdOf ByteArray.empty t111 3), .string (rdOf ByteArray.empty t111 4), .string (rdOf ByteArray.empty t111 5), .string (⟨#[]⟩ : ByteArray)]) ?_ 5 _ rfl; (with_reducible repeat (first | refine blk_drewN ?_ _ | refine blk_drew ?_ | refine blk_alloc ?_ _)); refine blk_put (cs := #[.string (rdOf ByteArray.empty t111 1), .string (rdOf ByteArray.empty t111 2), .string (rdOf ByteArray.empty t111 3), .string (rdOf ByteArray.empty t111 4), .string (⟨#[]⟩ : ByteArray), .string (⟨#[]⟩ : ByteArray)]) ?_ 4 _ rfl; (with_reducible repeat (first | refine blk_drewN ?_ _ | refine blk_drew ?_ | refine blk_alloc ?_ _)); refine blk_put (cs := #[.string (rdOf ByteArray.empty t111 1), .string (rdOf ByteArray.empty t111 2), .string (rdOf ByteArray.empty t111 3), .string (⟨#[]⟩ : ByteArray), .string (⟨#[]⟩ : ByteArray), .string (⟨#[]⟩ : ByteArray)]) ?_ 3 _ rfl; (with_reducible repeat (first | refine blk_drewN ?_ _ | refine blk_drew ?_ | refine blk_alloc ?_ _)); refine blk_put (cs := #[.string (rdOf ByteArray.empty t111 1), .string (rdOf ByteArray.empty t111 2), .string (⟨#[]⟩ : ByteArray), .string (⟨#[]⟩ : ByteArray), .string (⟨#[]⟩ : ByteArray), .string (⟨#[]⟩ : ByteArray)]) ?_ 2 _ rfl; (with_reducible repeat (first | refine blk_drewN ?_ _ | refine blk_drew ?_ | refine blk_alloc ?_ _)); refine blk_put (cs := #[.string (rdOf ByteArray.empty t111 1), .string (⟨#[]⟩ : ByteArray), .string (⟨#[]⟩ : ByteArray), .string (⟨#[]⟩ : ByteArray), .string (⟨#[]⟩ : ByteArray), .string (⟨#[]⟩ : ByteArray)]) ?_ 1 _ rfl; (with_reducible repeat (first | refine blk_drewN ?_ _ | refine blk_drew ?_ | refine blk_alloc ?_ _)); refine blk_put (cs := #[.string (⟨#[]⟩ : ByteArray), .string (⟨#[]⟩ : ByteArray), .string (⟨#[]⟩ : ByteArray), .string (⟨#[]⟩ : ByteArray), .string (⟨#[]⟩ : ByteArray), .string (⟨#[]⟩ : ByteArray)]) ?_ 0 _ rfl; (with_reducible repeat (first | refine blk_drewN ?_ _ | refine blk_drew ?_ | refine blk_alloc ?_ _)); exact BK123.out⟩, ⟨by repeat (first | (with_reducible first | exact HB.out | apply below_alloc | apply pw_below_drewN | apply below_drew1 | refine below_set ?_ GE110.out | refine below_set ?_ GE123.out) | exact HB.out)⟩⟩
                      case rest =>
                        clear HC22
                        try clear p1
                        try clear q1
                        try clear hx1
                        try clear qi1
                        try clear p2
                        try clear c3
                        try clear p11
                        try clear q11
                        try clear hx11
                        try clear qi11
                        try clear p12
                        try clear q12
                        try clear hx12
                        try clear qi12
                        try clear p13
                        try clear q13
                        try clear hx13
                        try clear qi13
                        try clear c32
                        try clear c32b0
                        try clear c32b1
                        try clear hx117_0
                        try clear hx118_0
                        try clear hx119_0
                        try clear hx120_0
                        try clear hx121_0
                        try clear hx122_0
                        try clear hx124_0
                        try clear hx125_0
                        try clear hx126_0
                        try clear hx127_0
                        try clear hx128_0
                        try clear hx129_0
                        try clear hx130_0
                        try clear p118
                        try clear p119
                        try clear p120
                        try clear p121
                        try clear p122
                        try clear p124
                        try clear p125
                        try clear p126
                        try clear p127
                        try clear p128
                        try clear p129
                        try clear p130
                        try clear q118
                        try clear q119
                        try clear q120
                        try clear q121
                        try clear q122
                        try clear q124
                        try clear q125
                        try clear q126
                        try clear q127
                        try clear q128
                        try clear q129
                        try clear q130
                        obtain ⟨kq, x124000_21, x124001_21, x124002_21, x124003_21, x124004_21, x124005_21, HA, HJ21, HO_5, BK110, BK123, HB⟩ := hcut
                        cases kq with
                        | zero => exact absurd HA.out (by simp [tuple_OfKey.j1])
                        | succ kj21 =>
                          have H := HA.out
                          clear HA
                          simp only [tuple_OfKey.j1] at H
                          replace H := Option.bind_eq_some_iff.mp H
                          obtain ⟨t131, A410, H⟩ := H
                          replace H : (if t131 = 0 then (if 0 < (t111.length : Int) then (some (x124000_21, x124001_21, x124002_21, x124003_21, x124004_21, x124005_21, ((rdOf ByteArray.empty t111 0).toList == ([114] : List UInt8)), 0)) else (none)) else (some ((⟨#[]⟩ : ByteArray), (⟨#[]⟩ : ByteArray), (⟨#[]⟩ : ByteArray), (⟨#[]⟩ : ByteArray), (⟨#[]⟩ : ByteArray), (⟨#[]⟩ : ByteArray), false, 110))) = some (r1, r2, r3, r4, r5, r6, r7, r8) := H
                          have A41 := Aside0.mk A410
                          clear A410
                          by_cases c42 : t131 = 0
                          · rw [if_pos c42] at H
                            have c42b0 : (t131 == 0) = true := beq_iff_eq.mpr c42
                            have c42b1 : (t131 != 0) = false := bne_eq_false_iff_eq.mpr c42
                            clear c42
                            by_cases c43 : 0 < (t111.length : Int)
                            · rw [if_pos c43] at H
                              have c43b0 : decide (0 < (t111.length : Int)) = true := decide_eq_true c43
                              have c43b1 : decide (0 < t111.length) = true := decide_eq_true (by omega)
                              clear c43
                              simp only [Option.some.injEq, Prod.mk.injEq] at H
                              obtain ⟨rfl, rfl, rfl, rfl, rfl, rfl, rfl, rfl⟩ := H
                              have hnb44 := NB123_110.out
                              have hnc44 := NB110_123.out
                              have hcz45_0 : wc.cell? ⟨gb123, 0, none⟩ = some (.string x124000_21) := (blk_cell BK123.out 0).trans rfl
                              have hcz45_1 : wc.cell? ⟨gb123, 1, none⟩ = some (.string x124001_21) := (blk_cell BK123.out 1).trans rfl
                              have hcz45_2 : wc.cell? ⟨gb123, 2, none⟩ = some (.string x124002_21) := (blk_cell BK123.out 2).trans rfl
                              have hcz45_3 : wc.cell? ⟨gb123, 3, none⟩ = some (.string x124003_21) := (blk_cell BK123.out 3).trans rfl
                              have hcz45_4 : wc.cell? ⟨gb123, 4, none⟩ = some (.string x124004_21) := (blk_cell BK123.out 4).trans rfl
                              have hcz45_5 : wc.cell? ⟨gb123, 5, none⟩ = some (.string x124005_21) := (blk_cell BK123.out 5).trans rfl
                              have hfz45_0 := blk_frozen BK123.out 0
                              have hfz45_1 := blk_frozen BK123.out 1
                              have hfz45_2 := blk_frozen BK123.out 2
                              have hfz45_3 := blk_frozen BK123.out 3
                              have hfz45_4 := blk_frozen BK123.out 4
                              have hfz45_5 := blk_frozen BK123.out 5
                              try go_wp2_with (first | ((with_reducible refine gate_callee (f := 32) rfl ?_); refine goesL_ (some 78) rfl rfl Tryd.func32 (by kernel_rfl) rfl #[.agg #[.string x124000_21, .string x124001_21, .string x124002_21, .string x124003_21, .string x124004_21, .string x124005_21]] rfl (by (try simp only [List.map_toArray, List.map_cons, List.map_nil]); first | done | rfl | (simp only [List.length_drop, List.length_take]; rfl)) ?_; (with_reducible refine (tuple_Check.calls x124000_21 x124001_21 x124002_21 x124003_21 x124004_21 x124005_21 t131 _ A41.out).mono ?_); rintro e w46 ⟨rfl, hb⟩; refine ⟨_, rfl, ?_⟩; have n0_ := Aside0.mk (Kd.R_below (by (with_reducible repeat (first | apply Kd.R_alloc | apply Kd.R_drewN | apply Kd.R_drew)); exact HO_5.out) hb); have n1_ := Aside0.mk (blk_below (g := gb110) (o := .cells #[.string (⟨#[]⟩ : ByteArray), .string (⟨#[]⟩ : ByteArray), .string (⟨#[]⟩ : ByteArray), .string (⟨#[]⟩ : ByteArray), .string (⟨#[]⟩ : ByteArray), .string (⟨#[]⟩ : ByteArray)] 26 (0, 0)) (by (with_reducible repeat (first | refine blk_drewN ?_ _ | refine blk_drew ?_ | refine blk_alloc ?_ _)); exact BK110.out) hb); have n2_ := Aside0.mk (blk_below (g := gb123) (o := .cells #[.string x124000_21, .string x124001_21, .string x124002_21, .string x124003_21, .string x124004_21, .string x124005_21] 26 (0, 0)) (by (with_reducible repeat (first | refine blk_drewN ?_ _ | refine blk_drew ?_ | refine blk_alloc ?_ _)); exact BK123.out) hb); have n3_ := Aside0.mk (below_step (by repeat (first | (with_reducible first | exact HB.out | apply below_alloc | apply pw_below_drewN | apply below_drew1 | refine below_set ?_ GE110.out | refine below_set ?_ GE123.out) | exact HB.out)) hb); clear HO_5; clear BK110; clear BK123; clear HB; have HO_5 := n0_; have BK110 := n1_; have BK123 := n2_; have HB := n3_; clear n0_ n1_ n2_ n3_; (try clear hb); (try clear hb2); (try clear hk); (try clear hi)))
                              have n0_ := Aside0.mk (Kd.R_drew HO_5.out)
                              have n1_ := Aside0.mk (blk_drew BK110.out)
                              have n2_ := Aside0.mk (blk_drew BK123.out)
                              have n3_ := Aside0.mk (below_drew1 HB.out)
                              clear HO_5
                              clear BK110
                              clear BK123
                              clear HB
                              have HO_5 := n0_
                              have BK110 := n1_
                              have BK123 := n2_
                              have HB := n3_
                              clear n0_ n1_ n2_ n3_
                              have p132 : 0 ≤ (0 : Int) := (by omega)
                              have q132 : 0 < (t111.length : Int) := of_decide_eq_true (by first | (with_reducible assumption) | assumption)
                              obtain ⟨ad132, e132, hx132_0⟩ := Kd.at_string (Kd.R_reads' HO_5.out).2.2 0 p132 q132
                              obtain rfl : ad117 = ad132 := (by injection e132)
                              have qi132 : (0 < t111.length) = True := eq_true (by omega)
                              (try rw [show ((0 : Int)).toNat = 0 from rfl] at hx132_0)
                              (try rw [Addr.add_zero'] at hx132_0)
                              replace p132 := eq_true p132
                              replace q132 := eq_true q132
                              refine start_ (n := 8) (S := fun w' => w'.cell? ⟨gb123, 0, none⟩ = some (.string x124000_21) ∧ w'.cell? ⟨gb123, 1, none⟩ = some (.string x124001_21) ∧ w'.cell? ⟨gb123, 2, none⟩ = some (.string x124002_21) ∧ w'.cell? ⟨gb123, 3, none⟩ = some (.string x124003_21) ∧ w'.cell? ⟨gb123, 4, none⟩ = some (.string x124004_21) ∧ w'.cell? ⟨gb123, 5, none⟩ = some (.string x124005_21) ∧ w'.cell? ad117 = some (.string (rdOf ByteArray.empty t111 0))) (ds := []) #[false, false, false, false, false, false, false, false] (by kernel_rfl) rfl rfl ⟨(blk_cell BK123.out 0).trans rfl, (blk_cell BK123.out 1).trans rfl, (blk_cell BK123.out 2).trans rfl, (blk_cell BK123.out 3).trans rfl, (blk_cell BK123.out 4).trans rfl, (blk_cell BK123.out 5).trans rfl, hx132_0⟩ (fun hHeld => ?_); refine with_tabW tuple_OfKey.tab9 tuple_OfKey.bits9 (fun HT_ HW_ => ?_)
                              generalize w46.drew = w47 at HO_5 BK110 BK123 HB hx132_0 hHeld ⊢
                              refine pure_ (i := 1) (N := some 82) (v := ?_) (a' := ?_) #[false, true, false, false, false, false, false, false] rfl rfl (any_of HT_.out (by kernel_rfl)) (fun _ _ _ h => h) (Or.inl ⟨by rfl, ?_⟩) ?_ ?_
                              rotate_left
                              · intro w'
                                go_simp
                                with_reducible rfl
                              rotate_left
                              · simp only [Act.put, List.setIfInBounds_toArray, List.set_cons_zero, List.set_cons_succ, i64_w, i32_w]
                                rfl
                              refine pure_ (i := 2) (N := some 83) (v := ?_) (a' := ?_) #[false, true, true, false, false, false, false, false] rfl rfl (any_of HT_.out (by kernel_rfl)) (fun _ _ _ h => h) (Or.inl ⟨by rfl, ?_⟩) ?_ ?_
                              rotate_left
                              · intro w'
                                go_simp
                                with_reducible rfl
                              rotate_left
                              · simp only [Act.put, List.setIfInBounds_toArray, List.set_cons_zero, List.set_cons_succ, i64_w, i32_w]
                                rfl
                              refine take_ (i := 0) (N := some 81) (v := ?_) (a' := ?_) #[true, true, true, false, false, false, false, false] rfl rfl (take_ofW HT_.out HW_.out (by kernel_rfl)) (fun _ _ _ h => h) (Or.inl ⟨by rfl, ?_⟩) hHeld ?_ ?_
                              rotate_left
                              · rintro w' ⟨s0, s1, s2, s3, s4, s5, s6⟩
                                go_simp
                                with_reducible rfl
                              rotate_left
                              · simp only [Act.put, List.setIfInBounds_toArray, List.set_cons_zero, List.set_cons_succ, i64_w, i32_w]
                                rfl
                              refine take_ (i := 3) (N := some 84) (v := ?_) (a' := ?_) #[true, true, true, true, false, false, false, false] rfl rfl (take_ofW HT_.out HW_.out (by kernel_rfl)) (fun _ _ _ h => h) (Or.inl ⟨by rfl, ?_⟩) hHeld ?_ ?_
                              rotate_left
                              · rintro w' ⟨s0, s1, s2, s3, s4, s5, s6⟩
                                go_simp
                                with_reducible rfl
                              rotate_left
                              · simp only [Act.put, List.setIfInBounds_toArray, List.set_cons_zero, List.set_cons_succ, i64_w, i32_w]
                                rfl
                              refine pure_ (i := 4) (N := some 85) (v := ?_) (a' := ?_) #[true, true, true, true, true, false, false, false] rfl rfl (any_of HT_.out (by kernel_rfl)) (fun _ _ _ h => h) (Or.inl ⟨by rfl, ?_⟩) ?_ ?_
                              rotate_left
                              · intro w'
                                go_simp
                                with_reducible rfl
                              rotate_left
                              · simp only [Act.put, List.setIfInBounds_toArray, List.set_cons_zero, List.set_cons_succ, i64_w, i32_w]
                                rfl
                              refine one_ (i := 5) (N := none) #[true, true, true, true, true, true, false, false] rfl rfl (one_of HT_.out (by kernel_rfl)) (by decide) (fun K hK => ?_)
                              have hs48 : w47.cell? ⟨gb110, 0, none⟩ = some (.string (⟨#[]⟩ : ByteArray)) := (blk_cell BK110.out 0).trans rfl
                              have hfs48 := blk_frozen BK110.out 0
                              have hns48_1 := NB123_110.out
                              have hms48_1 := NB110_123.out
                              have hs49 : w47.cell? ⟨gb110, 1, none⟩ = some (.string (⟨#[]⟩ : ByteArray)) := (blk_cell BK110.out 1).trans rfl
                              have hfs49 := blk_frozen BK110.out 1
                              have hns49_1 := NB123_110.out
                              have hms49_1 := NB110_123.out
                              have hs50 : w47.cell? ⟨gb110, 2, none⟩ = some (.string (⟨#[]⟩ : ByteArray)) := (blk_cell BK110.out 2).trans rfl
                              have hfs50 := blk_frozen BK110.out 2
                              have hns50_1 := NB123_110.out
                              have hms50_1 := NB110_123.out
                              have hs51 : w47.cell? ⟨gb110, 3, none⟩ = some (.string (⟨#[]⟩ : ByteArray)) := (blk_cell BK110.out 3).trans rfl
                              have hfs51 := blk_frozen BK110.out 3
                              have hns51_1 := NB123_110.out
                              have hms51_1 := NB110_123.out
                              have hs52 : w47.cell? ⟨gb110, 4, none⟩ = some (.string (⟨#[]⟩ : ByteArray)) := (blk_cell BK110.out 4).trans rfl
                              have hfs52 := blk_frozen BK110.out 4
                              have hns52_1 := NB123_110.out
                              have hms52_1 := NB110_123.out
                              have hs53 : w47.cell? ⟨gb110, 5, none⟩ = some (.string (⟨#[]⟩ : ByteArray)) := (blk_cell BK110.out 5).trans rfl
                              have hfs53 := blk_frozen BK110.out 5
                              have hns53_1 := NB123_110.out
                              have hms53_1 := NB110_123.out
                              refine skip_ (w1 := ?_) (by rfl) rfl ?_ ?_
                              rotate_left
                              · go_simp
                                rfl
                              have hfar_ : ∀ (q_ : Addr) (W_ : World) (u0_ u1_ u2_ u3_ u4_ u5_ : Value), q_.block ≠ gb110 → ((((((W_.setCell ⟨gb110, 0, none⟩ u0_).setCell ⟨gb110, 1, none⟩ u1_).setCell ⟨gb110, 2, none⟩ u2_).setCell ⟨gb110, 3, none⟩ u3_).setCell ⟨gb110, 4, none⟩ u4_).setCell ⟨gb110, 5, none⟩ u5_).cell? q_ = W_.cell? q_ := fun q_ W_ u0_ u1_ u2_ u3_ u4_ u5_ h_ => (cell_far (p := ⟨gb110, 5, none⟩) (a := q_) h_ _).trans ((cell_far (p := ⟨gb110, 4, none⟩) (a := q_) h_ _).trans ((cell_far (p := ⟨gb110, 3, none⟩) (a := q_) h_ _).trans ((cell_far (p := ⟨gb110, 2, none⟩) (a := q_) h_ _).trans ((cell_far (p := ⟨gb110, 1, none⟩) (a := q_) h_ _).trans (cell_far (p := ⟨gb110, 0, none⟩) (a := q_) h_ _)))))
                              have hne0_ := Kd.own_blk (Kd.R_ne HO_5.out BK110.out (by decide))
                              have hne1_ := NB123_110.out
                              refine hK.out _ _ ⟨(hfar_ _ _ _ _ _ _ _ _ (by exact hne1_)).trans hHeld.1, (hfar_ _ _ _ _ _ _ _ _ (by exact hne1_)).trans hHeld.2.1, (hfar_ _ _ _ _ _ _ _ _ (by exact hne1_)).trans hHeld.2.2.1, (hfar_ _ _ _ _ _ _ _ _ (by exact hne1_)).trans hHeld.2.2.2.1, (hfar_ _ _ _ _ _ _ _ _ (by exact hne1_)).trans hHeld.2.2.2.2.1, (hfar_ _ _ _ _ _ _ _ _ (by exact hne1_)).trans hHeld.2.2.2.2.2.1, (hfar_ _ _ _ _ _ _ _ _ (by exact hne0_)).trans hHeld.2.2.2.2.2.2⟩ (fun hHeld => ?_)
                              clear hfar_ hne0_ hne1_
                              clear hK K
                              refine pure_ (i := 6) (N := some 3) (v := ?_) (a' := ?_) #[true, true, true, true, true, true, true, false] rfl rfl (any_of HT_.out (by kernel_rfl)) (fun _ _ _ h => h) (Or.inl ⟨by rfl, ?_⟩) ?_ ?_
                              rotate_left
                              · intro w'
                                go_simp
                                with_reducible rfl
                              rotate_left
                              · simp only [Act.put, List.setIfInBounds_toArray, List.set_cons_zero, List.set_cons_succ, i64_w, i32_w]
                                rfl
                              refine pure_ (i := 7) (N := some 4) (v := ?_) (a' := ?_) #[true, true, true, true, true, true, true, true] rfl rfl (any_of HT_.out (by kernel_rfl)) (fun _ _ _ h => h) (Or.inl ⟨by rfl, ?_⟩) ?_ ?_
                              rotate_left
                              · intro w'
                                go_simp
                                with_reducible rfl
                              rotate_left
                              · simp only [Act.put, List.setIfInBounds_toArray, List.set_cons_zero, List.set_cons_succ, i64_w, i32_w]
                                rfl
                              refine done_ (done_of HT_.out (by kernel_rfl)) ?_
                              try go_wp2
                              refine bodyPost_ret (results_ctt rfl _ _ gb110 26 #[.string x124000_21, .string x124001_21, .string x124002_21, .string x124003_21, .string x124004_21, .string x124005_21] (0, 0) _ rfl (by (with_reducible repeat (first | refine blk_drewN ?_ _ | refine blk_drew ?_ | refine blk_alloc ?_ _)); refine blk_put (cs := #[.string x124000_21, .string x124001_21, .string x124002_21, .string x124003_21, .string x124004_21, .string (⟨#[]⟩ : ByteArray)]) ?_ 5 _ rfl; (with_reducible repeat (first | refine blk_drewN ?_ _ | refine blk_drew ?_ | refine blk_alloc ?_ _)); refine blk_put (cs := #[.string x124000_21, .string x124001_21, .string x124002_21, .string x124003_21, .string (⟨#[]⟩ : ByteArray), .string (⟨#[]⟩ : ByteArray)]) ?_ 4 _ rfl; (with_reducible repeat (first | refine blk_drewN ?_ _ | refine blk_drew ?_ | refine blk_alloc ?_ _)); refine blk_put (cs := #[.string x124000_21, .string x124001_21, .string x124002_21, .string (⟨#[]⟩ : ByteArray), .string (⟨#[]⟩ : ByteArray), .string (⟨#[]⟩ : ByteArray)]) ?_ 3 _ rfl; (with_reducible repeat (first | refine blk_drewN ?_ _ | refine blk_drew ?_ | refine blk_alloc ?_ _)); refine blk_put (cs := #[.string x124000_21, .string x124001_21, .string (⟨#[]⟩ : ByteArray), .string (⟨#[]⟩ : ByteArray), .string (⟨#[]⟩ : ByteArray), .string (⟨#[]⟩ : ByteArray)]) ?_ 2 _ rfl; (with_reducible repeat (first | refine blk_drewN ?_ _ | refine blk_drew ?_ | refine blk_alloc ?_ _)); refine blk_put (cs := #[.string x124000_21, .string (⟨#[]⟩ : ByteArray), .string (⟨#[]⟩ : ByteArray), .string (⟨#[]⟩ : ByteArray), .string (⟨#[]⟩ : ByteArray), .string (⟨#[]⟩ : ByteArray)]) ?_ 1 _ rfl; (with_reducible repeat (first | refine blk_drewN ?_ _ | refine blk_drew ?_ | refine blk_alloc ?_ _)); refine blk_put (cs := #[.string (⟨#[]⟩ : ByteArray), .string (⟨#[]⟩ : ByteArray), .string (⟨#[]⟩ : ByteArray), .string (⟨#[]⟩ : ByteArray), .string (⟨#[]⟩ : ByteArray), .string (⟨#[]⟩ : ByteArray)]) ?_ 0 _ rfl; (with_reducible repeat (first | refine blk_drewN ?_ _ | refine blk_drew ?_ | refine blk_alloc ?_ _)); exact BK110.out) Tryd.underlying26 rfl (by kernel_rfl)) rfl ?_
                              exact ⟨by first | rfl | (simp [errW_none, errW_some] <;> rfl) | (simp [*, errW_none, errW_some] <;> rfl), by repeat (first | (with_reducible first | exact HB.out | apply below_alloc | apply pw_below_drewN | apply below_drew1 | refine below_set ?_ GE110.out | refine below_set ?_ GE123.out) | exact HB.out)⟩
                            · rw [if_neg c43] at H
                              exact absurd H (by simp)
                          · rw [if_neg c42] at H
                            have c42b0 : (t131 == 0) = false := beq_eq_false_iff_ne.mpr c42
                            have c42b1 : (t131 != 0) = true := bne_iff_ne.mpr c42
                            simp only [Option.some.injEq, Prod.mk.injEq] at H
                            obtain ⟨rfl, rfl, rfl, rfl, rfl, rfl, rfl, rfl⟩ := H
                            have hnb54 := NB123_110.out
                            have hnc54 := NB110_123.out
                            have hcz55_0 : wc.cell? ⟨gb123, 0, none⟩ = some (.string x124000_21) := (blk_cell BK123.out 0).trans rfl
                            have hcz55_1 : wc.cell? ⟨gb123, 1, none⟩ = some (.string x124001_21) := (blk_cell BK123.out 1).trans rfl
                            have hcz55_2 : wc.cell? ⟨gb123, 2, none⟩ = some (.string x124002_21) := (blk_cell BK123.out 2).trans rfl
                            have hcz55_3 : wc.cell? ⟨gb123, 3, none⟩ = some (.string x124003_21) := (blk_cell BK123.out 3).trans rfl
                            have hcz55_4 : wc.cell? ⟨gb123, 4, none⟩ = some (.string x124004_21) := (blk_cell BK123.out 4).trans rfl
                            have hcz55_5 : wc.cell? ⟨gb123, 5, none⟩ = some (.string x124005_21) := (blk_cell BK123.out 5).trans rfl
                            have hfz55_0 := blk_frozen BK123.out 0
                            have hfz55_1 := blk_frozen BK123.out 1
                            have hfz55_2 := blk_frozen BK123.out 2
                            have hfz55_3 := blk_frozen BK123.out 3
                            have hfz55_4 := blk_frozen BK123.out 4
                            have hfz55_5 := blk_frozen BK123.out 5
                            go_wp2_with (first | ((with_reducible refine gate_callee (f := 32) rfl ?_); refine goesL_ (some 78) rfl rfl Tryd.func32 (by kernel_rfl) rfl #[.agg #[.string x124000_21, .string x124001_21, .string x124002_21, .string x124003_21, .string x124004_21, .string x124005_21]] rfl (by (try simp only [List.map_toArray, List.map_cons, List.map_nil]); first | done | rfl | (simp only [List.length_drop, List.length_take]; rfl)) ?_; (with_reducible refine (tuple_Check.calls x124000_21 x124001_21 x124002_21 x124003_21 x124004_21 x124005_21 t131 _ A41.out).mono ?_); rintro e w56 ⟨rfl, hb⟩; refine ⟨_, rfl, ?_⟩; have n0_ := Aside0.mk (Kd.R_below (by (with_reducible repeat (first | apply Kd.R_alloc | apply Kd.R_drewN | apply Kd.R_drew)); exact HO_5.out) hb); have n1_ := Aside0.mk (blk_below (g := gb110) (o := .cells #[.string (⟨#[]⟩ : ByteArray), .string (⟨#[]⟩ : ByteArray), .string (⟨#[]⟩ : ByteArray), .string (⟨#[]⟩ : ByteArray), .string (⟨#[]⟩ : ByteArray), .string (⟨#[]⟩ : ByteArray)] 26 (0, 0)) (by (with_reducible repeat (first | refine blk_drewN ?_ _ | refine blk_drew ?_ | refine blk_alloc ?_ _)); exact BK110.out) hb); have n2_ := Aside0.mk (blk_below (g := gb123) (o := .cells #[.string x124000_21, .string x124001_21, .string x124002_21, .string x124003_21, .string x124004_21, .string x124005_21] 26 (0, 0)) (by (with_reducible repeat (first | refine blk_drewN ?_ _ | refine blk_drew ?_ | refine blk_alloc ?_ _)); exact BK123.out) hb); have n3_ := Aside0.mk (below_step (by repeat (first | (with_reducible first | exact HB.out | apply below_alloc | apply pw_below_drewN | apply below_drew1 | refine below_set ?_ GE110.out | refine below_set ?_ GE123.out) | exact HB.out)) hb); clear HO_5; clear BK110; clear BK123; clear HB; have HO_5 := n0_; have BK110 := n1_; have BK123 := n2_; have HB := n3_; clear n0_ n1_ n2_ n3_; (try clear hb); (try clear hb2); (try clear hk); (try clear hi); have hcz57_0 : w56.cell? ⟨gb110, 0, none⟩ = some (.string (⟨#[]⟩ : ByteArray)) := (blk_cell BK110.out 0).trans rfl; have hcz57_1 : w56.cell? ⟨gb110, 1, none⟩ = some (.string (⟨#[]⟩ : ByteArray)) := (blk_cell BK110.out 1).trans rfl; have hcz57_2 : w56.cell? ⟨gb110, 2, none⟩ = some (.string (⟨#[]⟩ : ByteArray)) := (blk_cell BK110.out 2).trans rfl; have hcz57_3 : w56.cell? ⟨gb110, 3, none⟩ = some (.string (⟨#[]⟩ : ByteArray)) := (blk_cell BK110.out 3).trans rfl; have hcz57_4 : w56.cell? ⟨gb110, 4, none⟩ = some (.string (⟨#[]⟩ : ByteArray)) := (blk_cell BK110.out 4).trans rfl; have hcz57_5 : w56.cell? ⟨gb110, 5, none⟩ = some (.string (⟨#[]⟩ : ByteArray)) := (blk_cell BK110.out 5).trans rfl; have hfz57_0 := blk_frozen BK110.out 0; have hfz57_1 := blk_frozen BK110.out 1; have hfz57_2 := blk_frozen BK110.out 2; have hfz57_3 := blk_frozen BK110.out 3; have hfz57_4 := blk_frozen BK110.out 4; have hfz57_5 := blk_frozen BK110.out 5))
                            refine bodyPost_ret (results_ctt rfl _ _ gb110 26 #[.string (⟨#[]⟩ : ByteArray), .string (⟨#[]⟩ : ByteArray), .string (⟨#[]⟩ : ByteArray), .string (⟨#[]⟩ : ByteArray), .string (⟨#[]⟩ : ByteArray), .string (⟨#[]⟩ : ByteArray)] (0, 0) _ rfl (by (with_reducible repeat (first | refine blk_drewN ?_ _ | refine blk_drew ?_ | refine blk_alloc ?_ _)); refine blk_put (cs := #[.string (⟨#[]⟩ : ByteArray), .string (⟨#[]⟩ : ByteArray), .string (⟨#[]⟩ : ByteArray), .string (⟨#[]⟩ : ByteArray), .string (⟨#[]⟩ : ByteArray), .string (⟨#[]⟩ : ByteArray)]) ?_ 5 _ rfl; (with_reducible repeat (first | refine blk_drewN ?_ _ | refine blk_drew ?_ | refine blk_alloc ?_ _)); refine blk_put (cs := #[.string (⟨#[]⟩ : ByteArray), .string (⟨#[]⟩ : ByteArray), .string (⟨#[]⟩ : ByteArray), .string (⟨#[]⟩ : ByteArray), .string (⟨#[]⟩ : ByteArray), .string (⟨#[]⟩ : ByteArray)]) ?_ 4 _ rfl; (with_reducible repeat (first | refine blk_drewN ?_ _ | refine blk_drew ?_ | refine blk_alloc ?_ _)); refine blk_put (cs := #[.string (⟨#[]⟩ : ByteArray), .string (⟨#[]⟩ : ByteArray), .string (⟨#[]⟩ : ByteArray), .string (⟨#[]⟩ : ByteArray), .string (⟨#[]⟩ : ByteArray), .string (⟨#[]⟩ : ByteArray)]) ?_ 3 _ rfl; (with_reducible repeat (first | refine blk_drewN ?_ _ | refine blk_drew ?_ | refine blk_alloc ?_ _)); refine blk_put (cs := #[.string (⟨#[]⟩ : ByteArray), .string (⟨#[]⟩ : ByteArray), .string (⟨#[]⟩ : ByteArray), .string (⟨#[]⟩ : ByteArray), .string (⟨#[]⟩ : ByteArray), .string (⟨#[]⟩ : ByteArray)]) ?_ 2 _ rfl; (with_reducible repeat (first | refine blk_drewN ?_ _ | refine blk_drew ?_ | refine blk_alloc ?_ _)); refine blk_put (cs := #[.string (⟨#[]⟩ : ByteArray), .string (⟨#[]⟩ : ByteArray), .string (⟨#[]⟩ : ByteArray), .string (⟨#[]⟩ : ByteArray), .string (⟨#[]⟩ : ByteArray), .string (⟨#[]⟩ : ByteArray)]) ?_ 1 _ rfl; (with_reducible repeat (first | refine blk_drewN ?_ _ | refine blk_drew ?_ | refine blk_alloc ?_ _)); refine blk_put (cs := #[.string (⟨#[]⟩ : ByteArray), .string (⟨#[]⟩ : ByteArray), .string (⟨#[]⟩ : ByteArray), .string (⟨#[]⟩ : ByteArray), .string (⟨#[]⟩ : ByteArray), .string (⟨#[]⟩ : ByteArray)]) ?_ 0 _ rfl; (with_reducible repeat (first | refine blk_drewN ?_ _ | refine blk_drew ?_ | refine blk_alloc ?_ _)); exact BK110.out) Tryd.underlying26 rfl (by kernel_rfl)) rfl ?_
                            exact ⟨by first | rfl | (simp [errW_none, errW_some] <;> rfl) | (simp [*, errW_none, errW_some] <;> rfl), by repeat (first | (with_reducible first | exact HB.out | apply below_alloc | apply pw_below_drewN | apply below_drew1 | refine below_set ?_ GE110.out | refine below_set ?_ GE123.out) | exact HB.out)⟩
                    · rw [if_neg c21] at H
                      exact absurd H (by simp)
                  · rw [if_neg c20] at H
                    exact absurd H (by simp)
                · rw [if_neg c19] at H
                  exact absurd H (by simp)
              · rw [if_neg c18] at H
                exact absurd H (by simp)
            · rw [if_neg c17] at H
              exact absurd H (by simp)
          · rw [if_neg c16] at H
            exact absurd H (by simp)
        · rw [if_neg c15] at H
          exact absurd H (by simp)

end Go.Proofs.YtggcipjdhhnnkaaDoor.K
