/- Texts of this claim's proof, put together: V11 HRa V12; conditions: as each states. -/
import Derived.Test.YtjcipbdocbomjaaGreatDoorZ1
import Derived.Test.YtjcipbdocbomjaaGreatDoorZ3
set_option linter.unusedVariables false
set_option linter.unusedSimpArgs false
open Go.RowKit Go.Proofs.YtjcipbdocbomjaaGreatDoorW.PrintWords Go.Proofs.YtjcipbdocbomjaaGreatDoorW.PrintLast Go.Proofs.YtjcipbdocbomjaaGreatDoorW.PrintMore
namespace Go.Proofs.YtjcipbdocbomjaaGreatDoor.K
attribute [local go_sem] max2_int min2_int max_two min_two max_three min_three max_four min_four
mutual
def lunetteref12_same.j0 : Nat → Bool → ByteArray → ByteArray → ByteArray → List (S33) → ByteArray → ByteArray → ByteArray → List (S33) → Option (Bool)
 | 0, _, _, _, _, _, _, _, _, _ => none
 | k + 1, x33, x158000, x158001, x158002, x158003, x159000, x159001, x159002, x159003 => if x33 = true then (some false) else (lunetteref12_same.l0 k 0 x158000 x158001 x158002 x158003 x159000 x159001 x159002 x159003)
def lunetteref12_same.l0 : Nat → Int → ByteArray → ByteArray → ByteArray → List (S33) → ByteArray → ByteArray → ByteArray → List (S33) → Option (Bool)
 | 0, _, _, _, _, _, _, _, _, _ => none
 | k + 1, x5, x158000, x158001, x158002, x158003, x159000, x159001, x159002, x159003 => if x5 < (x158003.length : Int) then (if 0 ≤ x5 then (if x5 < (x159003.length : Int) then ((lunetteref12_same.f k ((rd_T33 x158003 x5).f0) ((rd_T33 x158003 x5).f1) ((rd_T33 x158003 x5).f2) ((rd_T33 x158003 x5).f3) ((rd_T33 x159003 x5).f0) ((rd_T33 x159003 x5).f1) ((rd_T33 x159003 x5).f2) ((rd_T33 x159003 x5).f3)).bind fun t161 => (if t161 = true then (lunetteref12_same.l0 k (wrap64 (x5 + 1)) x158000 x158001 x158002 x158003 x159000 x159001 x159002 x159003) else (some false))) else (none)) else (none)) else (some true)
def lunetteref12_same.f : Nat → ByteArray → ByteArray → ByteArray → List (S33) → ByteArray → ByteArray → ByteArray → List (S33) → Option (Bool)
 | 0, _, _, _, _, _, _, _, _ => none
 | k + 1, a0_0, a0_1, a0_2, l0_3, a1_0, a1_1, a1_2, l1_3 => if a0_0.toList = a1_0.toList then (if a0_1.toList = a1_1.toList then (if a0_2.toList = a1_2.toList then (lunetteref12_same.j0 k ((l0_3.length : Int) != (l1_3.length : Int)) a0_0 a0_1 a0_2 l0_3 a1_0 a1_1 a1_2 l1_3) else (lunetteref12_same.j0 k true a0_0 a0_1 a0_2 l0_3 a1_0 a1_1 a1_2 l1_3)) else (lunetteref12_same.j0 k true a0_0 a0_1 a0_2 l0_3 a1_0 a1_1 a1_2 l1_3)) else (lunetteref12_same.j0 k true a0_0 a0_1 a0_2 l0_3 a1_0 a1_1 a1_2 l1_3)
end
def lunetteref12_same.T6 : Bool × List (List Nat × List Nat) := (true, [([], []), ([0], [0]), ([], []), ([1, 2], [1, 2]), ([3], [3]), ([], []), ([5], [5]), ([], []), ([6, 7], [6, 7]), ([8], [8]), ([4, 9], [4, 9]), ([10], [10])])
def lunetteref12_same.B6 : List Nat := [0, 1, 0, 7, 15, 0, 32, 0, 224, 480, 1023, 2047]
theorem lunetteref12_same.tab6 : rtab .any (opsOf Tryz.f39 6) = lunetteref12_same.T6 := by kernel_rfl
theorem lunetteref12_same.bits6 : waitsOk lunetteref12_same.T6.2 lunetteref12_same.B6 = true := by kernel_rfl
set_option maxHeartbeats 8000000 in
set_option maxRecDepth 100000 in
theorem lunetteref12_same.calls (k : Nat) : ∀ (a0_0 : ByteArray) (a0_1 : ByteArray) (a0_2 : ByteArray) (A0_3 : Option Addr) (c0_3 : Nat) (l0_3 : List (S33)) (a1_0 : ByteArray) (a1_1 : ByteArray) (a1_2 : ByteArray) (A1_3 : Option Addr) (c1_3 : Nat) (l1_3 : List (S33)) (r : Bool) (w : World) (hr0_3 : Kd.C k33 w A0_3 l0_3.length l0_3) (hc0_3 : l0_3.length ≤ c0_3) (hr1_3 : Kd.C k33 w A1_3 l1_3.length l1_3) (hc1_3 : l1_3.length ≤ c1_3) (h : lunetteref12_same.f k a0_0 a0_1 a0_2 l0_3 a1_0 a1_1 a1_2 l1_3 = some r),
  Calls Tryz.prog 39 #[.agg #[.string a0_0, .string a0_1, .string a0_2, .slice A0_3 l0_3.length c0_3], .agg #[.string a1_0, .string a1_1, .string a1_2, .slice A1_3 l1_3.length c1_3]] w fun e w' => e = .returned (.bool r) ∧ Below w.heap.size w w' := by
 induction k using Nat.strongRecOn with
 | _ k ih =>
 intro a0_0 a0_1 a0_2 A0_3 c0_3 l0_3 a1_0 a1_1 a1_2 A1_3 c1_3 l1_3 r w hr0_3 hc0_3 hr1_3 hc1_3 h
 cases k with
 | zero => exact absurd h (by simp [lunetteref12_same.f])
 | succ k =>
 simp only [lunetteref12_same.f] at h
 have hu33 := Tryz.underlying33
 have HR0_3 := Aside0.mk hr0_3
 have HC0_3 := Aside0.mk hc0_3
 clear hr0_3 hc0_3
 have HR1_3 := Aside0.mk hr1_3
 have HC1_3 := Aside0.mk hc1_3
 clear hr1_3 hc1_3
 have HB := Aside0.mk (Below.refl w.heap.size w)
 have H : (if a0_0.toList = a1_0.toList then (if a0_1.toList = a1_1.toList then (if a0_2.toList = a1_2.toList then (lunetteref12_same.j0 k ((l0_3.length : Int) != (l1_3.length : Int)) a0_0 a0_1 a0_2 l0_3 a1_0 a1_1 a1_2 l1_3) else (lunetteref12_same.j0 k true a0_0 a0_1 a0_2 l0_3 a1_0 a1_1 a1_2 l1_3)) else (lunetteref12_same.j0 k true a0_0 a0_1 a0_2 l0_3 a1_0 a1_1 a1_2 l1_3)) else (lunetteref12_same.j0 k true a0_0 a0_1 a0_2 l0_3 a1_0 a1_1 a1_2 l1_3)) = some r := h
 clear h
 have HC3 := Aside0.mk H
 clear H
 go_enter Tryz.func39, Tryz.ntmps39
 go_upto_region 1 with (first | ((with_reducible refine gate_dst (N := 2) rfl ?_); (try (refine gate_guard (by rfl) ?_; dsimp only)); refine box_event ?hg (N := 2) ?hd (cs := #[.string a0_0, .string a0_1, .string a0_2, .slice A0_3 l0_3.length c0_3]) (t := 33) ?hr ?_; (case hd => rfl); (case hg => rfl); (case hr => (go_simp; done)); intro gb157 hg w4 hbox hb; have n0_ := Aside0.mk (below_step (by repeat ((with_reducible (exact HB.out)))) hb); have n1_ := Aside0.mk (hbox); have n2_ := Aside0.mk ((by rw [hg]; exact (below_size (by repeat ((with_reducible (exact HB.out))))) : w.heap.size ≤ gb157)); have n3_ := Aside0.mk ((by rw [hg]; exact (below_size (by repeat ((with_reducible (exact HB.out))))) : w.heap.size ≤ gb157)); clear HB; have HB := n0_; have BK157 := n1_; have GW157 := n2_; have GE157 := n3_; clear n0_ n1_ n2_ n3_; clear hb hbox hg) | ((with_reducible refine gate_dst (N := 3) rfl ?_); (try (refine gate_guard (by rfl) ?_; dsimp only)); refine box_event ?hg (N := 3) ?hd (cs := #[.string a1_0, .string a1_1, .string a1_2, .slice A1_3 l1_3.length c1_3]) (t := 33) ?hr ?_; (case hd => rfl); (case hg => rfl); (case hr => (go_simp; done)); intro gb158 hg w5 hbox hb; have n0_ := Aside0.mk (blk_below (g := gb157) (o := .cells #[.string a0_0, .string a0_1, .string a0_2, .slice A0_3 l0_3.length c0_3] 33 (0, 0)) (by (with_reducible repeat ((refine blk_drew ?_))); exact BK157.out) hb); have n1_ := Aside0.mk (below_step (by repeat ((with_reducible (exact HB.out)))) hb); have n2_ := Aside0.mk (hbox); have n3_ := Aside0.mk ((by rw [hg]; exact (below_size (by repeat ((with_reducible (exact HB.out))))) : w.heap.size ≤ gb158)); have n4_ := Aside0.mk ((by rw [hg]; exact (below_size (by repeat ((with_reducible (exact HB.out))))) : w.heap.size ≤ gb158)); have n5_ := Aside0.mk ((by rw [hg]; exact Nat.ne_of_lt (blk_lt (g := gb157) (o := .cells #[.string a0_0, .string a0_1, .string a0_2, .slice A0_3 l0_3.length c0_3] 33 (0, 0)) (by (with_reducible repeat ((refine blk_drew ?_))); exact BK157.out)) : gb157 ≠ gb158)); have n6_ := Aside0.mk ((by rw [hg]; exact Nat.ne_of_gt (blk_lt (g := gb157) (o := .cells #[.string a0_0, .string a0_1, .string a0_2, .slice A0_3 l0_3.length c0_3] 33 (0, 0)) (by (with_reducible repeat ((refine blk_drew ?_))); exact BK157.out)) : gb158 ≠ gb157)); clear BK157; clear HB; have BK157 := n0_; have HB := n1_; have BK158 := n2_; have GW158 := n3_; have GE158 := n4_; have NB157_158 := n5_; have NB158_157 := n6_; clear n0_ n1_ n2_ n3_ n4_ n5_ n6_; clear hb hbox hg))
 (try simp only [Act.put, List.setIfInBounds_toArray, List.set_cons_zero, List.set_cons_succ])
 go_cut [33] (fun v33 wc => ∃ (kq : Nat) (x33_2 : Bool), v33 = .bool x33_2 ∧ Aside0 (lunetteref12_same.j0 kq x33_2 a0_0 a0_1 a0_2 l0_3 a1_0 a1_1 a1_2 l1_3 = some r) ∧ Aside0 (kq ≤ k) ∧ Aside0 (wc.heap[gb157]? = some (.cells #[.string a0_0, .string a0_1, .string a0_2, (.slice A0_3 l0_3.length c0_3)] 33 (0, 0))) ∧ Aside0 (wc.heap[gb158]? = some (.cells #[.string a1_0, .string a1_1, .string a1_2, (.slice A1_3 l1_3.length c1_3)] 33 (0, 0))) ∧ Aside0 (Below w.heap.size w wc))
 case first =>
  have H := HC3.out
  clear HC3
  by_cases c6 : a0_0.toList = a1_0.toList
  ·rw [if_pos c6] at H
   have c6b0 : (a0_0.toList == a1_0.toList) = true := beq_iff_eq.mpr c6
   have c6b1 : (a0_0.toList != a1_0.toList) = false := bne_eq_false_iff_eq.mpr c6
   clear c6
   ((skip))
   by_cases c7 : a0_1.toList = a1_1.toList
   ·rw [if_pos c7] at H
    have c7b0 : (a0_1.toList == a1_1.toList) = true := beq_iff_eq.mpr c7
    have c7b1 : (a0_1.toList != a1_1.toList) = false := bne_eq_false_iff_eq.mpr c7
    clear c7
    by_cases c8 : a0_2.toList = a1_2.toList
    ·rw [if_pos c8] at H
     have c8b0 : (a0_2.toList == a1_2.toList) = true := beq_iff_eq.mpr c8
     have c8b1 : (a0_2.toList != a1_2.toList) = false := bne_eq_false_iff_eq.mpr c8
     clear c8
     have H' := Aside0.mk H
     clear H
     have hnb9 := NB157_158.out
     have hnc9 := NB158_157.out
     have hcz10_0 : w5.cell? ⟨gb157, 0, none⟩ = some (.string a0_0) := (blk_cell BK157.out 0).trans rfl
     have hcz10_1 : w5.cell? ⟨gb157, 1, none⟩ = some (.string a0_1) := (blk_cell BK157.out 1).trans rfl
     have hcz10_2 : w5.cell? ⟨gb157, 2, none⟩ = some (.string a0_2) := (blk_cell BK157.out 2).trans rfl
     have hcz10_3 : w5.cell? ⟨gb157, 3, none⟩ = some (.slice A0_3 l0_3.length c0_3) := (blk_cell BK157.out 3).trans rfl
     have hfz10_0 := blk_frozen BK157.out 0
     have hfz10_1 := blk_frozen BK157.out 1
     have hfz10_2 := blk_frozen BK157.out 2
     have hfz10_3 := blk_frozen BK157.out 3
     have hcz11_0 : w5.cell? ⟨gb158, 0, none⟩ = some (.string a1_0) := (blk_cell BK158.out 0).trans rfl
     have hcz11_1 : w5.cell? ⟨gb158, 1, none⟩ = some (.string a1_1) := (blk_cell BK158.out 1).trans rfl
     have hcz11_2 : w5.cell? ⟨gb158, 2, none⟩ = some (.string a1_2) := (blk_cell BK158.out 2).trans rfl
     have hcz11_3 : w5.cell? ⟨gb158, 3, none⟩ = some (.slice A1_3 l1_3.length c1_3) := (blk_cell BK158.out 3).trans rfl
     have hfz11_0 := blk_frozen BK158.out 0
     have hfz11_1 := blk_frozen BK158.out 1
     have hfz11_2 := blk_frozen BK158.out 2
     have hfz11_3 := blk_frozen BK158.out 3
     go_wp2
     go_meet
     case rel => exact ⟨_, (((l0_3.length : Int) != (l1_3.length : Int))), (by (rfl)), H', ⟨by (omega)⟩, ⟨by (with_reducible repeat ((refine blk_drew ?_))); exact BK157.out⟩, ⟨by (with_reducible repeat ((refine blk_drew ?_))); exact BK158.out⟩, ⟨by repeat ((with_reducible (exact HB.out)))⟩⟩
    ·rw [if_neg c8] at H
     have c8b0 : (a0_2.toList == a1_2.toList) = false := beq_eq_false_iff_ne.mpr c8
     have c8b1 : (a0_2.toList != a1_2.toList) = true := bne_iff_ne.mpr c8
     have H' := Aside0.mk H
     clear H
     have hnb12 := NB157_158.out
     have hnc12 := NB158_157.out
     have hcz13_0 : w5.cell? ⟨gb157, 0, none⟩ = some (.string a0_0) := (blk_cell BK157.out 0).trans rfl
     have hcz13_1 : w5.cell? ⟨gb157, 1, none⟩ = some (.string a0_1) := (blk_cell BK157.out 1).trans rfl
     have hcz13_2 : w5.cell? ⟨gb157, 2, none⟩ = some (.string a0_2) := (blk_cell BK157.out 2).trans rfl
     have hcz13_3 : w5.cell? ⟨gb157, 3, none⟩ = some (.slice A0_3 l0_3.length c0_3) := (blk_cell BK157.out 3).trans rfl
     have hfz13_0 := blk_frozen BK157.out 0
     have hfz13_1 := blk_frozen BK157.out 1
     have hfz13_2 := blk_frozen BK157.out 2
     have hfz13_3 := blk_frozen BK157.out 3
     have hcz14_0 : w5.cell? ⟨gb158, 0, none⟩ = some (.string a1_0) := (blk_cell BK158.out 0).trans rfl
     have hcz14_1 : w5.cell? ⟨gb158, 1, none⟩ = some (.string a1_1) := (blk_cell BK158.out 1).trans rfl
     have hcz14_2 : w5.cell? ⟨gb158, 2, none⟩ = some (.string a1_2) := (blk_cell BK158.out 2).trans rfl
     have hcz14_3 : w5.cell? ⟨gb158, 3, none⟩ = some (.slice A1_3 l1_3.length c1_3) := (blk_cell BK158.out 3).trans rfl
     have hfz14_0 := blk_frozen BK158.out 0
     have hfz14_1 := blk_frozen BK158.out 1
     have hfz14_2 := blk_frozen BK158.out 2
     have hfz14_3 := blk_frozen BK158.out 3
     go_wp2
     go_meet
     case rel => exact ⟨_, (true), (by (rfl)), H', ⟨by (omega)⟩, ⟨by (with_reducible repeat ((refine blk_drew ?_))); exact BK157.out⟩, ⟨by (with_reducible repeat ((refine blk_drew ?_))); exact BK158.out⟩, ⟨by repeat ((with_reducible (exact HB.out)))⟩⟩
   ·rw [if_neg c7] at H
    have c7b0 : (a0_1.toList == a1_1.toList) = false := beq_eq_false_iff_ne.mpr c7
    have c7b1 : (a0_1.toList != a1_1.toList) = true := bne_iff_ne.mpr c7
    have H' := Aside0.mk H
    clear H
    have hnb15 := NB157_158.out
    have hnc15 := NB158_157.out
    have hcz16_0 : w5.cell? ⟨gb157, 0, none⟩ = some (.string a0_0) := (blk_cell BK157.out 0).trans rfl
    have hcz16_1 : w5.cell? ⟨gb157, 1, none⟩ = some (.string a0_1) := (blk_cell BK157.out 1).trans rfl
    have hcz16_2 : w5.cell? ⟨gb157, 2, none⟩ = some (.string a0_2) := (blk_cell BK157.out 2).trans rfl
    have hcz16_3 : w5.cell? ⟨gb157, 3, none⟩ = some (.slice A0_3 l0_3.length c0_3) := (blk_cell BK157.out 3).trans rfl
    have hfz16_0 := blk_frozen BK157.out 0
    have hfz16_1 := blk_frozen BK157.out 1
    have hfz16_2 := blk_frozen BK157.out 2
    have hfz16_3 := blk_frozen BK157.out 3
    have hcz17_0 : w5.cell? ⟨gb158, 0, none⟩ = some (.string a1_0) := (blk_cell BK158.out 0).trans rfl
    have hcz17_1 : w5.cell? ⟨gb158, 1, none⟩ = some (.string a1_1) := (blk_cell BK158.out 1).trans rfl
    have hcz17_2 : w5.cell? ⟨gb158, 2, none⟩ = some (.string a1_2) := (blk_cell BK158.out 2).trans rfl
    have hcz17_3 : w5.cell? ⟨gb158, 3, none⟩ = some (.slice A1_3 l1_3.length c1_3) := (blk_cell BK158.out 3).trans rfl
    have hfz17_0 := blk_frozen BK158.out 0
    have hfz17_1 := blk_frozen BK158.out 1
    have hfz17_2 := blk_frozen BK158.out 2
    have hfz17_3 := blk_frozen BK158.out 3
    go_wp2
    go_meet
    case rel => exact ⟨_, (true), (by (rfl)), H', ⟨by (omega)⟩, ⟨by (with_reducible repeat ((refine blk_drew ?_))); exact BK157.out⟩, ⟨by (with_reducible repeat ((refine blk_drew ?_))); exact BK158.out⟩, ⟨by repeat ((with_reducible (exact HB.out)))⟩⟩
  ·rw [if_neg c6] at H
   have c6b0 : (a0_0.toList == a1_0.toList) = false := beq_eq_false_iff_ne.mpr c6
   have c6b1 : (a0_0.toList != a1_0.toList) = true := bne_iff_ne.mpr c6
   ((skip))
   have H' := Aside0.mk H
   clear H
   have hnb18 := NB157_158.out
   have hnc18 := NB158_157.out
   have hcz19_0 : w5.cell? ⟨gb157, 0, none⟩ = some (.string a0_0) := (blk_cell BK157.out 0).trans rfl
   have hcz19_1 : w5.cell? ⟨gb157, 1, none⟩ = some (.string a0_1) := (blk_cell BK157.out 1).trans rfl
   have hcz19_2 : w5.cell? ⟨gb157, 2, none⟩ = some (.string a0_2) := (blk_cell BK157.out 2).trans rfl
   have hcz19_3 : w5.cell? ⟨gb157, 3, none⟩ = some (.slice A0_3 l0_3.length c0_3) := (blk_cell BK157.out 3).trans rfl
   have hfz19_0 := blk_frozen BK157.out 0
   have hfz19_1 := blk_frozen BK157.out 1
   have hfz19_2 := blk_frozen BK157.out 2
   have hfz19_3 := blk_frozen BK157.out 3
   have hcz20_0 : w5.cell? ⟨gb158, 0, none⟩ = some (.string a1_0) := (blk_cell BK158.out 0).trans rfl
   have hcz20_1 : w5.cell? ⟨gb158, 1, none⟩ = some (.string a1_1) := (blk_cell BK158.out 1).trans rfl
   have hcz20_2 : w5.cell? ⟨gb158, 2, none⟩ = some (.string a1_2) := (blk_cell BK158.out 2).trans rfl
   have hcz20_3 : w5.cell? ⟨gb158, 3, none⟩ = some (.slice A1_3 l1_3.length c1_3) := (blk_cell BK158.out 3).trans rfl
   have hfz20_0 := blk_frozen BK158.out 0
   have hfz20_1 := blk_frozen BK158.out 1
   have hfz20_2 := blk_frozen BK158.out 2
   have hfz20_3 := blk_frozen BK158.out 3
   go_wp2
   go_meet
   case rel => exact ⟨_, (true), (by (rfl)), H', ⟨by (omega)⟩, ⟨by (with_reducible repeat ((refine blk_drew ?_))); exact BK157.out⟩, ⟨by (with_reducible repeat ((refine blk_drew ?_))); exact BK158.out⟩, ⟨by repeat ((with_reducible (exact HB.out)))⟩⟩
 case rest =>
  clear HC3
  obtain ⟨kq, x33_2, rfl, HA, HJ2, BK157, BK158, HB⟩ := hcut
  cases kq with
  | zero => exact absurd HA.out (by simp [lunetteref12_same.j0])
  | succ kj2 =>
   have H := HA.out
   clear HA
   simp only [lunetteref12_same.j0] at H
   by_cases c21 : x33_2 = true
   ·subst c21
    have H1 : (some false) = some r := by rw [if_pos rfl] at H; exact H
    clear H
    have H := H1
    clear H1
    obtain rfl := Option.some.inj H
    go_wp2
    go_ret
    exact ⟨by (rfl), by repeat ((with_reducible (exact HB.out)))⟩
   ·replace c21 := Bool.eq_false_iff.mpr c21
    subst c21
    have H1 : (lunetteref12_same.l0 kj2 0 a0_0 a0_1 a0_2 l0_3 a1_0 a1_1 a1_2 l1_3) = some r := by rw [if_neg (show ¬ (false = true) by decide)] at H; exact H
    clear H
    have H := H1
    clear H1
    have H' := Aside0.mk H
    clear H
    go_wp2
    go_loopg [5] kj2 (fun kq v5 w' => ∃ (x5_2 : Int), v5 = .int .i64 x5_2 ∧ Aside0 (lunetteref12_same.l0 kq x5_2 a0_0 a0_1 a0_2 l0_3 a1_0 a1_1 a1_2 l1_3 = some r) ∧ Aside0 (kq ≤ kj2) ∧ Aside0 (w'.heap[gb157]? = some (.cells #[.string a0_0, .string a0_1, .string a0_2, (.slice A0_3 l0_3.length c0_3)] 33 (0, 0))) ∧ Aside0 (w'.heap[gb158]? = some (.cells #[.string a1_0, .string a1_1, .string a1_2, (.slice A1_3 l1_3.length c1_3)] 33 (0, 0))) ∧ Aside0 (Below w.heap.size w w'))
    case atStart => exact ⟨(0), (by (rfl)), H', ⟨Nat.le_refl _⟩, ⟨by (with_reducible repeat ((refine blk_drew ?_))); exact BK157.out⟩, ⟨by (with_reducible repeat ((refine blk_drew ?_))); exact BK158.out⟩, ⟨by repeat ((with_reducible (exact HB.out)))⟩⟩
    case round =>
     clear H'
     obtain ⟨x5_2, rfl, HA, HK2, BK157, BK158, HB⟩ := hrel
     cases gk with
     | zero => exact absurd HA.out (by simp [lunetteref12_same.l0])
     | succ k2 =>
      have H := HA.out
      clear HA
      simp only [lunetteref12_same.l0] at H
      by_cases c22 : x5_2 < (l0_3.length : Int)
      ·rw [if_pos c22] at H
       have c22b0 : decide (x5_2 < (l0_3.length : Int)) = true := decide_eq_true c22
       clear c22
       by_cases c23 : 0 ≤ x5_2
       ·rw [if_pos c23] at H
        have c23b0 : decide (0 ≤ x5_2) = true := decide_eq_true c23
        clear c23
        by_cases c24 : x5_2 < (l1_3.length : Int)
        ·rw [if_pos c24] at H
         have c24b0 : decide (x5_2 < (l1_3.length : Int)) = true := decide_eq_true c24
         clear c24
         replace H := Option.bind_eq_some_iff.mp H
         obtain ⟨t161, A250, H⟩ := H
         replace H : (if t161 = true then (lunetteref12_same.l0 k2 (wrap64 (x5_2 + 1)) a0_0 a0_1 a0_2 l0_3 a1_0 a1_1 a1_2 l1_3) else (some false)) = some r := H
         have A25 := Aside0.mk A250
         clear A250
         by_cases c26 : t161 = true
         ·subst c26
          have H1 : (lunetteref12_same.l0 k2 (wrap64 (x5_2 + 1)) a0_0 a0_1 a0_2 l0_3 a1_0 a1_1 a1_2 l1_3) = some r := by rw [if_pos rfl] at H; exact H
          clear H
          have H := H1
          clear H1
          have H' := Aside0.mk H
          clear H
          have hnb27 := NB157_158.out
          have hnc27 := NB158_157.out
          have hcz28_0 : wr.cell? ⟨gb157, 0, none⟩ = some (.string a0_0) := (blk_cell BK157.out 0).trans rfl
          have hcz28_1 : wr.cell? ⟨gb157, 1, none⟩ = some (.string a0_1) := (blk_cell BK157.out 1).trans rfl
          have hcz28_2 : wr.cell? ⟨gb157, 2, none⟩ = some (.string a0_2) := (blk_cell BK157.out 2).trans rfl
          have hcz28_3 : wr.cell? ⟨gb157, 3, none⟩ = some (.slice A0_3 l0_3.length c0_3) := (blk_cell BK157.out 3).trans rfl
          have hfz28_0 := blk_frozen BK157.out 0
          have hfz28_1 := blk_frozen BK157.out 1
          have hfz28_2 := blk_frozen BK157.out 2
          have hfz28_3 := blk_frozen BK157.out 3
          try go_wp2
          have n0_ := Aside0.mk (blk_drew BK157.out)
          have n1_ := Aside0.mk (blk_drew BK158.out)
          have n2_ := Aside0.mk (below_drew1 HB.out)
          clear BK157
          clear BK158
          clear HB
          have BK157 := n0_
          have BK158 := n1_
          have HB := n2_
          clear n0_ n1_ n2_
          have p159 : 0 ≤ (x5_2 : Int) := of_decide_eq_true (by (with_reducible assumption))
          have q159 : x5_2 < (l0_3.length : Int) := of_decide_eq_true (by (with_reducible assumption))
          obtain ⟨ad159, A159_3, c159_3, e159, hx159_0, hx159_1, hx159_2, hx159_3, hl159_3, hi159_3⟩ := at_T33 HR0_3.out x5_2 p159 q159
          have hw159_3 := hx159_3
          have hw159_2 := hx159_2
          have hw159_1 := hx159_1
          have hw159_0 := hx159_0
          cases e159
          replace hx159_0 := (HB.out.cell (World.block_lt_of_cell? w _ hx159_0)).trans hx159_0
          replace hx159_1 := (HB.out.cell (World.block_lt_of_cell? w _ hx159_1)).trans hx159_1
          replace hx159_2 := (HB.out.cell (World.block_lt_of_cell? w _ hx159_2)).trans hx159_2
          replace hx159_3 := (HB.out.cell (World.block_lt_of_cell? w _ hx159_3)).trans hx159_3
          have HR159_3 := Aside0.mk hi159_3
          have HC159_3 := Aside0.mk hl159_3
          clear hi159_3 hl159_3
          replace p159 := eq_true p159
          replace q159 := eq_true q159
          have p160 : 0 ≤ (x5_2 : Int) := of_decide_eq_true (by (with_reducible assumption))
          have q160 : x5_2 < (l1_3.length : Int) := of_decide_eq_true (by (with_reducible assumption))
          obtain ⟨ad160, A160_3, c160_3, e160, hx160_0, hx160_1, hx160_2, hx160_3, hl160_3, hi160_3⟩ := at_T33 HR1_3.out x5_2 p160 q160
          have hw160_3 := hx160_3
          have hw160_2 := hx160_2
          have hw160_1 := hx160_1
          have hw160_0 := hx160_0
          cases e160
          replace hx160_0 := (HB.out.cell (World.block_lt_of_cell? w _ hx160_0)).trans hx160_0
          replace hx160_1 := (HB.out.cell (World.block_lt_of_cell? w _ hx160_1)).trans hx160_1
          replace hx160_2 := (HB.out.cell (World.block_lt_of_cell? w _ hx160_2)).trans hx160_2
          replace hx160_3 := (HB.out.cell (World.block_lt_of_cell? w _ hx160_3)).trans hx160_3
          have HR160_3 := Aside0.mk hi160_3
          have HC160_3 := Aside0.mk hl160_3
          clear hi160_3 hl160_3
          replace p160 := eq_true p160
          replace q160 := eq_true q160
          refine start_ (n := 12) (S := fun w' => w'.cell? ⟨gb157, 0, none⟩ = some (.string a0_0) ∧ w'.cell? ⟨gb157, 1, none⟩ = some (.string a0_1) ∧ w'.cell? ⟨gb157, 2, none⟩ = some (.string a0_2) ∧ w'.cell? ⟨gb157, 3, none⟩ = some (.slice (some ad159) l0_3.length c0_3) ∧ w'.cell? ⟨gb158, 0, none⟩ = some (.string a1_0) ∧ w'.cell? ⟨gb158, 1, none⟩ = some (.string a1_1) ∧ w'.cell? ⟨gb158, 2, none⟩ = some (.string a1_2) ∧ w'.cell? ⟨gb158, 3, none⟩ = some (.slice (some ad160) l1_3.length c1_3) ∧ w'.cell? (ad159.add ((x5_2).toNat * 4)) = some (.string ((rd_T33 l0_3 x5_2).f0)) ∧ w'.cell? ⟨(ad159.add ((x5_2).toNat * 4)).block, (ad159.add ((x5_2).toNat * 4)).off + 1, none⟩ = some (.string ((rd_T33 l0_3 x5_2).f1)) ∧ w'.cell? ⟨(ad159.add ((x5_2).toNat * 4)).block, (ad159.add ((x5_2).toNat * 4)).off + 2, none⟩ = some (.string ((rd_T33 l0_3 x5_2).f2)) ∧ w'.cell? ⟨(ad159.add ((x5_2).toNat * 4)).block, (ad159.add ((x5_2).toNat * 4)).off + 3, none⟩ = some (.slice A159_3 ((rd_T33 l0_3 x5_2).f3).length c159_3) ∧ w'.cell? (ad160.add ((x5_2).toNat * 4)) = some (.string ((rd_T33 l1_3 x5_2).f0)) ∧ w'.cell? ⟨(ad160.add ((x5_2).toNat * 4)).block, (ad160.add ((x5_2).toNat * 4)).off + 1, none⟩ = some (.string ((rd_T33 l1_3 x5_2).f1)) ∧ w'.cell? ⟨(ad160.add ((x5_2).toNat * 4)).block, (ad160.add ((x5_2).toNat * 4)).off + 2, none⟩ = some (.string ((rd_T33 l1_3 x5_2).f2)) ∧ w'.cell? ⟨(ad160.add ((x5_2).toNat * 4)).block, (ad160.add ((x5_2).toNat * 4)).off + 3, none⟩ = some (.slice A160_3 ((rd_T33 l1_3 x5_2).f3).length c160_3)) (ds := []) #[false, false, false, false, false, false, false, false, false, false, false, false] (by kernel_rfl) rfl rfl ⟨(blk_cell BK157.out 0).trans rfl, (blk_cell BK157.out 1).trans rfl, (blk_cell BK157.out 2).trans rfl, (blk_cell BK157.out 3).trans rfl, (blk_cell BK158.out 0).trans rfl, (blk_cell BK158.out 1).trans rfl, (blk_cell BK158.out 2).trans rfl, (blk_cell BK158.out 3).trans rfl, ((HB.out.cell (World.block_lt_of_cell? w _ hw159_0)).trans hw159_0), ((HB.out.cell (World.block_lt_of_cell? w _ hw159_1)).trans hw159_1), ((HB.out.cell (World.block_lt_of_cell? w _ hw159_2)).trans hw159_2), ((HB.out.cell (World.block_lt_of_cell? w _ hw159_3)).trans hw159_3), ((HB.out.cell (World.block_lt_of_cell? w _ hw160_0)).trans hw160_0), ((HB.out.cell (World.block_lt_of_cell? w _ hw160_1)).trans hw160_1), ((HB.out.cell (World.block_lt_of_cell? w _ hw160_2)).trans hw160_2), ((HB.out.cell (World.block_lt_of_cell? w _ hw160_3)).trans hw160_3)⟩ (fun hHeld => ?_); refine with_tabW lunetteref12_same.tab6 lunetteref12_same.bits6 (fun HT_ HW_ => ?_)
          generalize wr.drew = w29 at BK157 BK158 HB HR159_3 HR160_3 hx159_0 hx159_1 hx159_2 hx159_3 hx160_0 hx160_1 hx160_2 hx160_3 hHeld ⊢
          refine pure_ (i := 0) (N := some 41) (v := ?_) (a' := ?_) #[true, false, false, false, false, false, false, false, false, false, false, false] rfl rfl (any_of HT_.out (by kernel_rfl)) (fun _ _ _ h => h) (Or.inl ⟨by rfl, ?_⟩) ?_ ?_
          rotate_left
          ·intro w'
           go_simp
           with_reducible rfl
          rotate_left
          ·simp only [Act.put, List.setIfInBounds_toArray, List.set_cons_zero, List.set_cons_succ, i64_w, i32_w]
           rfl
          refine pure_ (i := 2) (N := some 43) (v := ?_) (a' := ?_) #[true, false, true, false, false, false, false, false, false, false, false, false] rfl rfl (any_of HT_.out (by kernel_rfl)) (fun _ _ _ h => h) (Or.inl ⟨by rfl, ?_⟩) ?_ ?_
          rotate_left
          ·intro w'
           go_simp
           with_reducible rfl
          rotate_left
          ·simp only [Act.put, List.setIfInBounds_toArray, List.set_cons_zero, List.set_cons_succ, i64_w, i32_w]
           rfl
          refine pure_ (i := 5) (N := some 46) (v := ?_) (a' := ?_) #[true, false, true, false, false, true, false, false, false, false, false, false] rfl rfl (any_of HT_.out (by kernel_rfl)) (fun _ _ _ h => h) (Or.inl ⟨by rfl, ?_⟩) ?_ ?_
          rotate_left
          ·intro w'
           go_simp
           with_reducible rfl
          rotate_left
          ·simp only [Act.put, List.setIfInBounds_toArray, List.set_cons_zero, List.set_cons_succ, i64_w, i32_w]
           rfl
          refine pure_ (i := 7) (N := some 48) (v := ?_) (a' := ?_) #[true, false, true, false, false, true, false, true, false, false, false, false] rfl rfl (any_of HT_.out (by kernel_rfl)) (fun _ _ _ h => h) (Or.inl ⟨by rfl, ?_⟩) ?_ ?_
          rotate_left
          ·intro w'
           go_simp
           with_reducible rfl
          rotate_left
          ·simp only [Act.put, List.setIfInBounds_toArray, List.set_cons_zero, List.set_cons_succ, i64_w, i32_w]
           rfl
          refine take_ (i := 1) (N := some 42) (v := ?_) (a' := ?_) #[true, true, true, false, false, true, false, true, false, false, false, false] rfl rfl (take_ofW HT_.out HW_.out (by kernel_rfl)) (fun _ _ _ h => h) (Or.inl ⟨by rfl, ?_⟩) hHeld ?_ ?_
          rotate_left
          ·rintro w' ⟨s0, s1, s2, s3, s4, s5, s6, s7, s8, s9, s10, s11, s12, s13, s14, s15⟩
           go_simp
           with_reducible rfl
          rotate_left
          ·simp only [Act.put, List.setIfInBounds_toArray, List.set_cons_zero, List.set_cons_succ, i64_w, i32_w]
           rfl
          refine pure_ (i := 3) (N := some 44) (v := ?_) (a' := ?_) #[true, true, true, true, false, true, false, true, false, false, false, false] rfl rfl (any_of HT_.out (by kernel_rfl)) (fun _ _ _ h => h) (Or.inl ⟨by rfl, ?_⟩) ?_ ?_
          rotate_left
          ·intro w'
           go_simp
           with_reducible rfl
          rotate_left
          ·simp only [Act.put, List.setIfInBounds_toArray, List.set_cons_zero, List.set_cons_succ, i64_w, i32_w]
           rfl
          refine take_ (i := 4) (N := some 45) (v := ?_) (a' := ?_) #[true, true, true, true, true, true, false, true, false, false, false, false] rfl rfl (take_ofW HT_.out HW_.out (by kernel_rfl)) (fun _ _ _ h => h) (Or.inl ⟨by rfl, ?_⟩) hHeld ?_ ?_
          rotate_left
          ·rintro w' ⟨s0, s1, s2, s3, s4, s5, s6, s7, s8, s9, s10, s11, s12, s13, s14, s15⟩
           go_simp
           with_reducible rfl
          rotate_left
          ·simp only [Act.put, List.setIfInBounds_toArray, List.set_cons_zero, List.set_cons_succ, i64_w, i32_w]
           rfl
          refine take_ (i := 6) (N := some 47) (v := ?_) (a' := ?_) #[true, true, true, true, true, true, true, true, false, false, false, false] rfl rfl (take_ofW HT_.out HW_.out (by kernel_rfl)) (fun _ _ _ h => h) (Or.inl ⟨by rfl, ?_⟩) hHeld ?_ ?_
          rotate_left
          ·rintro w' ⟨s0, s1, s2, s3, s4, s5, s6, s7, s8, s9, s10, s11, s12, s13, s14, s15⟩
           go_simp
           with_reducible rfl
          rotate_left
          ·simp only [Act.put, List.setIfInBounds_toArray, List.set_cons_zero, List.set_cons_succ, i64_w, i32_w]
           rfl
          refine pure_ (i := 8) (N := some 49) (v := ?_) (a' := ?_) #[true, true, true, true, true, true, true, true, true, false, false, false] rfl rfl (any_of HT_.out (by kernel_rfl)) (fun _ _ _ h => h) (Or.inl ⟨by rfl, ?_⟩) ?_ ?_
          rotate_left
          ·intro w'
           go_simp
           with_reducible rfl
          rotate_left
          ·simp only [Act.put, List.setIfInBounds_toArray, List.set_cons_zero, List.set_cons_succ, i64_w, i32_w]
           rfl
          refine take_ (i := 9) (N := some 50) (v := ?_) (a' := ?_) #[true, true, true, true, true, true, true, true, true, true, false, false] rfl rfl (take_ofW HT_.out HW_.out (by kernel_rfl)) (fun _ _ _ h => h) (Or.inl ⟨by rfl, ?_⟩) hHeld ?_ ?_
          rotate_left
          ·rintro w' ⟨s0, s1, s2, s3, s4, s5, s6, s7, s8, s9, s10, s11, s12, s13, s14, s15⟩
           go_simp
           with_reducible rfl
          rotate_left
          ·simp only [Act.put, List.setIfInBounds_toArray, List.set_cons_zero, List.set_cons_succ, i64_w, i32_w]
           rfl
          refine one_ (i := 10) (N := some 51) #[true, true, true, true, true, true, true, true, true, true, true, false] rfl rfl (one_of HT_.out (by kernel_rfl)) (by decide) (fun K hK => ?_)
          refine goes_ Tryz.func39 (by kernel_rfl) rfl #[.agg #[.string ((rd_T33 l0_3 x5_2).f0), .string ((rd_T33 l0_3 x5_2).f1), .string ((rd_T33 l0_3 x5_2).f2), .slice A159_3 ((rd_T33 l0_3 x5_2).f3).length c159_3], .agg #[.string ((rd_T33 l1_3 x5_2).f0), .string ((rd_T33 l1_3 x5_2).f1), .string ((rd_T33 l1_3 x5_2).f2), .slice A160_3 ((rd_T33 l1_3 x5_2).f3).length c160_3]] (by rfl) rfl rfl (by (try simp only [List.map_toArray, List.map_cons, List.map_nil]); (rfl)) ?_
          with_reducible refine (ih k2 (by have := HJ2.out; have := HK2.out; omega) ((rd_T33 l0_3 x5_2).f0) ((rd_T33 l0_3 x5_2).f1) ((rd_T33 l0_3 x5_2).f2) _ _ ((rd_T33 l0_3 x5_2).f3) ((rd_T33 l1_3 x5_2).f0) ((rd_T33 l1_3 x5_2).f1) ((rd_T33 l1_3 x5_2).f2) _ _ ((rd_T33 l1_3 x5_2).f3) true _ ?side1 ?side2 ?side3 ?side4 A25.out).mono ?_
          (case side1 => repeat ((exact (Kd.C_below HR159_3.out HB.out))))
          (case side2 => exact HC159_3.out)
          (case side3 => repeat ((exact (Kd.C_below HR160_3.out HB.out))))
          (case side4 => exact HC160_3.out)
          rintro e w30 ⟨rfl, hb⟩
          refine ⟨_, rfl, ?_⟩
          have n0_ := Aside0.mk (blk_below (g := gb157) (o := .cells #[.string a0_0, .string a0_1, .string a0_2, .slice (some ad159) l0_3.length c0_3] 33 (0, 0)) (by (with_reducible repeat ((refine blk_drew ?_))); exact BK157.out) hb)
          have n1_ := Aside0.mk (blk_below (g := gb158) (o := .cells #[.string a1_0, .string a1_1, .string a1_2, .slice (some ad160) l1_3.length c1_3] 33 (0, 0)) (by (with_reducible repeat ((refine blk_drew ?_))); exact BK158.out) hb)
          have n2_ := Aside0.mk (below_step (by repeat ((with_reducible (exact HB.out)))) hb)
          clear BK157
          clear BK158
          clear HB
          have BK157 := n0_
          have BK158 := n1_
          have HB := n2_
          clear n0_ n1_ n2_
          (try clear hb)
          refine hK.out _ _ ⟨(blk_cell BK157.out 0).trans rfl, (blk_cell BK157.out 1).trans rfl, (blk_cell BK157.out 2).trans rfl, (blk_cell BK157.out 3).trans rfl, (blk_cell BK158.out 0).trans rfl, (blk_cell BK158.out 1).trans rfl, (blk_cell BK158.out 2).trans rfl, (blk_cell BK158.out 3).trans rfl, ((HB.out.cell (World.block_lt_of_cell? w _ hw159_0)).trans hw159_0), ((HB.out.cell (World.block_lt_of_cell? w _ hw159_1)).trans hw159_1), ((HB.out.cell (World.block_lt_of_cell? w _ hw159_2)).trans hw159_2), ((HB.out.cell (World.block_lt_of_cell? w _ hw159_3)).trans hw159_3), ((HB.out.cell (World.block_lt_of_cell? w _ hw160_0)).trans hw160_0), ((HB.out.cell (World.block_lt_of_cell? w _ hw160_1)).trans hw160_1), ((HB.out.cell (World.block_lt_of_cell? w _ hw160_2)).trans hw160_2), ((HB.out.cell (World.block_lt_of_cell? w _ hw160_3)).trans hw160_3)⟩ (fun hHeld => ?_)
          clear hK K
          refine norm_ (a' := ?_) ?_ ?_
          rotate_left
          ·show Act.put _ (some 51) _ = _
           simp only [Act.put, List.setIfInBounds_toArray, List.set_cons_zero, List.set_cons_succ, i64_w, i32_w]
           rfl
          refine pure_ (i := 11) (N := some 52) (v := ?_) (a' := ?_) #[true, true, true, true, true, true, true, true, true, true, true, true] rfl rfl (any_of HT_.out (by kernel_rfl)) (fun _ _ _ h => h) (Or.inl ⟨by rfl, ?_⟩) ?_ ?_
          rotate_left
          ·intro w'
           go_simp
           with_reducible rfl
          rotate_left
          ·simp only [Act.put, List.setIfInBounds_toArray, List.set_cons_zero, List.set_cons_succ, i64_w, i32_w]
           rfl
          refine done_ (done_of HT_.out (by kernel_rfl)) ?_
          try go_wp2
          go_roundg k2
          case measure => have := HJ2.out; have := HK2.out; omega
          case rel => exact ⟨(wrap64 (x5_2 + 1)), (by (rfl)), H', ⟨by have := HJ2.out; have := HK2.out; omega⟩, ⟨by (with_reducible repeat ((refine blk_drew ?_))); exact BK157.out⟩, ⟨by (with_reducible repeat ((refine blk_drew ?_))); exact BK158.out⟩, ⟨by repeat ((with_reducible (exact HB.out)))⟩⟩
         ·replace c26 := Bool.eq_false_iff.mpr c26
          subst c26
          have H1 : (some false) = some r := by rw [if_neg (show ¬ (false = true) by decide)] at H; exact H
          clear H
          have H := H1
          clear H1
          obtain rfl := Option.some.inj H
          have hnb31 := NB157_158.out
          have hnc31 := NB158_157.out
          have hcz32_0 : wr.cell? ⟨gb157, 0, none⟩ = some (.string a0_0) := (blk_cell BK157.out 0).trans rfl
          have hcz32_1 : wr.cell? ⟨gb157, 1, none⟩ = some (.string a0_1) := (blk_cell BK157.out 1).trans rfl
          have hcz32_2 : wr.cell? ⟨gb157, 2, none⟩ = some (.string a0_2) := (blk_cell BK157.out 2).trans rfl
          have hcz32_3 : wr.cell? ⟨gb157, 3, none⟩ = some (.slice A0_3 l0_3.length c0_3) := (blk_cell BK157.out 3).trans rfl
          have hfz32_0 := blk_frozen BK157.out 0
          have hfz32_1 := blk_frozen BK157.out 1
          have hfz32_2 := blk_frozen BK157.out 2
          have hfz32_3 := blk_frozen BK157.out 3
          try go_wp2
          have n0_ := Aside0.mk (blk_drew BK157.out)
          have n1_ := Aside0.mk (blk_drew BK158.out)
          have n2_ := Aside0.mk (below_drew1 HB.out)
          clear BK157
          clear BK158
          clear HB
          have BK157 := n0_
          have BK158 := n1_
          have HB := n2_
          clear n0_ n1_ n2_
          have p159 : 0 ≤ (x5_2 : Int) := of_decide_eq_true (by (with_reducible assumption))
          have q159 : x5_2 < (l0_3.length : Int) := of_decide_eq_true (by (with_reducible assumption))
          obtain ⟨ad159, A159_3, c159_3, e159, hx159_0, hx159_1, hx159_2, hx159_3, hl159_3, hi159_3⟩ := at_T33 HR0_3.out x5_2 p159 q159
          have hw159_3 := hx159_3
          have hw159_2 := hx159_2
          have hw159_1 := hx159_1
          have hw159_0 := hx159_0
          cases e159
          replace hx159_0 := (HB.out.cell (World.block_lt_of_cell? w _ hx159_0)).trans hx159_0
          replace hx159_1 := (HB.out.cell (World.block_lt_of_cell? w _ hx159_1)).trans hx159_1
          replace hx159_2 := (HB.out.cell (World.block_lt_of_cell? w _ hx159_2)).trans hx159_2
          replace hx159_3 := (HB.out.cell (World.block_lt_of_cell? w _ hx159_3)).trans hx159_3
          have HR159_3 := Aside0.mk hi159_3
          have HC159_3 := Aside0.mk hl159_3
          clear hi159_3 hl159_3
          replace p159 := eq_true p159
          replace q159 := eq_true q159
          have p160 : 0 ≤ (x5_2 : Int) := of_decide_eq_true (by (with_reducible assumption))
          have q160 : x5_2 < (l1_3.length : Int) := of_decide_eq_true (by (with_reducible assumption))
          obtain ⟨ad160, A160_3, c160_3, e160, hx160_0, hx160_1, hx160_2, hx160_3, hl160_3, hi160_3⟩ := at_T33 HR1_3.out x5_2 p160 q160
          have hw160_3 := hx160_3
          have hw160_2 := hx160_2
          have hw160_1 := hx160_1
          have hw160_0 := hx160_0
          cases e160
          replace hx160_0 := (HB.out.cell (World.block_lt_of_cell? w _ hx160_0)).trans hx160_0
          replace hx160_1 := (HB.out.cell (World.block_lt_of_cell? w _ hx160_1)).trans hx160_1
          replace hx160_2 := (HB.out.cell (World.block_lt_of_cell? w _ hx160_2)).trans hx160_2
          replace hx160_3 := (HB.out.cell (World.block_lt_of_cell? w _ hx160_3)).trans hx160_3
          have HR160_3 := Aside0.mk hi160_3
          have HC160_3 := Aside0.mk hl160_3
          clear hi160_3 hl160_3
          replace p160 := eq_true p160
          replace q160 := eq_true q160
          refine start_ (n := 12) (S := fun w' => w'.cell? ⟨gb157, 0, none⟩ = some (.string a0_0) ∧ w'.cell? ⟨gb157, 1, none⟩ = some (.string a0_1) ∧ w'.cell? ⟨gb157, 2, none⟩ = some (.string a0_2) ∧ w'.cell? ⟨gb157, 3, none⟩ = some (.slice (some ad159) l0_3.length c0_3) ∧ w'.cell? ⟨gb158, 0, none⟩ = some (.string a1_0) ∧ w'.cell? ⟨gb158, 1, none⟩ = some (.string a1_1) ∧ w'.cell? ⟨gb158, 2, none⟩ = some (.string a1_2) ∧ w'.cell? ⟨gb158, 3, none⟩ = some (.slice (some ad160) l1_3.length c1_3) ∧ w'.cell? (ad159.add ((x5_2).toNat * 4)) = some (.string ((rd_T33 l0_3 x5_2).f0)) ∧ w'.cell? ⟨(ad159.add ((x5_2).toNat * 4)).block, (ad159.add ((x5_2).toNat * 4)).off + 1, none⟩ = some (.string ((rd_T33 l0_3 x5_2).f1)) ∧ w'.cell? ⟨(ad159.add ((x5_2).toNat * 4)).block, (ad159.add ((x5_2).toNat * 4)).off + 2, none⟩ = some (.string ((rd_T33 l0_3 x5_2).f2)) ∧ w'.cell? ⟨(ad159.add ((x5_2).toNat * 4)).block, (ad159.add ((x5_2).toNat * 4)).off + 3, none⟩ = some (.slice A159_3 ((rd_T33 l0_3 x5_2).f3).length c159_3) ∧ w'.cell? (ad160.add ((x5_2).toNat * 4)) = some (.string ((rd_T33 l1_3 x5_2).f0)) ∧ w'.cell? ⟨(ad160.add ((x5_2).toNat * 4)).block, (ad160.add ((x5_2).toNat * 4)).off + 1, none⟩ = some (.string ((rd_T33 l1_3 x5_2).f1)) ∧ w'.cell? ⟨(ad160.add ((x5_2).toNat * 4)).block, (ad160.add ((x5_2).toNat * 4)).off + 2, none⟩ = some (.string ((rd_T33 l1_3 x5_2).f2)) ∧ w'.cell? ⟨(ad160.add ((x5_2).toNat * 4)).block, (ad160.add ((x5_2).toNat * 4)).off + 3, none⟩ = some (.slice A160_3 ((rd_T33 l1_3 x5_2).f3).length c160_3)) (ds := []) #[false, false, false, false, false, false, false, false, false, false, false, false] (by kernel_rfl) rfl rfl ⟨(blk_cell BK157.out 0).trans rfl, (blk_cell BK157.out 1).trans rfl, (blk_cell BK157.out 2).trans rfl, (blk_cell BK157.out 3).trans rfl, (blk_cell BK158.out 0).trans rfl, (blk_cell BK158.out 1).trans rfl, (blk_cell BK158.out 2).trans rfl, (blk_cell BK158.out 3).trans rfl, ((HB.out.cell (World.block_lt_of_cell? w _ hw159_0)).trans hw159_0), ((HB.out.cell (World.block_lt_of_cell? w _ hw159_1)).trans hw159_1), ((HB.out.cell (World.block_lt_of_cell? w _ hw159_2)).trans hw159_2), ((HB.out.cell (World.block_lt_of_cell? w _ hw159_3)).trans hw159_3), ((HB.out.cell (World.block_lt_of_cell? w _ hw160_0)).trans hw160_0), ((HB.out.cell (World.block_lt_of_cell? w _ hw160_1)).trans hw160_1), ((HB.out.cell (World.block_lt_of_cell? w _ hw160_2)).trans hw160_2), ((HB.out.cell (World.block_lt_of_cell? w _ hw160_3)).trans hw160_3)⟩ (fun hHeld => ?_); refine with_tabW lunetteref12_same.tab6 lunetteref12_same.bits6 (fun HT_ HW_ => ?_)
          generalize wr.drew = w33 at BK157 BK158 HB HR159_3 HR160_3 hx159_0 hx159_1 hx159_2 hx159_3 hx160_0 hx160_1 hx160_2 hx160_3 hHeld ⊢
          refine pure_ (i := 0) (N := some 41) (v := ?_) (a' := ?_) #[true, false, false, false, false, false, false, false, false, false, false, false] rfl rfl (any_of HT_.out (by kernel_rfl)) (fun _ _ _ h => h) (Or.inl ⟨by rfl, ?_⟩) ?_ ?_
          rotate_left
          ·intro w'
           go_simp
           with_reducible rfl
          rotate_left
          ·simp only [Act.put, List.setIfInBounds_toArray, List.set_cons_zero, List.set_cons_succ, i64_w, i32_w]
           rfl
          refine pure_ (i := 2) (N := some 43) (v := ?_) (a' := ?_) #[true, false, true, false, false, false, false, false, false, false, false, false] rfl rfl (any_of HT_.out (by kernel_rfl)) (fun _ _ _ h => h) (Or.inl ⟨by rfl, ?_⟩) ?_ ?_
          rotate_left
          ·intro w'
           go_simp
           with_reducible rfl
          rotate_left
          ·simp only [Act.put, List.setIfInBounds_toArray, List.set_cons_zero, List.set_cons_succ, i64_w, i32_w]
           rfl
          refine pure_ (i := 5) (N := some 46) (v := ?_) (a' := ?_) #[true, false, true, false, false, true, false, false, false, false, false, false] rfl rfl (any_of HT_.out (by kernel_rfl)) (fun _ _ _ h => h) (Or.inl ⟨by rfl, ?_⟩) ?_ ?_
          rotate_left
          ·intro w'
           go_simp
           with_reducible rfl
          rotate_left
          ·simp only [Act.put, List.setIfInBounds_toArray, List.set_cons_zero, List.set_cons_succ, i64_w, i32_w]
           rfl
          refine pure_ (i := 7) (N := some 48) (v := ?_) (a' := ?_) #[true, false, true, false, false, true, false, true, false, false, false, false] rfl rfl (any_of HT_.out (by kernel_rfl)) (fun _ _ _ h => h) (Or.inl ⟨by rfl, ?_⟩) ?_ ?_
          rotate_left
          ·intro w'
           go_simp
           with_reducible rfl
          rotate_left
          ·simp only [Act.put, List.setIfInBounds_toArray, List.set_cons_zero, List.set_cons_succ, i64_w, i32_w]
           rfl
          refine take_ (i := 1) (N := some 42) (v := ?_) (a' := ?_) #[true, true, true, false, false, true, false, true, false, false, false, false] rfl rfl (take_ofW HT_.out HW_.out (by kernel_rfl)) (fun _ _ _ h => h) (Or.inl ⟨by rfl, ?_⟩) hHeld ?_ ?_
          rotate_left
          ·rintro w' ⟨s0, s1, s2, s3, s4, s5, s6, s7, s8, s9, s10, s11, s12, s13, s14, s15⟩
           go_simp
           with_reducible rfl
          rotate_left
          ·simp only [Act.put, List.setIfInBounds_toArray, List.set_cons_zero, List.set_cons_succ, i64_w, i32_w]
           rfl
          refine pure_ (i := 3) (N := some 44) (v := ?_) (a' := ?_) #[true, true, true, true, false, true, false, true, false, false, false, false] rfl rfl (any_of HT_.out (by kernel_rfl)) (fun _ _ _ h => h) (Or.inl ⟨by rfl, ?_⟩) ?_ ?_
          rotate_left
          ·intro w'
           go_simp
           with_reducible rfl
          rotate_left
          ·simp only [Act.put, List.setIfInBounds_toArray, List.set_cons_zero, List.set_cons_succ, i64_w, i32_w]
           rfl
          refine take_ (i := 4) (N := some 45) (v := ?_) (a' := ?_) #[true, true, true, true, true, true, false, true, false, false, false, false] rfl rfl (take_ofW HT_.out HW_.out (by kernel_rfl)) (fun _ _ _ h => h) (Or.inl ⟨by rfl, ?_⟩) hHeld ?_ ?_
          rotate_left
          ·rintro w' ⟨s0, s1, s2, s3, s4, s5, s6, s7, s8, s9, s10, s11, s12, s13, s14, s15⟩
           go_simp
           with_reducible rfl
          rotate_left
          ·simp only [Act.put, List.setIfInBounds_toArray, List.set_cons_zero, List.set_cons_succ, i64_w, i32_w]
           rfl
          refine take_ (i := 6) (N := some 47) (v := ?_) (a' := ?_) #[true, true, true, true, true, true, true, true, false, false, false, false] rfl rfl (take_ofW HT_.out HW_.out (by kernel_rfl)) (fun _ _ _ h => h) (Or.inl ⟨by rfl, ?_⟩) hHeld ?_ ?_
          rotate_left
          ·rintro w' ⟨s0, s1, s2, s3, s4, s5, s6, s7, s8, s9, s10, s11, s12, s13, s14, s15⟩
           go_simp
           with_reducible rfl
          rotate_left
          ·simp only [Act.put, List.setIfInBounds_toArray, List.set_cons_zero, List.set_cons_succ, i64_w, i32_w]
           rfl
          refine pure_ (i := 8) (N := some 49) (v := ?_) (a' := ?_) #[true, true, true, true, true, true, true, true, true, false, false, false] rfl rfl (any_of HT_.out (by kernel_rfl)) (fun _ _ _ h => h) (Or.inl ⟨by rfl, ?_⟩) ?_ ?_
          rotate_left
          ·intro w'
           go_simp
           with_reducible rfl
          rotate_left
          ·simp only [Act.put, List.setIfInBounds_toArray, List.set_cons_zero, List.set_cons_succ, i64_w, i32_w]
           rfl
          refine take_ (i := 9) (N := some 50) (v := ?_) (a' := ?_) #[true, true, true, true, true, true, true, true, true, true, false, false] rfl rfl (take_ofW HT_.out HW_.out (by kernel_rfl)) (fun _ _ _ h => h) (Or.inl ⟨by rfl, ?_⟩) hHeld ?_ ?_
          rotate_left
          ·rintro w' ⟨s0, s1, s2, s3, s4, s5, s6, s7, s8, s9, s10, s11, s12, s13, s14, s15⟩
           go_simp
           with_reducible rfl
          rotate_left
          ·simp only [Act.put, List.setIfInBounds_toArray, List.set_cons_zero, List.set_cons_succ, i64_w, i32_w]
           rfl
          refine one_ (i := 10) (N := some 51) #[true, true, true, true, true, true, true, true, true, true, true, false] rfl rfl (one_of HT_.out (by kernel_rfl)) (by decide) (fun K hK => ?_)
          refine goes_ Tryz.func39 (by kernel_rfl) rfl #[.agg #[.string ((rd_T33 l0_3 x5_2).f0), .string ((rd_T33 l0_3 x5_2).f1), .string ((rd_T33 l0_3 x5_2).f2), .slice A159_3 ((rd_T33 l0_3 x5_2).f3).length c159_3], .agg #[.string ((rd_T33 l1_3 x5_2).f0), .string ((rd_T33 l1_3 x5_2).f1), .string ((rd_T33 l1_3 x5_2).f2), .slice A160_3 ((rd_T33 l1_3 x5_2).f3).length c160_3]] (by rfl) rfl rfl (by (try simp only [List.map_toArray, List.map_cons, List.map_nil]); (rfl)) ?_
          with_reducible refine (ih k2 (by have := HJ2.out; have := HK2.out; omega) ((rd_T33 l0_3 x5_2).f0) ((rd_T33 l0_3 x5_2).f1) ((rd_T33 l0_3 x5_2).f2) _ _ ((rd_T33 l0_3 x5_2).f3) ((rd_T33 l1_3 x5_2).f0) ((rd_T33 l1_3 x5_2).f1) ((rd_T33 l1_3 x5_2).f2) _ _ ((rd_T33 l1_3 x5_2).f3) false _ ?side1 ?side2 ?side3 ?side4 A25.out).mono ?_
          (case side1 => repeat ((exact (Kd.C_below HR159_3.out HB.out))))
          (case side2 => exact HC159_3.out)
          (case side3 => repeat ((exact (Kd.C_below HR160_3.out HB.out))))
          (case side4 => exact HC160_3.out)
          rintro e w34 ⟨rfl, hb⟩
          refine ⟨_, rfl, ?_⟩
          have n0_ := Aside0.mk (blk_below (g := gb157) (o := .cells #[.string a0_0, .string a0_1, .string a0_2, .slice (some ad159) l0_3.length c0_3] 33 (0, 0)) (by (with_reducible repeat ((refine blk_drew ?_))); exact BK157.out) hb)
          have n1_ := Aside0.mk (blk_below (g := gb158) (o := .cells #[.string a1_0, .string a1_1, .string a1_2, .slice (some ad160) l1_3.length c1_3] 33 (0, 0)) (by (with_reducible repeat ((refine blk_drew ?_))); exact BK158.out) hb)
          have n2_ := Aside0.mk (below_step (by repeat ((with_reducible (exact HB.out)))) hb)
          clear BK157
          clear BK158
          clear HB
          have BK157 := n0_
          have BK158 := n1_
          have HB := n2_
          clear n0_ n1_ n2_
          (try clear hb)
          refine hK.out _ _ ⟨(blk_cell BK157.out 0).trans rfl, (blk_cell BK157.out 1).trans rfl, (blk_cell BK157.out 2).trans rfl, (blk_cell BK157.out 3).trans rfl, (blk_cell BK158.out 0).trans rfl, (blk_cell BK158.out 1).trans rfl, (blk_cell BK158.out 2).trans rfl, (blk_cell BK158.out 3).trans rfl, ((HB.out.cell (World.block_lt_of_cell? w _ hw159_0)).trans hw159_0), ((HB.out.cell (World.block_lt_of_cell? w _ hw159_1)).trans hw159_1), ((HB.out.cell (World.block_lt_of_cell? w _ hw159_2)).trans hw159_2), ((HB.out.cell (World.block_lt_of_cell? w _ hw159_3)).trans hw159_3), ((HB.out.cell (World.block_lt_of_cell? w _ hw160_0)).trans hw160_0), ((HB.out.cell (World.block_lt_of_cell? w _ hw160_1)).trans hw160_1), ((HB.out.cell (World.block_lt_of_cell? w _ hw160_2)).trans hw160_2), ((HB.out.cell (World.block_lt_of_cell? w _ hw160_3)).trans hw160_3)⟩ (fun hHeld => ?_)
          clear hK K
          refine norm_ (a' := ?_) ?_ ?_
          rotate_left
          ·show Act.put _ (some 51) _ = _
           simp only [Act.put, List.setIfInBounds_toArray, List.set_cons_zero, List.set_cons_succ, i64_w, i32_w]
           rfl
          refine pure_ (i := 11) (N := some 52) (v := ?_) (a' := ?_) #[true, true, true, true, true, true, true, true, true, true, true, true] rfl rfl (any_of HT_.out (by kernel_rfl)) (fun _ _ _ h => h) (Or.inl ⟨by rfl, ?_⟩) ?_ ?_
          rotate_left
          ·intro w'
           go_simp
           with_reducible rfl
          rotate_left
          ·simp only [Act.put, List.setIfInBounds_toArray, List.set_cons_zero, List.set_cons_succ, i64_w, i32_w]
           rfl
          refine done_ (done_of HT_.out (by kernel_rfl)) ?_
          try go_wp2
          go_ret
          exact ⟨by (rfl), by repeat ((with_reducible (exact HB.out)))⟩
        ·rw [if_neg c24] at H
         exact absurd H (by simp)
       ·rw [if_neg c23] at H
        exact absurd H (by simp)
      ·rw [if_neg c22] at H
       have c22b0 : decide (x5_2 < (l0_3.length : Int)) = false := decide_eq_false c22
       clear c22
       obtain rfl := Option.some.inj H
       have hnb35 := NB157_158.out
       have hnc35 := NB158_157.out
       have hcz36_0 : wr.cell? ⟨gb157, 0, none⟩ = some (.string a0_0) := (blk_cell BK157.out 0).trans rfl
       have hcz36_1 : wr.cell? ⟨gb157, 1, none⟩ = some (.string a0_1) := (blk_cell BK157.out 1).trans rfl
       have hcz36_2 : wr.cell? ⟨gb157, 2, none⟩ = some (.string a0_2) := (blk_cell BK157.out 2).trans rfl
       have hcz36_3 : wr.cell? ⟨gb157, 3, none⟩ = some (.slice A0_3 l0_3.length c0_3) := (blk_cell BK157.out 3).trans rfl
       have hfz36_0 := blk_frozen BK157.out 0
       have hfz36_1 := blk_frozen BK157.out 1
       have hfz36_2 := blk_frozen BK157.out 2
       have hfz36_3 := blk_frozen BK157.out 3
       go_wp2
       go_ret
       exact ⟨by (rfl), by repeat ((with_reducible (exact HB.out)))⟩
end Go.Proofs.YtjcipbdocbomjaaGreatDoor.K
namespace Go.Proofs.YtjcipbdocbomjaaGreatDoor.K
set_option maxHeartbeats 4000000 in
set_option maxRecDepth 100000 in
theorem alike_true (k : Nat) (A0 A1 : Option Addr) (c0 c1 : Nat) (l : List S30) (w : World) (hr0 : Kd.C k30 w A0 l.length l) (hr1 : Kd.C k30 w A1 l.length l) (hln : l.length ≤ 1000000000)
  (hrn : ∀ x : Int, 0 ≤ x → x < l.length → (rd_T30 l x).f1.length ≤ 1000000000)
  (hsm : ∀ x y : Int, 0 ≤ x → x < l.length → 0 ≤ y → y < (rd_T30 l x).f1.length → lunetteref12_same.f k (rd_T35 (rd_T30 l x).f1 y).f1.f0 (rd_T35 (rd_T30 l x).f1 y).f1.f1 (rd_T35 (rd_T30 l x).f1 y).f1.f2 (rd_T35 (rd_T30 l x).f1 y).f1.f3 (rd_T35 (rd_T30 l x).f1 y).f1.f0 (rd_T35 (rd_T30 l x).f1 y).f1.f1 (rd_T35 (rd_T30 l x).f1 y).f1.f2 (rd_T35 (rd_T30 l x).f1 y).f1.f3 = some true) :
  Calls Tryz.prog 24 #[.slice A0 l.length c0, .slice A1 l.length c1] w fun e w' => e = .returned (.bool true) ∧ Below w.heap.size w w' := by
 have HR0 := Aside0.mk hr0
 have HR1 := Aside0.mk hr1
 have HRN := Aside0.mk hrn
 have HSM := Aside0.mk hsm
 have HLN := Aside0.mk hln
 clear hr0 hr1 hrn hsm hln
 have HB := Aside0.mk (Below.refl w.heap.size w)
 have hne : ((l.length : Int) != (l.length : Int)) = false := by simp
 go_enter Tryz.func24, Tryz.ntmps24
 go_wp2
 go_loopg [5] l.length (fun kq v5 w' => ∃ x : Int, v5 = .int .i64 x ∧ Aside0 (0 ≤ x ∧ (kq : Int) + x = l.length) ∧ Aside0 (Below w.heap.size w w'))
 case atStart => exact ⟨0, rfl, ⟨by omega⟩, HB⟩
 case round =>
  clear HB
  obtain ⟨x, rfl, HX, HB⟩ := hrel
  by_cases c1 : x < (l.length : Int)
  ·cases gk with
   | zero => have := HX.out; omega
   | succ kj =>
   have c1b : decide (x < (l.length : Int)) = true := decide_eq_true c1
   have p1 : 0 ≤ x := HX.out.1
   obtain ⟨adA, A1_, cA, e1, hxA0, hxA1, hlA, hiA⟩ := at_T30 HR0.out x p1 c1
   obtain ⟨adB, B1_, cB, e2, hxB0, hxB1, hlB, hiB⟩ := at_T30 HR1.out x p1 c1
   have HS := Aside0.mk (fun y h0 h1 => HSM.out x y p1 c1 h0 h1)
   have HN := Aside0.mk (HRN.out x p1 c1)
   obtain ⟨ki, hki⟩ : ∃ ki, rd_T30 l x = ki := ⟨_, rfl⟩
   rw [hki] at hxA0 hxA1 hlA hiA hxB0 hxB1 hlB hiB HS HN
   clear hki
   cases e1
   cases e2
   have HXA1 := Aside0.mk hxA1
   have HXB1 := Aside0.mk hxB1
   replace hxA0 := cell_keeps hxA0 HB.out
   replace hxA1 := cell_keeps hxA1 HB.out
   replace hxB0 := cell_keeps hxB0 HB.out
   replace hxB1 := cell_keeps hxB1 HB.out
   have HIA := Aside0.mk hiA
   have HIB := Aside0.mk hiB
   clear hiA hiB hlA hlB
   have q1 := eq_true c1
   replace p1 := eq_true p1
   clear c1
   have hn1 : (ki.f0.toList != ki.f0.toList) = false := by simp
   have hn2 : ((ki.f1.length : Int) != (ki.f1.length : Int)) = false := by simp
   go_upto_region 6 with fail
   go_quiet (fail)
   clear hxA0 hxA1 hxB0 hxB1
   go_wp2_with fail
   go_loopg [6] ki.f1.length (fun kq v6 w' => ∃ y : Int, v6 = .int .i64 y ∧ Aside0 (0 ≤ y ∧ (kq : Int) + y = ki.f1.length) ∧ Aside0 (Below w.heap.size w w'))
   case atStart => exact ⟨0, rfl, ⟨by omega⟩, ⟨pw_below_drewN HB.out _⟩⟩
   case round =>
    have HX0 := HX
    clear HB
    obtain ⟨y, rfl, HY, HB⟩ := hrel
    have hxA1 := cell_keeps HXA1.out HB.out
    have hxB1 := cell_keeps HXB1.out HB.out
    by_cases c2 : y < (ki.f1.length : Int)
    ·cases gk with
     | zero => have := HY.out; omega
     | succ kj2 =>
     have c2b : decide (y < (ki.f1.length : Int)) = true := decide_eq_true c2
     have p2 : 0 ≤ y := HY.out.1
     obtain ⟨adAR, A4, cA4, e3, ya0, ya1, ya2, ya3, ya4, la4, ia4⟩ := at_T35 HIA.out y p2 c2
     obtain ⟨adBR, B4, cB4, e4, yb0, yb1, yb2, yb3, yb4, lb4, ib4⟩ := at_T35 HIB.out y p2 c2
     have HS2 := Aside0.mk (HS.out y p2 c2)
     obtain ⟨rj, hrj⟩ : ∃ rj, rd_T35 ki.f1 y = rj := ⟨_, rfl⟩
     rw [hrj] at ya0 ya1 ya2 ya3 ya4 la4 ia4 yb0 yb1 yb2 yb3 yb4 lb4 ib4 HS2
     clear hrj
     cases e3
     cases e4
     have HIA4 := Aside0.mk ia4
     have HIB4 := Aside0.mk ib4
     have HLA4 := Aside0.mk la4
     have HLB4 := Aside0.mk lb4
     clear ia4 ib4 la4 lb4
     replace ya0 := cell_keeps ya0 HB.out
     replace ya1 := cell_keeps ya1 HB.out
     replace ya2 := cell_keeps ya2 HB.out
     replace ya3 := cell_keeps ya3 HB.out
     replace ya4 := cell_keeps ya4 HB.out
     replace yb0 := cell_keeps yb0 HB.out
     replace yb1 := cell_keeps yb1 HB.out
     replace yb2 := cell_keeps yb2 HB.out
     replace yb3 := cell_keeps yb3 HB.out
     replace yb4 := cell_keeps yb4 HB.out
     have q2 := eq_true c2
     replace p2 := eq_true p2
     clear c2
     have hn3 : (rj.f0.toList != rj.f0.toList) = false := by simp
     go_upto_region 11 with fail
     go_cut [7, 8] (fun v7 v8 wc => ∃ g7 g8 : Nat, v7 = .pointer (some ⟨g7, 0, none⟩) ∧ v8 = .pointer (some ⟨g8, 0, none⟩) ∧ Aside0 (wc.heap[g7]? = some (.cells #[.string rj.f0, .string rj.f1.f0, .string rj.f1.f1, .string rj.f1.f2, .slice A4 rj.f1.f3.length cA4] 35 (0, 0))) ∧ Aside0 (wc.heap[g8]? = some (.cells #[.string rj.f0, .string rj.f1.f0, .string rj.f1.f1, .string rj.f1.f2, .slice B4 rj.f1.f3.length cB4] 35 (0, 0))) ∧ Aside0 (Below w.heap.size w wc))
     case first =>
      refine start_ (n := 20) (S := fun w' => w'.cell? ⟨(adA.add (x.toNat * 2)).block, (adA.add (x.toNat * 2)).off + 1, none⟩ = some (.slice (some adAR) ki.f1.length cA) ∧ w'.cell? (adAR.add (y.toNat * 5)) = some (.string rj.f0) ∧ w'.cell? ⟨(adAR.add (y.toNat * 5)).block, (adAR.add (y.toNat * 5)).off + 1, none⟩ = some (.string rj.f1.f0) ∧ w'.cell? ⟨(adAR.add (y.toNat * 5)).block, (adAR.add (y.toNat * 5)).off + 2, none⟩ = some (.string rj.f1.f1) ∧ w'.cell? ⟨(adAR.add (y.toNat * 5)).block, (adAR.add (y.toNat * 5)).off + 3, none⟩ = some (.string rj.f1.f2) ∧ w'.cell? ⟨(adAR.add (y.toNat * 5)).block, (adAR.add (y.toNat * 5)).off + 4, none⟩ = some (.slice A4 rj.f1.f3.length cA4) ∧ w'.cell? ⟨(adB.add (x.toNat * 2)).block, (adB.add (x.toNat * 2)).off + 1, none⟩ = some (.slice (some adBR) ki.f1.length cB) ∧ w'.cell? (adBR.add (y.toNat * 5)) = some (.string rj.f0) ∧ w'.cell? ⟨(adBR.add (y.toNat * 5)).block, (adBR.add (y.toNat * 5)).off + 1, none⟩ = some (.string rj.f1.f0) ∧ w'.cell? ⟨(adBR.add (y.toNat * 5)).block, (adBR.add (y.toNat * 5)).off + 2, none⟩ = some (.string rj.f1.f1) ∧ w'.cell? ⟨(adBR.add (y.toNat * 5)).block, (adBR.add (y.toNat * 5)).off + 3, none⟩ = some (.string rj.f1.f2) ∧ w'.cell? ⟨(adBR.add (y.toNat * 5)).block, (adBR.add (y.toNat * 5)).off + 4, none⟩ = some (.slice B4 rj.f1.f3.length cB4)) (ds := [19]) #[false, false, false, false, false, false, false, false, false, false, false, false, false, false, false, false, false, false, false, false] (by kernel_rfl) rfl rfl ⟨hxA1, ya0, ya1, ya2, ya3, ya4, hxB1, yb0, yb1, yb2, yb3, yb4⟩ (fun hHeld => ?_)
      generalize hwd : wr.drew = w6 at hHeld ⊢
      have hB6 : Below wr.heap.size wr w6 := by rw [← hwd]; exact below_drew1 (Below.refl _ _)
      clear hwd
      refine pure_ (i := 0) (N := some 56) (v := ?_) (a' := ?_) #[true, false, false, false, false, false, false, false, false, false, false, false, false, false, false, false, false, false, false, false] rfl rfl (by kernel_rfl) (fun _ _ _ h => h) (Or.inl ⟨by rfl, ?_⟩) ?_ ?_
      rotate_left
      ·intro w'
       go_simp
       with_reducible rfl
      rotate_left
      ·simp only [Act.put, List.setIfInBounds_toArray, List.set_cons_zero, List.set_cons_succ, i64_w, i32_w]
       rfl
      refine pure_ (i := 1) (N := some 57) (v := ?_) (a' := ?_) #[true, true, false, false, false, false, false, false, false, false, false, false, false, false, false, false, false, false, false, false] rfl rfl (by kernel_rfl) (fun _ _ _ h => h) (Or.inl ⟨by rfl, ?_⟩) ?_ ?_
      rotate_left
      ·intro w'
       go_simp
       with_reducible rfl
      rotate_left
      ·simp only [Act.put, List.setIfInBounds_toArray, List.set_cons_zero, List.set_cons_succ, i64_w, i32_w]
       rfl
      refine pure_ (i := 2) (N := some 58) (v := ?_) (a' := ?_) #[true, true, true, false, false, false, false, false, false, false, false, false, false, false, false, false, false, false, false, false] rfl rfl (by kernel_rfl) (fun _ _ _ h => h) (Or.inl ⟨by rfl, ?_⟩) ?_ ?_
      rotate_left
      ·intro w'
       go_simp
       with_reducible rfl
      rotate_left
      ·simp only [Act.put, List.setIfInBounds_toArray, List.set_cons_zero, List.set_cons_succ, i64_w, i32_w]
       rfl
      refine pure_ (i := 3) (N := some 59) (v := ?_) (a' := ?_) #[true, true, true, true, false, false, false, false, false, false, false, false, false, false, false, false, false, false, false, false] rfl rfl (by kernel_rfl) (fun _ _ _ h => h) (Or.inl ⟨by rfl, ?_⟩) ?_ ?_
      rotate_left
      ·intro w'
       go_simp
       with_reducible rfl
      rotate_left
      ·simp only [Act.put, List.setIfInBounds_toArray, List.set_cons_zero, List.set_cons_succ, i64_w, i32_w]
       rfl
      refine take_ (i := 4) (N := some 60) (v := ?_) (a' := ?_) #[true, true, true, true, true, false, false, false, false, false, false, false, false, false, false, false, false, false, false, false] rfl rfl (by kernel_rfl) (fun _ _ _ h => h) (Or.inl ⟨by rfl, ?_⟩) hHeld ?_ ?_
      rotate_left
      ·rintro w' ⟨s0, s1, s2, s3, s4, s5, s6, s7, s8, s9, s10, s11⟩
       go_simp
       with_reducible rfl
      rotate_left
      ·simp only [Act.put, List.setIfInBounds_toArray, List.set_cons_zero, List.set_cons_succ, i64_w, i32_w]
       rfl
      refine pure_ (i := 5) (N := some 61) (v := ?_) (a' := ?_) #[true, true, true, true, true, true, false, false, false, false, false, false, false, false, false, false, false, false, false, false] rfl rfl (by kernel_rfl) (fun _ _ _ h => h) (Or.inl ⟨by rfl, ?_⟩) ?_ ?_
      rotate_left
      ·intro w'
       go_simp
       with_reducible rfl
      rotate_left
      ·simp only [Act.put, List.setIfInBounds_toArray, List.set_cons_zero, List.set_cons_succ, i64_w, i32_w]
       rfl
      refine pure_ (i := 6) (N := some 62) (v := ?_) (a' := ?_) #[true, true, true, true, true, true, true, false, false, false, false, false, false, false, false, false, false, false, false, false] rfl rfl (by kernel_rfl) (fun _ _ _ h => h) (Or.inl ⟨by rfl, ?_⟩) ?_ ?_
      rotate_left
      ·intro w'
       go_simp
       with_reducible rfl
      rotate_left
      ·simp only [Act.put, List.setIfInBounds_toArray, List.set_cons_zero, List.set_cons_succ, i64_w, i32_w]
       rfl
      refine take_ (i := 7) (N := some 63) (v := ?_) (a' := ?_) #[true, true, true, true, true, true, true, true, false, false, false, false, false, false, false, false, false, false, false, false] rfl rfl (by kernel_rfl) (fun _ _ _ h => h) (Or.inl ⟨by rfl, ?_⟩) hHeld ?_ ?_
      rotate_left
      ·rintro w' ⟨s0, s1, s2, s3, s4, s5, s6, s7, s8, s9, s10, s11⟩
       go_simp
       with_reducible rfl
      rotate_left
      ·simp only [Act.put, List.setIfInBounds_toArray, List.set_cons_zero, List.set_cons_succ, i64_w, i32_w]
       rfl
      refine pure_ (i := 8) (N := some 64) (v := ?_) (a' := ?_) #[true, true, true, true, true, true, true, true, true, false, false, false, false, false, false, false, false, false, false, false] rfl rfl (by kernel_rfl) (fun _ _ _ h => h) (Or.inl ⟨by rfl, ?_⟩) ?_ ?_
      rotate_left
      ·intro w'
       go_simp
       with_reducible rfl
      rotate_left
      ·simp only [Act.put, List.setIfInBounds_toArray, List.set_cons_zero, List.set_cons_succ, i64_w, i32_w]
       rfl
      refine pure_ (i := 9) (N := some 65) (v := ?_) (a' := ?_) #[true, true, true, true, true, true, true, true, true, true, false, false, false, false, false, false, false, false, false, false] rfl rfl (by kernel_rfl) (fun _ _ _ h => h) (Or.inl ⟨by rfl, ?_⟩) ?_ ?_
      rotate_left
      ·intro w'
       go_simp
       with_reducible rfl
      rotate_left
      ·simp only [Act.put, List.setIfInBounds_toArray, List.set_cons_zero, List.set_cons_succ, i64_w, i32_w]
       rfl
      refine pure_ (i := 10) (N := some 66) (v := ?_) (a' := ?_) #[true, true, true, true, true, true, true, true, true, true, true, false, false, false, false, false, false, false, false, false] rfl rfl (by kernel_rfl) (fun _ _ _ h => h) (Or.inl ⟨by rfl, ?_⟩) ?_ ?_
      rotate_left
      ·intro w'
       go_simp
       with_reducible rfl
      rotate_left
      ·simp only [Act.put, List.setIfInBounds_toArray, List.set_cons_zero, List.set_cons_succ, i64_w, i32_w]
       rfl
      refine pure_ (i := 11) (N := some 67) (v := ?_) (a' := ?_) #[true, true, true, true, true, true, true, true, true, true, true, true, false, false, false, false, false, false, false, false] rfl rfl (by kernel_rfl) (fun _ _ _ h => h) (Or.inl ⟨by rfl, ?_⟩) ?_ ?_
      rotate_left
      ·intro w'
       go_simp
       with_reducible rfl
      rotate_left
      ·simp only [Act.put, List.setIfInBounds_toArray, List.set_cons_zero, List.set_cons_succ, i64_w, i32_w]
       rfl
      refine take_ (i := 12) (N := some 68) (v := ?_) (a' := ?_) #[true, true, true, true, true, true, true, true, true, true, true, true, true, false, false, false, false, false, false, false] rfl rfl (by kernel_rfl) (fun _ _ _ h => h) (Or.inl ⟨by rfl, ?_⟩) hHeld ?_ ?_
      rotate_left
      ·rintro w' ⟨s0, s1, s2, s3, s4, s5, s6, s7, s8, s9, s10, s11⟩
       go_simp
       with_reducible rfl
      rotate_left
      ·simp only [Act.put, List.setIfInBounds_toArray, List.set_cons_zero, List.set_cons_succ, i64_w, i32_w]
       rfl
      refine pure_ (i := 13) (N := some 69) (v := ?_) (a' := ?_) #[true, true, true, true, true, true, true, true, true, true, true, true, true, true, false, false, false, false, false, false] rfl rfl (by kernel_rfl) (fun _ _ _ h => h) (Or.inl ⟨by rfl, ?_⟩) ?_ ?_
      rotate_left
      ·intro w'
       go_simp
       with_reducible rfl
      rotate_left
      ·simp only [Act.put, List.setIfInBounds_toArray, List.set_cons_zero, List.set_cons_succ, i64_w, i32_w]
       rfl
      refine pure_ (i := 14) (N := some 70) (v := ?_) (a' := ?_) #[true, true, true, true, true, true, true, true, true, true, true, true, true, true, true, false, false, false, false, false] rfl rfl (by kernel_rfl) (fun _ _ _ h => h) (Or.inl ⟨by rfl, ?_⟩) ?_ ?_
      rotate_left
      ·intro w'
       go_simp
       with_reducible rfl
      rotate_left
      ·simp only [Act.put, List.setIfInBounds_toArray, List.set_cons_zero, List.set_cons_succ, i64_w, i32_w]
       rfl
      refine take_ (i := 15) (N := some 71) (v := ?_) (a' := ?_) #[true, true, true, true, true, true, true, true, true, true, true, true, true, true, true, true, false, false, false, false] rfl rfl (by kernel_rfl) (fun _ _ _ h => h) (Or.inl ⟨by rfl, ?_⟩) hHeld ?_ ?_
      rotate_left
      ·rintro w' ⟨s0, s1, s2, s3, s4, s5, s6, s7, s8, s9, s10, s11⟩
       go_simp
       with_reducible rfl
      rotate_left
      ·simp only [Act.put, List.setIfInBounds_toArray, List.set_cons_zero, List.set_cons_succ, i64_w, i32_w]
       rfl
      refine two_ (i := 16) (j := 17) (Ni := some 7) (Nj := some 8) #[true, true, true, true, true, true, true, true, true, true, true, true, true, true, true, true, true, false, false, false] #[true, true, true, true, true, true, true, true, true, true, true, true, true, true, true, true, false, true, false, false] rfl rfl rfl rfl (by kernel_rfl) (by decide) (by decide) (fun K hK => ?_) (fun K hK => ?_)
      ·refine value_ (w1 := ?_) (v := ?_) (by rfl) rfl ?_ ?_
       rotate_left 2
       ·go_simp
        constructor
        ·rfl
        ·rfl
       refine hK.out _ _ ⟨cell_keeps hxA1 (below_alloc hB6 _), cell_keeps ya0 (below_alloc hB6 _), cell_keeps ya1 (below_alloc hB6 _), cell_keeps ya2 (below_alloc hB6 _), cell_keeps ya3 (below_alloc hB6 _), cell_keeps ya4 (below_alloc hB6 _), cell_keeps hxB1 (below_alloc hB6 _), cell_keeps yb0 (below_alloc hB6 _), cell_keeps yb1 (below_alloc hB6 _), cell_keeps yb2 (below_alloc hB6 _), cell_keeps yb3 (below_alloc hB6 _), cell_keeps yb4 (below_alloc hB6 _)⟩ (fun hHeld => ?_)
       clear hK K
       refine norm_ (a' := ?_) ?_ ?_
       rotate_left
       ·show Act.put _ (some 7) _ = _
        simp only [Act.put, List.setIfInBounds_toArray, List.set_cons_zero, List.set_cons_succ, i64_w, i32_w]
        rfl
       refine one_ (i := 17) (N := some 8) #[true, true, true, true, true, true, true, true, true, true, true, true, true, true, true, true, true, true, false, false] rfl rfl (by kernel_rfl) (by decide) (fun K hK => ?_)
       refine value_ (w1 := ?_) (v := ?_) (by rfl) rfl ?_ ?_
       rotate_left 2
       ·go_simp
        constructor
        ·rfl
        ·rfl
       refine hK.out _ _ ⟨cell_keeps hxA1 (below_alloc (below_alloc hB6 _) _), cell_keeps ya0 (below_alloc (below_alloc hB6 _) _), cell_keeps ya1 (below_alloc (below_alloc hB6 _) _), cell_keeps ya2 (below_alloc (below_alloc hB6 _) _), cell_keeps ya3 (below_alloc (below_alloc hB6 _) _), cell_keeps ya4 (below_alloc (below_alloc hB6 _) _), cell_keeps hxB1 (below_alloc (below_alloc hB6 _) _), cell_keeps yb0 (below_alloc (below_alloc hB6 _) _), cell_keeps yb1 (below_alloc (below_alloc hB6 _) _), cell_keeps yb2 (below_alloc (below_alloc hB6 _) _), cell_keeps yb3 (below_alloc (below_alloc hB6 _) _), cell_keeps yb4 (below_alloc (below_alloc hB6 _) _)⟩ (fun hHeld => ?_)
       clear hK K
       refine norm_ (a' := ?_) ?_ ?_
       rotate_left
       ·show Act.put _ (some 8) _ = _
        simp only [Act.put, List.setIfInBounds_toArray, List.set_cons_zero, List.set_cons_succ, i64_w, i32_w]
        rfl
       refine one_ (i := 18) (N := none) #[true, true, true, true, true, true, true, true, true, true, true, true, true, true, true, true, true, true, true, false] rfl rfl (by kernel_rfl) (by decide) (fun K hK => ?_)
       refine skip_ (w1 := ?_) (by rfl) rfl ?_ ?_
       rotate_left
       ·go_simp
        rfl
       refine hK.out _ _ ⟨cell_keeps hxA1 (by repeat (first | exact hB6 | apply below_alloc)), cell_keeps ya0 (by repeat (first | exact hB6 | apply below_alloc)), cell_keeps ya1 (by repeat (first | exact hB6 | apply below_alloc)), cell_keeps ya2 (by repeat (first | exact hB6 | apply below_alloc)), cell_keeps ya3 (by repeat (first | exact hB6 | apply below_alloc)), cell_keeps ya4 (by repeat (first | exact hB6 | apply below_alloc)), cell_keeps hxB1 (by repeat (first | exact hB6 | apply below_alloc)), cell_keeps yb0 (by repeat (first | exact hB6 | apply below_alloc)), cell_keeps yb1 (by repeat (first | exact hB6 | apply below_alloc)), cell_keeps yb2 (by repeat (first | exact hB6 | apply below_alloc)), cell_keeps yb3 (by repeat (first | exact hB6 | apply below_alloc)), cell_keeps yb4 (by repeat (first | exact hB6 | apply below_alloc))⟩ (fun hHeld => ?_)
       clear hK K
       refine last_ (i := 19) (N := none) #[true, true, true, true, true, true, true, true, true, true, true, true, true, true, true, true, true, true, true, true] rfl rfl (by kernel_rfl) (by decide) (fun K hK => ?_)
       refine skip_ (w1 := ?_) (by rfl) rfl ?_ ?_
       rotate_left
       ·go_simp
        rfl
       refine hK.out _ _ ?_
       clear hK K
       refine done_ (by kernel_rfl) ?_
       try go_wp2_with fail
       go_meet
       case rel => exact ⟨w6.heap.size, (w6.heap.size + 1), rfl, rfl, ⟨blk_below (blk_new w6 (.cells #[.string rj.f0, .string rj.f1.f0, .string rj.f1.f1, .string rj.f1.f2, .slice A4 rj.f1.f3.length cA4] 35 (0, 0))) (below_alloc (Below.refl _ _) _)⟩, ⟨(by have h := blk_new (w6.alloc (.cells #[.string rj.f0, .string rj.f1.f0, .string rj.f1.f1, .string rj.f1.f2, .slice A4 rj.f1.f3.length cA4] 35 (0, 0))) (.cells #[.string rj.f0, .string rj.f1.f0, .string rj.f1.f1, .string rj.f1.f2, .slice B4 rj.f1.f3.length cB4] 35 (0, 0)); rw [alloc_size] at h; exact h)⟩, ⟨below_alloc (below_alloc (below_step HB.out hB6) _) _⟩⟩
      ·refine value_ (w1 := ?_) (v := ?_) (by rfl) rfl ?_ ?_
       rotate_left 2
       ·go_simp
        constructor
        ·rfl
        ·rfl
       refine hK.out _ _ ⟨cell_keeps hxA1 (below_alloc hB6 _), cell_keeps ya0 (below_alloc hB6 _), cell_keeps ya1 (below_alloc hB6 _), cell_keeps ya2 (below_alloc hB6 _), cell_keeps ya3 (below_alloc hB6 _), cell_keeps ya4 (below_alloc hB6 _), cell_keeps hxB1 (below_alloc hB6 _), cell_keeps yb0 (below_alloc hB6 _), cell_keeps yb1 (below_alloc hB6 _), cell_keeps yb2 (below_alloc hB6 _), cell_keeps yb3 (below_alloc hB6 _), cell_keeps yb4 (below_alloc hB6 _)⟩ (fun hHeld => ?_)
       clear hK K
       refine norm_ (a' := ?_) ?_ ?_
       rotate_left
       ·show Act.put _ (some 8) _ = _
        simp only [Act.put, List.setIfInBounds_toArray, List.set_cons_zero, List.set_cons_succ, i64_w, i32_w]
        rfl
       refine one_ (i := 16) (N := some 7) #[true, true, true, true, true, true, true, true, true, true, true, true, true, true, true, true, true, true, false, false] rfl rfl (by kernel_rfl) (by decide) (fun K hK => ?_)
       refine value_ (w1 := ?_) (v := ?_) (by rfl) rfl ?_ ?_
       rotate_left 2
       ·go_simp
        constructor
        ·rfl
        ·rfl
       refine hK.out _ _ ⟨cell_keeps hxA1 (below_alloc (below_alloc hB6 _) _), cell_keeps ya0 (below_alloc (below_alloc hB6 _) _), cell_keeps ya1 (below_alloc (below_alloc hB6 _) _), cell_keeps ya2 (below_alloc (below_alloc hB6 _) _), cell_keeps ya3 (below_alloc (below_alloc hB6 _) _), cell_keeps ya4 (below_alloc (below_alloc hB6 _) _), cell_keeps hxB1 (below_alloc (below_alloc hB6 _) _), cell_keeps yb0 (below_alloc (below_alloc hB6 _) _), cell_keeps yb1 (below_alloc (below_alloc hB6 _) _), cell_keeps yb2 (below_alloc (below_alloc hB6 _) _), cell_keeps yb3 (below_alloc (below_alloc hB6 _) _), cell_keeps yb4 (below_alloc (below_alloc hB6 _) _)⟩ (fun hHeld => ?_)
       clear hK K
       refine norm_ (a' := ?_) ?_ ?_
       rotate_left
       ·show Act.put _ (some 7) _ = _
        simp only [Act.put, List.setIfInBounds_toArray, List.set_cons_zero, List.set_cons_succ, i64_w, i32_w]
        rfl
       refine one_ (i := 18) (N := none) #[true, true, true, true, true, true, true, true, true, true, true, true, true, true, true, true, true, true, true, false] rfl rfl (by kernel_rfl) (by decide) (fun K hK => ?_)
       refine skip_ (w1 := ?_) (by rfl) rfl ?_ ?_
       rotate_left
       ·go_simp
        rfl
       refine hK.out _ _ ⟨cell_keeps hxA1 (by repeat (first | exact hB6 | apply below_alloc)), cell_keeps ya0 (by repeat (first | exact hB6 | apply below_alloc)), cell_keeps ya1 (by repeat (first | exact hB6 | apply below_alloc)), cell_keeps ya2 (by repeat (first | exact hB6 | apply below_alloc)), cell_keeps ya3 (by repeat (first | exact hB6 | apply below_alloc)), cell_keeps ya4 (by repeat (first | exact hB6 | apply below_alloc)), cell_keeps hxB1 (by repeat (first | exact hB6 | apply below_alloc)), cell_keeps yb0 (by repeat (first | exact hB6 | apply below_alloc)), cell_keeps yb1 (by repeat (first | exact hB6 | apply below_alloc)), cell_keeps yb2 (by repeat (first | exact hB6 | apply below_alloc)), cell_keeps yb3 (by repeat (first | exact hB6 | apply below_alloc)), cell_keeps yb4 (by repeat (first | exact hB6 | apply below_alloc))⟩ (fun hHeld => ?_)
       clear hK K
       refine last_ (i := 19) (N := none) #[true, true, true, true, true, true, true, true, true, true, true, true, true, true, true, true, true, true, true, true] rfl rfl (by kernel_rfl) (by decide) (fun K hK => ?_)
       refine skip_ (w1 := ?_) (by rfl) rfl ?_ ?_
       rotate_left
       ·go_simp
        rfl
       refine hK.out _ _ ?_
       clear hK K
       refine done_ (by kernel_rfl) ?_
       try go_wp2_with fail
       go_meet
       case rel => exact ⟨(w6.heap.size + 1), w6.heap.size, rfl, rfl, ⟨(by have h := blk_new (w6.alloc (.cells #[.string rj.f0, .string rj.f1.f0, .string rj.f1.f1, .string rj.f1.f2, .slice B4 rj.f1.f3.length cB4] 35 (0, 0))) (.cells #[.string rj.f0, .string rj.f1.f0, .string rj.f1.f1, .string rj.f1.f2, .slice A4 rj.f1.f3.length cA4] 35 (0, 0)); rw [alloc_size] at h; exact h)⟩, ⟨blk_below (blk_new w6 (.cells #[.string rj.f0, .string rj.f1.f0, .string rj.f1.f1, .string rj.f1.f2, .slice B4 rj.f1.f3.length cB4] 35 (0, 0))) (below_alloc (Below.refl _ _) _)⟩, ⟨below_alloc (below_alloc (below_step HB.out hB6) _) _⟩⟩
     case rest =>
      clear hxA1 ya0 ya1 ya2 ya3 ya4 hxB1 yb0 yb1 yb2 yb3 yb4 HB
      obtain ⟨g7, g8, rfl, rfl, H7, H8, HB⟩ := hcut
      have xa0 : wc.cell? ⟨g7, 0, none⟩ = some (.string rj.f0) := (blk_cell H7.out 0).trans rfl
      have xa1 : wc.cell? ⟨g7, 1, none⟩ = some (.string rj.f1.f0) := (blk_cell H7.out 1).trans rfl
      have xa2 : wc.cell? ⟨g7, 2, none⟩ = some (.string rj.f1.f1) := (blk_cell H7.out 2).trans rfl
      have xa3 : wc.cell? ⟨g7, 3, none⟩ = some (.string rj.f1.f2) := (blk_cell H7.out 3).trans rfl
      have xa4 : wc.cell? ⟨g7, 4, none⟩ = some (.slice A4 rj.f1.f3.length cA4) := (blk_cell H7.out 4).trans rfl
      have xb0 : wc.cell? ⟨g8, 0, none⟩ = some (.string rj.f0) := (blk_cell H8.out 0).trans rfl
      have xb1 : wc.cell? ⟨g8, 1, none⟩ = some (.string rj.f1.f0) := (blk_cell H8.out 1).trans rfl
      have xb2 : wc.cell? ⟨g8, 2, none⟩ = some (.string rj.f1.f1) := (blk_cell H8.out 2).trans rfl
      have xb3 : wc.cell? ⟨g8, 3, none⟩ = some (.string rj.f1.f2) := (blk_cell H8.out 3).trans rfl
      have xb4 : wc.cell? ⟨g8, 4, none⟩ = some (.slice B4 rj.f1.f3.length cB4) := (blk_cell H8.out 4).trans rfl
      go_wp2_with (go_at_call 39; refine (lunetteref12_same.calls k _ _ _ _ _ _ _ _ _ _ _ _ true _ ?ha ?la ?hb ?lb HS2.out).mono ?_; (case ha => exact Kd.C_below HIA4.out HB.out); (case la => exact HLA4.out); (case hb => exact Kd.C_below HIB4.out HB.out); (case lb => exact HLB4.out); rintro e w9 ⟨rfl, hb9⟩; replace HB := Aside0.mk (below_step HB.out hb9))
      go_roundg kj2
      case measure => omega
      case rel => exact ⟨wrap64 (y + 1), rfl, ⟨by have := HY.out; have := HN.out; unfold wrap64; omega⟩, HB⟩
    ·have c2b : decide (y < (ki.f1.length : Int)) = false := decide_eq_false c2
     clear c2
     go_wp2_with fail
     go_roundg kj
     case measure => omega
     case rel => exact ⟨wrap64 (x + 1), rfl, ⟨by have := HX.out; have := HLN.out; unfold wrap64; omega⟩, HB⟩
  ·have c1b : decide (x < (l.length : Int)) = false := decide_eq_false c1
   clear c1
   go_wp2_with fail
   go_ret
   exact ⟨rfl, HB.out⟩
end Go.Proofs.YtjcipbdocbomjaaGreatDoor.K
namespace Go.Proofs.YtjcipbdocbomjaaGreatDoor.K
attribute [local go_sem] max2_int min2_int max_two min_two max_three min_three max_four min_four
def lunetteref12_Same.f (k : Nat) (a0_0 : ByteArray) (a0_1 : ByteArray) (a0_2 : ByteArray) (l0_3 : List (S33)) (a1_0 : ByteArray) (a1_1 : ByteArray) (a1_2 : ByteArray) (l1_3 : List (S33)) : Option (Bool) := (lunetteref12_same.f k a0_0 a0_1 a0_2 l0_3 a1_0 a1_1 a1_2 l1_3).bind fun t164 => (some t164)
set_option maxHeartbeats 8000000 in
set_option maxRecDepth 100000 in
theorem lunetteref12_Same.calls (k : Nat) (a0_0 : ByteArray) (a0_1 : ByteArray) (a0_2 : ByteArray) (A0_3 : Option Addr) (c0_3 : Nat) (l0_3 : List (S33)) (a1_0 : ByteArray) (a1_1 : ByteArray) (a1_2 : ByteArray) (A1_3 : Option Addr) (c1_3 : Nat) (l1_3 : List (S33)) (r : Bool) (w : World) (hr0_3 : Kd.C k33 w A0_3 l0_3.length l0_3) (hc0_3 : l0_3.length ≤ c0_3) (hr1_3 : Kd.C k33 w A1_3 l1_3.length l1_3) (hc1_3 : l1_3.length ≤ c1_3) (h : lunetteref12_Same.f k a0_0 a0_1 a0_2 l0_3 a1_0 a1_1 a1_2 l1_3 = some r) :
  Calls Tryz.prog 19 #[.agg #[.string a0_0, .string a0_1, .string a0_2, .slice A0_3 l0_3.length c0_3], .agg #[.string a1_0, .string a1_1, .string a1_2, .slice A1_3 l1_3.length c1_3]] w fun e w' => e = .returned (.bool r) ∧ Below w.heap.size w w' := by
 have hu33 := Tryz.underlying33
 have HR0_3 := Aside0.mk hr0_3
 have HC0_3 := Aside0.mk hc0_3
 clear hr0_3 hc0_3
 have HR1_3 := Aside0.mk hr1_3
 have HC1_3 := Aside0.mk hc1_3
 clear hr1_3 hc1_3
 have HB := Aside0.mk (Below.refl w.heap.size w)
 have H : ((lunetteref12_same.f k a0_0 a0_1 a0_2 l0_3 a1_0 a1_1 a1_2 l1_3).bind fun t164 => (some t164)) = some r := h
 clear h
 replace H := Option.bind_eq_some_iff.mp H
 obtain ⟨t164, A30, H⟩ := H
 replace H : (some t164) = some r := H
 have A3 := Aside0.mk A30
 clear A30
 obtain rfl := Option.some.inj H
 go_enter Tryz.func19, Tryz.ntmps19
 go_wp2_with (first | ((with_reducible refine gate_dst (N := 2) rfl ?_); refine box_event ?hg (N := 2) ?hd (cs := #[.string a0_0, .string a0_1, .string a0_2, .slice A0_3 l0_3.length c0_3]) (t := 33) ?hr ?_; (case hd => rfl); (case hg => rfl); (case hr => (go_simp; done)); intro gb162 hg w4 hbox hb; have n0_ := Aside0.mk (below_step (by repeat ((with_reducible (exact HB.out)))) hb); have n1_ := Aside0.mk (hbox); have n2_ := Aside0.mk ((by rw [hg]; exact (below_size (by repeat ((with_reducible (exact HB.out))))) : w.heap.size ≤ gb162)); have n3_ := Aside0.mk ((by rw [hg]; exact (below_size (by repeat ((with_reducible (exact HB.out))))) : w.heap.size ≤ gb162)); clear HB; have HB := n0_; have BK162 := n1_; have GW162 := n2_; have GE162 := n3_; clear n0_ n1_ n2_ n3_; clear hb hbox hg) | ((with_reducible refine gate_dst (N := 3) rfl ?_); refine box_event ?hg (N := 3) ?hd (cs := #[.string a1_0, .string a1_1, .string a1_2, .slice A1_3 l1_3.length c1_3]) (t := 33) ?hr ?_; (case hd => rfl); (case hg => rfl); (case hr => (go_simp; done)); intro gb163 hg w5 hbox hb; have n0_ := Aside0.mk (blk_below (g := gb162) (o := .cells #[.string a0_0, .string a0_1, .string a0_2, .slice A0_3 l0_3.length c0_3] 33 (0, 0)) (by (with_reducible repeat ((refine blk_drew ?_))); exact BK162.out) hb); have n1_ := Aside0.mk (below_step (by repeat ((with_reducible (exact HB.out)))) hb); have n2_ := Aside0.mk (hbox); have n3_ := Aside0.mk ((by rw [hg]; exact (below_size (by repeat ((with_reducible (exact HB.out))))) : w.heap.size ≤ gb163)); have n4_ := Aside0.mk ((by rw [hg]; exact (below_size (by repeat ((with_reducible (exact HB.out))))) : w.heap.size ≤ gb163)); have n5_ := Aside0.mk ((by rw [hg]; exact Nat.ne_of_lt (blk_lt (g := gb162) (o := .cells #[.string a0_0, .string a0_1, .string a0_2, .slice A0_3 l0_3.length c0_3] 33 (0, 0)) (by (with_reducible repeat ((refine blk_drew ?_))); exact BK162.out)) : gb162 ≠ gb163)); have n6_ := Aside0.mk ((by rw [hg]; exact Nat.ne_of_gt (blk_lt (g := gb162) (o := .cells #[.string a0_0, .string a0_1, .string a0_2, .slice A0_3 l0_3.length c0_3] 33 (0, 0)) (by (with_reducible repeat ((refine blk_drew ?_))); exact BK162.out)) : gb163 ≠ gb162)); clear BK162; clear HB; have BK162 := n0_; have HB := n1_; have BK163 := n2_; have GW163 := n3_; have GE163 := n4_; have NB162_163 := n5_; have NB163_162 := n6_; clear n0_ n1_ n2_ n3_ n4_ n5_ n6_; clear hb hbox hg; have hnb6 := NB162_163.out; have hnc6 := NB163_162.out; have hcz7_0 : w5.cell? ⟨gb162, 0, none⟩ = some (.string a0_0) := (blk_cell BK162.out 0).trans rfl; have hcz7_1 : w5.cell? ⟨gb162, 1, none⟩ = some (.string a0_1) := (blk_cell BK162.out 1).trans rfl; have hcz7_2 : w5.cell? ⟨gb162, 2, none⟩ = some (.string a0_2) := (blk_cell BK162.out 2).trans rfl; have hcz7_3 : w5.cell? ⟨gb162, 3, none⟩ = some (.slice A0_3 l0_3.length c0_3) := (blk_cell BK162.out 3).trans rfl; have hfz7_0 := blk_frozen BK162.out 0; have hfz7_1 := blk_frozen BK162.out 1; have hfz7_2 := blk_frozen BK162.out 2; have hfz7_3 := blk_frozen BK162.out 3; have hcz8_0 : w5.cell? ⟨gb163, 0, none⟩ = some (.string a1_0) := (blk_cell BK163.out 0).trans rfl; have hcz8_1 : w5.cell? ⟨gb163, 1, none⟩ = some (.string a1_1) := (blk_cell BK163.out 1).trans rfl; have hcz8_2 : w5.cell? ⟨gb163, 2, none⟩ = some (.string a1_2) := (blk_cell BK163.out 2).trans rfl; have hcz8_3 : w5.cell? ⟨gb163, 3, none⟩ = some (.slice A1_3 l1_3.length c1_3) := (blk_cell BK163.out 3).trans rfl; have hfz8_0 := blk_frozen BK163.out 0; have hfz8_1 := blk_frozen BK163.out 1; have hfz8_2 := blk_frozen BK163.out 2; have hfz8_3 := blk_frozen BK163.out 3) | ((with_reducible refine gate_callee (f := 39) rfl ?_); refine goesL_ (some 7) rfl rfl Tryz.func39 (by kernel_rfl) rfl #[.agg #[.string a0_0, .string a0_1, .string a0_2, .slice A0_3 l0_3.length c0_3], .agg #[.string a1_0, .string a1_1, .string a1_2, .slice A1_3 l1_3.length c1_3]] rfl (by (try simp only [List.map_toArray, List.map_cons, List.map_nil]); (rfl)) ?_; (with_reducible refine (lunetteref12_same.calls k a0_0 a0_1 a0_2 _ _ l0_3 a1_0 a1_1 a1_2 _ _ l1_3 t164 _ ?side1 ?side2 ?side3 ?side4 A3.out).mono ?_); (case side1 => repeat ((exact (Kd.C_below HR0_3.out HB.out)))); (case side2 => exact HC0_3.out); (case side3 => repeat ((exact (Kd.C_below HR1_3.out HB.out)))); (case side4 => exact HC1_3.out); rintro e w9 ⟨rfl, hb⟩; refine ⟨_, rfl, ?_⟩; have n0_ := Aside0.mk (blk_below (g := gb162) (o := .cells #[.string a0_0, .string a0_1, .string a0_2, .slice A0_3 l0_3.length c0_3] 33 (0, 0)) (by (with_reducible repeat ((refine blk_drew ?_))); exact BK162.out) hb); have n1_ := Aside0.mk (blk_below (g := gb163) (o := .cells #[.string a1_0, .string a1_1, .string a1_2, .slice A1_3 l1_3.length c1_3] 33 (0, 0)) (by (with_reducible repeat ((refine blk_drew ?_))); exact BK163.out) hb); have n2_ := Aside0.mk (below_step (by repeat ((with_reducible (exact HB.out)))) hb); clear BK162; clear BK163; clear HB; have BK162 := n0_; have BK163 := n1_; have HB := n2_; clear n0_ n1_ n2_; (try clear hb)))
 go_ret
 exact ⟨by (rfl), by repeat ((with_reducible (exact HB.out)))⟩
end Go.Proofs.YtjcipbdocbomjaaGreatDoor.K
