/- Texts of this claim's proof, put together: P11; conditions: as each states. -/
import Derived.Test.YtjcipbdocbomjaaGreatDoorZA
import Derived.Test.YtjcipbdocbomjaaGreatDoorZC
set_option linter.unusedVariables false
set_option linter.unusedSimpArgs false
namespace Go.Proofs.YtjcipbdocbomjaaGreatDoor.K
open Go.RowKit Go.Proofs.YtjcipbdocbomjaaGreatDoorW.PrintWords Go.Proofs.YtjcipbdocbomjaaGreatDoorW.PrintLast Go.Proofs.YtjcipbdocbomjaaGreatDoorW.PrintMore
attribute [local go_sem] max2_int min2_int max_two min_two max_three min_three max_four min_four   -- for this text's walks alone
set_option linter.unusedVariables false
set_option linter.unusedSimpArgs false
/-! ### lunetteref12_Check: function 15 -/
mutual
def lunetteref12_Check.l0 : Nat → List (S30) → Bool → Bool → Bool → Int → Option (Int)
 | 0, _, _, _, _, _ => none
 | k + 1, x0, x3, x4, x5, x6 => if x6 < (x0.length : Int) then (if 0 ≤ x6 then (if x3 = true then (lunetteref12_Check.j1 k x0 true x4 x5 x6 ((rd_T30 x0 x6).f0) ((rd_T30 x0 x6).f1)) else (lunetteref12_Check.j1 k x0 (decide ((((rd_T30 x0 x6).f1).length : Int) > 64)) x4 x5 x6 ((rd_T30 x0 x6).f0) ((rd_T30 x0 x6).f1))) else (none)) else (if x3 = true then (some 122) else (if x4 = true then (if x5 = true then (some 0) else (some 121)) else (some 120)))
def lunetteref12_Check.j1 : Nat → List (S30) → Bool → Bool → Bool → Int → ByteArray → List (S35) → Option (Int)
 | 0, _, _, _, _, _, _, _ => none
 | k + 1, x0, x3, x4, x5, x6, x157000, x157001 => if x5 = true then ((lunetteref12_Name.f k x157000).bind fun t157 => (lunetteref12_Check.j2 k x0 x3 x4 t157 x6 x157000 x157001)) else (lunetteref12_Check.j2 k x0 x3 x4 false x6 x157000 x157001)
def lunetteref12_Check.j2 : Nat → List (S30) → Bool → Bool → Bool → Int → ByteArray → List (S35) → Option (Int)
 | 0, _, _, _, _, _, _, _ => none
 | k + 1, x0, x3, x4, x5, x6, x157000, x157001 => lunetteref12_Check.l1 k x0 x3 x4 x5 x6 0 x157000 x157001
def lunetteref12_Check.l1 : Nat → List (S30) → Bool → Bool → Bool → Int → Int → ByteArray → List (S35) → Option (Int)
 | 0, _, _, _, _, _, _, _, _ => none
 | k + 1, x0, x3, x4, x5, x6, x8, x157000, x157001 => if x8 < x6 then (if x5 = true then (if 0 ≤ x8 then (if x8 < (x0.length : Int) then (lunetteref12_Check.l1 k x0 x3 x4 (((rd_T30 x0 x8).f0).toList != x157000.toList) x6 (wrap64 (x8 + 1)) x157000 x157001) else (none)) else (none)) else (lunetteref12_Check.l1 k x0 x3 x4 false x6 (wrap64 (x8 + 1)) x157000 x157001)) else (lunetteref12_Check.l2 k x0 x3 x4 x5 x6 0 x157000 x157001)
def lunetteref12_Check.l2 : Nat → List (S30) → Bool → Bool → Bool → Int → Int → ByteArray → List (S35) → Option (Int)
 | 0, _, _, _, _, _, _, _, _ => none
 | k + 1, x0, x3, x4, x5, x6, x9, x157000, x157001 => if x9 < (x157001.length : Int) then (if 0 ≤ x9 then (if x3 = true then (lunetteref12_Check.j5 k x0 true x4 x5 x6 x9 x157000 x157001 ((rd_T35 x157001 x9).f0) ((rd_T35 x157001 x9).f1.f0) ((rd_T35 x157001 x9).f1.f1) ((rd_T35 x157001 x9).f1.f2) ((rd_T35 x157001 x9).f1.f3)) else ((lunetteref12_Size.f k ((rd_T35 x157001 x9).f1.f0) ((rd_T35 x157001 x9).f1.f1) ((rd_T35 x157001 x9).f1.f2) ((rd_T35 x157001 x9).f1.f3)).bind fun t161 => (if t161 > 64 then (lunetteref12_Check.j5 k x0 true x4 x5 x6 x9 x157000 x157001 ((rd_T35 x157001 x9).f0) ((rd_T35 x157001 x9).f1.f0) ((rd_T35 x157001 x9).f1.f1) ((rd_T35 x157001 x9).f1.f2) ((rd_T35 x157001 x9).f1.f3)) else ((lunetteref12_Deep.f k ((rd_T35 x157001 x9).f1.f0) ((rd_T35 x157001 x9).f1.f1) ((rd_T35 x157001 x9).f1.f2) ((rd_T35 x157001 x9).f1.f3)).bind fun t162 => (lunetteref12_Check.j5 k x0 (decide (t162 > 8)) x4 x5 x6 x9 x157000 x157001 ((rd_T35 x157001 x9).f0) ((rd_T35 x157001 x9).f1.f0) ((rd_T35 x157001 x9).f1.f1) ((rd_T35 x157001 x9).f1.f2) ((rd_T35 x157001 x9).f1.f3)))))) else (none)) else (lunetteref12_Check.l0 k x0 x3 x4 x5 (wrap64 (x6 + 1)))
def lunetteref12_Check.j5 : Nat → List (S30) → Bool → Bool → Bool → Int → Int → ByteArray → List (S35) → ByteArray → ByteArray → ByteArray → ByteArray → List (S33) → Option (Int)
 | 0, _, _, _, _, _, _, _, _, _, _, _, _, _ => none
 | k + 1, x0, x3, x4, x5, x6, x9, x157000, x157001, x161000, x161001, x161002, x161003, x161004 => if x4 = true then ((lunetteref12_form.f k x161001 x161002 x161003 x161004).bind fun t163 => (lunetteref12_Check.j6 k x0 x3 t163 x5 x6 x9 x157000 x157001 x161000 x161001 x161002 x161003 x161004)) else (lunetteref12_Check.j6 k x0 x3 false x5 x6 x9 x157000 x157001 x161000 x161001 x161002 x161003 x161004)
def lunetteref12_Check.j6 : Nat → List (S30) → Bool → Bool → Bool → Int → Int → ByteArray → List (S35) → ByteArray → ByteArray → ByteArray → ByteArray → List (S33) → Option (Int)
 | 0, _, _, _, _, _, _, _, _, _, _, _, _, _ => none
 | k + 1, x0, x3, x4, x5, x6, x9, x157000, x157001, x161000, x161001, x161002, x161003, x161004 => if x5 = true then ((lunetteref12_Name.f k x161000).bind fun t164 => (if t164 = true then ((lunetteref12_named.f k x157000 x157001 x161001 x161002 x161003 x161004).bind fun t165 => (lunetteref12_Check.j7 k x0 x3 x4 t165 x6 x9 x157000 x157001 x161000 x161001 x161002 x161003 x161004)) else (lunetteref12_Check.j7 k x0 x3 x4 false x6 x9 x157000 x157001 x161000 x161001 x161002 x161003 x161004))) else (lunetteref12_Check.j7 k x0 x3 x4 false x6 x9 x157000 x157001 x161000 x161001 x161002 x161003 x161004)
def lunetteref12_Check.j7 : Nat → List (S30) → Bool → Bool → Bool → Int → Int → ByteArray → List (S35) → ByteArray → ByteArray → ByteArray → ByteArray → List (S33) → Option (Int)
 | 0, _, _, _, _, _, _, _, _, _, _, _, _, _ => none
 | k + 1, x0, x3, x4, x5, x6, x9, x157000, x157001, x161000, x161001, x161002, x161003, x161004 => lunetteref12_Check.l3 k x0 x3 x4 x5 x6 x9 0 x157000 x157001 x161000 x161001 x161002 x161003 x161004
def lunetteref12_Check.l3 : Nat → List (S30) → Bool → Bool → Bool → Int → Int → Int → ByteArray → List (S35) → ByteArray → ByteArray → ByteArray → ByteArray → List (S33) → Option (Int)
 | 0, _, _, _, _, _, _, _, _, _, _, _, _, _, _ => none
 | k + 1, x0, x3, x4, x5, x6, x9, x11, x157000, x157001, x161000, x161001, x161002, x161003, x161004 => if x11 < x9 then (if x5 = true then (if 0 ≤ x11 then (if x11 < (x157001.length : Int) then (lunetteref12_Check.l3 k x0 x3 x4 (((rd_T35 x157001 x11).f0).toList != x161000.toList) x6 x9 (wrap64 (x11 + 1)) x157000 x157001 x161000 x161001 x161002 x161003 x161004) else (none)) else (none)) else (lunetteref12_Check.l3 k x0 x3 x4 false x6 x9 (wrap64 (x11 + 1)) x157000 x157001 x161000 x161001 x161002 x161003 x161004)) else (lunetteref12_Check.l2 k x0 x3 x4 x5 x6 (wrap64 (x9 + 1)) x157000 x157001)
end
def lunetteref12_Check.f (k : Nat) (l0 : List (S30)) : Option (Int) := lunetteref12_Check.l0 k l0 (decide ((l0.length : Int) > 64)) true true 0
set_option maxHeartbeats 8000000 in
set_option maxRecDepth 100000 in
theorem lunetteref12_Check.calls (k : Nat) (A0 : Option Addr) (c0 : Nat) (l0 : List (S30)) (r : Int) (w : World) (hr0 : Kd.C k30 w A0 l0.length l0) (hc0 : l0.length ≤ c0) (h : lunetteref12_Check.f k l0 = some r) :
  Calls Tryz.prog 15 #[.slice A0 l0.length c0] w fun e w' => e = .returned (.int .i64 r) ∧ Below w.heap.size w w' := by
 have hu30 := Tryz.underlying30
 have hu35 := Tryz.underlying35
 have hu33 := Tryz.underlying33
 have HR0 := Aside0.mk hr0
 have HC0 := Aside0.mk hc0
 clear hr0 hc0
 have HB := Aside0.mk (Below.refl w.heap.size w)
 have H : (lunetteref12_Check.l0 k l0 (decide ((l0.length : Int) > 64)) true true 0) = some r := h
 clear h
 have H' := Aside0.mk H
 clear H
 go_enter Tryz.func15, Tryz.ntmps15
 go_wp2
 repeat (go_quiet (fail); try go_wp2)
 go_loopg [3, 4, 5, 6] k (fun kq v3 v4 v5 v6 w' => ∃ (x3_1 : Bool) (x4_1 : Bool) (x5_1 : Bool) (x6_1 : Int), v3 = .bool x3_1 ∧ v4 = .bool x4_1 ∧ v5 = .bool x5_1 ∧ v6 = .int .i64 x6_1 ∧ Aside0 (lunetteref12_Check.l0 kq l0 x3_1 x4_1 x5_1 x6_1 = some r) ∧ Aside0 (kq ≤ k) ∧ Aside0 (Below w.heap.size w w'))
 case atStart => exact ⟨(decide ((l0.length : Int) > 64)), (true), (true), (0), (by (rfl)), (by (rfl)), (by (rfl)), (by (rfl)), H', ⟨Nat.le_refl _⟩, ⟨by repeat ((with_reducible (exact HB.out)))⟩⟩
 case round =>
  clear H'
  obtain ⟨x3_1, x4_1, x5_1, x6_1, rfl, rfl, rfl, rfl, HA, HK1, HB⟩ := hrel
  cases gk with
  | zero => exact absurd HA.out (by simp [lunetteref12_Check.l0])
  | succ k1 =>
   have H := HA.out
   clear HA
   simp only [lunetteref12_Check.l0] at H
   by_cases c2 : x6_1 < (l0.length : Int)
   ·rw [if_pos c2] at H
    have c2b0 : decide (x6_1 < (l0.length : Int)) = true := decide_eq_true c2
    clear c2
    by_cases c3 : 0 ≤ x6_1
    ·rw [if_pos c3] at H
     have c3b0 : decide (0 ≤ x6_1) = true := decide_eq_true c3
     clear c3
     have HC4 := Aside0.mk H
     clear H
     have p155 : 0 ≤ (x6_1 : Int) := of_decide_eq_true (by (with_reducible assumption))
     have q155 : x6_1 < (l0.length : Int) := of_decide_eq_true (by (with_reducible assumption))
     obtain ⟨ad155, A155_1, c155_1, e155, hx155_0, hx155_1, hl155_1, hi155_1⟩ := at_T30 HR0.out x6_1 p155 q155
     cases e155
     replace hx155_0 := (HB.out.cell (World.block_lt_of_cell? w _ hx155_0)).trans hx155_0
     replace hx155_1 := (HB.out.cell (World.block_lt_of_cell? w _ hx155_1)).trans hx155_1
     have HR155_1 := Aside0.mk hi155_1
     have HC155_1 := Aside0.mk hl155_1
     clear hi155_1 hl155_1
     replace p155 := eq_true p155
     replace q155 := eq_true q155
     go_upto_region 6 with (((with_reducible refine gate_dst (N := 7) rfl ?_); (try (refine gate_guard (by rfl) ?_; dsimp only)); refine box_event ?hg (N := 7) ?hd (cs := #[.string (⟨#[]⟩ : ByteArray), .slice none 0 0]) (t := 30) ?hr ?_; (case hd => rfl); (case hg => rfl); (case hr => (go_simp; done)); intro gb156 hg w5 hbox hb; have n0_ := Aside0.mk (below_step (by repeat ((with_reducible (exact HB.out)))) hb); have n1_ := Aside0.mk (hbox); have n2_ := Aside0.mk ((by rw [hg]; exact (below_size (by repeat ((with_reducible (exact HB.out))))) : w.heap.size ≤ gb156)); have n3_ := Aside0.mk ((by rw [hg]; exact (below_size (by repeat ((with_reducible (exact HB.out))))) : w.heap.size ≤ gb156)); clear HB; have HB := n0_; have BK156 := n1_; have GW156 := n2_; have GE156 := n3_; clear n0_ n1_ n2_ n3_; clear hb hbox hg; have hcz6_0 : w5.cell? ⟨gb156, 0, none⟩ = some (.string (⟨#[]⟩ : ByteArray)) := (blk_cell BK156.out 0).trans rfl; have hcz6_1 : w5.cell? ⟨gb156, 1, none⟩ = some (.slice none 0 0) := (blk_cell BK156.out 1).trans rfl; have hfz6_0 := blk_frozen BK156.out 0; have hfz6_1 := blk_frozen BK156.out 1))
     repeat (go_quiet (((with_reducible refine gate_dst (N := 7) rfl ?_); (try (refine gate_guard (by rfl) ?_; dsimp only)); refine box_event ?hg (N := 7) ?hd (cs := #[.string (⟨#[]⟩ : ByteArray), .slice none 0 0]) (t := 30) ?hr ?_; (case hd => rfl); (case hg => rfl); (case hr => first | (go_simp; done) | (go_simp; rfl)); intro gb156 hg w5 hbox hb; have n0_ := Aside0.mk (below_step (by repeat (first | (with_reducible first | exact HB.out | apply below_alloc | apply pw_below_drewN | apply below_drew1) | exact HB.out)) hb); have n1_ := Aside0.mk (hbox); have n2_ := Aside0.mk ((by rw [hg]; exact (below_size (by repeat (first | (with_reducible first | exact HB.out | apply below_alloc | apply pw_below_drewN | apply below_drew1) | exact HB.out))) : w.heap.size ≤ gb156)); have n3_ := Aside0.mk ((by rw [hg]; exact (below_size (by repeat (first | (with_reducible first | exact HB.out | apply below_alloc | apply pw_below_drewN | apply below_drew1) | exact HB.out))) : w.heap.size ≤ gb156)); clear HB; have HB := n0_; have BK156 := n1_; have GW156 := n2_; have GE156 := n3_; clear n0_ n1_ n2_ n3_; clear hb hbox hg; have hcz6_0 : w5.cell? ⟨gb156, 0, none⟩ = some (.string (⟨#[]⟩ : ByteArray)) := (blk_cell BK156.out 0).trans rfl; have hcz6_1 : w5.cell? ⟨gb156, 1, none⟩ = some (.slice none 0 0) := (blk_cell BK156.out 1).trans rfl; have hfz6_0 := blk_frozen BK156.out 0; have hfz6_1 := blk_frozen BK156.out 1)); go_upto_region 6 with (((with_reducible refine gate_dst (N := 7) rfl ?_); (try (refine gate_guard (by rfl) ?_; dsimp only)); refine box_event ?hg (N := 7) ?hd (cs := #[.string (⟨#[]⟩ : ByteArray), .slice none 0 0]) (t := 30) ?hr ?_; (case hd => rfl); (case hg => rfl); (case hr => first | (go_simp; done) | (go_simp; rfl)); intro gb156 hg w5 hbox hb; have n0_ := Aside0.mk (below_step (by repeat (first | (with_reducible first | exact HB.out | apply below_alloc | apply pw_below_drewN | apply below_drew1) | exact HB.out)) hb); have n1_ := Aside0.mk (hbox); have n2_ := Aside0.mk ((by rw [hg]; exact (below_size (by repeat (first | (with_reducible first | exact HB.out | apply below_alloc | apply pw_below_drewN | apply below_drew1) | exact HB.out))) : w.heap.size ≤ gb156)); have n3_ := Aside0.mk ((by rw [hg]; exact (below_size (by repeat (first | (with_reducible first | exact HB.out | apply below_alloc | apply pw_below_drewN | apply below_drew1) | exact HB.out))) : w.heap.size ≤ gb156)); clear HB; have HB := n0_; have BK156 := n1_; have GW156 := n2_; have GE156 := n3_; clear n0_ n1_ n2_ n3_; clear hb hbox hg; have hcz6_0 : w5.cell? ⟨gb156, 0, none⟩ = some (.string (⟨#[]⟩ : ByteArray)) := (blk_cell BK156.out 0).trans rfl; have hcz6_1 : w5.cell? ⟨gb156, 1, none⟩ = some (.slice none 0 0) := (blk_cell BK156.out 1).trans rfl; have hfz6_0 := blk_frozen BK156.out 0; have hfz6_1 := blk_frozen BK156.out 1)))
     (try simp only [Act.put, List.setIfInBounds_toArray, List.set_cons_zero, List.set_cons_succ])
     go_cut [3] (fun v3 wc => ∃ (kq : Nat) (x3_3 : Bool), v3 = .bool x3_3 ∧ Aside0 (lunetteref12_Check.j1 kq l0 x3_3 x4_1 x5_1 x6_1 ((rd_T30 l0 x6_1).f0) ((rd_T30 l0 x6_1).f1) = some r) ∧ Aside0 (kq ≤ k1) ∧ Aside0 (wc.heap[gb156]? = some (.cells #[.string ((rd_T30 l0 x6_1).f0), (.slice A155_1 ((rd_T30 l0 x6_1).f1).length c155_1)] 30 (0, 0))) ∧ Aside0 (Below w.heap.size w wc))
     case first =>
      have H := HC4.out
      clear HC4
      by_cases c7 : x3_1 = true
      ·subst c7
       have H1 : (lunetteref12_Check.j1 k1 l0 true x4_1 x5_1 x6_1 ((rd_T30 l0 x6_1).f0) ((rd_T30 l0 x6_1).f1)) = some r := by rw [if_pos rfl] at H; exact H
       clear H
       have H := H1
       clear H1
       have H' := Aside0.mk H
       clear H
       go_wp2
       repeat (go_quiet (fail); try go_wp2)
       go_meet
       case rel => exact ⟨_, (true), (by (rfl)), H', ⟨by have := HK1.out; (omega)⟩, ⟨by (with_reducible repeat ((refine blk_drew ?_))); refine blk_put (cs := #[.string ((rd_T30 l0 x6_1).f0), .slice none 0 0]) ?_ 1 _ rfl; (with_reducible repeat ((refine blk_drew ?_))); refine blk_put (cs := #[.string (⟨#[]⟩ : ByteArray), .slice none 0 0]) ?_ 0 _ rfl; (with_reducible repeat ((refine blk_drew ?_))); exact BK156.out⟩, ⟨by repeat ((with_reducible first | exact HB.out | refine below_set ?_ GE156.out))⟩⟩
      ·replace c7 := Bool.eq_false_iff.mpr c7
       subst c7
       have H1 : (lunetteref12_Check.j1 k1 l0 (decide ((((rd_T30 l0 x6_1).f1).length : Int) > 64)) x4_1 x5_1 x6_1 ((rd_T30 l0 x6_1).f0) ((rd_T30 l0 x6_1).f1)) = some r := by rw [if_neg (show ¬ (false = true) by decide)] at H; exact H
       clear H
       have H := H1
       clear H1
       have H' := Aside0.mk H
       clear H
       have hcz8_0 : w5.cell? ⟨gb156, 0, none⟩ = some (.string (⟨#[]⟩ : ByteArray)) := (blk_cell BK156.out 0).trans rfl
       have hcz8_1 : w5.cell? ⟨gb156, 1, none⟩ = some (.slice none 0 0) := (blk_cell BK156.out 1).trans rfl
       have hfz8_0 := blk_frozen BK156.out 0
       have hfz8_1 := blk_frozen BK156.out 1
       go_wp2
       repeat (go_quiet (fail); try go_wp2)
       go_meet
       case rel => exact ⟨_, (decide ((((rd_T30 l0 x6_1).f1).length : Int) > 64)), (by (rfl)), H', ⟨by have := HK1.out; (omega)⟩, ⟨by (with_reducible repeat ((refine blk_drew ?_))); refine blk_put (cs := #[.string ((rd_T30 l0 x6_1).f0), .slice none 0 0]) ?_ 1 _ rfl; (with_reducible repeat ((refine blk_drew ?_))); refine blk_put (cs := #[.string (⟨#[]⟩ : ByteArray), .slice none 0 0]) ?_ 0 _ rfl; (with_reducible repeat ((refine blk_drew ?_))); exact BK156.out⟩, ⟨by repeat ((with_reducible first | exact HB.out | refine below_set ?_ GE156.out))⟩⟩
     case rest =>
      clear HC4
      try clear c2b0
      try clear c3b0
      try clear hcz6_0
      try clear hcz6_1
      try clear hfz6_0
      try clear hfz6_1
      try clear hx155_0
      try clear hx155_1
      try clear p155
      try clear q155
      obtain ⟨kq, x3_3, rfl, HA, HJ3, BK156, HB⟩ := hcut
      cases kq with
      | zero => exact absurd HA.out (by simp [lunetteref12_Check.j1])
      | succ kj3 =>
       have H := HA.out
       clear HA
       simp only [lunetteref12_Check.j1] at H
       have HC9 := Aside0.mk H
       clear H
       go_upto_region 7 with (fail)
       repeat (go_quiet (fail); go_upto_region 7 with (fail))
       go_cut [5] (fun v5 wc => ∃ (kq : Nat) (x5_8 : Bool), v5 = .bool x5_8 ∧ Aside0 (lunetteref12_Check.j2 kq l0 x3_3 x4_1 x5_8 x6_1 ((rd_T30 l0 x6_1).f0) ((rd_T30 l0 x6_1).f1) = some r) ∧ Aside0 (kq ≤ kj3) ∧ Aside0 (wc.heap[gb156]? = some (.cells #[.string ((rd_T30 l0 x6_1).f0), (.slice A155_1 ((rd_T30 l0 x6_1).f1).length c155_1)] 30 (0, 0))) ∧ Aside0 (Below w.heap.size w wc))
       case first =>
        have H := HC9.out
        clear HC9
        by_cases c10 : x5_1 = true
        ·subst c10
         have H1 : ((lunetteref12_Name.f kj3 ((rd_T30 l0 x6_1).f0)).bind fun t157 => (lunetteref12_Check.j2 kj3 l0 x3_3 x4_1 t157 x6_1 ((rd_T30 l0 x6_1).f0) ((rd_T30 l0 x6_1).f1))) = some r := by rw [if_pos rfl] at H; exact H
         clear H
         have H := H1
         clear H1
         replace H := Option.bind_eq_some_iff.mp H
         obtain ⟨t157, A110, H⟩ := H
         replace H : (lunetteref12_Check.j2 kj3 l0 x3_3 x4_1 t157 x6_1 ((rd_T30 l0 x6_1).f0) ((rd_T30 l0 x6_1).f1)) = some r := H
         have A11 := Aside0.mk A110
         clear A110
         have H' := Aside0.mk H
         clear H
         have hcz12_0 : wc.cell? ⟨gb156, 0, none⟩ = some (.string ((rd_T30 l0 x6_1).f0)) := (blk_cell BK156.out 0).trans rfl
         have hcz12_1 : wc.cell? ⟨gb156, 1, none⟩ = some (.slice A155_1 ((rd_T30 l0 x6_1).f1).length c155_1) := (blk_cell BK156.out 1).trans rfl
         have hfz12_0 := blk_frozen BK156.out 0
         have hfz12_1 := blk_frozen BK156.out 1
         go_wp2_with ((go_at_call 31; (with_reducible refine (lunetteref12_Name.calls kj3 ((rd_T30 l0 x6_1).f0) t157 _ A11.out).mono ?_); rintro e w' ⟨rfl, ⟨nd, rfl⟩⟩; (try (exact ⟨rfl, _, World.drewN_drewN _ _ _⟩))))
         repeat (go_quiet ((go_at_call 31; (with_reducible refine (lunetteref12_Name.calls kj3 ((rd_T30 l0 x6_1).f0) t157 _ A11.out).mono ?_); rintro e w' ⟨rfl, ⟨nd, rfl⟩⟩; (try first | exact ⟨rfl, _, World.drewN_drewN _ _ _⟩ | exact ⟨rfl, _, Eq.trans (World.drewN_drewN _ _ _) (congrArg (World.drewN _) (Nat.add_assoc _ _ _))⟩))); try go_wp2_with ((go_at_call 31; (with_reducible refine (lunetteref12_Name.calls kj3 ((rd_T30 l0 x6_1).f0) t157 _ A11.out).mono ?_); rintro e w' ⟨rfl, ⟨nd, rfl⟩⟩; (try first | exact ⟨rfl, _, World.drewN_drewN _ _ _⟩ | exact ⟨rfl, _, Eq.trans (World.drewN_drewN _ _ _) (congrArg (World.drewN _) (Nat.add_assoc _ _ _))⟩))))
         go_meet
         case rel => exact ⟨_, (t157), (by (rfl)), H', ⟨by have := HK1.out; have := HJ3.out; (omega)⟩, ⟨by (with_reducible repeat ((refine blk_drewN ?_ _))); exact BK156.out⟩, ⟨by repeat ((with_reducible first | exact HB.out | apply pw_below_drewN))⟩⟩
        ·replace c10 := Bool.eq_false_iff.mpr c10
         subst c10
         have H1 : (lunetteref12_Check.j2 kj3 l0 x3_3 x4_1 false x6_1 ((rd_T30 l0 x6_1).f0) ((rd_T30 l0 x6_1).f1)) = some r := by rw [if_neg (show ¬ (false = true) by decide)] at H; exact H
         clear H
         have H := H1
         clear H1
         have H' := Aside0.mk H
         clear H
         go_wp2
         repeat (go_quiet (fail); try go_wp2)
         go_meet
         case rel => exact ⟨_, (false), (by (rfl)), H', ⟨by have := HK1.out; have := HJ3.out; (omega)⟩, ⟨by (with_reducible repeat ((refine blk_drew ?_))); exact BK156.out⟩, ⟨by repeat ((with_reducible (exact HB.out)))⟩⟩
       case rest =>
        clear HC9
        obtain ⟨kq, x5_8, rfl, HA, HJ8, BK156, HB⟩ := hcut
        cases kq with
        | zero => exact absurd HA.out (by simp [lunetteref12_Check.j2])
        | succ kj8 =>
         have H := HA.out
         clear HA
         simp only [lunetteref12_Check.j2] at H
         have H' := Aside0.mk H
         clear H
         go_wp2
         repeat (go_quiet (fail); try go_wp2)
         go_loopg [5, 8] kj8 (fun kq v5 v8 w' => ∃ (x5_4 : Bool) (x8_4 : Int), v5 = .bool x5_4 ∧ v8 = .int .i64 x8_4 ∧ Aside0 (lunetteref12_Check.l1 kq l0 x3_3 x4_1 x5_4 x6_1 x8_4 ((rd_T30 l0 x6_1).f0) ((rd_T30 l0 x6_1).f1) = some r) ∧ Aside0 (kq ≤ kj8) ∧ Aside0 (w'.heap[gb156]? = some (.cells #[.string ((rd_T30 l0 x6_1).f0), (.slice A155_1 ((rd_T30 l0 x6_1).f1).length c155_1)] 30 (0, 0))) ∧ Aside0 (Below w.heap.size w w'))
         case atStart => exact ⟨(x5_8), (0), (by (rfl)), (by (rfl)), H', ⟨Nat.le_refl _⟩, ⟨by (with_reducible repeat ((refine blk_drew ?_))); exact BK156.out⟩, ⟨by repeat ((with_reducible (exact HB.out)))⟩⟩
         case round =>
          clear H'
          obtain ⟨x5_4, x8_4, rfl, rfl, HA, HK4, BK156, HB⟩ := hrel
          cases gk with
          | zero => exact absurd HA.out (by simp [lunetteref12_Check.l1])
          | succ k4 =>
           have H := HA.out
           clear HA
           simp only [lunetteref12_Check.l1] at H
           by_cases c13 : x8_4 < x6_1
           ·rw [if_pos c13] at H
            have c13b0 : decide (x8_4 < x6_1) = true := decide_eq_true c13
            clear c13
            by_cases c14 : x5_4 = true
            ·subst c14
             have H1 : (if 0 ≤ x8_4 then (if x8_4 < (l0.length : Int) then (lunetteref12_Check.l1 k4 l0 x3_3 x4_1 (((rd_T30 l0 x8_4).f0).toList != ((rd_T30 l0 x6_1).f0).toList) x6_1 (wrap64 (x8_4 + 1)) ((rd_T30 l0 x6_1).f0) ((rd_T30 l0 x6_1).f1)) else (none)) else (none)) = some r := by rw [if_pos rfl] at H; exact H
             clear H
             have H := H1
             clear H1
             by_cases c15 : 0 ≤ x8_4
             ·rw [if_pos c15] at H
              have c15b0 : decide (0 ≤ x8_4) = true := decide_eq_true c15
              clear c15
              by_cases c16 : x8_4 < (l0.length : Int)
              ·rw [if_pos c16] at H
               have c16b0 : decide (x8_4 < (l0.length : Int)) = true := decide_eq_true c16
               clear c16
               have H' := Aside0.mk H
               clear H
               have p158 : 0 ≤ (x8_4 : Int) := of_decide_eq_true (by (with_reducible assumption))
               have q158 : x8_4 < (l0.length : Int) := of_decide_eq_true (by (with_reducible assumption))
               obtain ⟨ad158, A158_1, c158_1, e158, hx158_0, hx158_1, hl158_1, hi158_1⟩ := at_T30 HR0.out x8_4 p158 q158
               obtain rfl : ad155 = ad158 := (by injection e158)
               replace hx158_0 := (HB.out.cell (World.block_lt_of_cell? w _ hx158_0)).trans hx158_0
               replace hx158_1 := (HB.out.cell (World.block_lt_of_cell? w _ hx158_1)).trans hx158_1
               have HR158_1 := Aside0.mk hi158_1
               have HC158_1 := Aside0.mk hl158_1
               clear hi158_1 hl158_1
               replace p158 := eq_true p158
               replace q158 := eq_true q158
               have hcz17_0 : wr.cell? ⟨gb156, 0, none⟩ = some (.string ((rd_T30 l0 x6_1).f0)) := (blk_cell BK156.out 0).trans rfl
               have hcz17_1 : wr.cell? ⟨gb156, 1, none⟩ = some (.slice A155_1 ((rd_T30 l0 x6_1).f1).length c155_1) := (blk_cell BK156.out 1).trans rfl
               have hfz17_0 := blk_frozen BK156.out 0
               have hfz17_1 := blk_frozen BK156.out 1
               go_wp2
               repeat (go_quiet (fail); try go_wp2)
               go_roundg k4
               case measure => have := HK1.out; have := HJ3.out; have := HJ8.out; have := HK4.out; omega
               case rel => exact ⟨((((rd_T30 l0 x8_4).f0).toList != ((rd_T30 l0 x6_1).f0).toList)), (wrap64 (x8_4 + 1)), (by (rfl)), (by (rfl)), H', ⟨by have := HK1.out; have := HJ3.out; have := HJ8.out; have := HK4.out; omega⟩, ⟨by (with_reducible repeat ((refine blk_drewN ?_ _))); exact BK156.out⟩, ⟨by repeat ((with_reducible first | exact HB.out | apply pw_below_drewN))⟩⟩
              ·rw [if_neg c16] at H
               exact absurd H (by simp)
             ·rw [if_neg c15] at H
              exact absurd H (by simp)
            ·replace c14 := Bool.eq_false_iff.mpr c14
             subst c14
             have H1 : (lunetteref12_Check.l1 k4 l0 x3_3 x4_1 false x6_1 (wrap64 (x8_4 + 1)) ((rd_T30 l0 x6_1).f0) ((rd_T30 l0 x6_1).f1)) = some r := by rw [if_neg (show ¬ (false = true) by decide)] at H; exact H
             clear H
             have H := H1
             clear H1
             have H' := Aside0.mk H
             clear H
             go_wp2
             repeat (go_quiet (fail); try go_wp2)
             go_roundg k4
             case measure => have := HK1.out; have := HJ3.out; have := HJ8.out; have := HK4.out; omega
             case rel => exact ⟨(false), (wrap64 (x8_4 + 1)), (by (rfl)), (by (rfl)), H', ⟨by have := HK1.out; have := HJ3.out; have := HJ8.out; have := HK4.out; omega⟩, ⟨by (with_reducible repeat ((refine blk_drewN ?_ _))); exact BK156.out⟩, ⟨by repeat ((with_reducible first | exact HB.out | apply pw_below_drewN))⟩⟩
           ·rw [if_neg c13] at H
            have c13b0 : decide (x8_4 < x6_1) = false := decide_eq_false c13
            clear c13
            have H' := Aside0.mk H
            clear H
            go_wp2
            repeat (go_quiet (fail); try go_wp2)
            go_loopg [3, 4, 5, 9] k4 (fun kq v3 v4 v5 v9 w' => ∃ (x3_5 : Bool) (x4_5 : Bool) (x5_5 : Bool) (x9_5 : Int), v3 = .bool x3_5 ∧ v4 = .bool x4_5 ∧ v5 = .bool x5_5 ∧ v9 = .int .i64 x9_5 ∧ Aside0 (lunetteref12_Check.l2 kq l0 x3_5 x4_5 x5_5 x6_1 x9_5 ((rd_T30 l0 x6_1).f0) ((rd_T30 l0 x6_1).f1) = some r) ∧ Aside0 (kq ≤ k4) ∧ Aside0 (w'.heap[gb156]? = some (.cells #[.string ((rd_T30 l0 x6_1).f0), (.slice A155_1 ((rd_T30 l0 x6_1).f1).length c155_1)] 30 (0, 0))) ∧ Aside0 (Below w.heap.size w w'))
            case atStart => exact ⟨(x3_3), (x4_1), (x5_4), (0), (by (rfl)), (by (rfl)), (by (rfl)), (by (rfl)), H', ⟨Nat.le_refl _⟩, ⟨by (with_reducible repeat ((refine blk_drew ?_))); exact BK156.out⟩, ⟨by repeat ((with_reducible (exact HB.out)))⟩⟩
            case round =>
             clear H'
             try clear c13b0
             obtain ⟨x3_5, x4_5, x5_5, x9_5, rfl, rfl, rfl, rfl, HA, HK5, BK156, HB⟩ := hrel
             cases gk with
             | zero => exact absurd HA.out (by simp [lunetteref12_Check.l2])
             | succ k5 =>
              have H := HA.out
              clear HA
              simp only [lunetteref12_Check.l2] at H
              by_cases c18 : x9_5 < (((rd_T30 l0 x6_1).f1).length : Int)
              ·rw [if_pos c18] at H
               have c18b0 : decide (x9_5 < (((rd_T30 l0 x6_1).f1).length : Int)) = true := decide_eq_true c18
               clear c18
               by_cases c19 : 0 ≤ x9_5
               ·rw [if_pos c19] at H
                have c19b0 : decide (0 ≤ x9_5) = true := decide_eq_true c19
                clear c19
                have HC20 := Aside0.mk H
                clear H
                have hcz21_0 : wr.cell? ⟨gb156, 0, none⟩ = some (.string ((rd_T30 l0 x6_1).f0)) := (blk_cell BK156.out 0).trans rfl
                have hcz21_1 : wr.cell? ⟨gb156, 1, none⟩ = some (.slice A155_1 ((rd_T30 l0 x6_1).f1).length c155_1) := (blk_cell BK156.out 1).trans rfl
                have hfz21_0 := blk_frozen BK156.out 0
                have hfz21_1 := blk_frozen BK156.out 1
                have p159 : 0 ≤ (x9_5 : Int) := of_decide_eq_true (by (with_reducible assumption))
                have q159 : x9_5 < (((rd_T30 l0 x6_1).f1).length : Int) := of_decide_eq_true (by (with_reducible assumption))
                obtain ⟨ad159, A159_4, c159_4, e159, hx159_0, hx159_1, hx159_2, hx159_3, hx159_4, hl159_4, hi159_4⟩ := at_T35 HR155_1.out x9_5 p159 q159
                cases e159
                replace hx159_0 := (HB.out.cell (World.block_lt_of_cell? w _ hx159_0)).trans hx159_0
                replace hx159_1 := (HB.out.cell (World.block_lt_of_cell? w _ hx159_1)).trans hx159_1
                replace hx159_2 := (HB.out.cell (World.block_lt_of_cell? w _ hx159_2)).trans hx159_2
                replace hx159_3 := (HB.out.cell (World.block_lt_of_cell? w _ hx159_3)).trans hx159_3
                replace hx159_4 := (HB.out.cell (World.block_lt_of_cell? w _ hx159_4)).trans hx159_4
                have HR159_4 := Aside0.mk hi159_4
                have HC159_4 := Aside0.mk hl159_4
                clear hi159_4 hl159_4
                replace p159 := eq_true p159
                replace q159 := eq_true q159
                go_upto_region 16 with (((with_reducible refine gate_dst (N := 10) rfl ?_); (try (refine gate_guard (by rfl) ?_; dsimp only)); refine box_event ?hg (N := 10) ?hd (cs := #[.string (⟨#[]⟩ : ByteArray), .string (⟨#[]⟩ : ByteArray), .string (⟨#[]⟩ : ByteArray), .string (⟨#[]⟩ : ByteArray), .slice none 0 0]) (t := 35) ?hr ?_; (case hd => rfl); (case hg => rfl); (case hr => (go_simp; done)); intro gb160 hg w22 hbox hb; have n0_ := Aside0.mk (blk_below (g := gb156) (o := .cells #[.string ((rd_T30 l0 x6_1).f0), .slice (some ad159) ((rd_T30 l0 x6_1).f1).length c155_1] 30 (0, 0)) (by (with_reducible repeat ((refine blk_drew ?_))); exact BK156.out) hb); have n1_ := Aside0.mk (below_step (by repeat ((with_reducible (exact HB.out)))) hb); have n2_ := Aside0.mk (hbox); have n3_ := Aside0.mk ((by rw [hg]; exact (below_size (by repeat ((with_reducible (exact HB.out))))) : w.heap.size ≤ gb160)); have n4_ := Aside0.mk ((by rw [hg]; exact (below_size (by repeat ((with_reducible (exact HB.out))))) : w.heap.size ≤ gb160)); have n5_ := Aside0.mk ((by rw [hg]; exact Nat.ne_of_lt (blk_lt (g := gb156) (o := .cells #[.string ((rd_T30 l0 x6_1).f0), .slice (some ad159) ((rd_T30 l0 x6_1).f1).length c155_1] 30 (0, 0)) (by (with_reducible repeat ((refine blk_drew ?_))); exact BK156.out)) : gb156 ≠ gb160)); have n6_ := Aside0.mk ((by rw [hg]; exact Nat.ne_of_gt (blk_lt (g := gb156) (o := .cells #[.string ((rd_T30 l0 x6_1).f0), .slice (some ad159) ((rd_T30 l0 x6_1).f1).length c155_1] 30 (0, 0)) (by (with_reducible repeat ((refine blk_drew ?_))); exact BK156.out)) : gb160 ≠ gb156)); clear BK156; clear HB; have BK156 := n0_; have HB := n1_; have BK160 := n2_; have GW160 := n3_; have GE160 := n4_; have NB156_160 := n5_; have NB160_156 := n6_; clear n0_ n1_ n2_ n3_ n4_ n5_ n6_; clear hb hbox hg; have hnb23 := NB160_156.out; have hnc23 := NB156_160.out; have hcz24_0 : w22.cell? ⟨gb160, 0, none⟩ = some (.string (⟨#[]⟩ : ByteArray)) := (blk_cell BK160.out 0).trans rfl; have hcz24_1 : w22.cell? ⟨gb160, 1, none⟩ = some (.string (⟨#[]⟩ : ByteArray)) := (blk_cell BK160.out 1).trans rfl; have hcz24_2 : w22.cell? ⟨gb160, 2, none⟩ = some (.string (⟨#[]⟩ : ByteArray)) := (blk_cell BK160.out 2).trans rfl; have hcz24_3 : w22.cell? ⟨gb160, 3, none⟩ = some (.string (⟨#[]⟩ : ByteArray)) := (blk_cell BK160.out 3).trans rfl; have hcz24_4 : w22.cell? ⟨gb160, 4, none⟩ = some (.slice none 0 0) := (blk_cell BK160.out 4).trans rfl; have hfz24_0 := blk_frozen BK160.out 0; have hfz24_1 := blk_frozen BK160.out 1; have hfz24_2 := blk_frozen BK160.out 2; have hfz24_3 := blk_frozen BK160.out 3; have hfz24_4 := blk_frozen BK160.out 4))
                repeat (go_quiet (((with_reducible refine gate_dst (N := 10) rfl ?_); (try (refine gate_guard (by rfl) ?_; dsimp only)); refine box_event ?hg (N := 10) ?hd (cs := #[.string (⟨#[]⟩ : ByteArray), .string (⟨#[]⟩ : ByteArray), .string (⟨#[]⟩ : ByteArray), .string (⟨#[]⟩ : ByteArray), .slice none 0 0]) (t := 35) ?hr ?_; (case hd => rfl); (case hg => rfl); (case hr => first | (go_simp; done) | (go_simp; rfl)); intro gb160 hg w22 hbox hb; have n0_ := Aside0.mk (blk_below (g := gb156) (o := .cells #[.string ((rd_T30 l0 x6_1).f0), .slice (some ad159) ((rd_T30 l0 x6_1).f1).length c155_1] 30 (0, 0)) (by (with_reducible repeat (first | refine blk_drewN ?_ _ | refine blk_drew ?_ | refine blk_alloc ?_ _)); exact BK156.out) hb); have n1_ := Aside0.mk (below_step (by repeat (first | (with_reducible first | exact HB.out | apply below_alloc | apply pw_below_drewN | apply below_drew1 | refine below_set ?_ GE156.out) | exact HB.out)) hb); have n2_ := Aside0.mk (hbox); have n3_ := Aside0.mk ((by rw [hg]; exact (below_size (by repeat (first | (with_reducible first | exact HB.out | apply below_alloc | apply pw_below_drewN | apply below_drew1 | refine below_set ?_ GE156.out) | exact HB.out))) : w.heap.size ≤ gb160)); have n4_ := Aside0.mk ((by rw [hg]; exact (below_size (by repeat (first | (with_reducible first | exact HB.out | apply below_alloc | apply pw_below_drewN | apply below_drew1 | refine below_set ?_ GE156.out) | exact HB.out))) : w.heap.size ≤ gb160)); have n5_ := Aside0.mk ((by rw [hg]; exact Nat.ne_of_lt (blk_lt (g := gb156) (o := .cells #[.string ((rd_T30 l0 x6_1).f0), .slice (some ad159) ((rd_T30 l0 x6_1).f1).length c155_1] 30 (0, 0)) (by (with_reducible repeat (first | refine blk_drewN ?_ _ | refine blk_drew ?_ | refine blk_alloc ?_ _)); exact BK156.out)) : gb156 ≠ gb160)); have n6_ := Aside0.mk ((by rw [hg]; exact Nat.ne_of_gt (blk_lt (g := gb156) (o := .cells #[.string ((rd_T30 l0 x6_1).f0), .slice (some ad159) ((rd_T30 l0 x6_1).f1).length c155_1] 30 (0, 0)) (by (with_reducible repeat (first | refine blk_drewN ?_ _ | refine blk_drew ?_ | refine blk_alloc ?_ _)); exact BK156.out)) : gb160 ≠ gb156)); clear BK156; clear HB; have BK156 := n0_; have HB := n1_; have BK160 := n2_; have GW160 := n3_; have GE160 := n4_; have NB156_160 := n5_; have NB160_156 := n6_; clear n0_ n1_ n2_ n3_ n4_ n5_ n6_; clear hb hbox hg; have hnb23 := NB160_156.out; have hnc23 := NB156_160.out; have hcz24_0 : w22.cell? ⟨gb160, 0, none⟩ = some (.string (⟨#[]⟩ : ByteArray)) := (blk_cell BK160.out 0).trans rfl; have hcz24_1 : w22.cell? ⟨gb160, 1, none⟩ = some (.string (⟨#[]⟩ : ByteArray)) := (blk_cell BK160.out 1).trans rfl; have hcz24_2 : w22.cell? ⟨gb160, 2, none⟩ = some (.string (⟨#[]⟩ : ByteArray)) := (blk_cell BK160.out 2).trans rfl; have hcz24_3 : w22.cell? ⟨gb160, 3, none⟩ = some (.string (⟨#[]⟩ : ByteArray)) := (blk_cell BK160.out 3).trans rfl; have hcz24_4 : w22.cell? ⟨gb160, 4, none⟩ = some (.slice none 0 0) := (blk_cell BK160.out 4).trans rfl; have hfz24_0 := blk_frozen BK160.out 0; have hfz24_1 := blk_frozen BK160.out 1; have hfz24_2 := blk_frozen BK160.out 2; have hfz24_3 := blk_frozen BK160.out 3; have hfz24_4 := blk_frozen BK160.out 4)); go_upto_region 16 with (((with_reducible refine gate_dst (N := 10) rfl ?_); (try (refine gate_guard (by rfl) ?_; dsimp only)); refine box_event ?hg (N := 10) ?hd (cs := #[.string (⟨#[]⟩ : ByteArray), .string (⟨#[]⟩ : ByteArray), .string (⟨#[]⟩ : ByteArray), .string (⟨#[]⟩ : ByteArray), .slice none 0 0]) (t := 35) ?hr ?_; (case hd => rfl); (case hg => rfl); (case hr => first | (go_simp; done) | (go_simp; rfl)); intro gb160 hg w22 hbox hb; have n0_ := Aside0.mk (blk_below (g := gb156) (o := .cells #[.string ((rd_T30 l0 x6_1).f0), .slice (some ad159) ((rd_T30 l0 x6_1).f1).length c155_1] 30 (0, 0)) (by (with_reducible repeat (first | refine blk_drewN ?_ _ | refine blk_drew ?_ | refine blk_alloc ?_ _)); exact BK156.out) hb); have n1_ := Aside0.mk (below_step (by repeat (first | (with_reducible first | exact HB.out | apply below_alloc | apply pw_below_drewN | apply below_drew1 | refine below_set ?_ GE156.out) | exact HB.out)) hb); have n2_ := Aside0.mk (hbox); have n3_ := Aside0.mk ((by rw [hg]; exact (below_size (by repeat (first | (with_reducible first | exact HB.out | apply below_alloc | apply pw_below_drewN | apply below_drew1 | refine below_set ?_ GE156.out) | exact HB.out))) : w.heap.size ≤ gb160)); have n4_ := Aside0.mk ((by rw [hg]; exact (below_size (by repeat (first | (with_reducible first | exact HB.out | apply below_alloc | apply pw_below_drewN | apply below_drew1 | refine below_set ?_ GE156.out) | exact HB.out))) : w.heap.size ≤ gb160)); have n5_ := Aside0.mk ((by rw [hg]; exact Nat.ne_of_lt (blk_lt (g := gb156) (o := .cells #[.string ((rd_T30 l0 x6_1).f0), .slice (some ad159) ((rd_T30 l0 x6_1).f1).length c155_1] 30 (0, 0)) (by (with_reducible repeat (first | refine blk_drewN ?_ _ | refine blk_drew ?_ | refine blk_alloc ?_ _)); exact BK156.out)) : gb156 ≠ gb160)); have n6_ := Aside0.mk ((by rw [hg]; exact Nat.ne_of_gt (blk_lt (g := gb156) (o := .cells #[.string ((rd_T30 l0 x6_1).f0), .slice (some ad159) ((rd_T30 l0 x6_1).f1).length c155_1] 30 (0, 0)) (by (with_reducible repeat (first | refine blk_drewN ?_ _ | refine blk_drew ?_ | refine blk_alloc ?_ _)); exact BK156.out)) : gb160 ≠ gb156)); clear BK156; clear HB; have BK156 := n0_; have HB := n1_; have BK160 := n2_; have GW160 := n3_; have GE160 := n4_; have NB156_160 := n5_; have NB160_156 := n6_; clear n0_ n1_ n2_ n3_ n4_ n5_ n6_; clear hb hbox hg; have hnb23 := NB160_156.out; have hnc23 := NB156_160.out; have hcz24_0 : w22.cell? ⟨gb160, 0, none⟩ = some (.string (⟨#[]⟩ : ByteArray)) := (blk_cell BK160.out 0).trans rfl; have hcz24_1 : w22.cell? ⟨gb160, 1, none⟩ = some (.string (⟨#[]⟩ : ByteArray)) := (blk_cell BK160.out 1).trans rfl; have hcz24_2 : w22.cell? ⟨gb160, 2, none⟩ = some (.string (⟨#[]⟩ : ByteArray)) := (blk_cell BK160.out 2).trans rfl; have hcz24_3 : w22.cell? ⟨gb160, 3, none⟩ = some (.string (⟨#[]⟩ : ByteArray)) := (blk_cell BK160.out 3).trans rfl; have hcz24_4 : w22.cell? ⟨gb160, 4, none⟩ = some (.slice none 0 0) := (blk_cell BK160.out 4).trans rfl; have hfz24_0 := blk_frozen BK160.out 0; have hfz24_1 := blk_frozen BK160.out 1; have hfz24_2 := blk_frozen BK160.out 2; have hfz24_3 := blk_frozen BK160.out 3; have hfz24_4 := blk_frozen BK160.out 4)))
                (try simp only [Act.put, List.setIfInBounds_toArray, List.set_cons_zero, List.set_cons_succ])
                go_cut [3] (fun v3 wc => ∃ (kq : Nat) (x3_19 : Bool), v3 = .bool x3_19 ∧ Aside0 (lunetteref12_Check.j5 kq l0 x3_19 x4_5 x5_5 x6_1 x9_5 ((rd_T30 l0 x6_1).f0) ((rd_T30 l0 x6_1).f1) ((rd_T35 ((rd_T30 l0 x6_1).f1) x9_5).f0) ((rd_T35 ((rd_T30 l0 x6_1).f1) x9_5).f1.f0) ((rd_T35 ((rd_T30 l0 x6_1).f1) x9_5).f1.f1) ((rd_T35 ((rd_T30 l0 x6_1).f1) x9_5).f1.f2) ((rd_T35 ((rd_T30 l0 x6_1).f1) x9_5).f1.f3) = some r) ∧ Aside0 (kq ≤ k5) ∧ Aside0 (wc.heap[gb156]? = some (.cells #[.string ((rd_T30 l0 x6_1).f0), (.slice (some ad159) ((rd_T30 l0 x6_1).f1).length c155_1)] 30 (0, 0))) ∧ Aside0 (wc.heap[gb160]? = some (.cells #[.string ((rd_T35 ((rd_T30 l0 x6_1).f1) x9_5).f0), .string ((rd_T35 ((rd_T30 l0 x6_1).f1) x9_5).f1.f0), .string ((rd_T35 ((rd_T30 l0 x6_1).f1) x9_5).f1.f1), .string ((rd_T35 ((rd_T30 l0 x6_1).f1) x9_5).f1.f2), (.slice A159_4 ((rd_T35 ((rd_T30 l0 x6_1).f1) x9_5).f1.f3).length c159_4)] 35 (0, 0))) ∧ Aside0 (Below w.heap.size w wc))
                case first =>
                 have H := HC20.out
                 clear HC20
                 by_cases c25 : x3_5 = true
                 ·subst c25
                  have H1 : (lunetteref12_Check.j5 k5 l0 true x4_5 x5_5 x6_1 x9_5 ((rd_T30 l0 x6_1).f0) ((rd_T30 l0 x6_1).f1) ((rd_T35 ((rd_T30 l0 x6_1).f1) x9_5).f0) ((rd_T35 ((rd_T30 l0 x6_1).f1) x9_5).f1.f0) ((rd_T35 ((rd_T30 l0 x6_1).f1) x9_5).f1.f1) ((rd_T35 ((rd_T30 l0 x6_1).f1) x9_5).f1.f2) ((rd_T35 ((rd_T30 l0 x6_1).f1) x9_5).f1.f3)) = some r := by rw [if_pos rfl] at H; exact H
                  clear H
                  have H := H1
                  clear H1
                  have H' := Aside0.mk H
                  clear H
                  go_wp2
                  repeat (go_quiet (fail); try go_wp2)
                  go_meet
                  case rel => exact ⟨_, (true), (by (rfl)), H', ⟨by have := HK1.out; have := HJ3.out; have := HJ8.out; have := HK4.out; have := HK5.out; (omega)⟩, ⟨by (with_reducible repeat ((refine blk_drew ?_))); refine blk_far ?_ NB156_160.out _; (with_reducible repeat ((refine blk_drew ?_))); refine blk_far ?_ NB156_160.out _; (with_reducible repeat ((refine blk_drew ?_))); refine blk_far ?_ NB156_160.out _; (with_reducible repeat ((refine blk_drew ?_))); refine blk_far ?_ NB156_160.out _; (with_reducible repeat ((refine blk_drew ?_))); refine blk_far ?_ NB156_160.out _; (with_reducible repeat ((refine blk_drew ?_))); exact BK156.out⟩, ⟨by (with_reducible repeat ((refine blk_drew ?_))); refine blk_put (cs := #[.string ((rd_T35 ((rd_T30 l0 x6_1).f1) x9_5).f0), .string ((rd_T35 ((rd_T30 l0 x6_1).f1) x9_5).f1.f0), .string ((rd_T35 ((rd_T30 l0 x6_1).f1) x9_5).f1.f1), .string ((rd_T35 ((rd_T30 l0 x6_1).f1) x9_5).f1.f2), .slice none 0 0]) ?_ 4 _ rfl; (with_reducible repeat ((refine blk_drew ?_))); refine blk_put (cs := #[.string ((rd_T35 ((rd_T30 l0 x6_1).f1) x9_5).f0), .string ((rd_T35 ((rd_T30 l0 x6_1).f1) x9_5).f1.f0), .string ((rd_T35 ((rd_T30 l0 x6_1).f1) x9_5).f1.f1), .string (⟨#[]⟩ : ByteArray), .slice none 0 0]) ?_ 3 _ rfl; (with_reducible repeat ((refine blk_drew ?_))); refine blk_put (cs := #[.string ((rd_T35 ((rd_T30 l0 x6_1).f1) x9_5).f0), .string ((rd_T35 ((rd_T30 l0 x6_1).f1) x9_5).f1.f0), .string (⟨#[]⟩ : ByteArray), .string (⟨#[]⟩ : ByteArray), .slice none 0 0]) ?_ 2 _ rfl; (with_reducible repeat ((refine blk_drew ?_))); refine blk_put (cs := #[.string ((rd_T35 ((rd_T30 l0 x6_1).f1) x9_5).f0), .string (⟨#[]⟩ : ByteArray), .string (⟨#[]⟩ : ByteArray), .string (⟨#[]⟩ : ByteArray), .slice none 0 0]) ?_ 1 _ rfl; (with_reducible repeat ((refine blk_drew ?_))); refine blk_put (cs := #[.string (⟨#[]⟩ : ByteArray), .string (⟨#[]⟩ : ByteArray), .string (⟨#[]⟩ : ByteArray), .string (⟨#[]⟩ : ByteArray), .slice none 0 0]) ?_ 0 _ rfl; (with_reducible repeat ((refine blk_drew ?_))); exact BK160.out⟩, ⟨by repeat ((with_reducible first | exact HB.out | refine below_set ?_ GE160.out))⟩⟩
                 ·replace c25 := Bool.eq_false_iff.mpr c25
                  subst c25
                  have H1 : ((lunetteref12_Size.f k5 ((rd_T35 ((rd_T30 l0 x6_1).f1) x9_5).f1.f0) ((rd_T35 ((rd_T30 l0 x6_1).f1) x9_5).f1.f1) ((rd_T35 ((rd_T30 l0 x6_1).f1) x9_5).f1.f2) ((rd_T35 ((rd_T30 l0 x6_1).f1) x9_5).f1.f3)).bind fun t161 => (if t161 > 64 then (lunetteref12_Check.j5 k5 l0 true x4_5 x5_5 x6_1 x9_5 ((rd_T30 l0 x6_1).f0) ((rd_T30 l0 x6_1).f1) ((rd_T35 ((rd_T30 l0 x6_1).f1) x9_5).f0) ((rd_T35 ((rd_T30 l0 x6_1).f1) x9_5).f1.f0) ((rd_T35 ((rd_T30 l0 x6_1).f1) x9_5).f1.f1) ((rd_T35 ((rd_T30 l0 x6_1).f1) x9_5).f1.f2) ((rd_T35 ((rd_T30 l0 x6_1).f1) x9_5).f1.f3)) else ((lunetteref12_Deep.f k5 ((rd_T35 ((rd_T30 l0 x6_1).f1) x9_5).f1.f0) ((rd_T35 ((rd_T30 l0 x6_1).f1) x9_5).f1.f1) ((rd_T35 ((rd_T30 l0 x6_1).f1) x9_5).f1.f2) ((rd_T35 ((rd_T30 l0 x6_1).f1) x9_5).f1.f3)).bind fun t162 => (lunetteref12_Check.j5 k5 l0 (decide (t162 > 8)) x4_5 x5_5 x6_1 x9_5 ((rd_T30 l0 x6_1).f0) ((rd_T30 l0 x6_1).f1) ((rd_T35 ((rd_T30 l0 x6_1).f1) x9_5).f0) ((rd_T35 ((rd_T30 l0 x6_1).f1) x9_5).f1.f0) ((rd_T35 ((rd_T30 l0 x6_1).f1) x9_5).f1.f1) ((rd_T35 ((rd_T30 l0 x6_1).f1) x9_5).f1.f2) ((rd_T35 ((rd_T30 l0 x6_1).f1) x9_5).f1.f3))))) = some r := by rw [if_neg (show ¬ (false = true) by decide)] at H; exact H
                  clear H
                  have H := H1
                  clear H1
                  replace H := Option.bind_eq_some_iff.mp H
                  obtain ⟨t161, A260, H⟩ := H
                  replace H : (if t161 > 64 then (lunetteref12_Check.j5 k5 l0 true x4_5 x5_5 x6_1 x9_5 ((rd_T30 l0 x6_1).f0) ((rd_T30 l0 x6_1).f1) ((rd_T35 ((rd_T30 l0 x6_1).f1) x9_5).f0) ((rd_T35 ((rd_T30 l0 x6_1).f1) x9_5).f1.f0) ((rd_T35 ((rd_T30 l0 x6_1).f1) x9_5).f1.f1) ((rd_T35 ((rd_T30 l0 x6_1).f1) x9_5).f1.f2) ((rd_T35 ((rd_T30 l0 x6_1).f1) x9_5).f1.f3)) else ((lunetteref12_Deep.f k5 ((rd_T35 ((rd_T30 l0 x6_1).f1) x9_5).f1.f0) ((rd_T35 ((rd_T30 l0 x6_1).f1) x9_5).f1.f1) ((rd_T35 ((rd_T30 l0 x6_1).f1) x9_5).f1.f2) ((rd_T35 ((rd_T30 l0 x6_1).f1) x9_5).f1.f3)).bind fun t162 => (lunetteref12_Check.j5 k5 l0 (decide (t162 > 8)) x4_5 x5_5 x6_1 x9_5 ((rd_T30 l0 x6_1).f0) ((rd_T30 l0 x6_1).f1) ((rd_T35 ((rd_T30 l0 x6_1).f1) x9_5).f0) ((rd_T35 ((rd_T30 l0 x6_1).f1) x9_5).f1.f0) ((rd_T35 ((rd_T30 l0 x6_1).f1) x9_5).f1.f1) ((rd_T35 ((rd_T30 l0 x6_1).f1) x9_5).f1.f2) ((rd_T35 ((rd_T30 l0 x6_1).f1) x9_5).f1.f3)))) = some r := H
                  have A26 := Aside0.mk A260
                  clear A260
                  by_cases c27 : t161 > 64
                  ·rw [if_pos c27] at H
                   have c27b0 : decide (64 < t161) = true := decide_eq_true c27
                   clear c27
                   ((skip))
                   have H' := Aside0.mk H
                   clear H
                   have hnb28 := NB160_156.out
                   have hnc28 := NB156_160.out
                   have hcz29_0 : w22.cell? ⟨gb160, 0, none⟩ = some (.string (⟨#[]⟩ : ByteArray)) := (blk_cell BK160.out 0).trans rfl
                   have hcz29_1 : w22.cell? ⟨gb160, 1, none⟩ = some (.string (⟨#[]⟩ : ByteArray)) := (blk_cell BK160.out 1).trans rfl
                   have hcz29_2 : w22.cell? ⟨gb160, 2, none⟩ = some (.string (⟨#[]⟩ : ByteArray)) := (blk_cell BK160.out 2).trans rfl
                   have hcz29_3 : w22.cell? ⟨gb160, 3, none⟩ = some (.string (⟨#[]⟩ : ByteArray)) := (blk_cell BK160.out 3).trans rfl
                   have hcz29_4 : w22.cell? ⟨gb160, 4, none⟩ = some (.slice none 0 0) := (blk_cell BK160.out 4).trans rfl
                   have hfz29_0 := blk_frozen BK160.out 0
                   have hfz29_1 := blk_frozen BK160.out 1
                   have hfz29_2 := blk_frozen BK160.out 2
                   have hfz29_3 := blk_frozen BK160.out 3
                   have hfz29_4 := blk_frozen BK160.out 4
                   go_wp2_with ((go_at_call 21; (with_reducible refine (lunetteref12_Size.calls k5 ((rd_T35 ((rd_T30 l0 x6_1).f1) x9_5).f1.f0) ((rd_T35 ((rd_T30 l0 x6_1).f1) x9_5).f1.f1) ((rd_T35 ((rd_T30 l0 x6_1).f1) x9_5).f1.f2) _ _ ((rd_T35 ((rd_T30 l0 x6_1).f1) x9_5).f1.f3) t161 _ ?side1 ?side2 A26.out).mono ?_); (case side1 => exact Kd.C_below HR159_4.out (by repeat ((with_reducible first | exact HB.out | refine below_set ?_ GE160.out)))); (case side2 => exact HC159_4.out); rintro e w30 ⟨rfl, hb⟩; have n0_ := Aside0.mk (blk_below (g := gb156) (o := .cells #[.string ((rd_T30 l0 x6_1).f0), .slice (some ad159) ((rd_T30 l0 x6_1).f1).length c155_1] 30 (0, 0)) (by (with_reducible repeat ((refine blk_drew ?_))); refine blk_far ?_ NB156_160.out _; (with_reducible repeat ((refine blk_drew ?_))); refine blk_far ?_ NB156_160.out _; (with_reducible repeat ((refine blk_drew ?_))); refine blk_far ?_ NB156_160.out _; (with_reducible repeat ((refine blk_drew ?_))); refine blk_far ?_ NB156_160.out _; (with_reducible repeat ((refine blk_drew ?_))); refine blk_far ?_ NB156_160.out _; (with_reducible repeat ((refine blk_drew ?_))); exact BK156.out) hb); have n1_ := Aside0.mk (blk_below (g := gb160) (o := .cells #[.string ((rd_T35 ((rd_T30 l0 x6_1).f1) x9_5).f0), .string ((rd_T35 ((rd_T30 l0 x6_1).f1) x9_5).f1.f0), .string ((rd_T35 ((rd_T30 l0 x6_1).f1) x9_5).f1.f1), .string ((rd_T35 ((rd_T30 l0 x6_1).f1) x9_5).f1.f2), .slice A159_4 ((rd_T35 ((rd_T30 l0 x6_1).f1) x9_5).f1.f3).length c159_4] 35 (0, 0)) (by (with_reducible repeat ((refine blk_drew ?_))); refine blk_put (cs := #[.string ((rd_T35 ((rd_T30 l0 x6_1).f1) x9_5).f0), .string ((rd_T35 ((rd_T30 l0 x6_1).f1) x9_5).f1.f0), .string ((rd_T35 ((rd_T30 l0 x6_1).f1) x9_5).f1.f1), .string ((rd_T35 ((rd_T30 l0 x6_1).f1) x9_5).f1.f2), .slice none 0 0]) ?_ 4 _ rfl; (with_reducible repeat ((refine blk_drew ?_))); refine blk_put (cs := #[.string ((rd_T35 ((rd_T30 l0 x6_1).f1) x9_5).f0), .string ((rd_T35 ((rd_T30 l0 x6_1).f1) x9_5).f1.f0), .string ((rd_T35 ((rd_T30 l0 x6_1).f1) x9_5).f1.f1), .string (⟨#[]⟩ : ByteArray), .slice none 0 0]) ?_ 3 _ rfl; (with_reducible repeat ((refine blk_drew ?_))); refine blk_put (cs := #[.string ((rd_T35 ((rd_T30 l0 x6_1).f1) x9_5).f0), .string ((rd_T35 ((rd_T30 l0 x6_1).f1) x9_5).f1.f0), .string (⟨#[]⟩ : ByteArray), .string (⟨#[]⟩ : ByteArray), .slice none 0 0]) ?_ 2 _ rfl; (with_reducible repeat ((refine blk_drew ?_))); refine blk_put (cs := #[.string ((rd_T35 ((rd_T30 l0 x6_1).f1) x9_5).f0), .string (⟨#[]⟩ : ByteArray), .string (⟨#[]⟩ : ByteArray), .string (⟨#[]⟩ : ByteArray), .slice none 0 0]) ?_ 1 _ rfl; (with_reducible repeat ((refine blk_drew ?_))); refine blk_put (cs := #[.string (⟨#[]⟩ : ByteArray), .string (⟨#[]⟩ : ByteArray), .string (⟨#[]⟩ : ByteArray), .string (⟨#[]⟩ : ByteArray), .slice none 0 0]) ?_ 0 _ rfl; (with_reducible repeat ((refine blk_drew ?_))); exact BK160.out) hb); have n2_ := Aside0.mk (below_step (by repeat ((with_reducible first | exact HB.out | refine below_set ?_ GE160.out))) hb); clear BK156; clear BK160; clear HB; have BK156 := n0_; have BK160 := n1_; have HB := n2_; clear n0_ n1_ n2_; (try clear hb)))
                   repeat (go_quiet ((go_at_call 21; (with_reducible refine (lunetteref12_Size.calls k5 ((rd_T35 ((rd_T30 l0 x6_1).f1) x9_5).f1.f0) ((rd_T35 ((rd_T30 l0 x6_1).f1) x9_5).f1.f1) ((rd_T35 ((rd_T30 l0 x6_1).f1) x9_5).f1.f2) _ _ ((rd_T35 ((rd_T30 l0 x6_1).f1) x9_5).f1.f3) t161 _ ?side1 ?side2 A26.out).mono ?_); (case side1 => exact Kd.C_below HR159_4.out (by repeat (first | (with_reducible first | exact HB.out | apply below_alloc | apply pw_below_drewN | apply below_drew1 | refine below_set ?_ GE156.out | refine below_set ?_ GE160.out) | exact HB.out))); (case side2 => exact HC159_4.out); rintro e w30 ⟨rfl, hb⟩; have n0_ := Aside0.mk (blk_below (g := gb156) (o := .cells #[.string ((rd_T30 l0 x6_1).f0), .slice (some ad159) ((rd_T30 l0 x6_1).f1).length c155_1] 30 (0, 0)) (by (with_reducible repeat (first | refine blk_drewN ?_ _ | refine blk_drew ?_ | refine blk_alloc ?_ _)); refine blk_far ?_ NB156_160.out _; (with_reducible repeat (first | refine blk_drewN ?_ _ | refine blk_drew ?_ | refine blk_alloc ?_ _)); refine blk_far ?_ NB156_160.out _; (with_reducible repeat (first | refine blk_drewN ?_ _ | refine blk_drew ?_ | refine blk_alloc ?_ _)); refine blk_far ?_ NB156_160.out _; (with_reducible repeat (first | refine blk_drewN ?_ _ | refine blk_drew ?_ | refine blk_alloc ?_ _)); refine blk_far ?_ NB156_160.out _; (with_reducible repeat (first | refine blk_drewN ?_ _ | refine blk_drew ?_ | refine blk_alloc ?_ _)); refine blk_far ?_ NB156_160.out _; (with_reducible repeat (first | refine blk_drewN ?_ _ | refine blk_drew ?_ | refine blk_alloc ?_ _)); exact BK156.out) hb); have n1_ := Aside0.mk (blk_below (g := gb160) (o := .cells #[.string ((rd_T35 ((rd_T30 l0 x6_1).f1) x9_5).f0), .string ((rd_T35 ((rd_T30 l0 x6_1).f1) x9_5).f1.f0), .string ((rd_T35 ((rd_T30 l0 x6_1).f1) x9_5).f1.f1), .string ((rd_T35 ((rd_T30 l0 x6_1).f1) x9_5).f1.f2), .slice A159_4 ((rd_T35 ((rd_T30 l0 x6_1).f1) x9_5).f1.f3).length c159_4] 35 (0, 0)) (by (with_reducible repeat (first | refine blk_drewN ?_ _ | refine blk_drew ?_ | refine blk_alloc ?_ _)); refine blk_put (cs := #[.string ((rd_T35 ((rd_T30 l0 x6_1).f1) x9_5).f0), .string ((rd_T35 ((rd_T30 l0 x6_1).f1) x9_5).f1.f0), .string ((rd_T35 ((rd_T30 l0 x6_1).f1) x9_5).f1.f1), .string ((rd_T35 ((rd_T30 l0 x6_1).f1) x9_5).f1.f2), .slice none 0 0]) ?_ 4 _ rfl; (with_reducible repeat (first | refine blk_drewN ?_ _ | refine blk_drew ?_ | refine blk_alloc ?_ _)); refine blk_put (cs := #[.string ((rd_T35 ((rd_T30 l0 x6_1).f1) x9_5).f0), .string ((rd_T35 ((rd_T30 l0 x6_1).f1) x9_5).f1.f0), .string ((rd_T35 ((rd_T30 l0 x6_1).f1) x9_5).f1.f1), .string (⟨#[]⟩ : ByteArray), .slice none 0 0]) ?_ 3 _ rfl; (with_reducible repeat (first | refine blk_drewN ?_ _ | refine blk_drew ?_ | refine blk_alloc ?_ _)); refine blk_put (cs := #[.string ((rd_T35 ((rd_T30 l0 x6_1).f1) x9_5).f0), .string ((rd_T35 ((rd_T30 l0 x6_1).f1) x9_5).f1.f0), .string (⟨#[]⟩ : ByteArray), .string (⟨#[]⟩ : ByteArray), .slice none 0 0]) ?_ 2 _ rfl; (with_reducible repeat (first | refine blk_drewN ?_ _ | refine blk_drew ?_ | refine blk_alloc ?_ _)); refine blk_put (cs := #[.string ((rd_T35 ((rd_T30 l0 x6_1).f1) x9_5).f0), .string (⟨#[]⟩ : ByteArray), .string (⟨#[]⟩ : ByteArray), .string (⟨#[]⟩ : ByteArray), .slice none 0 0]) ?_ 1 _ rfl; (with_reducible repeat (first | refine blk_drewN ?_ _ | refine blk_drew ?_ | refine blk_alloc ?_ _)); refine blk_put (cs := #[.string (⟨#[]⟩ : ByteArray), .string (⟨#[]⟩ : ByteArray), .string (⟨#[]⟩ : ByteArray), .string (⟨#[]⟩ : ByteArray), .slice none 0 0]) ?_ 0 _ rfl; (with_reducible repeat (first | refine blk_drewN ?_ _ | refine blk_drew ?_ | refine blk_alloc ?_ _)); exact BK160.out) hb); have n2_ := Aside0.mk (below_step (by repeat (first | (with_reducible first | exact HB.out | apply below_alloc | apply pw_below_drewN | apply below_drew1 | refine below_set ?_ GE156.out | refine below_set ?_ GE160.out) | exact HB.out)) hb); clear BK156; clear BK160; clear HB; have BK156 := n0_; have BK160 := n1_; have HB := n2_; clear n0_ n1_ n2_; (try clear hb); (try clear hb2); (try clear hk); (try clear hi))); try go_wp2_with ((go_at_call 21; (with_reducible refine (lunetteref12_Size.calls k5 ((rd_T35 ((rd_T30 l0 x6_1).f1) x9_5).f1.f0) ((rd_T35 ((rd_T30 l0 x6_1).f1) x9_5).f1.f1) ((rd_T35 ((rd_T30 l0 x6_1).f1) x9_5).f1.f2) _ _ ((rd_T35 ((rd_T30 l0 x6_1).f1) x9_5).f1.f3) t161 _ ?side1 ?side2 A26.out).mono ?_); (case side1 => exact Kd.C_below HR159_4.out (by repeat (first | (with_reducible first | exact HB.out | apply below_alloc | apply pw_below_drewN | apply below_drew1 | refine below_set ?_ GE156.out | refine below_set ?_ GE160.out) | exact HB.out))); (case side2 => exact HC159_4.out); rintro e w30 ⟨rfl, hb⟩; have n0_ := Aside0.mk (blk_below (g := gb156) (o := .cells #[.string ((rd_T30 l0 x6_1).f0), .slice (some ad159) ((rd_T30 l0 x6_1).f1).length c155_1] 30 (0, 0)) (by (with_reducible repeat (first | refine blk_drewN ?_ _ | refine blk_drew ?_ | refine blk_alloc ?_ _)); refine blk_far ?_ NB156_160.out _; (with_reducible repeat (first | refine blk_drewN ?_ _ | refine blk_drew ?_ | refine blk_alloc ?_ _)); refine blk_far ?_ NB156_160.out _; (with_reducible repeat (first | refine blk_drewN ?_ _ | refine blk_drew ?_ | refine blk_alloc ?_ _)); refine blk_far ?_ NB156_160.out _; (with_reducible repeat (first | refine blk_drewN ?_ _ | refine blk_drew ?_ | refine blk_alloc ?_ _)); refine blk_far ?_ NB156_160.out _; (with_reducible repeat (first | refine blk_drewN ?_ _ | refine blk_drew ?_ | refine blk_alloc ?_ _)); refine blk_far ?_ NB156_160.out _; (with_reducible repeat (first | refine blk_drewN ?_ _ | refine blk_drew ?_ | refine blk_alloc ?_ _)); exact BK156.out) hb); have n1_ := Aside0.mk (blk_below (g := gb160) (o := .cells #[.string ((rd_T35 ((rd_T30 l0 x6_1).f1) x9_5).f0), .string ((rd_T35 ((rd_T30 l0 x6_1).f1) x9_5).f1.f0), .string ((rd_T35 ((rd_T30 l0 x6_1).f1) x9_5).f1.f1), .string ((rd_T35 ((rd_T30 l0 x6_1).f1) x9_5).f1.f2), .slice A159_4 ((rd_T35 ((rd_T30 l0 x6_1).f1) x9_5).f1.f3).length c159_4] 35 (0, 0)) (by (with_reducible repeat (first | refine blk_drewN ?_ _ | refine blk_drew ?_ | refine blk_alloc ?_ _)); refine blk_put (cs := #[.string ((rd_T35 ((rd_T30 l0 x6_1).f1) x9_5).f0), .string ((rd_T35 ((rd_T30 l0 x6_1).f1) x9_5).f1.f0), .string ((rd_T35 ((rd_T30 l0 x6_1).f1) x9_5).f1.f1), .string ((rd_T35 ((rd_T30 l0 x6_1).f1) x9_5).f1.f2), .slice none 0 0]) ?_ 4 _ rfl; (with_reducible repeat (first | refine blk_drewN ?_ _ | refine blk_drew ?_ | refine blk_alloc ?_ _)); refine blk_put (cs := #[.string ((rd_T35 ((rd_T30 l0 x6_1).f1) x9_5).f0), .string ((rd_T35 ((rd_T30 l0 x6_1).f1) x9_5).f1.f0), .string ((rd_T35 ((rd_T30 l0 x6_1).f1) x9_5).f1.f1), .string (⟨#[]⟩ : ByteArray), .slice none 0 0]) ?_ 3 _ rfl; (with_reducible repeat (first | refine blk_drewN ?_ _ | refine blk_drew ?_ | refine blk_alloc ?_ _)); refine blk_put (cs := #[.string ((rd_T35 ((rd_T30 l0 x6_1).f1) x9_5).f0), .string ((rd_T35 ((rd_T30 l0 x6_1).f1) x9_5).f1.f0), .string (⟨#[]⟩ : ByteArray), .string (⟨#[]⟩ : ByteArray), .slice none 0 0]) ?_ 2 _ rfl; (with_reducible repeat (first | refine blk_drewN ?_ _ | refine blk_drew ?_ | refine blk_alloc ?_ _)); refine blk_put (cs := #[.string ((rd_T35 ((rd_T30 l0 x6_1).f1) x9_5).f0), .string (⟨#[]⟩ : ByteArray), .string (⟨#[]⟩ : ByteArray), .string (⟨#[]⟩ : ByteArray), .slice none 0 0]) ?_ 1 _ rfl; (with_reducible repeat (first | refine blk_drewN ?_ _ | refine blk_drew ?_ | refine blk_alloc ?_ _)); refine blk_put (cs := #[.string (⟨#[]⟩ : ByteArray), .string (⟨#[]⟩ : ByteArray), .string (⟨#[]⟩ : ByteArray), .string (⟨#[]⟩ : ByteArray), .slice none 0 0]) ?_ 0 _ rfl; (with_reducible repeat (first | refine blk_drewN ?_ _ | refine blk_drew ?_ | refine blk_alloc ?_ _)); exact BK160.out) hb); have n2_ := Aside0.mk (below_step (by repeat (first | (with_reducible first | exact HB.out | apply below_alloc | apply pw_below_drewN | apply below_drew1 | refine below_set ?_ GE156.out | refine below_set ?_ GE160.out) | exact HB.out)) hb); clear BK156; clear BK160; clear HB; have BK156 := n0_; have BK160 := n1_; have HB := n2_; clear n0_ n1_ n2_; (try clear hb); (try clear hb2); (try clear hk); (try clear hi))))
                   go_meet
                   case rel => exact ⟨_, (true), (by (rfl)), H', ⟨by have := HK1.out; have := HJ3.out; have := HJ8.out; have := HK4.out; have := HK5.out; (omega)⟩, ⟨by (with_reducible repeat ((refine blk_drew ?_))); exact BK156.out⟩, ⟨by (with_reducible repeat ((refine blk_drew ?_))); exact BK160.out⟩, ⟨by repeat ((with_reducible (exact HB.out)))⟩⟩
                  ·rw [if_neg c27] at H
                   have c27b0 : decide (64 < t161) = false := decide_eq_false c27
                   clear c27
                   ((skip))
                   replace H := Option.bind_eq_some_iff.mp H
                   obtain ⟨t162, A310, H⟩ := H
                   replace H : (lunetteref12_Check.j5 k5 l0 (decide (t162 > 8)) x4_5 x5_5 x6_1 x9_5 ((rd_T30 l0 x6_1).f0) ((rd_T30 l0 x6_1).f1) ((rd_T35 ((rd_T30 l0 x6_1).f1) x9_5).f0) ((rd_T35 ((rd_T30 l0 x6_1).f1) x9_5).f1.f0) ((rd_T35 ((rd_T30 l0 x6_1).f1) x9_5).f1.f1) ((rd_T35 ((rd_T30 l0 x6_1).f1) x9_5).f1.f2) ((rd_T35 ((rd_T30 l0 x6_1).f1) x9_5).f1.f3)) = some r := H
                   have A31 := Aside0.mk A310
                   clear A310
                   have H' := Aside0.mk H
                   clear H
                   have hnb32 := NB160_156.out
                   have hnc32 := NB156_160.out
                   have hcz33_0 : w22.cell? ⟨gb160, 0, none⟩ = some (.string (⟨#[]⟩ : ByteArray)) := (blk_cell BK160.out 0).trans rfl
                   have hcz33_1 : w22.cell? ⟨gb160, 1, none⟩ = some (.string (⟨#[]⟩ : ByteArray)) := (blk_cell BK160.out 1).trans rfl
                   have hcz33_2 : w22.cell? ⟨gb160, 2, none⟩ = some (.string (⟨#[]⟩ : ByteArray)) := (blk_cell BK160.out 2).trans rfl
                   have hcz33_3 : w22.cell? ⟨gb160, 3, none⟩ = some (.string (⟨#[]⟩ : ByteArray)) := (blk_cell BK160.out 3).trans rfl
                   have hcz33_4 : w22.cell? ⟨gb160, 4, none⟩ = some (.slice none 0 0) := (blk_cell BK160.out 4).trans rfl
                   have hfz33_0 := blk_frozen BK160.out 0
                   have hfz33_1 := blk_frozen BK160.out 1
                   have hfz33_2 := blk_frozen BK160.out 2
                   have hfz33_3 := blk_frozen BK160.out 3
                   have hfz33_4 := blk_frozen BK160.out 4
                   go_wp2_with (first | (go_at_call 21; (with_reducible refine (lunetteref12_Size.calls k5 ((rd_T35 ((rd_T30 l0 x6_1).f1) x9_5).f1.f0) ((rd_T35 ((rd_T30 l0 x6_1).f1) x9_5).f1.f1) ((rd_T35 ((rd_T30 l0 x6_1).f1) x9_5).f1.f2) _ _ ((rd_T35 ((rd_T30 l0 x6_1).f1) x9_5).f1.f3) t161 _ ?side1 ?side2 A26.out).mono ?_); (case side1 => exact Kd.C_below HR159_4.out (by repeat ((with_reducible first | exact HB.out | refine below_set ?_ GE160.out)))); (case side2 => exact HC159_4.out); rintro e w34 ⟨rfl, hb⟩; have n0_ := Aside0.mk (blk_below (g := gb156) (o := .cells #[.string ((rd_T30 l0 x6_1).f0), .slice (some ad159) ((rd_T30 l0 x6_1).f1).length c155_1] 30 (0, 0)) (by (with_reducible repeat ((refine blk_drew ?_))); refine blk_far ?_ NB156_160.out _; (with_reducible repeat ((refine blk_drew ?_))); refine blk_far ?_ NB156_160.out _; (with_reducible repeat ((refine blk_drew ?_))); refine blk_far ?_ NB156_160.out _; (with_reducible repeat ((refine blk_drew ?_))); refine blk_far ?_ NB156_160.out _; (with_reducible repeat ((refine blk_drew ?_))); refine blk_far ?_ NB156_160.out _; (with_reducible repeat ((refine blk_drew ?_))); exact BK156.out) hb); have n1_ := Aside0.mk (blk_below (g := gb160) (o := .cells #[.string ((rd_T35 ((rd_T30 l0 x6_1).f1) x9_5).f0), .string ((rd_T35 ((rd_T30 l0 x6_1).f1) x9_5).f1.f0), .string ((rd_T35 ((rd_T30 l0 x6_1).f1) x9_5).f1.f1), .string ((rd_T35 ((rd_T30 l0 x6_1).f1) x9_5).f1.f2), .slice A159_4 ((rd_T35 ((rd_T30 l0 x6_1).f1) x9_5).f1.f3).length c159_4] 35 (0, 0)) (by (with_reducible repeat ((refine blk_drew ?_))); refine blk_put (cs := #[.string ((rd_T35 ((rd_T30 l0 x6_1).f1) x9_5).f0), .string ((rd_T35 ((rd_T30 l0 x6_1).f1) x9_5).f1.f0), .string ((rd_T35 ((rd_T30 l0 x6_1).f1) x9_5).f1.f1), .string ((rd_T35 ((rd_T30 l0 x6_1).f1) x9_5).f1.f2), .slice none 0 0]) ?_ 4 _ rfl; (with_reducible repeat ((refine blk_drew ?_))); refine blk_put (cs := #[.string ((rd_T35 ((rd_T30 l0 x6_1).f1) x9_5).f0), .string ((rd_T35 ((rd_T30 l0 x6_1).f1) x9_5).f1.f0), .string ((rd_T35 ((rd_T30 l0 x6_1).f1) x9_5).f1.f1), .string (⟨#[]⟩ : ByteArray), .slice none 0 0]) ?_ 3 _ rfl; (with_reducible repeat ((refine blk_drew ?_))); refine blk_put (cs := #[.string ((rd_T35 ((rd_T30 l0 x6_1).f1) x9_5).f0), .string ((rd_T35 ((rd_T30 l0 x6_1).f1) x9_5).f1.f0), .string (⟨#[]⟩ : ByteArray), .string (⟨#[]⟩ : ByteArray), .slice none 0 0]) ?_ 2 _ rfl; (with_reducible repeat ((refine blk_drew ?_))); refine blk_put (cs := #[.string ((rd_T35 ((rd_T30 l0 x6_1).f1) x9_5).f0), .string (⟨#[]⟩ : ByteArray), .string (⟨#[]⟩ : ByteArray), .string (⟨#[]⟩ : ByteArray), .slice none 0 0]) ?_ 1 _ rfl; (with_reducible repeat ((refine blk_drew ?_))); refine blk_put (cs := #[.string (⟨#[]⟩ : ByteArray), .string (⟨#[]⟩ : ByteArray), .string (⟨#[]⟩ : ByteArray), .string (⟨#[]⟩ : ByteArray), .slice none 0 0]) ?_ 0 _ rfl; (with_reducible repeat ((refine blk_drew ?_))); exact BK160.out) hb); have n2_ := Aside0.mk (below_step (by repeat ((with_reducible first | exact HB.out | refine below_set ?_ GE160.out))) hb); clear BK156; clear BK160; clear HB; have BK156 := n0_; have BK160 := n1_; have HB := n2_; clear n0_ n1_ n2_; (try clear hb); have hcz35_0 : w34.cell? ⟨gb160, 0, none⟩ = some (.string ((rd_T35 ((rd_T30 l0 x6_1).f1) x9_5).f0)) := (blk_cell BK160.out 0).trans rfl; have hcz35_1 : w34.cell? ⟨gb160, 1, none⟩ = some (.string ((rd_T35 ((rd_T30 l0 x6_1).f1) x9_5).f1.f0)) := (blk_cell BK160.out 1).trans rfl; have hcz35_2 : w34.cell? ⟨gb160, 2, none⟩ = some (.string ((rd_T35 ((rd_T30 l0 x6_1).f1) x9_5).f1.f1)) := (blk_cell BK160.out 2).trans rfl; have hcz35_3 : w34.cell? ⟨gb160, 3, none⟩ = some (.string ((rd_T35 ((rd_T30 l0 x6_1).f1) x9_5).f1.f2)) := (blk_cell BK160.out 3).trans rfl; have hcz35_4 : w34.cell? ⟨gb160, 4, none⟩ = some (.slice A159_4 ((rd_T35 ((rd_T30 l0 x6_1).f1) x9_5).f1.f3).length c159_4) := (blk_cell BK160.out 4).trans rfl; have hfz35_0 := blk_frozen BK160.out 0; have hfz35_1 := blk_frozen BK160.out 1; have hfz35_2 := blk_frozen BK160.out 2; have hfz35_3 := blk_frozen BK160.out 3; have hfz35_4 := blk_frozen BK160.out 4) | (go_at_call 20; (with_reducible refine (lunetteref12_Deep.calls k5 ((rd_T35 ((rd_T30 l0 x6_1).f1) x9_5).f1.f0) ((rd_T35 ((rd_T30 l0 x6_1).f1) x9_5).f1.f1) ((rd_T35 ((rd_T30 l0 x6_1).f1) x9_5).f1.f2) _ _ ((rd_T35 ((rd_T30 l0 x6_1).f1) x9_5).f1.f3) t162 _ ?side1 ?side2 A31.out).mono ?_); (case side1 => repeat ((exact (Kd.C_below HR159_4.out HB.out)))); (case side2 => exact HC159_4.out); rintro e w36 ⟨rfl, hb⟩; have n0_ := Aside0.mk (blk_below (g := gb156) (o := .cells #[.string ((rd_T30 l0 x6_1).f0), .slice (some ad159) ((rd_T30 l0 x6_1).f1).length c155_1] 30 (0, 0)) (by (with_reducible repeat ((refine blk_drew ?_))); exact BK156.out) hb); have n1_ := Aside0.mk (blk_below (g := gb160) (o := .cells #[.string ((rd_T35 ((rd_T30 l0 x6_1).f1) x9_5).f0), .string ((rd_T35 ((rd_T30 l0 x6_1).f1) x9_5).f1.f0), .string ((rd_T35 ((rd_T30 l0 x6_1).f1) x9_5).f1.f1), .string ((rd_T35 ((rd_T30 l0 x6_1).f1) x9_5).f1.f2), .slice A159_4 ((rd_T35 ((rd_T30 l0 x6_1).f1) x9_5).f1.f3).length c159_4] 35 (0, 0)) (by (with_reducible repeat ((refine blk_drew ?_))); exact BK160.out) hb); have n2_ := Aside0.mk (below_step (by repeat ((with_reducible (exact HB.out)))) hb); clear BK156; clear BK160; clear HB; have BK156 := n0_; have BK160 := n1_; have HB := n2_; clear n0_ n1_ n2_; (try clear hb)))
                   repeat (go_quiet ((go_at_call 20; (with_reducible refine (lunetteref12_Deep.calls k5 ((rd_T35 ((rd_T30 l0 x6_1).f1) x9_5).f1.f0) ((rd_T35 ((rd_T30 l0 x6_1).f1) x9_5).f1.f1) ((rd_T35 ((rd_T30 l0 x6_1).f1) x9_5).f1.f2) _ _ ((rd_T35 ((rd_T30 l0 x6_1).f1) x9_5).f1.f3) t162 _ ?side1 ?side2 A31.out).mono ?_); (case side1 => repeat (first | exact (Kd.C_below HR159_4.out HB.out) | (with_reducible refine Kd.C_alloc ?_ _) | (with_reducible refine Kd.C_drewN ?_ _) | (with_reducible refine Kd.C_drew ?_))); (case side2 => exact HC159_4.out); rintro e w36 ⟨rfl, hb⟩; have n0_ := Aside0.mk (blk_below (g := gb156) (o := .cells #[.string ((rd_T30 l0 x6_1).f0), .slice (some ad159) ((rd_T30 l0 x6_1).f1).length c155_1] 30 (0, 0)) (by (with_reducible repeat (first | refine blk_drewN ?_ _ | refine blk_drew ?_ | refine blk_alloc ?_ _)); exact BK156.out) hb); have n1_ := Aside0.mk (blk_below (g := gb160) (o := .cells #[.string ((rd_T35 ((rd_T30 l0 x6_1).f1) x9_5).f0), .string ((rd_T35 ((rd_T30 l0 x6_1).f1) x9_5).f1.f0), .string ((rd_T35 ((rd_T30 l0 x6_1).f1) x9_5).f1.f1), .string ((rd_T35 ((rd_T30 l0 x6_1).f1) x9_5).f1.f2), .slice A159_4 ((rd_T35 ((rd_T30 l0 x6_1).f1) x9_5).f1.f3).length c159_4] 35 (0, 0)) (by (with_reducible repeat (first | refine blk_drewN ?_ _ | refine blk_drew ?_ | refine blk_alloc ?_ _)); exact BK160.out) hb); have n2_ := Aside0.mk (below_step (by repeat (first | (with_reducible first | exact HB.out | apply below_alloc | apply pw_below_drewN | apply below_drew1 | refine below_set ?_ GE156.out | refine below_set ?_ GE160.out) | exact HB.out)) hb); clear BK156; clear BK160; clear HB; have BK156 := n0_; have BK160 := n1_; have HB := n2_; clear n0_ n1_ n2_; (try clear hb); (try clear hb2); (try clear hk); (try clear hi))); try go_wp2_with ((go_at_call 20; (with_reducible refine (lunetteref12_Deep.calls k5 ((rd_T35 ((rd_T30 l0 x6_1).f1) x9_5).f1.f0) ((rd_T35 ((rd_T30 l0 x6_1).f1) x9_5).f1.f1) ((rd_T35 ((rd_T30 l0 x6_1).f1) x9_5).f1.f2) _ _ ((rd_T35 ((rd_T30 l0 x6_1).f1) x9_5).f1.f3) t162 _ ?side1 ?side2 A31.out).mono ?_); (case side1 => repeat (first | exact (Kd.C_below HR159_4.out HB.out) | (with_reducible refine Kd.C_alloc ?_ _) | (with_reducible refine Kd.C_drewN ?_ _) | (with_reducible refine Kd.C_drew ?_))); (case side2 => exact HC159_4.out); rintro e w36 ⟨rfl, hb⟩; have n0_ := Aside0.mk (blk_below (g := gb156) (o := .cells #[.string ((rd_T30 l0 x6_1).f0), .slice (some ad159) ((rd_T30 l0 x6_1).f1).length c155_1] 30 (0, 0)) (by (with_reducible repeat (first | refine blk_drewN ?_ _ | refine blk_drew ?_ | refine blk_alloc ?_ _)); exact BK156.out) hb); have n1_ := Aside0.mk (blk_below (g := gb160) (o := .cells #[.string ((rd_T35 ((rd_T30 l0 x6_1).f1) x9_5).f0), .string ((rd_T35 ((rd_T30 l0 x6_1).f1) x9_5).f1.f0), .string ((rd_T35 ((rd_T30 l0 x6_1).f1) x9_5).f1.f1), .string ((rd_T35 ((rd_T30 l0 x6_1).f1) x9_5).f1.f2), .slice A159_4 ((rd_T35 ((rd_T30 l0 x6_1).f1) x9_5).f1.f3).length c159_4] 35 (0, 0)) (by (with_reducible repeat (first | refine blk_drewN ?_ _ | refine blk_drew ?_ | refine blk_alloc ?_ _)); exact BK160.out) hb); have n2_ := Aside0.mk (below_step (by repeat (first | (with_reducible first | exact HB.out | apply below_alloc | apply pw_below_drewN | apply below_drew1 | refine below_set ?_ GE156.out | refine below_set ?_ GE160.out) | exact HB.out)) hb); clear BK156; clear BK160; clear HB; have BK156 := n0_; have BK160 := n1_; have HB := n2_; clear n0_ n1_ n2_; (try clear hb); (try clear hb2); (try clear hk); (try clear hi))))
                   go_meet
                   case rel => exact ⟨_, (decide (t162 > 8)), (by (rfl)), H', ⟨by have := HK1.out; have := HJ3.out; have := HJ8.out; have := HK4.out; have := HK5.out; (omega)⟩, ⟨by (with_reducible repeat ((refine blk_drew ?_))); exact BK156.out⟩, ⟨by (with_reducible repeat ((refine blk_drew ?_))); exact BK160.out⟩, ⟨by repeat ((with_reducible (exact HB.out)))⟩⟩
                case rest =>
                 clear HC20
                 try clear c18b0
                 try clear c19b0
                 try clear hcz21_0
                 try clear hcz21_1
                 try clear hcz24_0
                 try clear hcz24_1
                 try clear hcz24_2
                 try clear hcz24_3
                 try clear hcz24_4
                 try clear hfz21_0
                 try clear hfz21_1
                 try clear hfz24_0
                 try clear hfz24_1
                 try clear hfz24_2
                 try clear hfz24_3
                 try clear hfz24_4
                 try clear hx159_0
                 try clear hx159_1
                 try clear hx159_2
                 try clear hx159_3
                 try clear hx159_4
                 try clear p159
                 try clear q159
                 obtain ⟨kq, x3_19, rfl, HA, HJ19, BK156, BK160, HB⟩ := hcut
                 cases kq with
                 | zero => exact absurd HA.out (by simp [lunetteref12_Check.j5])
                 | succ kj19 =>
                  have H := HA.out
                  clear HA
                  simp only [lunetteref12_Check.j5] at H
                  have HC37 := Aside0.mk H
                  clear H
                  go_upto_region 17 with (fail)
                  repeat (go_quiet (fail); go_upto_region 17 with (fail))
                  go_cut [4] (fun v4 wc => ∃ (kq : Nat) (x4_36 : Bool), v4 = .bool x4_36 ∧ Aside0 (lunetteref12_Check.j6 kq l0 x3_19 x4_36 x5_5 x6_1 x9_5 ((rd_T30 l0 x6_1).f0) ((rd_T30 l0 x6_1).f1) ((rd_T35 ((rd_T30 l0 x6_1).f1) x9_5).f0) ((rd_T35 ((rd_T30 l0 x6_1).f1) x9_5).f1.f0) ((rd_T35 ((rd_T30 l0 x6_1).f1) x9_5).f1.f1) ((rd_T35 ((rd_T30 l0 x6_1).f1) x9_5).f1.f2) ((rd_T35 ((rd_T30 l0 x6_1).f1) x9_5).f1.f3) = some r) ∧ Aside0 (kq ≤ kj19) ∧ Aside0 (wc.heap[gb156]? = some (.cells #[.string ((rd_T30 l0 x6_1).f0), (.slice (some ad159) ((rd_T30 l0 x6_1).f1).length c155_1)] 30 (0, 0))) ∧ Aside0 (wc.heap[gb160]? = some (.cells #[.string ((rd_T35 ((rd_T30 l0 x6_1).f1) x9_5).f0), .string ((rd_T35 ((rd_T30 l0 x6_1).f1) x9_5).f1.f0), .string ((rd_T35 ((rd_T30 l0 x6_1).f1) x9_5).f1.f1), .string ((rd_T35 ((rd_T30 l0 x6_1).f1) x9_5).f1.f2), (.slice A159_4 ((rd_T35 ((rd_T30 l0 x6_1).f1) x9_5).f1.f3).length c159_4)] 35 (0, 0))) ∧ Aside0 (Below w.heap.size w wc))
                  case first =>
                   have H := HC37.out
                   clear HC37
                   by_cases c38 : x4_5 = true
                   ·subst c38
                    have H1 : ((lunetteref12_form.f kj19 ((rd_T35 ((rd_T30 l0 x6_1).f1) x9_5).f1.f0) ((rd_T35 ((rd_T30 l0 x6_1).f1) x9_5).f1.f1) ((rd_T35 ((rd_T30 l0 x6_1).f1) x9_5).f1.f2) ((rd_T35 ((rd_T30 l0 x6_1).f1) x9_5).f1.f3)).bind fun t163 => (lunetteref12_Check.j6 kj19 l0 x3_19 t163 x5_5 x6_1 x9_5 ((rd_T30 l0 x6_1).f0) ((rd_T30 l0 x6_1).f1) ((rd_T35 ((rd_T30 l0 x6_1).f1) x9_5).f0) ((rd_T35 ((rd_T30 l0 x6_1).f1) x9_5).f1.f0) ((rd_T35 ((rd_T30 l0 x6_1).f1) x9_5).f1.f1) ((rd_T35 ((rd_T30 l0 x6_1).f1) x9_5).f1.f2) ((rd_T35 ((rd_T30 l0 x6_1).f1) x9_5).f1.f3))) = some r := by rw [if_pos rfl] at H; exact H
                    clear H
                    have H := H1
                    clear H1
                    replace H := Option.bind_eq_some_iff.mp H
                    obtain ⟨t163, A390, H⟩ := H
                    replace H : (lunetteref12_Check.j6 kj19 l0 x3_19 t163 x5_5 x6_1 x9_5 ((rd_T30 l0 x6_1).f0) ((rd_T30 l0 x6_1).f1) ((rd_T35 ((rd_T30 l0 x6_1).f1) x9_5).f0) ((rd_T35 ((rd_T30 l0 x6_1).f1) x9_5).f1.f0) ((rd_T35 ((rd_T30 l0 x6_1).f1) x9_5).f1.f1) ((rd_T35 ((rd_T30 l0 x6_1).f1) x9_5).f1.f2) ((rd_T35 ((rd_T30 l0 x6_1).f1) x9_5).f1.f3)) = some r := H
                    have A39 := Aside0.mk A390
                    clear A390
                    have H' := Aside0.mk H
                    clear H
                    have hnb40 := NB160_156.out
                    have hnc40 := NB156_160.out
                    have hcz41_0 : wc.cell? ⟨gb160, 0, none⟩ = some (.string ((rd_T35 ((rd_T30 l0 x6_1).f1) x9_5).f0)) := (blk_cell BK160.out 0).trans rfl
                    have hcz41_1 : wc.cell? ⟨gb160, 1, none⟩ = some (.string ((rd_T35 ((rd_T30 l0 x6_1).f1) x9_5).f1.f0)) := (blk_cell BK160.out 1).trans rfl
                    have hcz41_2 : wc.cell? ⟨gb160, 2, none⟩ = some (.string ((rd_T35 ((rd_T30 l0 x6_1).f1) x9_5).f1.f1)) := (blk_cell BK160.out 2).trans rfl
                    have hcz41_3 : wc.cell? ⟨gb160, 3, none⟩ = some (.string ((rd_T35 ((rd_T30 l0 x6_1).f1) x9_5).f1.f2)) := (blk_cell BK160.out 3).trans rfl
                    have hcz41_4 : wc.cell? ⟨gb160, 4, none⟩ = some (.slice A159_4 ((rd_T35 ((rd_T30 l0 x6_1).f1) x9_5).f1.f3).length c159_4) := (blk_cell BK160.out 4).trans rfl
                    have hfz41_0 := blk_frozen BK160.out 0
                    have hfz41_1 := blk_frozen BK160.out 1
                    have hfz41_2 := blk_frozen BK160.out 2
                    have hfz41_3 := blk_frozen BK160.out 3
                    have hfz41_4 := blk_frozen BK160.out 4
                    go_wp2_with ((go_at_call 32; (with_reducible refine (lunetteref12_form.calls kj19 ((rd_T35 ((rd_T30 l0 x6_1).f1) x9_5).f1.f0) ((rd_T35 ((rd_T30 l0 x6_1).f1) x9_5).f1.f1) ((rd_T35 ((rd_T30 l0 x6_1).f1) x9_5).f1.f2) _ _ ((rd_T35 ((rd_T30 l0 x6_1).f1) x9_5).f1.f3) t163 _ ?side1 ?side2 A39.out).mono ?_); (case side1 => repeat ((exact (Kd.C_below HR159_4.out HB.out)))); (case side2 => exact HC159_4.out); rintro e w42 ⟨rfl, hb⟩; have n0_ := Aside0.mk (blk_below (g := gb156) (o := .cells #[.string ((rd_T30 l0 x6_1).f0), .slice (some ad159) ((rd_T30 l0 x6_1).f1).length c155_1] 30 (0, 0)) (by (with_reducible repeat ((refine blk_drew ?_))); exact BK156.out) hb); have n1_ := Aside0.mk (blk_below (g := gb160) (o := .cells #[.string ((rd_T35 ((rd_T30 l0 x6_1).f1) x9_5).f0), .string ((rd_T35 ((rd_T30 l0 x6_1).f1) x9_5).f1.f0), .string ((rd_T35 ((rd_T30 l0 x6_1).f1) x9_5).f1.f1), .string ((rd_T35 ((rd_T30 l0 x6_1).f1) x9_5).f1.f2), .slice A159_4 ((rd_T35 ((rd_T30 l0 x6_1).f1) x9_5).f1.f3).length c159_4] 35 (0, 0)) (by (with_reducible repeat ((refine blk_drew ?_))); exact BK160.out) hb); have n2_ := Aside0.mk (below_step (by repeat ((with_reducible (exact HB.out)))) hb); clear BK156; clear BK160; clear HB; have BK156 := n0_; have BK160 := n1_; have HB := n2_; clear n0_ n1_ n2_; (try clear hb)))
                    repeat (go_quiet ((go_at_call 32; (with_reducible refine (lunetteref12_form.calls kj19 ((rd_T35 ((rd_T30 l0 x6_1).f1) x9_5).f1.f0) ((rd_T35 ((rd_T30 l0 x6_1).f1) x9_5).f1.f1) ((rd_T35 ((rd_T30 l0 x6_1).f1) x9_5).f1.f2) _ _ ((rd_T35 ((rd_T30 l0 x6_1).f1) x9_5).f1.f3) t163 _ ?side1 ?side2 A39.out).mono ?_); (case side1 => repeat (first | exact (Kd.C_below HR159_4.out HB.out) | (with_reducible refine Kd.C_alloc ?_ _) | (with_reducible refine Kd.C_drewN ?_ _) | (with_reducible refine Kd.C_drew ?_))); (case side2 => exact HC159_4.out); rintro e w42 ⟨rfl, hb⟩; have n0_ := Aside0.mk (blk_below (g := gb156) (o := .cells #[.string ((rd_T30 l0 x6_1).f0), .slice (some ad159) ((rd_T30 l0 x6_1).f1).length c155_1] 30 (0, 0)) (by (with_reducible repeat (first | refine blk_drewN ?_ _ | refine blk_drew ?_ | refine blk_alloc ?_ _)); exact BK156.out) hb); have n1_ := Aside0.mk (blk_below (g := gb160) (o := .cells #[.string ((rd_T35 ((rd_T30 l0 x6_1).f1) x9_5).f0), .string ((rd_T35 ((rd_T30 l0 x6_1).f1) x9_5).f1.f0), .string ((rd_T35 ((rd_T30 l0 x6_1).f1) x9_5).f1.f1), .string ((rd_T35 ((rd_T30 l0 x6_1).f1) x9_5).f1.f2), .slice A159_4 ((rd_T35 ((rd_T30 l0 x6_1).f1) x9_5).f1.f3).length c159_4] 35 (0, 0)) (by (with_reducible repeat (first | refine blk_drewN ?_ _ | refine blk_drew ?_ | refine blk_alloc ?_ _)); exact BK160.out) hb); have n2_ := Aside0.mk (below_step (by repeat (first | (with_reducible first | exact HB.out | apply below_alloc | apply pw_below_drewN | apply below_drew1 | refine below_set ?_ GE156.out | refine below_set ?_ GE160.out) | exact HB.out)) hb); clear BK156; clear BK160; clear HB; have BK156 := n0_; have BK160 := n1_; have HB := n2_; clear n0_ n1_ n2_; (try clear hb); (try clear hb2); (try clear hk); (try clear hi))); try go_wp2_with ((go_at_call 32; (with_reducible refine (lunetteref12_form.calls kj19 ((rd_T35 ((rd_T30 l0 x6_1).f1) x9_5).f1.f0) ((rd_T35 ((rd_T30 l0 x6_1).f1) x9_5).f1.f1) ((rd_T35 ((rd_T30 l0 x6_1).f1) x9_5).f1.f2) _ _ ((rd_T35 ((rd_T30 l0 x6_1).f1) x9_5).f1.f3) t163 _ ?side1 ?side2 A39.out).mono ?_); (case side1 => repeat (first | exact (Kd.C_below HR159_4.out HB.out) | (with_reducible refine Kd.C_alloc ?_ _) | (with_reducible refine Kd.C_drewN ?_ _) | (with_reducible refine Kd.C_drew ?_))); (case side2 => exact HC159_4.out); rintro e w42 ⟨rfl, hb⟩; have n0_ := Aside0.mk (blk_below (g := gb156) (o := .cells #[.string ((rd_T30 l0 x6_1).f0), .slice (some ad159) ((rd_T30 l0 x6_1).f1).length c155_1] 30 (0, 0)) (by (with_reducible repeat (first | refine blk_drewN ?_ _ | refine blk_drew ?_ | refine blk_alloc ?_ _)); exact BK156.out) hb); have n1_ := Aside0.mk (blk_below (g := gb160) (o := .cells #[.string ((rd_T35 ((rd_T30 l0 x6_1).f1) x9_5).f0), .string ((rd_T35 ((rd_T30 l0 x6_1).f1) x9_5).f1.f0), .string ((rd_T35 ((rd_T30 l0 x6_1).f1) x9_5).f1.f1), .string ((rd_T35 ((rd_T30 l0 x6_1).f1) x9_5).f1.f2), .slice A159_4 ((rd_T35 ((rd_T30 l0 x6_1).f1) x9_5).f1.f3).length c159_4] 35 (0, 0)) (by (with_reducible repeat (first | refine blk_drewN ?_ _ | refine blk_drew ?_ | refine blk_alloc ?_ _)); exact BK160.out) hb); have n2_ := Aside0.mk (below_step (by repeat (first | (with_reducible first | exact HB.out | apply below_alloc | apply pw_below_drewN | apply below_drew1 | refine below_set ?_ GE156.out | refine below_set ?_ GE160.out) | exact HB.out)) hb); clear BK156; clear BK160; clear HB; have BK156 := n0_; have BK160 := n1_; have HB := n2_; clear n0_ n1_ n2_; (try clear hb); (try clear hb2); (try clear hk); (try clear hi))))
                    go_meet
                    case rel => exact ⟨_, (t163), (by (rfl)), H', ⟨by have := HK1.out; have := HJ3.out; have := HJ8.out; have := HK4.out; have := HK5.out; have := HJ19.out; (omega)⟩, ⟨by (with_reducible repeat ((refine blk_drew ?_))); exact BK156.out⟩, ⟨by (with_reducible repeat ((refine blk_drew ?_))); exact BK160.out⟩, ⟨by repeat ((with_reducible (exact HB.out)))⟩⟩
                   ·replace c38 := Bool.eq_false_iff.mpr c38
                    subst c38
                    have H1 : (lunetteref12_Check.j6 kj19 l0 x3_19 false x5_5 x6_1 x9_5 ((rd_T30 l0 x6_1).f0) ((rd_T30 l0 x6_1).f1) ((rd_T35 ((rd_T30 l0 x6_1).f1) x9_5).f0) ((rd_T35 ((rd_T30 l0 x6_1).f1) x9_5).f1.f0) ((rd_T35 ((rd_T30 l0 x6_1).f1) x9_5).f1.f1) ((rd_T35 ((rd_T30 l0 x6_1).f1) x9_5).f1.f2) ((rd_T35 ((rd_T30 l0 x6_1).f1) x9_5).f1.f3)) = some r := by rw [if_neg (show ¬ (false = true) by decide)] at H; exact H
                    clear H
                    have H := H1
                    clear H1
                    have H' := Aside0.mk H
                    clear H
                    go_wp2
                    repeat (go_quiet (fail); try go_wp2)
                    go_meet
                    case rel => exact ⟨_, (false), (by (rfl)), H', ⟨by have := HK1.out; have := HJ3.out; have := HJ8.out; have := HK4.out; have := HK5.out; have := HJ19.out; (omega)⟩, ⟨by (with_reducible repeat ((refine blk_drew ?_))); exact BK156.out⟩, ⟨by (with_reducible repeat ((refine blk_drew ?_))); exact BK160.out⟩, ⟨by repeat ((with_reducible (exact HB.out)))⟩⟩
                  case rest =>
                   clear HC37
                   obtain ⟨kq, x4_36, rfl, HA, HJ36, BK156, BK160, HB⟩ := hcut
                   cases kq with
                   | zero => exact absurd HA.out (by simp [lunetteref12_Check.j6])
                   | succ kj36 =>
                    have H := HA.out
                    clear HA
                    simp only [lunetteref12_Check.j6] at H
                    have HC43 := Aside0.mk H
                    clear H
                    go_upto_region 18 with (fail)
                    repeat (go_quiet (fail); go_upto_region 18 with (fail))
                    go_cut [5] (fun v5 wc => ∃ (kq : Nat) (x5_42 : Bool), v5 = .bool x5_42 ∧ Aside0 (lunetteref12_Check.j7 kq l0 x3_19 x4_36 x5_42 x6_1 x9_5 ((rd_T30 l0 x6_1).f0) ((rd_T30 l0 x6_1).f1) ((rd_T35 ((rd_T30 l0 x6_1).f1) x9_5).f0) ((rd_T35 ((rd_T30 l0 x6_1).f1) x9_5).f1.f0) ((rd_T35 ((rd_T30 l0 x6_1).f1) x9_5).f1.f1) ((rd_T35 ((rd_T30 l0 x6_1).f1) x9_5).f1.f2) ((rd_T35 ((rd_T30 l0 x6_1).f1) x9_5).f1.f3) = some r) ∧ Aside0 (kq ≤ kj36) ∧ Aside0 (wc.heap[gb156]? = some (.cells #[.string ((rd_T30 l0 x6_1).f0), (.slice (some ad159) ((rd_T30 l0 x6_1).f1).length c155_1)] 30 (0, 0))) ∧ Aside0 (wc.heap[gb160]? = some (.cells #[.string ((rd_T35 ((rd_T30 l0 x6_1).f1) x9_5).f0), .string ((rd_T35 ((rd_T30 l0 x6_1).f1) x9_5).f1.f0), .string ((rd_T35 ((rd_T30 l0 x6_1).f1) x9_5).f1.f1), .string ((rd_T35 ((rd_T30 l0 x6_1).f1) x9_5).f1.f2), (.slice A159_4 ((rd_T35 ((rd_T30 l0 x6_1).f1) x9_5).f1.f3).length c159_4)] 35 (0, 0))) ∧ Aside0 (Below w.heap.size w wc))
                    case first =>
                     have H := HC43.out
                     clear HC43
                     by_cases c44 : x5_5 = true
                     ·subst c44
                      have H1 : ((lunetteref12_Name.f kj36 ((rd_T35 ((rd_T30 l0 x6_1).f1) x9_5).f0)).bind fun t164 => (if t164 = true then ((lunetteref12_named.f kj36 ((rd_T30 l0 x6_1).f0) ((rd_T30 l0 x6_1).f1) ((rd_T35 ((rd_T30 l0 x6_1).f1) x9_5).f1.f0) ((rd_T35 ((rd_T30 l0 x6_1).f1) x9_5).f1.f1) ((rd_T35 ((rd_T30 l0 x6_1).f1) x9_5).f1.f2) ((rd_T35 ((rd_T30 l0 x6_1).f1) x9_5).f1.f3)).bind fun t165 => (lunetteref12_Check.j7 kj36 l0 x3_19 x4_36 t165 x6_1 x9_5 ((rd_T30 l0 x6_1).f0) ((rd_T30 l0 x6_1).f1) ((rd_T35 ((rd_T30 l0 x6_1).f1) x9_5).f0) ((rd_T35 ((rd_T30 l0 x6_1).f1) x9_5).f1.f0) ((rd_T35 ((rd_T30 l0 x6_1).f1) x9_5).f1.f1) ((rd_T35 ((rd_T30 l0 x6_1).f1) x9_5).f1.f2) ((rd_T35 ((rd_T30 l0 x6_1).f1) x9_5).f1.f3))) else (lunetteref12_Check.j7 kj36 l0 x3_19 x4_36 false x6_1 x9_5 ((rd_T30 l0 x6_1).f0) ((rd_T30 l0 x6_1).f1) ((rd_T35 ((rd_T30 l0 x6_1).f1) x9_5).f0) ((rd_T35 ((rd_T30 l0 x6_1).f1) x9_5).f1.f0) ((rd_T35 ((rd_T30 l0 x6_1).f1) x9_5).f1.f1) ((rd_T35 ((rd_T30 l0 x6_1).f1) x9_5).f1.f2) ((rd_T35 ((rd_T30 l0 x6_1).f1) x9_5).f1.f3)))) = some r := by rw [if_pos rfl] at H; exact H
                      clear H
                      have H := H1
                      clear H1
                      replace H := Option.bind_eq_some_iff.mp H
                      obtain ⟨t164, A450, H⟩ := H
                      replace H : (if t164 = true then ((lunetteref12_named.f kj36 ((rd_T30 l0 x6_1).f0) ((rd_T30 l0 x6_1).f1) ((rd_T35 ((rd_T30 l0 x6_1).f1) x9_5).f1.f0) ((rd_T35 ((rd_T30 l0 x6_1).f1) x9_5).f1.f1) ((rd_T35 ((rd_T30 l0 x6_1).f1) x9_5).f1.f2) ((rd_T35 ((rd_T30 l0 x6_1).f1) x9_5).f1.f3)).bind fun t165 => (lunetteref12_Check.j7 kj36 l0 x3_19 x4_36 t165 x6_1 x9_5 ((rd_T30 l0 x6_1).f0) ((rd_T30 l0 x6_1).f1) ((rd_T35 ((rd_T30 l0 x6_1).f1) x9_5).f0) ((rd_T35 ((rd_T30 l0 x6_1).f1) x9_5).f1.f0) ((rd_T35 ((rd_T30 l0 x6_1).f1) x9_5).f1.f1) ((rd_T35 ((rd_T30 l0 x6_1).f1) x9_5).f1.f2) ((rd_T35 ((rd_T30 l0 x6_1).f1) x9_5).f1.f3))) else (lunetteref12_Check.j7 kj36 l0 x3_19 x4_36 false x6_1 x9_5 ((rd_T30 l0 x6_1).f0) ((rd_T30 l0 x6_1).f1) ((rd_T35 ((rd_T30 l0 x6_1).f1) x9_5).f0) ((rd_T35 ((rd_T30 l0 x6_1).f1) x9_5).f1.f0) ((rd_T35 ((rd_T30 l0 x6_1).f1) x9_5).f1.f1) ((rd_T35 ((rd_T30 l0 x6_1).f1) x9_5).f1.f2) ((rd_T35 ((rd_T30 l0 x6_1).f1) x9_5).f1.f3))) = some r := H
                      have A45 := Aside0.mk A450
                      clear A450
                      by_cases c46 : t164 = true
                      ·subst c46
                       have H1 : ((lunetteref12_named.f kj36 ((rd_T30 l0 x6_1).f0) ((rd_T30 l0 x6_1).f1) ((rd_T35 ((rd_T30 l0 x6_1).f1) x9_5).f1.f0) ((rd_T35 ((rd_T30 l0 x6_1).f1) x9_5).f1.f1) ((rd_T35 ((rd_T30 l0 x6_1).f1) x9_5).f1.f2) ((rd_T35 ((rd_T30 l0 x6_1).f1) x9_5).f1.f3)).bind fun t165 => (lunetteref12_Check.j7 kj36 l0 x3_19 x4_36 t165 x6_1 x9_5 ((rd_T30 l0 x6_1).f0) ((rd_T30 l0 x6_1).f1) ((rd_T35 ((rd_T30 l0 x6_1).f1) x9_5).f0) ((rd_T35 ((rd_T30 l0 x6_1).f1) x9_5).f1.f0) ((rd_T35 ((rd_T30 l0 x6_1).f1) x9_5).f1.f1) ((rd_T35 ((rd_T30 l0 x6_1).f1) x9_5).f1.f2) ((rd_T35 ((rd_T30 l0 x6_1).f1) x9_5).f1.f3))) = some r := by rw [if_pos rfl] at H; exact H
                       clear H
                       have H := H1
                       clear H1
                       replace H := Option.bind_eq_some_iff.mp H
                       obtain ⟨t165, A470, H⟩ := H
                       replace H : (lunetteref12_Check.j7 kj36 l0 x3_19 x4_36 t165 x6_1 x9_5 ((rd_T30 l0 x6_1).f0) ((rd_T30 l0 x6_1).f1) ((rd_T35 ((rd_T30 l0 x6_1).f1) x9_5).f0) ((rd_T35 ((rd_T30 l0 x6_1).f1) x9_5).f1.f0) ((rd_T35 ((rd_T30 l0 x6_1).f1) x9_5).f1.f1) ((rd_T35 ((rd_T30 l0 x6_1).f1) x9_5).f1.f2) ((rd_T35 ((rd_T30 l0 x6_1).f1) x9_5).f1.f3)) = some r := H
                       have A47 := Aside0.mk A470
                       clear A470
                       have H' := Aside0.mk H
                       clear H
                       have hnb48 := NB160_156.out
                       have hnc48 := NB156_160.out
                       have hcz49_0 : wc.cell? ⟨gb160, 0, none⟩ = some (.string ((rd_T35 ((rd_T30 l0 x6_1).f1) x9_5).f0)) := (blk_cell BK160.out 0).trans rfl
                       have hcz49_1 : wc.cell? ⟨gb160, 1, none⟩ = some (.string ((rd_T35 ((rd_T30 l0 x6_1).f1) x9_5).f1.f0)) := (blk_cell BK160.out 1).trans rfl
                       have hcz49_2 : wc.cell? ⟨gb160, 2, none⟩ = some (.string ((rd_T35 ((rd_T30 l0 x6_1).f1) x9_5).f1.f1)) := (blk_cell BK160.out 2).trans rfl
                       have hcz49_3 : wc.cell? ⟨gb160, 3, none⟩ = some (.string ((rd_T35 ((rd_T30 l0 x6_1).f1) x9_5).f1.f2)) := (blk_cell BK160.out 3).trans rfl
                       have hcz49_4 : wc.cell? ⟨gb160, 4, none⟩ = some (.slice A159_4 ((rd_T35 ((rd_T30 l0 x6_1).f1) x9_5).f1.f3).length c159_4) := (blk_cell BK160.out 4).trans rfl
                       have hfz49_0 := blk_frozen BK160.out 0
                       have hfz49_1 := blk_frozen BK160.out 1
                       have hfz49_2 := blk_frozen BK160.out 2
                       have hfz49_3 := blk_frozen BK160.out 3
                       have hfz49_4 := blk_frozen BK160.out 4
                       go_wp2_with (first | (go_at_call 31; (with_reducible refine (lunetteref12_Name.calls kj36 ((rd_T35 ((rd_T30 l0 x6_1).f1) x9_5).f0) true _ A45.out).mono ?_); rintro e w' ⟨rfl, ⟨nd, rfl⟩⟩; (try (exact ⟨rfl, _, World.drewN_drewN _ _ _⟩)); have hcz50_0 : wc.cell? ⟨gb156, 0, none⟩ = some (.string ((rd_T30 l0 x6_1).f0)) := (blk_cell BK156.out 0).trans rfl; have hcz50_1 : wc.cell? ⟨gb156, 1, none⟩ = some (.slice (some ad159) ((rd_T30 l0 x6_1).f1).length c155_1) := (blk_cell BK156.out 1).trans rfl; have hfz50_0 := blk_frozen BK156.out 0; have hfz50_1 := blk_frozen BK156.out 1) | (go_at_call 33; (with_reducible refine (lunetteref12_named.calls kj36 ((rd_T30 l0 x6_1).f0) _ _ ((rd_T30 l0 x6_1).f1) ((rd_T35 ((rd_T30 l0 x6_1).f1) x9_5).f1.f0) ((rd_T35 ((rd_T30 l0 x6_1).f1) x9_5).f1.f1) ((rd_T35 ((rd_T30 l0 x6_1).f1) x9_5).f1.f2) _ _ ((rd_T35 ((rd_T30 l0 x6_1).f1) x9_5).f1.f3) t165 _ ?side1 ?side2 ?side3 ?side4 A47.out).mono ?_); (case side1 => repeat ((exact (Kd.C_below HR155_1.out (by repeat ((with_reducible first | exact HB.out | apply pw_below_drewN))))))); (case side2 => exact HC155_1.out); (case side3 => repeat ((exact (Kd.C_below HR159_4.out (by repeat ((with_reducible first | exact HB.out | apply pw_below_drewN))))))); (case side4 => exact HC159_4.out); rintro e w51 ⟨rfl, hb⟩; have n0_ := Aside0.mk (blk_below (g := gb156) (o := .cells #[.string ((rd_T30 l0 x6_1).f0), .slice (some ad159) ((rd_T30 l0 x6_1).f1).length c155_1] 30 (0, 0)) (by (with_reducible repeat ((refine blk_drewN ?_ _))); exact BK156.out) hb); have n1_ := Aside0.mk (blk_below (g := gb160) (o := .cells #[.string ((rd_T35 ((rd_T30 l0 x6_1).f1) x9_5).f0), .string ((rd_T35 ((rd_T30 l0 x6_1).f1) x9_5).f1.f0), .string ((rd_T35 ((rd_T30 l0 x6_1).f1) x9_5).f1.f1), .string ((rd_T35 ((rd_T30 l0 x6_1).f1) x9_5).f1.f2), .slice A159_4 ((rd_T35 ((rd_T30 l0 x6_1).f1) x9_5).f1.f3).length c159_4] 35 (0, 0)) (by (with_reducible repeat ((refine blk_drewN ?_ _))); exact BK160.out) hb); have n2_ := Aside0.mk (below_step (by repeat ((with_reducible first | exact HB.out | apply pw_below_drewN))) hb); clear BK156; clear BK160; clear HB; have BK156 := n0_; have BK160 := n1_; have HB := n2_; clear n0_ n1_ n2_; (try clear hb)))
                       repeat (go_quiet ((go_at_call 31; (with_reducible refine (lunetteref12_Name.calls kj36 ((rd_T35 ((rd_T30 l0 x6_1).f1) x9_5).f0) true _ A45.out).mono ?_); rintro e w' ⟨rfl, ⟨nd, rfl⟩⟩; (try first | exact ⟨rfl, _, World.drewN_drewN _ _ _⟩ | exact ⟨rfl, _, Eq.trans (World.drewN_drewN _ _ _) (congrArg (World.drewN _) (Nat.add_assoc _ _ _))⟩); have hcz50_0 : wc.cell? ⟨gb156, 0, none⟩ = some (.string ((rd_T30 l0 x6_1).f0)) := (blk_cell BK156.out 0).trans rfl; have hcz50_1 : wc.cell? ⟨gb156, 1, none⟩ = some (.slice (some ad159) ((rd_T30 l0 x6_1).f1).length c155_1) := (blk_cell BK156.out 1).trans rfl; have hfz50_0 := blk_frozen BK156.out 0; have hfz50_1 := blk_frozen BK156.out 1)); try go_wp2_with ((go_at_call 31; (with_reducible refine (lunetteref12_Name.calls kj36 ((rd_T35 ((rd_T30 l0 x6_1).f1) x9_5).f0) true _ A45.out).mono ?_); rintro e w' ⟨rfl, ⟨nd, rfl⟩⟩; (try first | exact ⟨rfl, _, World.drewN_drewN _ _ _⟩ | exact ⟨rfl, _, Eq.trans (World.drewN_drewN _ _ _) (congrArg (World.drewN _) (Nat.add_assoc _ _ _))⟩); have hcz50_0 : wc.cell? ⟨gb156, 0, none⟩ = some (.string ((rd_T30 l0 x6_1).f0)) := (blk_cell BK156.out 0).trans rfl; have hcz50_1 : wc.cell? ⟨gb156, 1, none⟩ = some (.slice (some ad159) ((rd_T30 l0 x6_1).f1).length c155_1) := (blk_cell BK156.out 1).trans rfl; have hfz50_0 := blk_frozen BK156.out 0; have hfz50_1 := blk_frozen BK156.out 1)))
                       go_meet
                       case rel => exact ⟨_, (t165), (by (rfl)), H', ⟨by have := HK1.out; have := HJ3.out; have := HJ8.out; have := HK4.out; have := HK5.out; have := HJ19.out; have := HJ36.out; (omega)⟩, ⟨by (with_reducible repeat ((refine blk_drew ?_))); exact BK156.out⟩, ⟨by (with_reducible repeat ((refine blk_drew ?_))); exact BK160.out⟩, ⟨by repeat ((with_reducible (exact HB.out)))⟩⟩
                      ·replace c46 := Bool.eq_false_iff.mpr c46
                       subst c46
                       have H1 : (lunetteref12_Check.j7 kj36 l0 x3_19 x4_36 false x6_1 x9_5 ((rd_T30 l0 x6_1).f0) ((rd_T30 l0 x6_1).f1) ((rd_T35 ((rd_T30 l0 x6_1).f1) x9_5).f0) ((rd_T35 ((rd_T30 l0 x6_1).f1) x9_5).f1.f0) ((rd_T35 ((rd_T30 l0 x6_1).f1) x9_5).f1.f1) ((rd_T35 ((rd_T30 l0 x6_1).f1) x9_5).f1.f2) ((rd_T35 ((rd_T30 l0 x6_1).f1) x9_5).f1.f3)) = some r := by rw [if_neg (show ¬ (false = true) by decide)] at H; exact H
                       clear H
                       have H := H1
                       clear H1
                       have H' := Aside0.mk H
                       clear H
                       have hnb52 := NB160_156.out
                       have hnc52 := NB156_160.out
                       have hcz53_0 : wc.cell? ⟨gb160, 0, none⟩ = some (.string ((rd_T35 ((rd_T30 l0 x6_1).f1) x9_5).f0)) := (blk_cell BK160.out 0).trans rfl
                       have hcz53_1 : wc.cell? ⟨gb160, 1, none⟩ = some (.string ((rd_T35 ((rd_T30 l0 x6_1).f1) x9_5).f1.f0)) := (blk_cell BK160.out 1).trans rfl
                       have hcz53_2 : wc.cell? ⟨gb160, 2, none⟩ = some (.string ((rd_T35 ((rd_T30 l0 x6_1).f1) x9_5).f1.f1)) := (blk_cell BK160.out 2).trans rfl
                       have hcz53_3 : wc.cell? ⟨gb160, 3, none⟩ = some (.string ((rd_T35 ((rd_T30 l0 x6_1).f1) x9_5).f1.f2)) := (blk_cell BK160.out 3).trans rfl
                       have hcz53_4 : wc.cell? ⟨gb160, 4, none⟩ = some (.slice A159_4 ((rd_T35 ((rd_T30 l0 x6_1).f1) x9_5).f1.f3).length c159_4) := (blk_cell BK160.out 4).trans rfl
                       have hfz53_0 := blk_frozen BK160.out 0
                       have hfz53_1 := blk_frozen BK160.out 1
                       have hfz53_2 := blk_frozen BK160.out 2
                       have hfz53_3 := blk_frozen BK160.out 3
                       have hfz53_4 := blk_frozen BK160.out 4
                       go_wp2_with ((go_at_call 31; (with_reducible refine (lunetteref12_Name.calls kj36 ((rd_T35 ((rd_T30 l0 x6_1).f1) x9_5).f0) false _ A45.out).mono ?_); rintro e w' ⟨rfl, ⟨nd, rfl⟩⟩; (try (exact ⟨rfl, _, World.drewN_drewN _ _ _⟩))))
                       repeat (go_quiet ((go_at_call 31; (with_reducible refine (lunetteref12_Name.calls kj36 ((rd_T35 ((rd_T30 l0 x6_1).f1) x9_5).f0) false _ A45.out).mono ?_); rintro e w' ⟨rfl, ⟨nd, rfl⟩⟩; (try first | exact ⟨rfl, _, World.drewN_drewN _ _ _⟩ | exact ⟨rfl, _, Eq.trans (World.drewN_drewN _ _ _) (congrArg (World.drewN _) (Nat.add_assoc _ _ _))⟩))); try go_wp2_with ((go_at_call 31; (with_reducible refine (lunetteref12_Name.calls kj36 ((rd_T35 ((rd_T30 l0 x6_1).f1) x9_5).f0) false _ A45.out).mono ?_); rintro e w' ⟨rfl, ⟨nd, rfl⟩⟩; (try first | exact ⟨rfl, _, World.drewN_drewN _ _ _⟩ | exact ⟨rfl, _, Eq.trans (World.drewN_drewN _ _ _) (congrArg (World.drewN _) (Nat.add_assoc _ _ _))⟩))))
                       go_meet
                       case rel => exact ⟨_, (false), (by (rfl)), H', ⟨by have := HK1.out; have := HJ3.out; have := HJ8.out; have := HK4.out; have := HK5.out; have := HJ19.out; have := HJ36.out; (omega)⟩, ⟨by (with_reducible repeat ((refine blk_drewN ?_ _))); exact BK156.out⟩, ⟨by (with_reducible repeat ((refine blk_drewN ?_ _))); exact BK160.out⟩, ⟨by repeat ((with_reducible first | exact HB.out | apply pw_below_drewN))⟩⟩
                     ·replace c44 := Bool.eq_false_iff.mpr c44
                      subst c44
                      have H1 : (lunetteref12_Check.j7 kj36 l0 x3_19 x4_36 false x6_1 x9_5 ((rd_T30 l0 x6_1).f0) ((rd_T30 l0 x6_1).f1) ((rd_T35 ((rd_T30 l0 x6_1).f1) x9_5).f0) ((rd_T35 ((rd_T30 l0 x6_1).f1) x9_5).f1.f0) ((rd_T35 ((rd_T30 l0 x6_1).f1) x9_5).f1.f1) ((rd_T35 ((rd_T30 l0 x6_1).f1) x9_5).f1.f2) ((rd_T35 ((rd_T30 l0 x6_1).f1) x9_5).f1.f3)) = some r := by rw [if_neg (show ¬ (false = true) by decide)] at H; exact H
                      clear H
                      have H := H1
                      clear H1
                      have H' := Aside0.mk H
                      clear H
                      go_wp2
                      repeat (go_quiet (fail); try go_wp2)
                      go_meet
                      case rel => exact ⟨_, (false), (by (rfl)), H', ⟨by have := HK1.out; have := HJ3.out; have := HJ8.out; have := HK4.out; have := HK5.out; have := HJ19.out; have := HJ36.out; (omega)⟩, ⟨by (with_reducible repeat ((refine blk_drew ?_))); exact BK156.out⟩, ⟨by (with_reducible repeat ((refine blk_drew ?_))); exact BK160.out⟩, ⟨by repeat ((with_reducible (exact HB.out)))⟩⟩
                    case rest =>
                     clear HC43
                     obtain ⟨kq, x5_42, rfl, HA, HJ42, BK156, BK160, HB⟩ := hcut
                     cases kq with
                     | zero => exact absurd HA.out (by simp [lunetteref12_Check.j7])
                     | succ kj42 =>
                      have H := HA.out
                      clear HA
                      simp only [lunetteref12_Check.j7] at H
                      have H' := Aside0.mk H
                      clear H
                      go_wp2
                      repeat (go_quiet (fail); try go_wp2)
                      go_loopg [5, 11] kj42 (fun kq v5 v11 w' => ∃ (x5_9 : Bool) (x11_9 : Int), v5 = .bool x5_9 ∧ v11 = .int .i64 x11_9 ∧ Aside0 (lunetteref12_Check.l3 kq l0 x3_19 x4_36 x5_9 x6_1 x9_5 x11_9 ((rd_T30 l0 x6_1).f0) ((rd_T30 l0 x6_1).f1) ((rd_T35 ((rd_T30 l0 x6_1).f1) x9_5).f0) ((rd_T35 ((rd_T30 l0 x6_1).f1) x9_5).f1.f0) ((rd_T35 ((rd_T30 l0 x6_1).f1) x9_5).f1.f1) ((rd_T35 ((rd_T30 l0 x6_1).f1) x9_5).f1.f2) ((rd_T35 ((rd_T30 l0 x6_1).f1) x9_5).f1.f3) = some r) ∧ Aside0 (kq ≤ kj42) ∧ Aside0 (w'.heap[gb156]? = some (.cells #[.string ((rd_T30 l0 x6_1).f0), (.slice (some ad159) ((rd_T30 l0 x6_1).f1).length c155_1)] 30 (0, 0))) ∧ Aside0 (w'.heap[gb160]? = some (.cells #[.string ((rd_T35 ((rd_T30 l0 x6_1).f1) x9_5).f0), .string ((rd_T35 ((rd_T30 l0 x6_1).f1) x9_5).f1.f0), .string ((rd_T35 ((rd_T30 l0 x6_1).f1) x9_5).f1.f1), .string ((rd_T35 ((rd_T30 l0 x6_1).f1) x9_5).f1.f2), (.slice A159_4 ((rd_T35 ((rd_T30 l0 x6_1).f1) x9_5).f1.f3).length c159_4)] 35 (0, 0))) ∧ Aside0 (Below w.heap.size w w'))
                      case atStart => exact ⟨(x5_42), (0), (by (rfl)), (by (rfl)), H', ⟨Nat.le_refl _⟩, ⟨by (with_reducible repeat ((refine blk_drew ?_))); exact BK156.out⟩, ⟨by (with_reducible repeat ((refine blk_drew ?_))); exact BK160.out⟩, ⟨by repeat ((with_reducible (exact HB.out)))⟩⟩
                      case round =>
                       clear H'
                       obtain ⟨x5_9, x11_9, rfl, rfl, HA, HK9, BK156, BK160, HB⟩ := hrel
                       cases gk with
                       | zero => exact absurd HA.out (by simp [lunetteref12_Check.l3])
                       | succ k9 =>
                        have H := HA.out
                        clear HA
                        simp only [lunetteref12_Check.l3] at H
                        by_cases c54 : x11_9 < x9_5
                        ·rw [if_pos c54] at H
                         have c54b0 : decide (x11_9 < x9_5) = true := decide_eq_true c54
                         clear c54
                         by_cases c55 : x5_9 = true
                         ·subst c55
                          have H1 : (if 0 ≤ x11_9 then (if x11_9 < (((rd_T30 l0 x6_1).f1).length : Int) then (lunetteref12_Check.l3 k9 l0 x3_19 x4_36 (((rd_T35 ((rd_T30 l0 x6_1).f1) x11_9).f0).toList != ((rd_T35 ((rd_T30 l0 x6_1).f1) x9_5).f0).toList) x6_1 x9_5 (wrap64 (x11_9 + 1)) ((rd_T30 l0 x6_1).f0) ((rd_T30 l0 x6_1).f1) ((rd_T35 ((rd_T30 l0 x6_1).f1) x9_5).f0) ((rd_T35 ((rd_T30 l0 x6_1).f1) x9_5).f1.f0) ((rd_T35 ((rd_T30 l0 x6_1).f1) x9_5).f1.f1) ((rd_T35 ((rd_T30 l0 x6_1).f1) x9_5).f1.f2) ((rd_T35 ((rd_T30 l0 x6_1).f1) x9_5).f1.f3)) else (none)) else (none)) = some r := by rw [if_pos rfl] at H; exact H
                          clear H
                          have H := H1
                          clear H1
                          by_cases c56 : 0 ≤ x11_9
                          ·rw [if_pos c56] at H
                           have c56b0 : decide (0 ≤ x11_9) = true := decide_eq_true c56
                           clear c56
                           by_cases c57 : x11_9 < (((rd_T30 l0 x6_1).f1).length : Int)
                           ·rw [if_pos c57] at H
                            have c57b0 : decide (x11_9 < (((rd_T30 l0 x6_1).f1).length : Int)) = true := decide_eq_true c57
                            clear c57
                            have H' := Aside0.mk H
                            clear H
                            have hnb58 := NB156_160.out
                            have hnc58 := NB160_156.out
                            have hcz59_0 : wr.cell? ⟨gb156, 0, none⟩ = some (.string ((rd_T30 l0 x6_1).f0)) := (blk_cell BK156.out 0).trans rfl
                            have hcz59_1 : wr.cell? ⟨gb156, 1, none⟩ = some (.slice (some ad159) ((rd_T30 l0 x6_1).f1).length c155_1) := (blk_cell BK156.out 1).trans rfl
                            have hfz59_0 := blk_frozen BK156.out 0
                            have hfz59_1 := blk_frozen BK156.out 1
                            have p166 : 0 ≤ (x11_9 : Int) := of_decide_eq_true (by (with_reducible assumption))
                            have q166 : x11_9 < (((rd_T30 l0 x6_1).f1).length : Int) := of_decide_eq_true (by (with_reducible assumption))
                            obtain ⟨ad166, A166_4, c166_4, e166, hx166_0, hx166_1, hx166_2, hx166_3, hx166_4, hl166_4, hi166_4⟩ := at_T35 HR155_1.out x11_9 p166 q166
                            obtain rfl : ad159 = ad166 := (by injection e166)
                            replace hx166_0 := (HB.out.cell (World.block_lt_of_cell? w _ hx166_0)).trans hx166_0
                            replace hx166_1 := (HB.out.cell (World.block_lt_of_cell? w _ hx166_1)).trans hx166_1
                            replace hx166_2 := (HB.out.cell (World.block_lt_of_cell? w _ hx166_2)).trans hx166_2
                            replace hx166_3 := (HB.out.cell (World.block_lt_of_cell? w _ hx166_3)).trans hx166_3
                            replace hx166_4 := (HB.out.cell (World.block_lt_of_cell? w _ hx166_4)).trans hx166_4
                            have HR166_4 := Aside0.mk hi166_4
                            have HC166_4 := Aside0.mk hl166_4
                            clear hi166_4 hl166_4
                            replace p166 := eq_true p166
                            replace q166 := eq_true q166
                            have hcz60_0 : wr.cell? ⟨gb160, 0, none⟩ = some (.string ((rd_T35 ((rd_T30 l0 x6_1).f1) x9_5).f0)) := (blk_cell BK160.out 0).trans rfl
                            have hcz60_1 : wr.cell? ⟨gb160, 1, none⟩ = some (.string ((rd_T35 ((rd_T30 l0 x6_1).f1) x9_5).f1.f0)) := (blk_cell BK160.out 1).trans rfl
                            have hcz60_2 : wr.cell? ⟨gb160, 2, none⟩ = some (.string ((rd_T35 ((rd_T30 l0 x6_1).f1) x9_5).f1.f1)) := (blk_cell BK160.out 2).trans rfl
                            have hcz60_3 : wr.cell? ⟨gb160, 3, none⟩ = some (.string ((rd_T35 ((rd_T30 l0 x6_1).f1) x9_5).f1.f2)) := (blk_cell BK160.out 3).trans rfl
                            have hcz60_4 : wr.cell? ⟨gb160, 4, none⟩ = some (.slice A159_4 ((rd_T35 ((rd_T30 l0 x6_1).f1) x9_5).f1.f3).length c159_4) := (blk_cell BK160.out 4).trans rfl
                            have hfz60_0 := blk_frozen BK160.out 0
                            have hfz60_1 := blk_frozen BK160.out 1
                            have hfz60_2 := blk_frozen BK160.out 2
                            have hfz60_3 := blk_frozen BK160.out 3
                            have hfz60_4 := blk_frozen BK160.out 4
                            go_wp2
                            repeat (go_quiet (fail); try go_wp2)
                            go_roundg k9
                            case measure => have := HK1.out; have := HJ3.out; have := HJ8.out; have := HK4.out; have := HK5.out; have := HJ19.out; have := HJ36.out; have := HJ42.out; have := HK9.out; omega
                            case rel => exact ⟨((((rd_T35 ((rd_T30 l0 x6_1).f1) x11_9).f0).toList != ((rd_T35 ((rd_T30 l0 x6_1).f1) x9_5).f0).toList)), (wrap64 (x11_9 + 1)), (by (rfl)), (by (rfl)), H', ⟨by have := HK1.out; have := HJ3.out; have := HJ8.out; have := HK4.out; have := HK5.out; have := HJ19.out; have := HJ36.out; have := HJ42.out; have := HK9.out; omega⟩, ⟨by (with_reducible repeat ((refine blk_drewN ?_ _))); exact BK156.out⟩, ⟨by (with_reducible repeat ((refine blk_drewN ?_ _))); exact BK160.out⟩, ⟨by repeat ((with_reducible first | exact HB.out | apply pw_below_drewN))⟩⟩
                           ·rw [if_neg c57] at H
                            exact absurd H (by simp)
                          ·rw [if_neg c56] at H
                           exact absurd H (by simp)
                         ·replace c55 := Bool.eq_false_iff.mpr c55
                          subst c55
                          have H1 : (lunetteref12_Check.l3 k9 l0 x3_19 x4_36 false x6_1 x9_5 (wrap64 (x11_9 + 1)) ((rd_T30 l0 x6_1).f0) ((rd_T30 l0 x6_1).f1) ((rd_T35 ((rd_T30 l0 x6_1).f1) x9_5).f0) ((rd_T35 ((rd_T30 l0 x6_1).f1) x9_5).f1.f0) ((rd_T35 ((rd_T30 l0 x6_1).f1) x9_5).f1.f1) ((rd_T35 ((rd_T30 l0 x6_1).f1) x9_5).f1.f2) ((rd_T35 ((rd_T30 l0 x6_1).f1) x9_5).f1.f3)) = some r := by rw [if_neg (show ¬ (false = true) by decide)] at H; exact H
                          clear H
                          have H := H1
                          clear H1
                          have H' := Aside0.mk H
                          clear H
                          go_wp2
                          repeat (go_quiet (fail); try go_wp2)
                          go_roundg k9
                          case measure => have := HK1.out; have := HJ3.out; have := HJ8.out; have := HK4.out; have := HK5.out; have := HJ19.out; have := HJ36.out; have := HJ42.out; have := HK9.out; omega
                          case rel => exact ⟨(false), (wrap64 (x11_9 + 1)), (by (rfl)), (by (rfl)), H', ⟨by have := HK1.out; have := HJ3.out; have := HJ8.out; have := HK4.out; have := HK5.out; have := HJ19.out; have := HJ36.out; have := HJ42.out; have := HK9.out; omega⟩, ⟨by (with_reducible repeat ((refine blk_drewN ?_ _))); exact BK156.out⟩, ⟨by (with_reducible repeat ((refine blk_drewN ?_ _))); exact BK160.out⟩, ⟨by repeat ((with_reducible first | exact HB.out | apply pw_below_drewN))⟩⟩
                        ·rw [if_neg c54] at H
                         have c54b0 : decide (x11_9 < x9_5) = false := decide_eq_false c54
                         clear c54
                         have H' := Aside0.mk H
                         clear H
                         go_wp2
                         repeat (go_quiet (fail); try go_wp2)
                         go_roundg k9
                         case measure => have := HK1.out; have := HJ3.out; have := HJ8.out; have := HK4.out; have := HK5.out; have := HJ19.out; have := HJ36.out; have := HJ42.out; have := HK9.out; omega
                         case rel => exact ⟨(x3_19), (x4_36), (x5_9), (wrap64 (x9_5 + 1)), (by (rfl)), (by (rfl)), (by (rfl)), (by (rfl)), H', ⟨by have := HK1.out; have := HJ3.out; have := HJ8.out; have := HK4.out; have := HK5.out; have := HJ19.out; have := HJ36.out; have := HJ42.out; have := HK9.out; omega⟩, ⟨by (with_reducible repeat ((refine blk_drew ?_))); exact BK156.out⟩, ⟨by repeat ((with_reducible (exact HB.out)))⟩⟩
               ·rw [if_neg c19] at H
                exact absurd H (by simp)
              ·rw [if_neg c18] at H
               have c18b0 : decide (x9_5 < (((rd_T30 l0 x6_1).f1).length : Int)) = false := decide_eq_false c18
               clear c18
               have H' := Aside0.mk H
               clear H
               have hcz61_0 : wr.cell? ⟨gb156, 0, none⟩ = some (.string ((rd_T30 l0 x6_1).f0)) := (blk_cell BK156.out 0).trans rfl
               have hcz61_1 : wr.cell? ⟨gb156, 1, none⟩ = some (.slice A155_1 ((rd_T30 l0 x6_1).f1).length c155_1) := (blk_cell BK156.out 1).trans rfl
               have hfz61_0 := blk_frozen BK156.out 0
               have hfz61_1 := blk_frozen BK156.out 1
               go_wp2
               repeat (go_quiet (fail); try go_wp2)
               go_roundg k5
               case measure => have := HK1.out; have := HJ3.out; have := HJ8.out; have := HK4.out; have := HK5.out; omega
               case rel => exact ⟨(x3_5), (x4_5), (x5_5), (wrap64 (x6_1 + 1)), (by (rfl)), (by (rfl)), (by (rfl)), (by (rfl)), H', ⟨by have := HK1.out; have := HJ3.out; have := HJ8.out; have := HK4.out; have := HK5.out; omega⟩, ⟨by repeat ((with_reducible (exact HB.out)))⟩⟩
    ·rw [if_neg c3] at H
     exact absurd H (by simp)
   ·rw [if_neg c2] at H
    have c2b0 : decide (x6_1 < (l0.length : Int)) = false := decide_eq_false c2
    clear c2
    by_cases c62 : x3_1 = true
    ·subst c62
     have H1 : (some 122) = some r := by rw [if_pos rfl] at H; exact H
     clear H
     have H := H1
     clear H1
     obtain rfl := Option.some.inj H
     go_wp2
     repeat (go_quiet (fail); try go_wp2)
     go_ret
     exact ⟨by (rfl), by repeat ((with_reducible (exact HB.out)))⟩
    ·replace c62 := Bool.eq_false_iff.mpr c62
     subst c62
     have H1 : (if x4_1 = true then (if x5_1 = true then (some 0) else (some 121)) else (some 120)) = some r := by rw [if_neg (show ¬ (false = true) by decide)] at H; exact H
     clear H
     have H := H1
     clear H1
     by_cases c63 : x4_1 = true
     ·subst c63
      have H1 : (if x5_1 = true then (some 0) else (some 121)) = some r := by rw [if_pos rfl] at H; exact H
      clear H
      have H := H1
      clear H1
      by_cases c64 : x5_1 = true
      ·subst c64
       have H1 : (some 0) = some r := by rw [if_pos rfl] at H; exact H
       clear H
       have H := H1
       clear H1
       obtain rfl := Option.some.inj H
       go_wp2
       repeat (go_quiet (fail); try go_wp2)
       go_ret
       exact ⟨by (rfl), by repeat ((with_reducible (exact HB.out)))⟩
      ·replace c64 := Bool.eq_false_iff.mpr c64
       subst c64
       have H1 : (some 121) = some r := by rw [if_neg (show ¬ (false = true) by decide)] at H; exact H
       clear H
       have H := H1
       clear H1
       obtain rfl := Option.some.inj H
       go_wp2
       repeat (go_quiet (fail); try go_wp2)
       go_ret
       exact ⟨by (rfl), by repeat ((with_reducible (exact HB.out)))⟩
     ·replace c63 := Bool.eq_false_iff.mpr c63
      subst c63
      have H1 : (some 120) = some r := by rw [if_neg (show ¬ (false = true) by decide)] at H; exact H
      clear H
      have H := H1
      clear H1
      obtain rfl := Option.some.inj H
      go_wp2
      repeat (go_quiet (fail); try go_wp2)
      go_ret
      exact ⟨by (rfl), by repeat ((with_reducible (exact HB.out)))⟩
end Go.Proofs.YtjcipbdocbomjaaGreatDoor.K
