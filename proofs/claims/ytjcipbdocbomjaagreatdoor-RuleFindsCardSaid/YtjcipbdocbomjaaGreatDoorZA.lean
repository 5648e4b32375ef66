/- Texts of this claim's proof, put together: P0 P1 P2 P3 QA QB; conditions: as each states. -/
import Derived.Test.YtjcipbdocbomjaaGreatDoorProg
import Derived.Below
import Derived.Deep.Draws
import Derived.Deep.AppendLies
import Derived.Maps.AppendAt
import Derived.OwnWalk
import Derived.Laws.BytesArg
import Derived.Laws.MakeOwn
import Derived.Laws.OwnMore
import Derived.Deep.OwnRows
import Derived.Tactics
import Derived.Lib.ConvBytes
import Derived.Laws.Slices
import Derived.WalkKit
import Derived.KernelRfl
import Derived.RowKit3
import Derived.Deep.LoopGhost
import Derived.Deep.QuietTactic
import Derived.BigQuiet
import Derived.WideLaws
import Derived.Deep.DeepCutAuto
import Derived.Deep.CutBlock
import Derived.Deep.RegionHeld3
import Derived.Laws.Rows
import Derived.Lib.AppendStr
import Derived.ArgAppend
import Derived.Laws.IdiomCopy
import Derived.OrdersHeld
import Derived.Laws.BitsLemmas
import Derived.RowKit
import Derived.Test.YtjcipbdocbomjaaGreatDoorZ9
import Derived.Test.YtjcipbdocbomjaaGreatDoorWWords
import Derived.Test.YtjcipbdocbomjaaGreatDoorWLast
import Derived.Test.YtjcipbdocbomjaaGreatDoorWTab
import Derived.Test.YtjcipbdocbomjaaGreatDoorWFour
import Derived.Test.YtjcipbdocbomjaaGreatDoorWQPut
import Derived.Test.YtjcipbdocbomjaaGreatDoorWApart
import Derived.Test.YtjcipbdocbomjaaGreatDoorWArr
import Derived.Test.YtjcipbdocbomjaaGreatDoorWZeros
import Derived.Test.YtjcipbdocbomjaaGreatDoorWFoot
import Derived.Test.YtjcipbdocbomjaaGreatDoorWKept
import Derived.Test.YtjcipbdocbomjaaGreatDoorWShare
import Derived.Test.YtjcipbdocbomjaaGreatDoorWN
import Derived.Test.YtjcipbdocbomjaaGreatDoorWFootNe
import Derived.Test.YtjcipbdocbomjaaGreatDoorWAt
import Derived.Test.YtjcipbdocbomjaaGreatDoorWEqStruct
import Derived.Test.YtjcipbdocbomjaaGreatDoorWRepsOne
import Derived.Test.YtjcipbdocbomjaaGreatDoorWInv
import Derived.Test.YtjcipbdocbomjaaGreatDoorWInvWords
import Derived.Test.YtjcipbdocbomjaaGreatDoorWGuard
import Derived.Test.YtjcipbdocbomjaaGreatDoorWNEv
import Derived.Test.YtjcipbdocbomjaaGreatDoorWMore
import Derived.Test.YtjcipbdocbomjaaGreatDoorZ1
set_option linter.unusedVariables false
set_option linter.unusedSimpArgs false
open Go.RowKit Go.Proofs.YtjcipbdocbomjaaGreatDoorW.PrintWords Go.Proofs.YtjcipbdocbomjaaGreatDoorW.PrintLast Go.Proofs.YtjcipbdocbomjaaGreatDoorW.PrintMore
namespace Go.Proofs.YtjcipbdocbomjaaGreatDoor.K
attribute [local go_sem] max2_int min2_int max_two min_two max_three min_three max_four min_four
end Go.Proofs.YtjcipbdocbomjaaGreatDoor.K
namespace Go.Proofs.YtjcipbdocbomjaaGreatDoor.K
attribute [local go_sem] max2_int min2_int max_two min_two max_three min_three max_four min_four
mutual
def lunetteref12_Size.l0 : Nat → Int → Int → ByteArray → ByteArray → ByteArray → List (S33) → Option (Int)
 | 0, _, _, _, _, _, _ => none
 | k + 1, x3, x4, x102000, x102001, x102002, x102003 => if x4 < (x102003.length : Int) then (if 0 ≤ x4 then ((lunetteref12_Size.f k ((rd_T33 x102003 x4).f0) ((rd_T33 x102003 x4).f1) ((rd_T33 x102003 x4).f2) ((rd_T33 x102003 x4).f3)).bind fun t103 => (lunetteref12_Size.l0 k (wrap64 (x3 + t103)) (wrap64 (x4 + 1)) x102000 x102001 x102002 x102003)) else (none)) else (some x3)
def lunetteref12_Size.f : Nat → ByteArray → ByteArray → ByteArray → List (S33) → Option (Int)
 | 0, _, _, _, _ => none
 | k + 1, a0_0, a0_1, a0_2, l0_3 => lunetteref12_Size.l0 k 1 0 a0_0 a0_1 a0_2 l0_3
end
set_option maxHeartbeats 8000000 in
set_option maxRecDepth 100000 in
theorem lunetteref12_Size.calls (k : Nat) : ∀ (a0_0 : ByteArray) (a0_1 : ByteArray) (a0_2 : ByteArray) (A0_3 : Option Addr) (c0_3 : Nat) (l0_3 : List (S33)) (r : Int) (w : World) (hr0_3 : Kd.C k33 w A0_3 l0_3.length l0_3) (hc0_3 : l0_3.length ≤ c0_3) (h : lunetteref12_Size.f k a0_0 a0_1 a0_2 l0_3 = some r),
  Calls Tryz.prog 21 #[.agg #[.string a0_0, .string a0_1, .string a0_2, .slice A0_3 l0_3.length c0_3]] w fun e w' => e = .returned (.int .i64 r) ∧ Below w.heap.size w w' := by
 induction k using Nat.strongRecOn with
 | _ k ih =>
 intro a0_0 a0_1 a0_2 A0_3 c0_3 l0_3 r w hr0_3 hc0_3 h
 cases k with
 | zero => exact absurd h (by simp [lunetteref12_Size.f])
 | succ k =>
 simp only [lunetteref12_Size.f] at h
 have hu33 := Tryz.underlying33
 have HR0_3 := Aside0.mk hr0_3
 have HC0_3 := Aside0.mk hc0_3
 clear hr0_3 hc0_3
 have HB := Aside0.mk (Below.refl w.heap.size w)
 have H : (lunetteref12_Size.l0 k 1 0 a0_0 a0_1 a0_2 l0_3) = some r := h
 clear h
 have H' := Aside0.mk H
 clear H
 go_enter Tryz.func21, Tryz.ntmps21
 go_wp2_with (((with_reducible refine gate_dst (N := 1) rfl ?_); refine box_event ?hg (N := 1) ?hd (cs := #[.string a0_0, .string a0_1, .string a0_2, .slice A0_3 l0_3.length c0_3]) (t := 33) ?hr ?_; (case hd => rfl); (case hg => rfl); (case hr => (go_simp; done)); intro gb101 hg w2 hbox hb; have n0_ := Aside0.mk (below_step (by repeat ((with_reducible (exact HB.out)))) hb); have n1_ := Aside0.mk (hbox); have n2_ := Aside0.mk ((by rw [hg]; exact (below_size (by repeat ((with_reducible (exact HB.out))))) : w.heap.size ≤ gb101)); have n3_ := Aside0.mk ((by rw [hg]; exact (below_size (by repeat ((with_reducible (exact HB.out))))) : w.heap.size ≤ gb101)); clear HB; have HB := n0_; have BK101 := n1_; have GW101 := n2_; have GE101 := n3_; clear n0_ n1_ n2_ n3_; clear hb hbox hg))
 go_loopg [3, 4] k (fun kq v3 v4 w' => ∃ (x3_1 : Int) (x4_1 : Int), v3 = .int .i64 x3_1 ∧ v4 = .int .i64 x4_1 ∧ Aside0 (lunetteref12_Size.l0 kq x3_1 x4_1 a0_0 a0_1 a0_2 l0_3 = some r) ∧ Aside0 (kq ≤ k) ∧ Aside0 (w'.heap[gb101]? = some (.cells #[.string a0_0, .string a0_1, .string a0_2, (.slice A0_3 l0_3.length c0_3)] 33 (0, 0))) ∧ Aside0 (Below w.heap.size w w'))
 case atStart => exact ⟨(1), (0), (by (rfl)), (by (rfl)), H', ⟨Nat.le_refl _⟩, ⟨by (with_reducible repeat ((refine blk_drew ?_))); exact BK101.out⟩, ⟨by repeat ((with_reducible (exact HB.out)))⟩⟩
 case round =>
  clear H'
  obtain ⟨x3_1, x4_1, rfl, rfl, HA, HK1, BK101, HB⟩ := hrel
  cases gk with
  | zero => exact absurd HA.out (by simp [lunetteref12_Size.l0])
  | succ k1 =>
   have H := HA.out
   clear HA
   simp only [lunetteref12_Size.l0] at H
   by_cases c3 : x4_1 < (l0_3.length : Int)
   ·rw [if_pos c3] at H
    have c3b0 : decide (x4_1 < (l0_3.length : Int)) = true := decide_eq_true c3
    clear c3
    by_cases c4 : 0 ≤ x4_1
    ·rw [if_pos c4] at H
     have c4b0 : decide (0 ≤ x4_1) = true := decide_eq_true c4
     clear c4
     replace H := Option.bind_eq_some_iff.mp H
     obtain ⟨t103, A50, H⟩ := H
     replace H : (lunetteref12_Size.l0 k1 (wrap64 (x3_1 + t103)) (wrap64 (x4_1 + 1)) a0_0 a0_1 a0_2 l0_3) = some r := H
     have A5 := Aside0.mk A50
     clear A50
     have H' := Aside0.mk H
     clear H
     have hcz6_0 : wr.cell? ⟨gb101, 0, none⟩ = some (.string a0_0) := (blk_cell BK101.out 0).trans rfl
     have hcz6_1 : wr.cell? ⟨gb101, 1, none⟩ = some (.string a0_1) := (blk_cell BK101.out 1).trans rfl
     have hcz6_2 : wr.cell? ⟨gb101, 2, none⟩ = some (.string a0_2) := (blk_cell BK101.out 2).trans rfl
     have hcz6_3 : wr.cell? ⟨gb101, 3, none⟩ = some (.slice A0_3 l0_3.length c0_3) := (blk_cell BK101.out 3).trans rfl
     have hfz6_0 := blk_frozen BK101.out 0
     have hfz6_1 := blk_frozen BK101.out 1
     have hfz6_2 := blk_frozen BK101.out 2
     have hfz6_3 := blk_frozen BK101.out 3
     have p102 : 0 ≤ (x4_1 : Int) := of_decide_eq_true (by (with_reducible assumption))
     have q102 : x4_1 < (l0_3.length : Int) := of_decide_eq_true (by (with_reducible assumption))
     obtain ⟨ad102, A102_3, c102_3, e102, hx102_0, hx102_1, hx102_2, hx102_3, hl102_3, hi102_3⟩ := at_T33 HR0_3.out x4_1 p102 q102
     cases e102
     replace hx102_0 := (HB.out.cell (World.block_lt_of_cell? w _ hx102_0)).trans hx102_0
     replace hx102_1 := (HB.out.cell (World.block_lt_of_cell? w _ hx102_1)).trans hx102_1
     replace hx102_2 := (HB.out.cell (World.block_lt_of_cell? w _ hx102_2)).trans hx102_2
     replace hx102_3 := (HB.out.cell (World.block_lt_of_cell? w _ hx102_3)).trans hx102_3
     have HR102_3 := Aside0.mk hi102_3
     have HC102_3 := Aside0.mk hl102_3
     clear hi102_3 hl102_3
     replace p102 := eq_true p102
     replace q102 := eq_true q102
     go_wp2_with (((with_reducible refine gate_callee (f := 21) rfl ?_); refine goesL_ (some 18) rfl rfl Tryz.func21 (by kernel_rfl) rfl #[.agg #[.string ((rd_T33 l0_3 x4_1).f0), .string ((rd_T33 l0_3 x4_1).f1), .string ((rd_T33 l0_3 x4_1).f2), .slice A102_3 ((rd_T33 l0_3 x4_1).f3).length c102_3]] rfl (by (try simp only [List.map_toArray, List.map_cons, List.map_nil]); (rfl)) ?_; (with_reducible refine (ih k1 (by have := HK1.out; omega) ((rd_T33 l0_3 x4_1).f0) ((rd_T33 l0_3 x4_1).f1) ((rd_T33 l0_3 x4_1).f2) _ _ ((rd_T33 l0_3 x4_1).f3) t103 _ ?side1 ?side2 A5.out).mono ?_); (case side1 => repeat ((exact (Kd.C_below HR102_3.out HB.out)))); (case side2 => exact HC102_3.out); rintro e w7 ⟨rfl, hb⟩; refine ⟨_, rfl, ?_⟩; have n0_ := Aside0.mk (blk_below (g := gb101) (o := .cells #[.string a0_0, .string a0_1, .string a0_2, .slice (some ad102) l0_3.length c0_3] 33 (0, 0)) (by (with_reducible repeat ((refine blk_drew ?_))); exact BK101.out) hb); have n1_ := Aside0.mk (below_step (by repeat ((with_reducible (exact HB.out)))) hb); clear BK101; clear HB; have BK101 := n0_; have HB := n1_; clear n0_ n1_; (try clear hb)))
     go_roundg k1
     case measure => have := HK1.out; omega
     case rel => exact ⟨(wrap64 (x3_1 + t103)), (wrap64 (x4_1 + 1)), (by (rfl)), (by (rfl)), H', ⟨by have := HK1.out; omega⟩, ⟨by (with_reducible repeat ((refine blk_drew ?_))); exact BK101.out⟩, ⟨by repeat ((with_reducible (exact HB.out)))⟩⟩
    ·rw [if_neg c4] at H
     exact absurd H (by simp)
   ·rw [if_neg c3] at H
    have c3b0 : decide (x4_1 < (l0_3.length : Int)) = false := decide_eq_false c3
    clear c3
    obtain rfl := Option.some.inj H
    have hcz8_0 : wr.cell? ⟨gb101, 0, none⟩ = some (.string a0_0) := (blk_cell BK101.out 0).trans rfl
    have hcz8_1 : wr.cell? ⟨gb101, 1, none⟩ = some (.string a0_1) := (blk_cell BK101.out 1).trans rfl
    have hcz8_2 : wr.cell? ⟨gb101, 2, none⟩ = some (.string a0_2) := (blk_cell BK101.out 2).trans rfl
    have hcz8_3 : wr.cell? ⟨gb101, 3, none⟩ = some (.slice A0_3 l0_3.length c0_3) := (blk_cell BK101.out 3).trans rfl
    have hfz8_0 := blk_frozen BK101.out 0
    have hfz8_1 := blk_frozen BK101.out 1
    have hfz8_2 := blk_frozen BK101.out 2
    have hfz8_3 := blk_frozen BK101.out 3
    go_wp2
    go_ret
    exact ⟨by (rfl), by repeat ((with_reducible (exact HB.out)))⟩
end Go.Proofs.YtjcipbdocbomjaaGreatDoor.K
namespace Go.Proofs.YtjcipbdocbomjaaGreatDoor.K
attribute [local go_sem] max2_int min2_int max_two min_two max_three min_three max_four min_four
mutual
def lunetteref12_short.j0 : Nat → Int → Bool → ByteArray → ByteArray → ByteArray → List (S33) → Option (Bool)
 | 0, _, _, _, _, _, _ => none
 | k + 1, x1, x31, x105000, x105001, x105002, x105003 => if x31 = true then (some false) else (lunetteref12_short.l0 k x1 0 x105000 x105001 x105002 x105003)
def lunetteref12_short.l0 : Nat → Int → Int → ByteArray → ByteArray → ByteArray → List (S33) → Option (Bool)
 | 0, _, _, _, _, _, _ => none
 | k + 1, x1, x5, x105000, x105001, x105002, x105003 => if x5 < (x105003.length : Int) then (if 0 ≤ x5 then ((lunetteref12_short.f k ((rd_T33 x105003 x5).f0) ((rd_T33 x105003 x5).f1) ((rd_T33 x105003 x5).f2) ((rd_T33 x105003 x5).f3) (wrap64 (x1 - 1))).bind fun t106 => (if t106 = true then (lunetteref12_short.l0 k x1 (wrap64 (x5 + 1)) x105000 x105001 x105002 x105003) else (some false))) else (none)) else (some true)
def lunetteref12_short.f : Nat → ByteArray → ByteArray → ByteArray → List (S33) → Int → Option (Bool)
 | 0, _, _, _, _, _ => none
 | k + 1, a0_0, a0_1, a0_2, l0_3, a1 => if a1 = 0 then (lunetteref12_short.j0 k a1 true a0_0 a0_1 a0_2 l0_3) else (if (a0_0.size : Int) > 100 then (lunetteref12_short.j0 k a1 true a0_0 a0_1 a0_2 l0_3) else (if (a0_1.size : Int) > 100 then (lunetteref12_short.j0 k a1 true a0_0 a0_1 a0_2 l0_3) else (if (a0_2.size : Int) > 100 then (lunetteref12_short.j0 k a1 true a0_0 a0_1 a0_2 l0_3) else (lunetteref12_short.j0 k a1 (decide ((l0_3.length : Int) > 70)) a0_0 a0_1 a0_2 l0_3))))
end
set_option maxHeartbeats 8000000 in
set_option maxRecDepth 100000 in
theorem lunetteref12_short.calls (k : Nat) : ∀ (a0_0 : ByteArray) (a0_1 : ByteArray) (a0_2 : ByteArray) (A0_3 : Option Addr) (c0_3 : Nat) (l0_3 : List (S33)) (a1 : Int) (r : Bool) (w : World) (hr0_3 : Kd.C k33 w A0_3 l0_3.length l0_3) (hc0_3 : l0_3.length ≤ c0_3) (h : lunetteref12_short.f k a0_0 a0_1 a0_2 l0_3 a1 = some r),
  Calls Tryz.prog 25 #[.agg #[.string a0_0, .string a0_1, .string a0_2, .slice A0_3 l0_3.length c0_3], .int .i64 a1] w fun e w' => e = .returned (.bool r) ∧ Below w.heap.size w w' := by
 induction k using Nat.strongRecOn with
 | _ k ih =>
 intro a0_0 a0_1 a0_2 A0_3 c0_3 l0_3 a1 r w hr0_3 hc0_3 h
 cases k with
 | zero => exact absurd h (by simp [lunetteref12_short.f])
 | succ k =>
 simp only [lunetteref12_short.f] at h
 have hu33 := Tryz.underlying33
 have HR0_3 := Aside0.mk hr0_3
 have HC0_3 := Aside0.mk hc0_3
 clear hr0_3 hc0_3
 have HB := Aside0.mk (Below.refl w.heap.size w)
 have H : (if a1 = 0 then (lunetteref12_short.j0 k a1 true a0_0 a0_1 a0_2 l0_3) else (if (a0_0.size : Int) > 100 then (lunetteref12_short.j0 k a1 true a0_0 a0_1 a0_2 l0_3) else (if (a0_1.size : Int) > 100 then (lunetteref12_short.j0 k a1 true a0_0 a0_1 a0_2 l0_3) else (if (a0_2.size : Int) > 100 then (lunetteref12_short.j0 k a1 true a0_0 a0_1 a0_2 l0_3) else (lunetteref12_short.j0 k a1 (decide ((l0_3.length : Int) > 70)) a0_0 a0_1 a0_2 l0_3))))) = some r := h
 clear h
 have HC3 := Aside0.mk H
 clear H
 go_enter Tryz.func25, Tryz.ntmps25
 go_upto_region 1 with (((with_reducible refine gate_dst (N := 2) rfl ?_); (try (refine gate_guard (by rfl) ?_; dsimp only)); refine box_event ?hg (N := 2) ?hd (cs := #[.string a0_0, .string a0_1, .string a0_2, .slice A0_3 l0_3.length c0_3]) (t := 33) ?hr ?_; (case hd => rfl); (case hg => rfl); (case hr => (go_simp; done)); intro gb104 hg w4 hbox hb; have n0_ := Aside0.mk (below_step (by repeat ((with_reducible (exact HB.out)))) hb); have n1_ := Aside0.mk (hbox); have n2_ := Aside0.mk ((by rw [hg]; exact (below_size (by repeat ((with_reducible (exact HB.out))))) : w.heap.size ≤ gb104)); have n3_ := Aside0.mk ((by rw [hg]; exact (below_size (by repeat ((with_reducible (exact HB.out))))) : w.heap.size ≤ gb104)); clear HB; have HB := n0_; have BK104 := n1_; have GW104 := n2_; have GE104 := n3_; clear n0_ n1_ n2_ n3_; clear hb hbox hg))
 (try simp only [Act.put, List.setIfInBounds_toArray, List.set_cons_zero, List.set_cons_succ])
 go_cut [31] (fun v31 wc => ∃ (kq : Nat) (x31_2 : Bool), v31 = .bool x31_2 ∧ Aside0 (lunetteref12_short.j0 kq a1 x31_2 a0_0 a0_1 a0_2 l0_3 = some r) ∧ Aside0 (kq ≤ k) ∧ Aside0 (wc.heap[gb104]? = some (.cells #[.string a0_0, .string a0_1, .string a0_2, (.slice A0_3 l0_3.length c0_3)] 33 (0, 0))) ∧ Aside0 (Below w.heap.size w wc))
 case first =>
  have H := HC3.out
  clear HC3
  by_cases c5 : a1 = 0
  ·rw [if_pos c5] at H
   have c5b0 : (a1 == 0) = true := beq_iff_eq.mpr c5
   have c5b1 : (a1 != 0) = false := bne_eq_false_iff_eq.mpr c5
   clear c5
   ((skip))
   have H' := Aside0.mk H
   clear H
   go_wp2
   go_meet
   case rel => exact ⟨_, (true), (by (rfl)), H', ⟨by (omega)⟩, ⟨by (with_reducible repeat ((refine blk_drew ?_))); exact BK104.out⟩, ⟨by repeat ((with_reducible (exact HB.out)))⟩⟩
  ·rw [if_neg c5] at H
   have c5b0 : (a1 == 0) = false := beq_eq_false_iff_ne.mpr c5
   have c5b1 : (a1 != 0) = true := bne_iff_ne.mpr c5
   ((skip))
   by_cases c6 : (a0_0.size : Int) > 100
   ·rw [if_pos c6] at H
    have c6b0 : decide (100 < (a0_0.size : Int)) = true := decide_eq_true c6
    have c6b1 : decide (100 < a0_0.size) = true := decide_eq_true (by omega)
    clear c6
    have H' := Aside0.mk H
    clear H
    have hcz7_0 : w4.cell? ⟨gb104, 0, none⟩ = some (.string a0_0) := (blk_cell BK104.out 0).trans rfl
    have hcz7_1 : w4.cell? ⟨gb104, 1, none⟩ = some (.string a0_1) := (blk_cell BK104.out 1).trans rfl
    have hcz7_2 : w4.cell? ⟨gb104, 2, none⟩ = some (.string a0_2) := (blk_cell BK104.out 2).trans rfl
    have hcz7_3 : w4.cell? ⟨gb104, 3, none⟩ = some (.slice A0_3 l0_3.length c0_3) := (blk_cell BK104.out 3).trans rfl
    have hfz7_0 := blk_frozen BK104.out 0
    have hfz7_1 := blk_frozen BK104.out 1
    have hfz7_2 := blk_frozen BK104.out 2
    have hfz7_3 := blk_frozen BK104.out 3
    go_wp2
    go_meet
    case rel => exact ⟨_, (true), (by (rfl)), H', ⟨by (omega)⟩, ⟨by (with_reducible repeat ((refine blk_drew ?_))); exact BK104.out⟩, ⟨by repeat ((with_reducible (exact HB.out)))⟩⟩
   ·rw [if_neg c6] at H
    have c6b0 : decide (100 < (a0_0.size : Int)) = false := decide_eq_false c6
    have c6b1 : decide (100 < a0_0.size) = false := decide_eq_false (by omega)
    clear c6
    by_cases c8 : (a0_1.size : Int) > 100
    ·rw [if_pos c8] at H
     have c8b0 : decide (100 < (a0_1.size : Int)) = true := decide_eq_true c8
     have c8b1 : decide (100 < a0_1.size) = true := decide_eq_true (by omega)
     clear c8
     have H' := Aside0.mk H
     clear H
     have hcz9_0 : w4.cell? ⟨gb104, 0, none⟩ = some (.string a0_0) := (blk_cell BK104.out 0).trans rfl
     have hcz9_1 : w4.cell? ⟨gb104, 1, none⟩ = some (.string a0_1) := (blk_cell BK104.out 1).trans rfl
     have hcz9_2 : w4.cell? ⟨gb104, 2, none⟩ = some (.string a0_2) := (blk_cell BK104.out 2).trans rfl
     have hcz9_3 : w4.cell? ⟨gb104, 3, none⟩ = some (.slice A0_3 l0_3.length c0_3) := (blk_cell BK104.out 3).trans rfl
     have hfz9_0 := blk_frozen BK104.out 0
     have hfz9_1 := blk_frozen BK104.out 1
     have hfz9_2 := blk_frozen BK104.out 2
     have hfz9_3 := blk_frozen BK104.out 3
     go_wp2
     go_meet
     case rel => exact ⟨_, (true), (by (rfl)), H', ⟨by (omega)⟩, ⟨by (with_reducible repeat ((refine blk_drew ?_))); exact BK104.out⟩, ⟨by repeat ((with_reducible (exact HB.out)))⟩⟩
    ·rw [if_neg c8] at H
     have c8b0 : decide (100 < (a0_1.size : Int)) = false := decide_eq_false c8
     have c8b1 : decide (100 < a0_1.size) = false := decide_eq_false (by omega)
     clear c8
     by_cases c10 : (a0_2.size : Int) > 100
     ·rw [if_pos c10] at H
      have c10b0 : decide (100 < (a0_2.size : Int)) = true := decide_eq_true c10
      have c10b1 : decide (100 < a0_2.size) = true := decide_eq_true (by omega)
      clear c10
      have H' := Aside0.mk H
      clear H
      have hcz11_0 : w4.cell? ⟨gb104, 0, none⟩ = some (.string a0_0) := (blk_cell BK104.out 0).trans rfl
      have hcz11_1 : w4.cell? ⟨gb104, 1, none⟩ = some (.string a0_1) := (blk_cell BK104.out 1).trans rfl
      have hcz11_2 : w4.cell? ⟨gb104, 2, none⟩ = some (.string a0_2) := (blk_cell BK104.out 2).trans rfl
      have hcz11_3 : w4.cell? ⟨gb104, 3, none⟩ = some (.slice A0_3 l0_3.length c0_3) := (blk_cell BK104.out 3).trans rfl
      have hfz11_0 := blk_frozen BK104.out 0
      have hfz11_1 := blk_frozen BK104.out 1
      have hfz11_2 := blk_frozen BK104.out 2
      have hfz11_3 := blk_frozen BK104.out 3
      go_wp2
      go_meet
      case rel => exact ⟨_, (true), (by (rfl)), H', ⟨by (omega)⟩, ⟨by (with_reducible repeat ((refine blk_drew ?_))); exact BK104.out⟩, ⟨by repeat ((with_reducible (exact HB.out)))⟩⟩
     ·rw [if_neg c10] at H
      have c10b0 : decide (100 < (a0_2.size : Int)) = false := decide_eq_false c10
      have c10b1 : decide (100 < a0_2.size) = false := decide_eq_false (by omega)
      clear c10
      have H' := Aside0.mk H
      clear H
      have hcz12_0 : w4.cell? ⟨gb104, 0, none⟩ = some (.string a0_0) := (blk_cell BK104.out 0).trans rfl
      have hcz12_1 : w4.cell? ⟨gb104, 1, none⟩ = some (.string a0_1) := (blk_cell BK104.out 1).trans rfl
      have hcz12_2 : w4.cell? ⟨gb104, 2, none⟩ = some (.string a0_2) := (blk_cell BK104.out 2).trans rfl
      have hcz12_3 : w4.cell? ⟨gb104, 3, none⟩ = some (.slice A0_3 l0_3.length c0_3) := (blk_cell BK104.out 3).trans rfl
      have hfz12_0 := blk_frozen BK104.out 0
      have hfz12_1 := blk_frozen BK104.out 1
      have hfz12_2 := blk_frozen BK104.out 2
      have hfz12_3 := blk_frozen BK104.out 3
      go_wp2
      go_meet
      case rel => exact ⟨_, (decide ((l0_3.length : Int) > 70)), (by (rfl)), H', ⟨by (omega)⟩, ⟨by (with_reducible repeat ((refine blk_drew ?_))); exact BK104.out⟩, ⟨by repeat ((with_reducible (exact HB.out)))⟩⟩
 case rest =>
  clear HC3
  obtain ⟨kq, x31_2, rfl, HA, HJ2, BK104, HB⟩ := hcut
  cases kq with
  | zero => exact absurd HA.out (by simp [lunetteref12_short.j0])
  | succ kj2 =>
   have H := HA.out
   clear HA
   simp only [lunetteref12_short.j0] at H
   by_cases c13 : x31_2 = true
   ·subst c13
    have H1 : (some false) = some r := by rw [if_pos rfl] at H; exact H
    clear H
    have H := H1
    clear H1
    obtain rfl := Option.some.inj H
    go_wp2
    go_ret
    exact ⟨by (rfl), by repeat ((with_reducible (exact HB.out)))⟩
   ·replace c13 := Bool.eq_false_iff.mpr c13
    subst c13
    have H1 : (lunetteref12_short.l0 kj2 a1 0 a0_0 a0_1 a0_2 l0_3) = some r := by rw [if_neg (show ¬ (false = true) by decide)] at H; exact H
    clear H
    have H := H1
    clear H1
    have H' := Aside0.mk H
    clear H
    go_wp2
    go_loopg [5] kj2 (fun kq v5 w' => ∃ (x5_2 : Int), v5 = .int .i64 x5_2 ∧ Aside0 (lunetteref12_short.l0 kq a1 x5_2 a0_0 a0_1 a0_2 l0_3 = some r) ∧ Aside0 (kq ≤ kj2) ∧ Aside0 (w'.heap[gb104]? = some (.cells #[.string a0_0, .string a0_1, .string a0_2, (.slice A0_3 l0_3.length c0_3)] 33 (0, 0))) ∧ Aside0 (Below w.heap.size w w'))
    case atStart => exact ⟨(0), (by (rfl)), H', ⟨Nat.le_refl _⟩, ⟨by (with_reducible repeat ((refine blk_drew ?_))); exact BK104.out⟩, ⟨by repeat ((with_reducible (exact HB.out)))⟩⟩
    case round =>
     clear H'
     obtain ⟨x5_2, rfl, HA, HK2, BK104, HB⟩ := hrel
     cases gk with
     | zero => exact absurd HA.out (by simp [lunetteref12_short.l0])
     | succ k2 =>
      have H := HA.out
      clear HA
      simp only [lunetteref12_short.l0] at H
      by_cases c14 : x5_2 < (l0_3.length : Int)
      ·rw [if_pos c14] at H
       have c14b0 : decide (x5_2 < (l0_3.length : Int)) = true := decide_eq_true c14
       clear c14
       by_cases c15 : 0 ≤ x5_2
       ·rw [if_pos c15] at H
        have c15b0 : decide (0 ≤ x5_2) = true := decide_eq_true c15
        clear c15
        replace H := Option.bind_eq_some_iff.mp H
        obtain ⟨t106, A160, H⟩ := H
        replace H : (if t106 = true then (lunetteref12_short.l0 k2 a1 (wrap64 (x5_2 + 1)) a0_0 a0_1 a0_2 l0_3) else (some false)) = some r := H
        have A16 := Aside0.mk A160
        clear A160
        by_cases c17 : t106 = true
        ·subst c17
         have H1 : (lunetteref12_short.l0 k2 a1 (wrap64 (x5_2 + 1)) a0_0 a0_1 a0_2 l0_3) = some r := by rw [if_pos rfl] at H; exact H
         clear H
         have H := H1
         clear H1
         have H' := Aside0.mk H
         clear H
         have hcz18_0 : wr.cell? ⟨gb104, 0, none⟩ = some (.string a0_0) := (blk_cell BK104.out 0).trans rfl
         have hcz18_1 : wr.cell? ⟨gb104, 1, none⟩ = some (.string a0_1) := (blk_cell BK104.out 1).trans rfl
         have hcz18_2 : wr.cell? ⟨gb104, 2, none⟩ = some (.string a0_2) := (blk_cell BK104.out 2).trans rfl
         have hcz18_3 : wr.cell? ⟨gb104, 3, none⟩ = some (.slice A0_3 l0_3.length c0_3) := (blk_cell BK104.out 3).trans rfl
         have hfz18_0 := blk_frozen BK104.out 0
         have hfz18_1 := blk_frozen BK104.out 1
         have hfz18_2 := blk_frozen BK104.out 2
         have hfz18_3 := blk_frozen BK104.out 3
         have p105 : 0 ≤ (x5_2 : Int) := of_decide_eq_true (by (with_reducible assumption))
         have q105 : x5_2 < (l0_3.length : Int) := of_decide_eq_true (by (with_reducible assumption))
         obtain ⟨ad105, A105_3, c105_3, e105, hx105_0, hx105_1, hx105_2, hx105_3, hl105_3, hi105_3⟩ := at_T33 HR0_3.out x5_2 p105 q105
         cases e105
         replace hx105_0 := (HB.out.cell (World.block_lt_of_cell? w _ hx105_0)).trans hx105_0
         replace hx105_1 := (HB.out.cell (World.block_lt_of_cell? w _ hx105_1)).trans hx105_1
         replace hx105_2 := (HB.out.cell (World.block_lt_of_cell? w _ hx105_2)).trans hx105_2
         replace hx105_3 := (HB.out.cell (World.block_lt_of_cell? w _ hx105_3)).trans hx105_3
         have HR105_3 := Aside0.mk hi105_3
         have HC105_3 := Aside0.mk hl105_3
         clear hi105_3 hl105_3
         replace p105 := eq_true p105
         replace q105 := eq_true q105
         go_wp2_with (((with_reducible refine gate_callee (f := 25) rfl ?_); refine goesL_ (some 46) rfl rfl Tryz.func25 (by kernel_rfl) rfl #[.agg #[.string ((rd_T33 l0_3 x5_2).f0), .string ((rd_T33 l0_3 x5_2).f1), .string ((rd_T33 l0_3 x5_2).f2), .slice A105_3 ((rd_T33 l0_3 x5_2).f3).length c105_3], .int .i64 (wrap64 (a1 - 1))] rfl (by (try simp only [List.map_toArray, List.map_cons, List.map_nil]); (rfl)) ?_; (with_reducible refine (ih k2 (by have := HJ2.out; have := HK2.out; omega) ((rd_T33 l0_3 x5_2).f0) ((rd_T33 l0_3 x5_2).f1) ((rd_T33 l0_3 x5_2).f2) _ _ ((rd_T33 l0_3 x5_2).f3) (wrap64 (a1 - 1)) true _ ?side1 ?side2 A16.out).mono ?_); (case side1 => repeat ((exact (Kd.C_below HR105_3.out HB.out)))); (case side2 => exact HC105_3.out); rintro e w19 ⟨rfl, hb⟩; refine ⟨_, rfl, ?_⟩; have n0_ := Aside0.mk (blk_below (g := gb104) (o := .cells #[.string a0_0, .string a0_1, .string a0_2, .slice (some ad105) l0_3.length c0_3] 33 (0, 0)) (by (with_reducible repeat ((refine blk_drew ?_))); exact BK104.out) hb); have n1_ := Aside0.mk (below_step (by repeat ((with_reducible (exact HB.out)))) hb); clear BK104; clear HB; have BK104 := n0_; have HB := n1_; clear n0_ n1_; (try clear hb)))
         go_roundg k2
         case measure => have := HJ2.out; have := HK2.out; omega
         case rel => exact ⟨(wrap64 (x5_2 + 1)), (by (rfl)), H', ⟨by have := HJ2.out; have := HK2.out; omega⟩, ⟨by (with_reducible repeat ((refine blk_drew ?_))); exact BK104.out⟩, ⟨by repeat ((with_reducible (exact HB.out)))⟩⟩
        ·replace c17 := Bool.eq_false_iff.mpr c17
         subst c17
         have H1 : (some false) = some r := by rw [if_neg (show ¬ (false = true) by decide)] at H; exact H
         clear H
         have H := H1
         clear H1
         obtain rfl := Option.some.inj H
         have hcz20_0 : wr.cell? ⟨gb104, 0, none⟩ = some (.string a0_0) := (blk_cell BK104.out 0).trans rfl
         have hcz20_1 : wr.cell? ⟨gb104, 1, none⟩ = some (.string a0_1) := (blk_cell BK104.out 1).trans rfl
         have hcz20_2 : wr.cell? ⟨gb104, 2, none⟩ = some (.string a0_2) := (blk_cell BK104.out 2).trans rfl
         have hcz20_3 : wr.cell? ⟨gb104, 3, none⟩ = some (.slice A0_3 l0_3.length c0_3) := (blk_cell BK104.out 3).trans rfl
         have hfz20_0 := blk_frozen BK104.out 0
         have hfz20_1 := blk_frozen BK104.out 1
         have hfz20_2 := blk_frozen BK104.out 2
         have hfz20_3 := blk_frozen BK104.out 3
         have p105 : 0 ≤ (x5_2 : Int) := of_decide_eq_true (by (with_reducible assumption))
         have q105 : x5_2 < (l0_3.length : Int) := of_decide_eq_true (by (with_reducible assumption))
         obtain ⟨ad105, A105_3, c105_3, e105, hx105_0, hx105_1, hx105_2, hx105_3, hl105_3, hi105_3⟩ := at_T33 HR0_3.out x5_2 p105 q105
         cases e105
         replace hx105_0 := (HB.out.cell (World.block_lt_of_cell? w _ hx105_0)).trans hx105_0
         replace hx105_1 := (HB.out.cell (World.block_lt_of_cell? w _ hx105_1)).trans hx105_1
         replace hx105_2 := (HB.out.cell (World.block_lt_of_cell? w _ hx105_2)).trans hx105_2
         replace hx105_3 := (HB.out.cell (World.block_lt_of_cell? w _ hx105_3)).trans hx105_3
         have HR105_3 := Aside0.mk hi105_3
         have HC105_3 := Aside0.mk hl105_3
         clear hi105_3 hl105_3
         replace p105 := eq_true p105
         replace q105 := eq_true q105
         go_wp2_with (((with_reducible refine gate_callee (f := 25) rfl ?_); refine goesL_ (some 46) rfl rfl Tryz.func25 (by kernel_rfl) rfl #[.agg #[.string ((rd_T33 l0_3 x5_2).f0), .string ((rd_T33 l0_3 x5_2).f1), .string ((rd_T33 l0_3 x5_2).f2), .slice A105_3 ((rd_T33 l0_3 x5_2).f3).length c105_3], .int .i64 (wrap64 (a1 - 1))] rfl (by (try simp only [List.map_toArray, List.map_cons, List.map_nil]); (rfl)) ?_; (with_reducible refine (ih k2 (by have := HJ2.out; have := HK2.out; omega) ((rd_T33 l0_3 x5_2).f0) ((rd_T33 l0_3 x5_2).f1) ((rd_T33 l0_3 x5_2).f2) _ _ ((rd_T33 l0_3 x5_2).f3) (wrap64 (a1 - 1)) false _ ?side1 ?side2 A16.out).mono ?_); (case side1 => repeat ((exact (Kd.C_below HR105_3.out HB.out)))); (case side2 => exact HC105_3.out); rintro e w21 ⟨rfl, hb⟩; refine ⟨_, rfl, ?_⟩; have n0_ := Aside0.mk (blk_below (g := gb104) (o := .cells #[.string a0_0, .string a0_1, .string a0_2, .slice (some ad105) l0_3.length c0_3] 33 (0, 0)) (by (with_reducible repeat ((refine blk_drew ?_))); exact BK104.out) hb); have n1_ := Aside0.mk (below_step (by repeat ((with_reducible (exact HB.out)))) hb); clear BK104; clear HB; have BK104 := n0_; have HB := n1_; clear n0_ n1_; (try clear hb)))
         go_ret
         exact ⟨by (rfl), by repeat ((with_reducible (exact HB.out)))⟩
       ·rw [if_neg c15] at H
        exact absurd H (by simp)
      ·rw [if_neg c14] at H
       have c14b0 : decide (x5_2 < (l0_3.length : Int)) = false := decide_eq_false c14
       clear c14
       obtain rfl := Option.some.inj H
       have hcz22_0 : wr.cell? ⟨gb104, 0, none⟩ = some (.string a0_0) := (blk_cell BK104.out 0).trans rfl
       have hcz22_1 : wr.cell? ⟨gb104, 1, none⟩ = some (.string a0_1) := (blk_cell BK104.out 1).trans rfl
       have hcz22_2 : wr.cell? ⟨gb104, 2, none⟩ = some (.string a0_2) := (blk_cell BK104.out 2).trans rfl
       have hcz22_3 : wr.cell? ⟨gb104, 3, none⟩ = some (.slice A0_3 l0_3.length c0_3) := (blk_cell BK104.out 3).trans rfl
       have hfz22_0 := blk_frozen BK104.out 0
       have hfz22_1 := blk_frozen BK104.out 1
       have hfz22_2 := blk_frozen BK104.out 2
       have hfz22_3 := blk_frozen BK104.out 3
       go_wp2
       go_ret
       exact ⟨by (rfl), by repeat ((with_reducible (exact HB.out)))⟩
end Go.Proofs.YtjcipbdocbomjaaGreatDoor.K
namespace Go.Proofs.YtjcipbdocbomjaaGreatDoor.K
attribute [local go_sem] max2_int min2_int max_two min_two max_three min_three max_four min_four
mutual
def lunetteref12_Few.l0 : Nat → List (S30) → Int → Option (Bool)
 | 0, _, _ => none
 | k + 1, x0, x3 => if x3 < (x0.length : Int) then (if 0 ≤ x3 then (if (((rd_T30 x0 x3).f1).length : Int) > 70 then (lunetteref12_Few.j1 k x0 x3 true) else (lunetteref12_Few.j1 k x0 x3 (decide ((((rd_T30 x0 x3).f0).size : Int) > 100)))) else (none)) else (some true)
def lunetteref12_Few.j1 : Nat → List (S30) → Int → Bool → Option (Bool)
 | 0, _, _, _ => none
 | k + 1, x0, x3, x29 => if x29 = true then (some false) else (lunetteref12_Few.l1 k x0 x3 0)
def lunetteref12_Few.l1 : Nat → List (S30) → Int → Int → Option (Bool)
 | 0, _, _, _ => none
 | k + 1, x0, x3, x4 => if 0 ≤ x3 then (if x3 < (x0.length : Int) then (if x4 < (((rd_T30 x0 x3).f1).length : Int) then (if 0 ≤ x4 then ((lunetteref12_short.f k ((rd_T35 ((rd_T30 x0 x3).f1) x4).f1.f0) ((rd_T35 ((rd_T30 x0 x3).f1) x4).f1.f1) ((rd_T35 ((rd_T30 x0 x3).f1) x4).f1.f2) ((rd_T35 ((rd_T30 x0 x3).f1) x4).f1.f3) 30).bind fun t112 => (if t112 = true then ((lunetteref12_Size.f k ((rd_T35 ((rd_T30 x0 x3).f1) x4).f1.f0) ((rd_T35 ((rd_T30 x0 x3).f1) x4).f1.f1) ((rd_T35 ((rd_T30 x0 x3).f1) x4).f1.f2) ((rd_T35 ((rd_T30 x0 x3).f1) x4).f1.f3)).bind fun t115 => (if t115 > 100 then (some false) else (if (((rd_T35 ((rd_T30 x0 x3).f1) x4).f0).size : Int) > 100 then (some false) else (lunetteref12_Few.l1 k x0 x3 (wrap64 (x4 + 1)))))) else (some false))) else (none)) else (lunetteref12_Few.l0 k x0 (wrap64 (x3 + 1)))) else (none)) else (none)
end
def lunetteref12_Few.f (k : Nat) (l0 : List (S30)) : Option (Bool) := if (l0.length : Int) > 70 then (some false) else (lunetteref12_Few.l0 k l0 0)
set_option maxHeartbeats 8000000 in
set_option maxRecDepth 100000 in
theorem lunetteref12_Few.calls (k : Nat) (A0 : Option Addr) (c0 : Nat) (l0 : List (S30)) (r : Bool) (w : World) (hr0 : Kd.C k30 w A0 l0.length l0) (hc0 : l0.length ≤ c0) (h : lunetteref12_Few.f k l0 = some r) :
  Calls Tryz.prog 10 #[.slice A0 l0.length c0] w fun e w' => e = .returned (.bool r) ∧ Below w.heap.size w w' := by
 have hu33 := Tryz.underlying33
 have HR0 := Aside0.mk hr0
 have HC0 := Aside0.mk hc0
 clear hr0 hc0
 have HB := Aside0.mk (Below.refl w.heap.size w)
 have H : (if (l0.length : Int) > 70 then (some false) else (lunetteref12_Few.l0 k l0 0)) = some r := h
 clear h
 by_cases c2 : (l0.length : Int) > 70
 ·rw [if_pos c2] at H
  have c2b0 : decide (70 < (l0.length : Int)) = true := decide_eq_true c2
  have c2b1 : decide (70 < l0.length) = true := decide_eq_true (by omega)
  clear c2
  obtain rfl := Option.some.inj H
  go_enter Tryz.func10, Tryz.ntmps10
  go_wp2
  go_ret
  exact ⟨by (rfl), by repeat ((with_reducible (exact HB.out)))⟩
 ·rw [if_neg c2] at H
  have c2b0 : decide (70 < (l0.length : Int)) = false := decide_eq_false c2
  have c2b1 : decide (70 < l0.length) = false := decide_eq_false (by omega)
  clear c2
  have H' := Aside0.mk H
  clear H
  go_enter Tryz.func10, Tryz.ntmps10
  go_wp2
  go_loopg [3] k (fun kq v3 w' => ∃ (x3_1 : Int), v3 = .int .i64 x3_1 ∧ Aside0 (lunetteref12_Few.l0 kq l0 x3_1 = some r) ∧ Aside0 (kq ≤ k) ∧ Aside0 (Below w.heap.size w w'))
  case atStart => exact ⟨(0), (by (rfl)), H', ⟨Nat.le_refl _⟩, ⟨by repeat ((with_reducible (exact HB.out)))⟩⟩
  case round =>
   clear H'
   try clear c2b0
   try clear c2b1
   obtain ⟨x3_1, rfl, HA, HK1, HB⟩ := hrel
   cases gk with
   | zero => exact absurd HA.out (by simp [lunetteref12_Few.l0])
   | succ k1 =>
    have H := HA.out
    clear HA
    simp only [lunetteref12_Few.l0] at H
    by_cases c3 : x3_1 < (l0.length : Int)
    ·rw [if_pos c3] at H
     have c3b0 : decide (x3_1 < (l0.length : Int)) = true := decide_eq_true c3
     clear c3
     have HC4 := Aside0.mk H
     clear H
     go_upto_region 6 with (fail)
     go_cut [29] (fun v29 wc => ∃ (kq : Nat) (x29_3 : Bool), v29 = .bool x29_3 ∧ Aside0 (lunetteref12_Few.j1 kq l0 x3_1 x29_3 = some r) ∧ Aside0 (kq ≤ k1) ∧ Aside0 (Below w.heap.size w wc))
     case first =>
      have H := HC4.out
      clear HC4
      by_cases c5 : 0 ≤ x3_1
      ·rw [if_pos c5] at H
       have c5b0 : decide (0 ≤ x3_1) = true := decide_eq_true c5
       clear c5
       ((skip))
       by_cases c6 : (((rd_T30 l0 x3_1).f1).length : Int) > 70
       ·rw [if_pos c6] at H
        have c6b0 : decide (70 < (((rd_T30 l0 x3_1).f1).length : Int)) = true := decide_eq_true c6
        have c6b1 : decide (70 < ((rd_T30 l0 x3_1).f1).length) = true := decide_eq_true (by omega)
        clear c6
        have H' := Aside0.mk H
        clear H
        have p107 : 0 ≤ (x3_1 : Int) := of_decide_eq_true (by (with_reducible assumption))
        have q107 : x3_1 < (l0.length : Int) := of_decide_eq_true (by (with_reducible assumption))
        obtain ⟨ad107, A107_1, c107_1, e107, hx107_0, hx107_1, hl107_1, hi107_1⟩ := at_T30 HR0.out x3_1 p107 q107
        cases e107
        replace hx107_0 := (HB.out.cell (World.block_lt_of_cell? w _ hx107_0)).trans hx107_0
        replace hx107_1 := (HB.out.cell (World.block_lt_of_cell? w _ hx107_1)).trans hx107_1
        have HR107_1 := Aside0.mk hi107_1
        have HC107_1 := Aside0.mk hl107_1
        clear hi107_1 hl107_1
        replace p107 := eq_true p107
        replace q107 := eq_true q107
        go_wp2
        go_meet
        case rel => exact ⟨_, (true), (by (rfl)), H', ⟨by have := HK1.out; (omega)⟩, ⟨by repeat ((with_reducible (exact HB.out)))⟩⟩
       ·rw [if_neg c6] at H
        have c6b0 : decide (70 < (((rd_T30 l0 x3_1).f1).length : Int)) = false := decide_eq_false c6
        have c6b1 : decide (70 < ((rd_T30 l0 x3_1).f1).length) = false := decide_eq_false (by omega)
        clear c6
        have H' := Aside0.mk H
        clear H
        have p107 : 0 ≤ (x3_1 : Int) := of_decide_eq_true (by (with_reducible assumption))
        have q107 : x3_1 < (l0.length : Int) := of_decide_eq_true (by (with_reducible assumption))
        obtain ⟨ad107, A107_1, c107_1, e107, hx107_0, hx107_1, hl107_1, hi107_1⟩ := at_T30 HR0.out x3_1 p107 q107
        cases e107
        replace hx107_0 := (HB.out.cell (World.block_lt_of_cell? w _ hx107_0)).trans hx107_0
        replace hx107_1 := (HB.out.cell (World.block_lt_of_cell? w _ hx107_1)).trans hx107_1
        have HR107_1 := Aside0.mk hi107_1
        have HC107_1 := Aside0.mk hl107_1
        clear hi107_1 hl107_1
        replace p107 := eq_true p107
        replace q107 := eq_true q107
        have p108 : 0 ≤ (x3_1 : Int) := of_decide_eq_true (by (with_reducible assumption))
        have q108 : x3_1 < (l0.length : Int) := of_decide_eq_true (by (with_reducible assumption))
        obtain ⟨ad108, A108_1, c108_1, e108, hx108_0, hx108_1, hl108_1, hi108_1⟩ := at_T30 HR0.out x3_1 p108 q108
        obtain rfl : ad107 = ad108 := (by injection e108)
        replace hx108_0 := (HB.out.cell (World.block_lt_of_cell? w _ hx108_0)).trans hx108_0
        replace hx108_1 := (HB.out.cell (World.block_lt_of_cell? w _ hx108_1)).trans hx108_1
        have HR108_1 := Aside0.mk hi108_1
        have HC108_1 := Aside0.mk hl108_1
        clear hi108_1 hl108_1
        replace p108 := eq_true p108
        replace q108 := eq_true q108
        have ea_ := Option.some.inj (hx107_1.symm.trans hx108_1)
        injection ea_ with ea_ en_ ec_
        subst ea_
        subst ec_
        clear en_
        go_wp2
        go_meet
        case rel => exact ⟨_, (decide ((((rd_T30 l0 x3_1).f0).size : Int) > 100)), (by (rfl)), H', ⟨by have := HK1.out; (omega)⟩, ⟨by repeat ((with_reducible (exact HB.out)))⟩⟩
      ·rw [if_neg c5] at H
       exact absurd H (by simp)
     case rest =>
      clear HC4
      try clear c3b0
      obtain ⟨kq, x29_3, rfl, HA, HJ3, HB⟩ := hcut
      cases kq with
      | zero => exact absurd HA.out (by simp [lunetteref12_Few.j1])
      | succ kj3 =>
       have H := HA.out
       clear HA
       simp only [lunetteref12_Few.j1] at H
       by_cases c7 : x29_3 = true
       ·subst c7
        have H1 : (some false) = some r := by rw [if_pos rfl] at H; exact H
        clear H
        have H := H1
        clear H1
        obtain rfl := Option.some.inj H
        go_wp2
        go_ret
        exact ⟨by (rfl), by repeat ((with_reducible (exact HB.out)))⟩
       ·replace c7 := Bool.eq_false_iff.mpr c7
        subst c7
        have H1 : (lunetteref12_Few.l1 kj3 l0 x3_1 0) = some r := by rw [if_neg (show ¬ (false = true) by decide)] at H; exact H
        clear H
        have H := H1
        clear H1
        have H' := Aside0.mk H
        clear H
        go_wp2
        go_loopg [4] kj3 (fun kq v4 w' => ∃ (x4_3 : Int), v4 = .int .i64 x4_3 ∧ Aside0 (lunetteref12_Few.l1 kq l0 x3_1 x4_3 = some r) ∧ Aside0 (kq ≤ kj3) ∧ Aside0 (Below w.heap.size w w'))
        case atStart => exact ⟨(0), (by (rfl)), H', ⟨Nat.le_refl _⟩, ⟨by repeat ((with_reducible (exact HB.out)))⟩⟩
        case round =>
         clear H'
         obtain ⟨x4_3, rfl, HA, HK3, HB⟩ := hrel
         cases gk with
         | zero => exact absurd HA.out (by simp [lunetteref12_Few.l1])
         | succ k3 =>
          have H := HA.out
          clear HA
          simp only [lunetteref12_Few.l1] at H
          by_cases c8 : 0 ≤ x3_1
          ·rw [if_pos c8] at H
           have c8b0 : decide (0 ≤ x3_1) = true := decide_eq_true c8
           clear c8
           by_cases c9 : x3_1 < (l0.length : Int)
           ·rw [if_pos c9] at H
            have c9b0 : decide (x3_1 < (l0.length : Int)) = true := decide_eq_true c9
            clear c9
            by_cases c10 : x4_3 < (((rd_T30 l0 x3_1).f1).length : Int)
            ·rw [if_pos c10] at H
             have c10b0 : decide (x4_3 < (((rd_T30 l0 x3_1).f1).length : Int)) = true := decide_eq_true c10
             clear c10
             by_cases c11 : 0 ≤ x4_3
             ·rw [if_pos c11] at H
              have c11b0 : decide (0 ≤ x4_3) = true := decide_eq_true c11
              clear c11
              replace H := Option.bind_eq_some_iff.mp H
              obtain ⟨t112, A120, H⟩ := H
              replace H : (if t112 = true then ((lunetteref12_Size.f k3 ((rd_T35 ((rd_T30 l0 x3_1).f1) x4_3).f1.f0) ((rd_T35 ((rd_T30 l0 x3_1).f1) x4_3).f1.f1) ((rd_T35 ((rd_T30 l0 x3_1).f1) x4_3).f1.f2) ((rd_T35 ((rd_T30 l0 x3_1).f1) x4_3).f1.f3)).bind fun t115 => (if t115 > 100 then (some false) else (if (((rd_T35 ((rd_T30 l0 x3_1).f1) x4_3).f0).size : Int) > 100 then (some false) else (lunetteref12_Few.l1 k3 l0 x3_1 (wrap64 (x4_3 + 1)))))) else (some false)) = some r := H
              have A12 := Aside0.mk A120
              clear A120
              by_cases c13 : t112 = true
              ·subst c13
               have H1 : ((lunetteref12_Size.f k3 ((rd_T35 ((rd_T30 l0 x3_1).f1) x4_3).f1.f0) ((rd_T35 ((rd_T30 l0 x3_1).f1) x4_3).f1.f1) ((rd_T35 ((rd_T30 l0 x3_1).f1) x4_3).f1.f2) ((rd_T35 ((rd_T30 l0 x3_1).f1) x4_3).f1.f3)).bind fun t115 => (if t115 > 100 then (some false) else (if (((rd_T35 ((rd_T30 l0 x3_1).f1) x4_3).f0).size : Int) > 100 then (some false) else (lunetteref12_Few.l1 k3 l0 x3_1 (wrap64 (x4_3 + 1)))))) = some r := by rw [if_pos rfl] at H; exact H
               clear H
               have H := H1
               clear H1
               replace H := Option.bind_eq_some_iff.mp H
               obtain ⟨t115, A140, H⟩ := H
               replace H : (if t115 > 100 then (some false) else (if (((rd_T35 ((rd_T30 l0 x3_1).f1) x4_3).f0).size : Int) > 100 then (some false) else (lunetteref12_Few.l1 k3 l0 x3_1 (wrap64 (x4_3 + 1))))) = some r := H
               have A14 := Aside0.mk A140
               clear A140
               by_cases c15 : t115 > 100
               ·rw [if_pos c15] at H
                have c15b0 : decide (100 < t115) = true := decide_eq_true c15
                clear c15
                obtain rfl := Option.some.inj H
                have p109 : 0 ≤ (x3_1 : Int) := of_decide_eq_true (by (with_reducible assumption))
                have q109 : x3_1 < (l0.length : Int) := of_decide_eq_true (by (with_reducible assumption))
                obtain ⟨ad109, A109_1, c109_1, e109, hx109_0, hx109_1, hl109_1, hi109_1⟩ := at_T30 HR0.out x3_1 p109 q109
                cases e109
                replace hx109_0 := (HB.out.cell (World.block_lt_of_cell? w _ hx109_0)).trans hx109_0
                replace hx109_1 := (HB.out.cell (World.block_lt_of_cell? w _ hx109_1)).trans hx109_1
                have HR109_1 := Aside0.mk hi109_1
                have HC109_1 := Aside0.mk hl109_1
                clear hi109_1 hl109_1
                replace p109 := eq_true p109
                replace q109 := eq_true q109
                have p110 : 0 ≤ (x3_1 : Int) := of_decide_eq_true (by (with_reducible assumption))
                have q110 : x3_1 < (l0.length : Int) := of_decide_eq_true (by (with_reducible assumption))
                obtain ⟨ad110, A110_1, c110_1, e110, hx110_0, hx110_1, hl110_1, hi110_1⟩ := at_T30 HR0.out x3_1 p110 q110
                obtain rfl : ad109 = ad110 := (by injection e110)
                replace hx110_0 := (HB.out.cell (World.block_lt_of_cell? w _ hx110_0)).trans hx110_0
                replace hx110_1 := (HB.out.cell (World.block_lt_of_cell? w _ hx110_1)).trans hx110_1
                have HR110_1 := Aside0.mk hi110_1
                have HC110_1 := Aside0.mk hl110_1
                clear hi110_1 hl110_1
                replace p110 := eq_true p110
                replace q110 := eq_true q110
                have ea_ := Option.some.inj (hx109_1.symm.trans hx110_1)
                injection ea_ with ea_ en_ ec_
                subst ea_
                subst ec_
                clear en_
                have p111 : 0 ≤ (x4_3 : Int) := of_decide_eq_true (by (with_reducible assumption))
                have q111 : x4_3 < (((rd_T30 l0 x3_1).f1).length : Int) := of_decide_eq_true (by (with_reducible assumption))
                obtain ⟨ad111, A111_4, c111_4, e111, hx111_0, hx111_1, hx111_2, hx111_3, hx111_4, hl111_4, hi111_4⟩ := at_T35 HR110_1.out x4_3 p111 q111
                cases e111
                replace hx111_0 := (HB.out.cell (World.block_lt_of_cell? w _ hx111_0)).trans hx111_0
                replace hx111_1 := (HB.out.cell (World.block_lt_of_cell? w _ hx111_1)).trans hx111_1
                replace hx111_2 := (HB.out.cell (World.block_lt_of_cell? w _ hx111_2)).trans hx111_2
                replace hx111_3 := (HB.out.cell (World.block_lt_of_cell? w _ hx111_3)).trans hx111_3
                replace hx111_4 := (HB.out.cell (World.block_lt_of_cell? w _ hx111_4)).trans hx111_4
                have HR111_4 := Aside0.mk hi111_4
                have HC111_4 := Aside0.mk hl111_4
                clear hi111_4 hl111_4
                replace p111 := eq_true p111
                replace q111 := eq_true q111
                go_wp2_with (first | ((with_reducible refine gate_callee (f := 25) rfl ?_); refine goesL_ (some 49) rfl rfl Tryz.func25 (by kernel_rfl) rfl #[.agg #[.string ((rd_T35 ((rd_T30 l0 x3_1).f1) x4_3).f1.f0), .string ((rd_T35 ((rd_T30 l0 x3_1).f1) x4_3).f1.f1), .string ((rd_T35 ((rd_T30 l0 x3_1).f1) x4_3).f1.f2), .slice A111_4 ((rd_T35 ((rd_T30 l0 x3_1).f1) x4_3).f1.f3).length c111_4], .int .i64 30] rfl (by (try simp only [List.map_toArray, List.map_cons, List.map_nil]); (rfl)) ?_; (with_reducible refine (lunetteref12_short.calls k3 ((rd_T35 ((rd_T30 l0 x3_1).f1) x4_3).f1.f0) ((rd_T35 ((rd_T30 l0 x3_1).f1) x4_3).f1.f1) ((rd_T35 ((rd_T30 l0 x3_1).f1) x4_3).f1.f2) _ _ ((rd_T35 ((rd_T30 l0 x3_1).f1) x4_3).f1.f3) 30 true _ ?side1 ?side2 A12.out).mono ?_); (case side1 => repeat ((exact (Kd.C_below HR111_4.out HB.out)))); (case side2 => exact HC111_4.out); rintro e w16 ⟨rfl, hb⟩; refine ⟨_, rfl, ?_⟩; have n0_ := Aside0.mk (below_step (by repeat ((with_reducible (exact HB.out)))) hb); clear HB; have HB := n0_; clear n0_; (try clear hb); have p113 : 0 ≤ (x3_1 : Int) := of_decide_eq_true (by (with_reducible assumption)); have q113 : x3_1 < (l0.length : Int) := of_decide_eq_true (by (with_reducible assumption)); obtain ⟨ad113, A113_1, c113_1, e113, hx113_0, hx113_1, hl113_1, hi113_1⟩ := at_T30 HR0.out x3_1 p113 q113; obtain rfl : ad109 = ad113 := (by injection e113); replace hx113_0 := (HB.out.cell (World.block_lt_of_cell? w _ hx113_0)).trans hx113_0; replace hx113_1 := (HB.out.cell (World.block_lt_of_cell? w _ hx113_1)).trans hx113_1; have HR113_1 := Aside0.mk hi113_1; have HC113_1 := Aside0.mk hl113_1; clear hi113_1 hl113_1; replace p113 := eq_true p113; replace q113 := eq_true q113; have p114 : 0 ≤ (x4_3 : Int) := of_decide_eq_true (by (with_reducible assumption)); have q114 : x4_3 < (((rd_T30 l0 x3_1).f1).length : Int) := of_decide_eq_true (by (with_reducible assumption)); obtain ⟨ad114, A114_4, c114_4, e114, hx114_0, hx114_1, hx114_2, hx114_3, hx114_4, hl114_4, hi114_4⟩ := at_T35 HR113_1.out x4_3 p114 q114; cases e114; replace hx114_0 := (HB.out.cell (World.block_lt_of_cell? w _ hx114_0)).trans hx114_0; replace hx114_1 := (HB.out.cell (World.block_lt_of_cell? w _ hx114_1)).trans hx114_1; replace hx114_2 := (HB.out.cell (World.block_lt_of_cell? w _ hx114_2)).trans hx114_2; replace hx114_3 := (HB.out.cell (World.block_lt_of_cell? w _ hx114_3)).trans hx114_3; replace hx114_4 := (HB.out.cell (World.block_lt_of_cell? w _ hx114_4)).trans hx114_4; have HR114_4 := Aside0.mk hi114_4; have HC114_4 := Aside0.mk hl114_4; clear hi114_4 hl114_4; replace p114 := eq_true p114; replace q114 := eq_true q114) | (go_at_call 21; (with_reducible refine (lunetteref12_Size.calls k3 ((rd_T35 ((rd_T30 l0 x3_1).f1) x4_3).f1.f0) ((rd_T35 ((rd_T30 l0 x3_1).f1) x4_3).f1.f1) ((rd_T35 ((rd_T30 l0 x3_1).f1) x4_3).f1.f2) _ _ ((rd_T35 ((rd_T30 l0 x3_1).f1) x4_3).f1.f3) t115 _ ?side1 ?side2 A14.out).mono ?_); (case side1 => repeat ((exact (Kd.C_below HR114_4.out HB.out)))); (case side2 => exact HC114_4.out); rintro e w17 ⟨rfl, hb⟩; have n0_ := Aside0.mk (below_step (by repeat ((with_reducible (exact HB.out)))) hb); clear HB; have HB := n0_; clear n0_; (try clear hb)))
                go_ret
                exact ⟨by (rfl), by repeat ((with_reducible (exact HB.out)))⟩
               ·rw [if_neg c15] at H
                have c15b0 : decide (100 < t115) = false := decide_eq_false c15
                clear c15
                by_cases c18 : (((rd_T35 ((rd_T30 l0 x3_1).f1) x4_3).f0).size : Int) > 100
                ·rw [if_pos c18] at H
                 have c18b0 : decide (100 < (((rd_T35 ((rd_T30 l0 x3_1).f1) x4_3).f0).size : Int)) = true := decide_eq_true c18
                 have c18b1 : decide (100 < ((rd_T35 ((rd_T30 l0 x3_1).f1) x4_3).f0).size) = true := decide_eq_true (by omega)
                 clear c18
                 obtain rfl := Option.some.inj H
                 have p109 : 0 ≤ (x3_1 : Int) := of_decide_eq_true (by (with_reducible assumption))
                 have q109 : x3_1 < (l0.length : Int) := of_decide_eq_true (by (with_reducible assumption))
                 obtain ⟨ad109, A109_1, c109_1, e109, hx109_0, hx109_1, hl109_1, hi109_1⟩ := at_T30 HR0.out x3_1 p109 q109
                 cases e109
                 replace hx109_0 := (HB.out.cell (World.block_lt_of_cell? w _ hx109_0)).trans hx109_0
                 replace hx109_1 := (HB.out.cell (World.block_lt_of_cell? w _ hx109_1)).trans hx109_1
                 have HR109_1 := Aside0.mk hi109_1
                 have HC109_1 := Aside0.mk hl109_1
                 clear hi109_1 hl109_1
                 replace p109 := eq_true p109
                 replace q109 := eq_true q109
                 have p110 : 0 ≤ (x3_1 : Int) := of_decide_eq_true (by (with_reducible assumption))
                 have q110 : x3_1 < (l0.length : Int) := of_decide_eq_true (by (with_reducible assumption))
                 obtain ⟨ad110, A110_1, c110_1, e110, hx110_0, hx110_1, hl110_1, hi110_1⟩ := at_T30 HR0.out x3_1 p110 q110
                 obtain rfl : ad109 = ad110 := (by injection e110)
                 replace hx110_0 := (HB.out.cell (World.block_lt_of_cell? w _ hx110_0)).trans hx110_0
                 replace hx110_1 := (HB.out.cell (World.block_lt_of_cell? w _ hx110_1)).trans hx110_1
                 have HR110_1 := Aside0.mk hi110_1
                 have HC110_1 := Aside0.mk hl110_1
                 clear hi110_1 hl110_1
                 replace p110 := eq_true p110
                 replace q110 := eq_true q110
                 have ea_ := Option.some.inj (hx109_1.symm.trans hx110_1)
                 injection ea_ with ea_ en_ ec_
                 subst ea_
                 subst ec_
                 clear en_
                 have p111 : 0 ≤ (x4_3 : Int) := of_decide_eq_true (by (with_reducible assumption))
                 have q111 : x4_3 < (((rd_T30 l0 x3_1).f1).length : Int) := of_decide_eq_true (by (with_reducible assumption))
                 obtain ⟨ad111, A111_4, c111_4, e111, hx111_0, hx111_1, hx111_2, hx111_3, hx111_4, hl111_4, hi111_4⟩ := at_T35 HR110_1.out x4_3 p111 q111
                 cases e111
                 replace hx111_0 := (HB.out.cell (World.block_lt_of_cell? w _ hx111_0)).trans hx111_0
                 replace hx111_1 := (HB.out.cell (World.block_lt_of_cell? w _ hx111_1)).trans hx111_1
                 replace hx111_2 := (HB.out.cell (World.block_lt_of_cell? w _ hx111_2)).trans hx111_2
                 replace hx111_3 := (HB.out.cell (World.block_lt_of_cell? w _ hx111_3)).trans hx111_3
                 replace hx111_4 := (HB.out.cell (World.block_lt_of_cell? w _ hx111_4)).trans hx111_4
                 have HR111_4 := Aside0.mk hi111_4
                 have HC111_4 := Aside0.mk hl111_4
                 clear hi111_4 hl111_4
                 replace p111 := eq_true p111
                 replace q111 := eq_true q111
                 go_wp2_with (first | ((with_reducible refine gate_callee (f := 25) rfl ?_); refine goesL_ (some 49) rfl rfl Tryz.func25 (by kernel_rfl) rfl #[.agg #[.string ((rd_T35 ((rd_T30 l0 x3_1).f1) x4_3).f1.f0), .string ((rd_T35 ((rd_T30 l0 x3_1).f1) x4_3).f1.f1), .string ((rd_T35 ((rd_T30 l0 x3_1).f1) x4_3).f1.f2), .slice A111_4 ((rd_T35 ((rd_T30 l0 x3_1).f1) x4_3).f1.f3).length c111_4], .int .i64 30] rfl (by (try simp only [List.map_toArray, List.map_cons, List.map_nil]); (rfl)) ?_; (with_reducible refine (lunetteref12_short.calls k3 ((rd_T35 ((rd_T30 l0 x3_1).f1) x4_3).f1.f0) ((rd_T35 ((rd_T30 l0 x3_1).f1) x4_3).f1.f1) ((rd_T35 ((rd_T30 l0 x3_1).f1) x4_3).f1.f2) _ _ ((rd_T35 ((rd_T30 l0 x3_1).f1) x4_3).f1.f3) 30 true _ ?side1 ?side2 A12.out).mono ?_); (case side1 => repeat ((exact (Kd.C_below HR111_4.out HB.out)))); (case side2 => exact HC111_4.out); rintro e w19 ⟨rfl, hb⟩; refine ⟨_, rfl, ?_⟩; have n0_ := Aside0.mk (below_step (by repeat ((with_reducible (exact HB.out)))) hb); clear HB; have HB := n0_; clear n0_; (try clear hb); have p113 : 0 ≤ (x3_1 : Int) := of_decide_eq_true (by (with_reducible assumption)); have q113 : x3_1 < (l0.length : Int) := of_decide_eq_true (by (with_reducible assumption)); obtain ⟨ad113, A113_1, c113_1, e113, hx113_0, hx113_1, hl113_1, hi113_1⟩ := at_T30 HR0.out x3_1 p113 q113; obtain rfl : ad109 = ad113 := (by injection e113); replace hx113_0 := (HB.out.cell (World.block_lt_of_cell? w _ hx113_0)).trans hx113_0; replace hx113_1 := (HB.out.cell (World.block_lt_of_cell? w _ hx113_1)).trans hx113_1; have HR113_1 := Aside0.mk hi113_1; have HC113_1 := Aside0.mk hl113_1; clear hi113_1 hl113_1; replace p113 := eq_true p113; replace q113 := eq_true q113; have p114 : 0 ≤ (x4_3 : Int) := of_decide_eq_true (by (with_reducible assumption)); have q114 : x4_3 < (((rd_T30 l0 x3_1).f1).length : Int) := of_decide_eq_true (by (with_reducible assumption)); obtain ⟨ad114, A114_4, c114_4, e114, hx114_0, hx114_1, hx114_2, hx114_3, hx114_4, hl114_4, hi114_4⟩ := at_T35 HR113_1.out x4_3 p114 q114; cases e114; replace hx114_0 := (HB.out.cell (World.block_lt_of_cell? w _ hx114_0)).trans hx114_0; replace hx114_1 := (HB.out.cell (World.block_lt_of_cell? w _ hx114_1)).trans hx114_1; replace hx114_2 := (HB.out.cell (World.block_lt_of_cell? w _ hx114_2)).trans hx114_2; replace hx114_3 := (HB.out.cell (World.block_lt_of_cell? w _ hx114_3)).trans hx114_3; replace hx114_4 := (HB.out.cell (World.block_lt_of_cell? w _ hx114_4)).trans hx114_4; have HR114_4 := Aside0.mk hi114_4; have HC114_4 := Aside0.mk hl114_4; clear hi114_4 hl114_4; replace p114 := eq_true p114; replace q114 := eq_true q114) | (go_at_call 21; (with_reducible refine (lunetteref12_Size.calls k3 ((rd_T35 ((rd_T30 l0 x3_1).f1) x4_3).f1.f0) ((rd_T35 ((rd_T30 l0 x3_1).f1) x4_3).f1.f1) ((rd_T35 ((rd_T30 l0 x3_1).f1) x4_3).f1.f2) _ _ ((rd_T35 ((rd_T30 l0 x3_1).f1) x4_3).f1.f3) t115 _ ?side1 ?side2 A14.out).mono ?_); (case side1 => repeat ((exact (Kd.C_below HR114_4.out HB.out)))); (case side2 => exact HC114_4.out); rintro e w20 ⟨rfl, hb⟩; have n0_ := Aside0.mk (below_step (by repeat ((with_reducible (exact HB.out)))) hb); clear HB; have HB := n0_; clear n0_; (try clear hb); have p116 : 0 ≤ (x3_1 : Int) := of_decide_eq_true (by (with_reducible assumption)); have q116 : x3_1 < (l0.length : Int) := of_decide_eq_true (by (with_reducible assumption)); obtain ⟨ad116, A116_1, c116_1, e116, hx116_0, hx116_1, hl116_1, hi116_1⟩ := at_T30 HR0.out x3_1 p116 q116; obtain rfl : ad109 = ad116 := (by injection e116); replace hx116_0 := (HB.out.cell (World.block_lt_of_cell? w _ hx116_0)).trans hx116_0; replace hx116_1 := (HB.out.cell (World.block_lt_of_cell? w _ hx116_1)).trans hx116_1; have HR116_1 := Aside0.mk hi116_1; have HC116_1 := Aside0.mk hl116_1; clear hi116_1 hl116_1; replace p116 := eq_true p116; replace q116 := eq_true q116; have p117 : 0 ≤ (x4_3 : Int) := of_decide_eq_true (by (with_reducible assumption)); have q117 : x4_3 < (((rd_T30 l0 x3_1).f1).length : Int) := of_decide_eq_true (by (with_reducible assumption)); obtain ⟨ad117, A117_4, c117_4, e117, hx117_0, hx117_1, hx117_2, hx117_3, hx117_4, hl117_4, hi117_4⟩ := at_T35 HR116_1.out x4_3 p117 q117; cases e117; replace hx117_0 := (HB.out.cell (World.block_lt_of_cell? w _ hx117_0)).trans hx117_0; replace hx117_1 := (HB.out.cell (World.block_lt_of_cell? w _ hx117_1)).trans hx117_1; replace hx117_2 := (HB.out.cell (World.block_lt_of_cell? w _ hx117_2)).trans hx117_2; replace hx117_3 := (HB.out.cell (World.block_lt_of_cell? w _ hx117_3)).trans hx117_3; replace hx117_4 := (HB.out.cell (World.block_lt_of_cell? w _ hx117_4)).trans hx117_4; have HR117_4 := Aside0.mk hi117_4; have HC117_4 := Aside0.mk hl117_4; clear hi117_4 hl117_4; replace p117 := eq_true p117; replace q117 := eq_true q117))
                 go_ret
                 exact ⟨by (rfl), by repeat ((with_reducible (exact HB.out)))⟩
                ·rw [if_neg c18] at H
                 have c18b0 : decide (100 < (((rd_T35 ((rd_T30 l0 x3_1).f1) x4_3).f0).size : Int)) = false := decide_eq_false c18
                 have c18b1 : decide (100 < ((rd_T35 ((rd_T30 l0 x3_1).f1) x4_3).f0).size) = false := decide_eq_false (by omega)
                 clear c18
                 have H' := Aside0.mk H
                 clear H
                 have p109 : 0 ≤ (x3_1 : Int) := of_decide_eq_true (by (with_reducible assumption))
                 have q109 : x3_1 < (l0.length : Int) := of_decide_eq_true (by (with_reducible assumption))
                 obtain ⟨ad109, A109_1, c109_1, e109, hx109_0, hx109_1, hl109_1, hi109_1⟩ := at_T30 HR0.out x3_1 p109 q109
                 cases e109
                 replace hx109_0 := (HB.out.cell (World.block_lt_of_cell? w _ hx109_0)).trans hx109_0
                 replace hx109_1 := (HB.out.cell (World.block_lt_of_cell? w _ hx109_1)).trans hx109_1
                 have HR109_1 := Aside0.mk hi109_1
                 have HC109_1 := Aside0.mk hl109_1
                 clear hi109_1 hl109_1
                 replace p109 := eq_true p109
                 replace q109 := eq_true q109
                 have p110 : 0 ≤ (x3_1 : Int) := of_decide_eq_true (by (with_reducible assumption))
                 have q110 : x3_1 < (l0.length : Int) := of_decide_eq_true (by (with_reducible assumption))
                 obtain ⟨ad110, A110_1, c110_1, e110, hx110_0, hx110_1, hl110_1, hi110_1⟩ := at_T30 HR0.out x3_1 p110 q110
                 obtain rfl : ad109 = ad110 := (by injection e110)
                 replace hx110_0 := (HB.out.cell (World.block_lt_of_cell? w _ hx110_0)).trans hx110_0
                 replace hx110_1 := (HB.out.cell (World.block_lt_of_cell? w _ hx110_1)).trans hx110_1
                 have HR110_1 := Aside0.mk hi110_1
                 have HC110_1 := Aside0.mk hl110_1
                 clear hi110_1 hl110_1
                 replace p110 := eq_true p110
                 replace q110 := eq_true q110
                 have ea_ := Option.some.inj (hx109_1.symm.trans hx110_1)
                 injection ea_ with ea_ en_ ec_
                 subst ea_
                 subst ec_
                 clear en_
                 have p111 : 0 ≤ (x4_3 : Int) := of_decide_eq_true (by (with_reducible assumption))
                 have q111 : x4_3 < (((rd_T30 l0 x3_1).f1).length : Int) := of_decide_eq_true (by (with_reducible assumption))
                 obtain ⟨ad111, A111_4, c111_4, e111, hx111_0, hx111_1, hx111_2, hx111_3, hx111_4, hl111_4, hi111_4⟩ := at_T35 HR110_1.out x4_3 p111 q111
                 cases e111
                 replace hx111_0 := (HB.out.cell (World.block_lt_of_cell? w _ hx111_0)).trans hx111_0
                 replace hx111_1 := (HB.out.cell (World.block_lt_of_cell? w _ hx111_1)).trans hx111_1
                 replace hx111_2 := (HB.out.cell (World.block_lt_of_cell? w _ hx111_2)).trans hx111_2
                 replace hx111_3 := (HB.out.cell (World.block_lt_of_cell? w _ hx111_3)).trans hx111_3
                 replace hx111_4 := (HB.out.cell (World.block_lt_of_cell? w _ hx111_4)).trans hx111_4
                 have HR111_4 := Aside0.mk hi111_4
                 have HC111_4 := Aside0.mk hl111_4
                 clear hi111_4 hl111_4
                 replace p111 := eq_true p111
                 replace q111 := eq_true q111
                 go_wp2_with (first | ((with_reducible refine gate_callee (f := 25) rfl ?_); refine goesL_ (some 49) rfl rfl Tryz.func25 (by kernel_rfl) rfl #[.agg #[.string ((rd_T35 ((rd_T30 l0 x3_1).f1) x4_3).f1.f0), .string ((rd_T35 ((rd_T30 l0 x3_1).f1) x4_3).f1.f1), .string ((rd_T35 ((rd_T30 l0 x3_1).f1) x4_3).f1.f2), .slice A111_4 ((rd_T35 ((rd_T30 l0 x3_1).f1) x4_3).f1.f3).length c111_4], .int .i64 30] rfl (by (try simp only [List.map_toArray, List.map_cons, List.map_nil]); (rfl)) ?_; (with_reducible refine (lunetteref12_short.calls k3 ((rd_T35 ((rd_T30 l0 x3_1).f1) x4_3).f1.f0) ((rd_T35 ((rd_T30 l0 x3_1).f1) x4_3).f1.f1) ((rd_T35 ((rd_T30 l0 x3_1).f1) x4_3).f1.f2) _ _ ((rd_T35 ((rd_T30 l0 x3_1).f1) x4_3).f1.f3) 30 true _ ?side1 ?side2 A12.out).mono ?_); (case side1 => repeat ((exact (Kd.C_below HR111_4.out HB.out)))); (case side2 => exact HC111_4.out); rintro e w21 ⟨rfl, hb⟩; refine ⟨_, rfl, ?_⟩; have n0_ := Aside0.mk (below_step (by repeat ((with_reducible (exact HB.out)))) hb); clear HB; have HB := n0_; clear n0_; (try clear hb); have p113 : 0 ≤ (x3_1 : Int) := of_decide_eq_true (by (with_reducible assumption)); have q113 : x3_1 < (l0.length : Int) := of_decide_eq_true (by (with_reducible assumption)); obtain ⟨ad113, A113_1, c113_1, e113, hx113_0, hx113_1, hl113_1, hi113_1⟩ := at_T30 HR0.out x3_1 p113 q113; obtain rfl : ad109 = ad113 := (by injection e113); replace hx113_0 := (HB.out.cell (World.block_lt_of_cell? w _ hx113_0)).trans hx113_0; replace hx113_1 := (HB.out.cell (World.block_lt_of_cell? w _ hx113_1)).trans hx113_1; have HR113_1 := Aside0.mk hi113_1; have HC113_1 := Aside0.mk hl113_1; clear hi113_1 hl113_1; replace p113 := eq_true p113; replace q113 := eq_true q113; have p114 : 0 ≤ (x4_3 : Int) := of_decide_eq_true (by (with_reducible assumption)); have q114 : x4_3 < (((rd_T30 l0 x3_1).f1).length : Int) := of_decide_eq_true (by (with_reducible assumption)); obtain ⟨ad114, A114_4, c114_4, e114, hx114_0, hx114_1, hx114_2, hx114_3, hx114_4, hl114_4, hi114_4⟩ := at_T35 HR113_1.out x4_3 p114 q114; cases e114; replace hx114_0 := (HB.out.cell (World.block_lt_of_cell? w _ hx114_0)).trans hx114_0; replace hx114_1 := (HB.out.cell (World.block_lt_of_cell? w _ hx114_1)).trans hx114_1; replace hx114_2 := (HB.out.cell (World.block_lt_of_cell? w _ hx114_2)).trans hx114_2; replace hx114_3 := (HB.out.cell (World.block_lt_of_cell? w _ hx114_3)).trans hx114_3; replace hx114_4 := (HB.out.cell (World.block_lt_of_cell? w _ hx114_4)).trans hx114_4; have HR114_4 := Aside0.mk hi114_4; have HC114_4 := Aside0.mk hl114_4; clear hi114_4 hl114_4; replace p114 := eq_true p114; replace q114 := eq_true q114) | (go_at_call 21; (with_reducible refine (lunetteref12_Size.calls k3 ((rd_T35 ((rd_T30 l0 x3_1).f1) x4_3).f1.f0) ((rd_T35 ((rd_T30 l0 x3_1).f1) x4_3).f1.f1) ((rd_T35 ((rd_T30 l0 x3_1).f1) x4_3).f1.f2) _ _ ((rd_T35 ((rd_T30 l0 x3_1).f1) x4_3).f1.f3) t115 _ ?side1 ?side2 A14.out).mono ?_); (case side1 => repeat ((exact (Kd.C_below HR114_4.out HB.out)))); (case side2 => exact HC114_4.out); rintro e w22 ⟨rfl, hb⟩; have n0_ := Aside0.mk (below_step (by repeat ((with_reducible (exact HB.out)))) hb); clear HB; have HB := n0_; clear n0_; (try clear hb); have p116 : 0 ≤ (x3_1 : Int) := of_decide_eq_true (by (with_reducible assumption)); have q116 : x3_1 < (l0.length : Int) := of_decide_eq_true (by (with_reducible assumption)); obtain ⟨ad116, A116_1, c116_1, e116, hx116_0, hx116_1, hl116_1, hi116_1⟩ := at_T30 HR0.out x3_1 p116 q116; obtain rfl : ad109 = ad116 := (by injection e116); replace hx116_0 := (HB.out.cell (World.block_lt_of_cell? w _ hx116_0)).trans hx116_0; replace hx116_1 := (HB.out.cell (World.block_lt_of_cell? w _ hx116_1)).trans hx116_1; have HR116_1 := Aside0.mk hi116_1; have HC116_1 := Aside0.mk hl116_1; clear hi116_1 hl116_1; replace p116 := eq_true p116; replace q116 := eq_true q116; have p117 : 0 ≤ (x4_3 : Int) := of_decide_eq_true (by (with_reducible assumption)); have q117 : x4_3 < (((rd_T30 l0 x3_1).f1).length : Int) := of_decide_eq_true (by (with_reducible assumption)); obtain ⟨ad117, A117_4, c117_4, e117, hx117_0, hx117_1, hx117_2, hx117_3, hx117_4, hl117_4, hi117_4⟩ := at_T35 HR116_1.out x4_3 p117 q117; cases e117; replace hx117_0 := (HB.out.cell (World.block_lt_of_cell? w _ hx117_0)).trans hx117_0; replace hx117_1 := (HB.out.cell (World.block_lt_of_cell? w _ hx117_1)).trans hx117_1; replace hx117_2 := (HB.out.cell (World.block_lt_of_cell? w _ hx117_2)).trans hx117_2; replace hx117_3 := (HB.out.cell (World.block_lt_of_cell? w _ hx117_3)).trans hx117_3; replace hx117_4 := (HB.out.cell (World.block_lt_of_cell? w _ hx117_4)).trans hx117_4; have HR117_4 := Aside0.mk hi117_4; have HC117_4 := Aside0.mk hl117_4; clear hi117_4 hl117_4; replace p117 := eq_true p117; replace q117 := eq_true q117))
                 go_roundg k3
                 case measure => have := HK1.out; have := HJ3.out; have := HK3.out; omega
                 case rel => exact ⟨(wrap64 (x4_3 + 1)), (by (rfl)), H', ⟨by have := HK1.out; have := HJ3.out; have := HK3.out; omega⟩, ⟨by repeat ((with_reducible (exact HB.out)))⟩⟩
              ·replace c13 := Bool.eq_false_iff.mpr c13
               subst c13
               have H1 : (some false) = some r := by rw [if_neg (show ¬ (false = true) by decide)] at H; exact H
               clear H
               have H := H1
               clear H1
               obtain rfl := Option.some.inj H
               have p109 : 0 ≤ (x3_1 : Int) := of_decide_eq_true (by (with_reducible assumption))
               have q109 : x3_1 < (l0.length : Int) := of_decide_eq_true (by (with_reducible assumption))
               obtain ⟨ad109, A109_1, c109_1, e109, hx109_0, hx109_1, hl109_1, hi109_1⟩ := at_T30 HR0.out x3_1 p109 q109
               cases e109
               replace hx109_0 := (HB.out.cell (World.block_lt_of_cell? w _ hx109_0)).trans hx109_0
               replace hx109_1 := (HB.out.cell (World.block_lt_of_cell? w _ hx109_1)).trans hx109_1
               have HR109_1 := Aside0.mk hi109_1
               have HC109_1 := Aside0.mk hl109_1
               clear hi109_1 hl109_1
               replace p109 := eq_true p109
               replace q109 := eq_true q109
               have p110 : 0 ≤ (x3_1 : Int) := of_decide_eq_true (by (with_reducible assumption))
               have q110 : x3_1 < (l0.length : Int) := of_decide_eq_true (by (with_reducible assumption))
               obtain ⟨ad110, A110_1, c110_1, e110, hx110_0, hx110_1, hl110_1, hi110_1⟩ := at_T30 HR0.out x3_1 p110 q110
               obtain rfl : ad109 = ad110 := (by injection e110)
               replace hx110_0 := (HB.out.cell (World.block_lt_of_cell? w _ hx110_0)).trans hx110_0
               replace hx110_1 := (HB.out.cell (World.block_lt_of_cell? w _ hx110_1)).trans hx110_1
               have HR110_1 := Aside0.mk hi110_1
               have HC110_1 := Aside0.mk hl110_1
               clear hi110_1 hl110_1
               replace p110 := eq_true p110
               replace q110 := eq_true q110
               have ea_ := Option.some.inj (hx109_1.symm.trans hx110_1)
               injection ea_ with ea_ en_ ec_
               subst ea_
               subst ec_
               clear en_
               have p111 : 0 ≤ (x4_3 : Int) := of_decide_eq_true (by (with_reducible assumption))
               have q111 : x4_3 < (((rd_T30 l0 x3_1).f1).length : Int) := of_decide_eq_true (by (with_reducible assumption))
               obtain ⟨ad111, A111_4, c111_4, e111, hx111_0, hx111_1, hx111_2, hx111_3, hx111_4, hl111_4, hi111_4⟩ := at_T35 HR110_1.out x4_3 p111 q111
               cases e111
               replace hx111_0 := (HB.out.cell (World.block_lt_of_cell? w _ hx111_0)).trans hx111_0
               replace hx111_1 := (HB.out.cell (World.block_lt_of_cell? w _ hx111_1)).trans hx111_1
               replace hx111_2 := (HB.out.cell (World.block_lt_of_cell? w _ hx111_2)).trans hx111_2
               replace hx111_3 := (HB.out.cell (World.block_lt_of_cell? w _ hx111_3)).trans hx111_3
               replace hx111_4 := (HB.out.cell (World.block_lt_of_cell? w _ hx111_4)).trans hx111_4
               have HR111_4 := Aside0.mk hi111_4
               have HC111_4 := Aside0.mk hl111_4
               clear hi111_4 hl111_4
               replace p111 := eq_true p111
               replace q111 := eq_true q111
               go_wp2_with (((with_reducible refine gate_callee (f := 25) rfl ?_); refine goesL_ (some 49) rfl rfl Tryz.func25 (by kernel_rfl) rfl #[.agg #[.string ((rd_T35 ((rd_T30 l0 x3_1).f1) x4_3).f1.f0), .string ((rd_T35 ((rd_T30 l0 x3_1).f1) x4_3).f1.f1), .string ((rd_T35 ((rd_T30 l0 x3_1).f1) x4_3).f1.f2), .slice A111_4 ((rd_T35 ((rd_T30 l0 x3_1).f1) x4_3).f1.f3).length c111_4], .int .i64 30] rfl (by (try simp only [List.map_toArray, List.map_cons, List.map_nil]); (rfl)) ?_; (with_reducible refine (lunetteref12_short.calls k3 ((rd_T35 ((rd_T30 l0 x3_1).f1) x4_3).f1.f0) ((rd_T35 ((rd_T30 l0 x3_1).f1) x4_3).f1.f1) ((rd_T35 ((rd_T30 l0 x3_1).f1) x4_3).f1.f2) _ _ ((rd_T35 ((rd_T30 l0 x3_1).f1) x4_3).f1.f3) 30 false _ ?side1 ?side2 A12.out).mono ?_); (case side1 => repeat ((exact (Kd.C_below HR111_4.out HB.out)))); (case side2 => exact HC111_4.out); rintro e w23 ⟨rfl, hb⟩; refine ⟨_, rfl, ?_⟩; have n0_ := Aside0.mk (below_step (by repeat ((with_reducible (exact HB.out)))) hb); clear HB; have HB := n0_; clear n0_; (try clear hb)))
               go_ret
               exact ⟨by (rfl), by repeat ((with_reducible (exact HB.out)))⟩
             ·rw [if_neg c11] at H
              exact absurd H (by simp)
            ·rw [if_neg c10] at H
             have c10b0 : decide (x4_3 < (((rd_T30 l0 x3_1).f1).length : Int)) = false := decide_eq_false c10
             clear c10
             have H' := Aside0.mk H
             clear H
             have p109 : 0 ≤ (x3_1 : Int) := of_decide_eq_true (by (with_reducible assumption))
             have q109 : x3_1 < (l0.length : Int) := of_decide_eq_true (by (with_reducible assumption))
             obtain ⟨ad109, A109_1, c109_1, e109, hx109_0, hx109_1, hl109_1, hi109_1⟩ := at_T30 HR0.out x3_1 p109 q109
             cases e109
             replace hx109_0 := (HB.out.cell (World.block_lt_of_cell? w _ hx109_0)).trans hx109_0
             replace hx109_1 := (HB.out.cell (World.block_lt_of_cell? w _ hx109_1)).trans hx109_1
             have HR109_1 := Aside0.mk hi109_1
             have HC109_1 := Aside0.mk hl109_1
             clear hi109_1 hl109_1
             replace p109 := eq_true p109
             replace q109 := eq_true q109
             go_wp2
             go_roundg k3
             case measure => have := HK1.out; have := HJ3.out; have := HK3.out; omega
             case rel => exact ⟨(wrap64 (x3_1 + 1)), (by (rfl)), H', ⟨by have := HK1.out; have := HJ3.out; have := HK3.out; omega⟩, ⟨by repeat ((with_reducible (exact HB.out)))⟩⟩
           ·rw [if_neg c9] at H
            exact absurd H (by simp)
          ·rw [if_neg c8] at H
           exact absurd H (by simp)
    ·rw [if_neg c3] at H
     have c3b0 : decide (x3_1 < (l0.length : Int)) = false := decide_eq_false c3
     clear c3
     obtain rfl := Option.some.inj H
     go_wp2
     go_ret
     exact ⟨by (rfl), by repeat ((with_reducible (exact HB.out)))⟩
end Go.Proofs.YtjcipbdocbomjaaGreatDoor.K
namespace Go.Proofs.YtjcipbdocbomjaaGreatDoor.K
theorem S33.ind {P : S33 → Prop} (h : ∀ x : S33, (∀ y ∈ x.f3, P y) → P x) (x : S33) : P x := by
 have : ∀ n, ∀ x : S33, SizeOf.sizeOf x < n → P x := by
  intro n
  induction n with
  | zero => intro x h; omega
  | succ n ih => intro x hx; exact h x fun y hy => ih y (by have := S33.lt_of_mem hy; omega)
 exact this _ x (Nat.lt_succ_self _)
theorem rd33 {l : List S33} {i : Nat} (h : i < l.length) : rd_T33 l (i : Int) = l[i] := rd_some z33 l i h
theorem rd35 {l : List S35} {i : Nat} (h : i < l.length) : rd_T35 l (i : Int) = l[i] := rd_some z35 l i h
theorem rd30 {l : List S30} {i : Nat} (h : i < l.length) : rd_T30 l (i : Int) = l[i] := rd_some z30 l i h
def tsize (x : S33) : Nat := 1 + (x.f3.attach.map fun y => tsize y.1).sum
 termination_by SizeOf.sizeOf x
 decreasing_by exact S33.lt_of_mem y.2
theorem tsize_eq (x : S33) : tsize x = 1 + (x.f3.map tsize).sum := by
 rw [tsize]; congr 2; exact List.attach_map_val (l := x.f3) (f := tsize)
def tdeep (x : S33) : Nat := 1 + x.f3.attach.foldl (fun n y => max n (tdeep y.1)) 0
 termination_by SizeOf.sizeOf x
 decreasing_by exact S33.lt_of_mem y.2
theorem tdeep_eq (x : S33) : tdeep x = 1 + x.f3.foldl (fun n y => max n (tdeep y)) 0 := by
 rw [tdeep]; exact congrArg (1 + ·) (List.foldl_attach (f := fun n y => max n (tdeep y)))
theorem wrap_mod (a : Int) : ∃ q : Int, wrap64 a = a + q * 18446744073709551616 := ⟨-((a + 9223372036854775808) / 18446744073709551616), by unfold wrap64; omega⟩
theorem wrap_shift (a q : Int) : wrap64 (a + q * 18446744073709551616) = wrap64 a := by
 unfold wrap64
 rw [Int.add_right_comm a, Int.add_mul_emod_self_right]
theorem wrap_add_r (a b : Int) : wrap64 (a + wrap64 b) = wrap64 (a + b) := by
 obtain ⟨q, hq⟩ := wrap_mod b
 rw [hq, ← Int.add_assoc, wrap_shift]
theorem wrap_add_l (a b : Int) : wrap64 (wrap64 a + b) = wrap64 (a + b) := by rw [Int.add_comm, wrap_add_r, Int.add_comm]
theorem wrap_add (a b : Int) : wrap64 (wrap64 a + wrap64 b) = wrap64 (a + b) := by rw [wrap_add_l, wrap_add_r]
theorem wrap_small {a : Int} (h0 : -9223372036854775808 ≤ a) (h1 : a ≤ 9223372036854775807) : wrap64 a = a := by unfold wrap64; omega
theorem fold_wrap {α : Type} (f : Int → Int) (hf : ∀ a b, f (f a + f b) = f (a + b)) (g : α → Int) (t : α → Nat) (l : List α) (hl : ∀ y ∈ l, g y = f (t y : Int)) (a : Nat) :
  l.foldl (fun n y => f (n + g y)) (f (a : Int)) = f ((a + (l.map t).sum : Nat) : Int) := by
 induction l generalizing a with
 | nil => rw [List.foldl_nil, List.map_nil, List.sum_nil, Nat.add_zero]
 | cons y l ih =>
  rw [List.foldl_cons, hl y List.mem_cons_self, hf, show ((a : Int) + (t y : Int)) = ((a + t y : Nat) : Int) by omega, ih (fun z hz => hl z (List.mem_cons_of_mem _ hz))]
  rw [List.map_cons, List.sum_cons, Nat.add_assoc]
theorem fold_size (l : List S33) (hl : ∀ y ∈ l, sizeW y = wrap64 (tsize y : Int)) (a : Nat) :
  l.foldl (fun n y => wrap64 (n + sizeW y)) (wrap64 (a : Int)) = wrap64 ((a + (l.map tsize).sum : Nat) : Int) := fold_wrap wrap64 wrap_add sizeW tsize l hl a
theorem sizeW_wrap (x : S33) : sizeW x = wrap64 (tsize x : Int) := by
 induction x using S33.ind with
 | h x ih =>
  rw [sizeW_eq, tsize_eq]
  exact (congrArg (fun z => x.f3.foldl (fun n y => wrap64 (n + sizeW y)) z) (wrap_small (a := 1) (by omega) (by omega)).symm).trans (fold_size x.f3 ih 1)
theorem tsize_pos (x : S33) : 1 ≤ tsize x := by rw [tsize_eq]; omega
theorem tsize_mem {x y : S33} (h : y ∈ x.f3) : tsize y + 1 ≤ tsize x := by
 rw [tsize_eq x]
 have : ∀ l : List S33, y ∈ l → tsize y ≤ (l.map tsize).sum := by
  intro l
  induction l with
  | nil => intro h; cases h
  | cons z l ih =>
   intro h
   rw [List.map_cons, List.sum_cons]
   rcases List.mem_cons.mp h with rfl | h
   ·omega
   ·have := ih h; omega
 have := this _ h
 omega
theorem fold_deep_le (l : List S33) (n : Nat) (hl : ∀ y ∈ l, tdeep y ≤ n) (a : Nat) (ha : a ≤ n) : l.foldl (fun n y => max n (tdeep y)) a ≤ n := by
 induction l generalizing a with
 | nil => exact ha
 | cons y l ih => rw [List.foldl_cons]; exact ih (fun z hz => hl z (List.mem_cons_of_mem _ hz)) _ (Nat.max_le.mpr ⟨ha, hl y List.mem_cons_self⟩)
theorem fold_deep_ge (l : List S33) (a : Nat) : a ≤ l.foldl (fun n y => max n (tdeep y)) a ∧ ∀ y ∈ l, tdeep y ≤ l.foldl (fun n y => max n (tdeep y)) a := by
 induction l generalizing a with
 | nil => exact ⟨Nat.le_refl _, fun y hy => by cases hy⟩
 | cons z l ih =>
  rw [List.foldl_cons]
  obtain ⟨h1, h2⟩ := ih (max a (tdeep z))
  exact ⟨Nat.le_trans (Nat.le_max_left _ _) h1, fun y hy => by
   rcases List.mem_cons.mp hy with rfl | hy
   ·exact Nat.le_trans (Nat.le_max_right _ _) h1
   ·exact h2 y hy⟩
theorem tdeep_mem {x y : S33} (h : y ∈ x.f3) : tdeep y + 1 ≤ tdeep x := by
 rw [tdeep_eq x]
 have := (fold_deep_ge x.f3 0).2 y h
 omega
def shortP : Nat → S33 → Bool
 | 0, _ => false
 | d + 1, x => decide (x.f0.size ≤ 100) && decide (x.f1.size ≤ 100) && decide (x.f2.size ≤ 100) && decide (x.f3.length ≤ 70) && x.f3.all (shortP d)
theorem shortP_open {d : Nat} {x : S33} (h : shortP d x = true) : ∃ n, d = n + 1 ∧ x.f0.size ≤ 100 ∧ x.f1.size ≤ 100 ∧ x.f2.size ≤ 100 ∧ x.f3.length ≤ 70 ∧ ∀ y ∈ x.f3, shortP n y = true := by
 cases d with
 | zero => cases h
 | succ n =>
  simp only [shortP, Bool.and_eq_true, decide_eq_true_eq, List.all_eq_true] at h
  obtain ⟨⟨⟨⟨h0, h1⟩, h2⟩, h3⟩, h4⟩ := h
  exact ⟨n, rfl, h0, h1, h2, h3, h4⟩
theorem shortP_small (x : S33) : ∀ d, shortP d x = true → smallE x = true := by
 induction x using S33.ind with
 | h x ih =>
  intro d h
  obtain ⟨n, rfl, _, _, _, h3, h4⟩ := shortP_open h
  unfold smallE
  rw [allP_eq, Bool.and_eq_true, decide_eq_true_eq, List.all_eq_true]
  exact ⟨by omega, fun y hy => ih y hy n (h4 y hy)⟩
theorem shortP_deep (x : S33) : ∀ d, shortP d x = true → tdeep x ≤ d := by
 induction x using S33.ind with
 | h x ih =>
  intro d h
  obtain ⟨n, rfl, _, _, _, h3, h4⟩ := shortP_open h
  rw [tdeep_eq]
  have := fold_deep_le x.f3 n (fun y hy => ih y hy n (h4 y hy)) 0 (by omega)
  omega
theorem fold_deepW (l : List S33) (hl : ∀ y ∈ l, deepW y = (tdeep y : Int)) (a : Nat) :
  l.foldl (fun n y => mx n (deepW y)) (a : Int) = ((l.foldl (fun n y => max n (tdeep y)) a : Nat) : Int) := by
 induction l generalizing a with
 | nil => rfl
 | cons y l ih =>
  rw [List.foldl_cons, List.foldl_cons, hl y List.mem_cons_self, show mx (a : Int) (tdeep y : Int) = ((max a (tdeep y) : Nat) : Int) by unfold mx; split <;> omega]
  exact ih (fun z hz => hl z (List.mem_cons_of_mem _ hz)) _
theorem deepW_of (x : S33) : tdeep x ≤ 1099511627776 → deepW x = (tdeep x : Int) := by
 induction x using S33.ind with
 | h x ih =>
  intro h
  have ih : ∀ y ∈ x.f3, deepW y = (tdeep y : Int) := fun y hy => ih y hy (by have := tdeep_mem hy; omega)
  rw [deepW_eq]
  have := fold_deepW x.f3 ih 0
  rw [show ((0 : Nat) : Int) = 0 from rfl] at this
  rw [this]
  rw [tdeep_eq] at h ⊢
  rw [wrap_small (by omega) (by omega)]
  omega
theorem tsize_le (x : S33) : ∀ d, shortP d x = true → tsize x ≤ 71 ^ tdeep x := by
 induction x using S33.ind with
 | h x ih =>
  intro d h
  obtain ⟨n, rfl, _, _, _, h3, h4⟩ := shortP_open h
  have hd : 1 ≤ tdeep x := by rw [tdeep_eq]; omega
  obtain ⟨e, he⟩ : ∃ e, tdeep x = e + 1 := ⟨tdeep x - 1, by omega⟩
  have hs : ∀ l : List S33, (∀ y ∈ l, tsize y ≤ 71 ^ e) → (l.map tsize).sum ≤ l.length * 71 ^ e := by
   intro l
   induction l with
   | nil => intro _; simp
   | cons y l ih =>
    intro h
    rw [List.map_cons, List.sum_cons, List.length_cons, Nat.succ_mul]
    have := h y List.mem_cons_self
    have := ih (fun z hz => h z (List.mem_cons_of_mem _ hz))
    omega
  have := hs x.f3 (fun y hy => Nat.le_trans (ih y hy n (h4 y hy)) (Nat.pow_le_pow_right (by omega) (by have := tdeep_mem hy; omega)))
  rw [tsize_eq, he, Nat.pow_succ]
  have h1 : 1 ≤ 71 ^ e := Nat.one_le_pow _ _ (by omega)
  have h2 : x.f3.length * 71 ^ e ≤ 70 * 71 ^ e := Nat.mul_le_mul_right _ h3
  omega
theorem notGreat_size {r : S35} {d : Nat} (hd : d ≤ 30) (h : shortP d r.f1 = true) (hn : notGreat r = true) : tsize r.f1 ≤ 64 ∧ tdeep r.f1 ≤ 8 := by
 unfold notGreat at hn
 rw [Bool.and_eq_true, decide_eq_true_eq, decide_eq_true_eq] at hn
 have hdeep := shortP_deep r.f1 d h
 have h8 : tdeep r.f1 ≤ 8 := by have := hn.2; rw [deepW_of _ (by omega)] at this; omega
 have h9 := tsize_le r.f1 d h
 have h10 : 71 ^ tdeep r.f1 ≤ 71 ^ 8 := Nat.pow_le_pow_right (by omega) h8
 have h11 : (71 : Nat) ^ 8 = 645753531245761 := by decide
 have := hn.1
 rw [sizeW_wrap, wrap_small (by omega) (by omega)] at this
 exact ⟨by omega, h8⟩
theorem refSize_l0 (l : List S33) (a b c : ByteArray) (hl : l.length ≤ 1099511627776) (IH : ∀ y ∈ l, Ev (fun k => lunetteref12_Size.f k y.f0 y.f1 y.f2 y.f3) (sizeW y)) (m : Nat) :
  ∀ (i : Nat) (acc : Int), i + m = l.length → Ev (fun k => lunetteref12_Size.l0 k acc (i : Int) a b c l) ((l.drop i).foldl (fun n y => wrap64 (n + sizeW y)) acc) := by
 induction m with
 | zero =>
  intro i acc h
  rw [List.drop_eq_nil_of_le (by omega)]
  exact Ev.step (f := fun _ => some acc) (fun k => by simp only [lunetteref12_Size.l0]; rw [if_neg (by omega)]) (Ev.now _)
 | succ m ih =>
  intro i acc h
  have hi : i < l.length := by omega
  rw [List.drop_eq_getElem_cons hi, List.foldl_cons]
  refine Ev.step (f := fun k => (lunetteref12_Size.f k l[i].f0 l[i].f1 l[i].f2 l[i].f3).bind fun t => lunetteref12_Size.l0 k (wrap64 (acc + t)) ((i + 1 : Nat) : Int) a b c l) (fun k => ?_) ?_
  ·simp only [lunetteref12_Size.l0]
   rw [if_pos (by omega), if_pos (by omega), rd33 hi, wrap_succ hi hl]
  ·exact (IH _ (List.getElem_mem hi)).bind (ih (i + 1) _ (by omega))
theorem refSize_ev (x : S33) : smallE x = true → Ev (fun k => lunetteref12_Size.f k x.f0 x.f1 x.f2 x.f3) (sizeW x) := by
 induction x using S33.ind with
 | h x ih =>
  intro hs
  rw [sizeW_eq]
  exact Ev.step (f := fun k => lunetteref12_Size.l0 k 1 ((0 : Nat) : Int) x.f0 x.f1 x.f2 x.f3) (fun k => by simp only [lunetteref12_Size.f]; rfl)
   (refSize_l0 x.f3 _ _ _ (smallE_len hs) (fun y hy => ih y hy (smallE_mem hs hy)) x.f3.length 0 1 (by omega))
theorem short_l0 (l : List S33) (d : Nat) (hd : d ≤ 1000) (a b c : ByteArray) (hl : l.length ≤ 1099511627776) (IH : ∀ y ∈ l, Ev (fun k => lunetteref12_short.f k y.f0 y.f1 y.f2 y.f3 (d : Int)) (shortP d y)) (m : Nat) :
  ∀ (i : Nat), i + m = l.length → Ev (fun k => lunetteref12_short.l0 k ((d + 1 : Nat) : Int) (i : Int) a b c l) ((l.drop i).all (shortP d)) := by
 induction m with
 | zero =>
  intro i h
  rw [List.drop_eq_nil_of_le (by omega)]
  exact Ev.step (f := fun _ => some true) (fun k => by simp only [lunetteref12_short.l0]; rw [if_neg (by omega)]) (Ev.now _)
 | succ m ih =>
  intro i h
  have hi : i < l.length := by omega
  rw [List.drop_eq_getElem_cons hi, List.all_cons]
  refine Ev.step (f := fun k => (lunetteref12_short.f k l[i].f0 l[i].f1 l[i].f2 l[i].f3 (d : Int)).bind fun t => if t = true then lunetteref12_short.l0 k ((d + 1 : Nat) : Int) ((i + 1 : Nat) : Int) a b c l else some false) (fun k => ?_) ?_
  ·simp only [lunetteref12_short.l0]
   rw [if_pos (by omega), if_pos (by omega), rd33 hi, wrap_succ hi hl, show wrap64 (((d + 1 : Nat) : Int) - 1) = (d : Int) by unfold wrap64; omega]
  ·refine (IH _ (List.getElem_mem hi)).bind ?_
   cases hs : shortP d l[i] with
   | false => simp only [Bool.false_and, Bool.false_eq_true, if_false]; exact Ev.now _
   | true => simp only [Bool.true_and, if_true]; exact ih (i + 1) (by omega)
theorem short_ev (d : Nat) : d ≤ 1000 → ∀ x : S33, Ev (fun k => lunetteref12_short.f k x.f0 x.f1 x.f2 x.f3 (d : Int)) (shortP d x) := by
 induction d with
 | zero =>
  intro _ x
  refine Ev.step (f := fun k => lunetteref12_short.j0 k 0 true x.f0 x.f1 x.f2 x.f3) (fun k => by simp only [lunetteref12_short.f]; rfl) ?_
  exact Ev.step (f := fun k => some false) (fun k => by simp only [lunetteref12_short.j0, if_true]) (Ev.now _)
 | succ d ih =>
  intro hd x
  have no : ∀ D : Int, Ev (fun k => lunetteref12_short.j0 k D true x.f0 x.f1 x.f2 x.f3) false := fun D => Ev.step (f := fun k => some false) (fun k => by simp only [lunetteref12_short.j0, if_true]) (Ev.now _)
  have z : ¬ (((d + 1 : Nat) : Int) = 0) := by omega
  simp only [shortP]
  by_cases h0 : x.f0.size ≤ 100
  ·by_cases h1 : x.f1.size ≤ 100
   ·by_cases h2 : x.f2.size ≤ 100
    ·by_cases h3 : x.f3.length ≤ 70
     ·simp only [h0, h1, h2, h3, decide_true, Bool.true_and]
      refine Ev.step (f := fun k => lunetteref12_short.j0 k ((d + 1 : Nat) : Int) false x.f0 x.f1 x.f2 x.f3) (fun k => ?_) ?_
      ·simp only [lunetteref12_short.f]
       rw [if_neg z, if_neg (by omega), if_neg (by omega), if_neg (by omega), show decide ((x.f3.length : Int) > 70) = false by rw [decide_eq_false_iff_not]; omega]
      ·refine Ev.step (f := fun k => lunetteref12_short.l0 k ((d + 1 : Nat) : Int) ((0 : Nat) : Int) x.f0 x.f1 x.f2 x.f3) (fun k => by simp only [lunetteref12_short.j0, Bool.false_eq_true, if_false]; rfl) ?_
       exact short_l0 x.f3 d (by omega) _ _ _ (by omega) (fun y hy => ih (by omega) y) x.f3.length 0 (by omega)
     ·simp only [h3, decide_false, Bool.and_false, Bool.false_and]
      refine Ev.step (fun k => ?_) (no ((d + 1 : Nat) : Int))
      simp only [lunetteref12_short.f]
      rw [if_neg z, if_neg (by omega), if_neg (by omega), if_neg (by omega), show decide ((x.f3.length : Int) > 70) = true by rw [decide_eq_true_eq]; omega]
    ·simp only [h2, decide_false, Bool.and_false, Bool.false_and]
     refine Ev.step (fun k => ?_) (no ((d + 1 : Nat) : Int))
     simp only [lunetteref12_short.f]
     rw [if_neg z, if_neg (by omega), if_neg (by omega), if_pos (by omega)]
   ·simp only [h1, decide_false, Bool.and_false, Bool.false_and]
    refine Ev.step (fun k => ?_) (no ((d + 1 : Nat) : Int))
    simp only [lunetteref12_short.f]
    rw [if_neg z, if_neg (by omega), if_pos (by omega)]
  ·simp only [h0, decide_false, Bool.false_and]
   refine Ev.step (fun k => ?_) (no ((d + 1 : Nat) : Int))
   simp only [lunetteref12_short.f]
   rw [if_neg z, if_pos (by omega)]
def fewR (r : S35) : Bool := shortP 30 r.f1 && decide (sizeW r.f1 ≤ 100) && decide (r.f0.size ≤ 100)
def fewK (k : S30) : Bool := decide (k.f1.length ≤ 70) && decide (k.f0.size ≤ 100) && k.f1.all fewR
def fewP (l : List S30) : Bool := decide (l.length ≤ 70) && l.all fewK
theorem few_l1 (l : List S30) (b : Bool) (j : Nat) (hj : j < l.length) (hl : l[j].f1.length ≤ 70) (hN : Ev (fun k => lunetteref12_Few.l0 k l (wrap64 ((j : Int) + 1))) b) (m : Nat) :
  ∀ (i : Nat), i + m = l[j].f1.length → Ev (fun k => lunetteref12_Few.l1 k l (j : Int) (i : Int)) ((l[j].f1.drop i).all fewR && b) := by
 induction m with
 | zero =>
  intro i h
  rw [List.drop_eq_nil_of_le (by omega), List.all_nil, Bool.true_and]
  refine Ev.step (fun k => ?_) hN
  simp only [lunetteref12_Few.l1]
  rw [if_pos (by omega), if_pos (by omega), rd30 hj, if_neg (by omega)]
 | succ m ih =>
  intro i h
  have hi : i < l[j].f1.length := by omega
  rw [List.drop_eq_getElem_cons hi, List.all_cons]
  refine Ev.step (f := fun k => (lunetteref12_short.f k l[j].f1[i].f1.f0 l[j].f1[i].f1.f1 l[j].f1[i].f1.f2 l[j].f1[i].f1.f3 30).bind fun t => if t = true then ((lunetteref12_Size.f k l[j].f1[i].f1.f0 l[j].f1[i].f1.f1 l[j].f1[i].f1.f2 l[j].f1[i].f1.f3).bind fun t1 => if t1 > 100 then some false else if (l[j].f1[i].f0.size : Int) > 100 then some false else lunetteref12_Few.l1 k l (j : Int) ((i + 1 : Nat) : Int)) else some false) (fun k => ?_) ?_
  ·simp only [lunetteref12_Few.l1]
   rw [if_pos (by omega), if_pos (by omega), rd30 hj, if_pos (by omega), if_pos (by omega), rd35 hi, wrap_succ hi (by omega)]
  ·refine (short_ev 30 (by omega) l[j].f1[i].f1).bind ?_
   unfold fewR
   cases hs : shortP 30 l[j].f1[i].f1 with
   | false => simp only [Bool.false_and, Bool.false_eq_true, if_false]; exact Ev.now _
   | true =>
    simp only [Bool.true_and, if_true]
    refine (refSize_ev _ (shortP_small _ _ hs)).bind ?_
    by_cases h1 : sizeW l[j].f1[i].f1 ≤ 100
    ·simp only [h1, decide_true, Bool.true_and]
     rw [show (fun n => if sizeW l[j].f1[i].f1 > 100 then some false else if (l[j].f1[i].f0.size : Int) > 100 then some false else lunetteref12_Few.l1 n l (j : Int) ((i + 1 : Nat) : Int)) = (fun n => if (l[j].f1[i].f0.size : Int) > 100 then some false else lunetteref12_Few.l1 n l (j : Int) ((i + 1 : Nat) : Int)) from funext fun n => if_neg (by omega)]
     by_cases h2 : l[j].f1[i].f0.size ≤ 100
     ·simp only [h2, decide_true, Bool.true_and]
      rw [show (fun n => if (l[j].f1[i].f0.size : Int) > 100 then some false else lunetteref12_Few.l1 n l (j : Int) ((i + 1 : Nat) : Int)) = (fun n => lunetteref12_Few.l1 n l (j : Int) ((i + 1 : Nat) : Int)) from funext fun n => if_neg (by omega)]
      exact ih (i + 1) (by omega)
     ·simp only [h2, decide_false, Bool.false_and]
      rw [show (fun n => if (l[j].f1[i].f0.size : Int) > 100 then some false else lunetteref12_Few.l1 n l (j : Int) ((i + 1 : Nat) : Int)) = (fun n => some false) from funext fun n => if_pos (by omega)]
      exact Ev.now _
    ·simp only [h1, decide_false, Bool.false_and]
     rw [show (fun n => if sizeW l[j].f1[i].f1 > 100 then some false else if (l[j].f1[i].f0.size : Int) > 100 then some false else lunetteref12_Few.l1 n l (j : Int) ((i + 1 : Nat) : Int)) = (fun n => some false) from funext fun n => if_pos (by omega)]
     exact Ev.now _
theorem few_l0 (l : List S30) (hl : l.length ≤ 70) (m : Nat) :
  ∀ (i : Nat), i + m = l.length → Ev (fun k => lunetteref12_Few.l0 k l (i : Int)) ((l.drop i).all fewK) := by
 induction m with
 | zero =>
  intro i h
  rw [List.drop_eq_nil_of_le (by omega), List.all_nil]
  exact Ev.step (f := fun _ => some true) (fun k => by simp only [lunetteref12_Few.l0]; rw [if_neg (by omega)]) (Ev.now _)
 | succ m ih =>
  intro i h
  have hi : i < l.length := by omega
  rw [List.drop_eq_getElem_cons hi, List.all_cons]
  have no : Ev (fun k => lunetteref12_Few.j1 k l (i : Int) true) false := Ev.step (f := fun k => some false) (fun k => by simp only [lunetteref12_Few.j1, if_true]) (Ev.now _)
  unfold fewK
  by_cases h0 : l[i].f1.length ≤ 70
  ·by_cases h1 : l[i].f0.size ≤ 100
   ·simp only [h0, h1, decide_true, Bool.true_and]
    refine Ev.step (f := fun k => lunetteref12_Few.j1 k l (i : Int) false) (fun k => ?_) ?_
    ·simp only [lunetteref12_Few.l0]
     rw [if_pos (by omega), if_pos (by omega), rd30 hi, if_neg (by omega), show decide ((l[i].f0.size : Int) > 100) = false by rw [decide_eq_false_iff_not]; omega]
    ·refine Ev.step (f := fun k => lunetteref12_Few.l1 k l (i : Int) ((0 : Nat) : Int)) (fun k => by simp only [lunetteref12_Few.j1, Bool.false_eq_true, if_false]; rfl) ?_
     exact few_l1 l _ i hi h0 (by rw [wrap_succ hi (by omega)]; exact ih (i + 1) (by omega)) l[i].f1.length 0 (by omega)
   ·simp only [h1, decide_false, Bool.and_false, Bool.false_and]
    refine Ev.step (fun k => ?_) no
    simp only [lunetteref12_Few.l0]
    rw [if_pos (by omega), if_pos (by omega), rd30 hi, if_neg (by omega), show decide ((l[i].f0.size : Int) > 100) = true by rw [decide_eq_true_eq]; omega]
  ·simp only [h0, decide_false, Bool.false_and]
   refine Ev.step (fun k => ?_) no
   simp only [lunetteref12_Few.l0]
   rw [if_pos (by omega), if_pos (by omega), rd30 hi, if_pos (by omega)]
theorem few_ev (l : List S30) : Ev (fun k => lunetteref12_Few.f k l) (fewP l) := by
 unfold lunetteref12_Few.f fewP
 by_cases h : l.length ≤ 70
 ·simp only [h, decide_true, Bool.true_and]
  refine Ev.congr (fun k => if_neg (by omega)) ?_
  exact few_l0 l h l.length 0 (by omega)
 ·simp only [h, decide_false, Bool.false_and]
  exact Ev.congr (fun k => if_pos (by omega)) (Ev.now _)
theorem fewP_len {l : List S30} (h : fewP l = true) : l.length ≤ 70 := by
 unfold fewP at h; rw [Bool.and_eq_true, decide_eq_true_eq] at h; exact h.1
theorem fewP_kind {l : List S30} (h : fewP l = true) {k : S30} (hk : k ∈ l) : k.f1.length ≤ 70 ∧ k.f0.size ≤ 100 := by
 unfold fewP at h; rw [Bool.and_eq_true, List.all_eq_true] at h
 have := h.2 k hk
 unfold fewK at this
 simp only [Bool.and_eq_true, decide_eq_true_eq] at this
 exact this.1
theorem fewP_rule {l : List S30} (h : fewP l = true) {k : S30} (hk : k ∈ l) {r : S35} (hr : r ∈ k.f1) : shortP 30 r.f1 = true ∧ r.f0.size ≤ 100 := by
 unfold fewP at h; rw [Bool.and_eq_true, List.all_eq_true] at h
 have := h.2 k hk
 unfold fewK at this
 simp only [Bool.and_eq_true, List.all_eq_true] at this
 have := this.2 r hr
 unfold fewR at this
 simp only [Bool.and_eq_true, decide_eq_true_eq] at this
 exact ⟨this.1.1, this.2⟩
theorem fewP_small {l : List S30} (h : fewP l = true) : smallL l = true := by
 unfold smallL
 rw [Bool.and_eq_true, decide_eq_true_eq, List.all_eq_true]
 refine ⟨by have := fewP_len h; omega, fun k hk => ?_⟩
 rw [Bool.and_eq_true, decide_eq_true_eq, List.all_eq_true]
 exact ⟨by have := (fewP_kind h hk).1; omega, fun r hr => shortP_small _ _ (fewP_rule h hk hr).1⟩
end Go.Proofs.YtjcipbdocbomjaaGreatDoor.K
namespace Go.Proofs.YtjcipbdocbomjaaGreatDoor.K
def mk (l : List UInt8) : ByteArray := ⟨l.toArray⟩
theorem mk_data (l : List UInt8) : (mk l).data.toList = l := by simp [mk]
theorem mk_to (a : ByteArray) : mk a.data.toList = a := mk_of a
theorem data_inj {a b : ByteArray} (h : a.data.toList = b.data.toList) : a = b := by rw [← mk_to a, h, mk_to]
theorem data_append (a b : ByteArray) : (a ++ b).data.toList = a.data.toList ++ b.data.toList := by simp
theorem mk_append (a b : List UInt8) : mk a ++ mk b = mk (a ++ b) := data_inj (by rw [data_append, mk_data, mk_data, mk_data])
theorem mk_size (l : List UInt8) : (mk l).size = l.length := by simp [mk, ByteArray.size]
theorem data_len (a : ByteArray) : a.data.toList.length = a.size := Array.length_toList
theorem tl_data (a : ByteArray) : a.toList = a.data.toList := ByteArray.toList_eq a
theorem tl_inj {a b : ByteArray} (h : a.toList = b.toList) : a = b := by rw [tl_data, tl_data] at h; exact data_inj h
theorem tl_iff (a b : ByteArray) : a.toList = b.toList ↔ a = b := ⟨tl_inj, fun h => by rw [h]⟩
theorem parts_len (l : List S33) (n : Nat → Nat) (h : ∀ y ∈ l, (textP y).length + 1 ≤ 220 * tsize y) : (partsP l).length ≤ 220 * (l.map tsize).sum := by
 induction l with
 | nil => simp [partsP]
 | cons y l ih =>
  have h1 := h y List.mem_cons_self
  have h2 := ih (fun z hz => h z (List.mem_cons_of_mem _ hz))
  rw [show partsP (y :: l) = (32 :: textP y) ++ partsP l from rfl, List.length_append, List.length_cons, List.map_cons, List.sum_cons]
  omega
theorem text_len (x : S33) : ∀ d, shortP d x = true → (textP x).length + 1 ≤ 220 * tsize x := by
 induction x using S33.ind with
 | h x ih =>
  intro d h
  obtain ⟨n, rfl, h0, h1, h2, h3, h4⟩ := shortP_open h
  have hp := parts_len x.f3 id (fun y hy => ih y hy n (h4 y hy))
  have t1 := tsize_eq x
  rw [textP_eq]
  rw [← data_len] at h0 h1 h2
  split
  ·simp; omega
  ·split
   ·omega
   ·split
    ·simp only [List.length_append, List.length_cons, List.length_nil]; omega
    ·simp only [List.length_append, List.length_cons, List.length_nil]; omega
theorem check_zero (l : List S30) : checkP l = 0 ↔ manyP l = false ∧ eachP (fun _ r => notGreat r) l = true ∧ eachP (fun _ r => allP formP r.f1) l = true ∧ okKs l = true ∧ eachP (fun k r => allP (namedP k) r.f1) l = true := by
 unfold checkP
 cases manyP l <;> cases eachP (fun _ r => notGreat r) l <;> cases eachP (fun _ r => allP formP r.f1) l <;> cases okKs l <;> cases eachP (fun k r => allP (namedP k) r.f1) l <;> simp
theorem eachP_iff (P : S30 → S35 → Bool) (l : List S30) : eachP P l = true ↔ ∀ k ∈ l, ∀ r ∈ k.f1, P k r = true := by
 unfold eachP; simp only [List.all_eq_true]
theorem manyP_iff (l : List S30) : manyP l = false ↔ l.length ≤ 64 ∧ ∀ k ∈ l, k.f1.length ≤ 64 := by
 unfold manyP
 rw [Bool.or_eq_false_iff, decide_eq_false_iff_not, List.any_eq_false]
 constructor
 ·rintro ⟨h1, h2⟩
  exact ⟨by omega, fun k hk => by have := h2 k hk; rw [decide_eq_true_eq] at this; omega⟩
 ·rintro ⟨h1, h2⟩
  exact ⟨by omega, fun k hk => by have := h2 k hk; rw [decide_eq_true_eq]; omega⟩
theorem rules_len (rs : List S35) (n : Nat) (h : ∀ r ∈ rs, (ruleL r).length ≤ n) : (rulesL rs).length ≤ rs.length * n := by
 induction rs with
 | nil => simp [rulesL]
 | cons r rs ih =>
  rw [show rulesL (r :: rs) = ruleL r ++ rulesL rs from rfl, List.length_append, List.length_cons, Nat.succ_mul]
  have := h r List.mem_cons_self
  have := ih (fun z hz => h z (List.mem_cons_of_mem _ hz))
  omega
theorem show_len (l : List S30) (n : Nat) (h : ∀ k ∈ l, (kindL k ++ rulesL k.f1).length ≤ n) : (showL l).length ≤ l.length * n := by
 induction l with
 | nil => simp [showL]
 | cons k l ih =>
  rw [show showL (k :: l) = (kindL k ++ rulesL k.f1) ++ showL l from rfl, List.length_append, List.length_cons, Nat.succ_mul]
  have := h k List.mem_cons_self
  have := ih (fun z hz => h z (List.mem_cons_of_mem _ hz))
  omega
theorem few_show_len {l : List S30} (hf : fewP l = true) (h0 : checkP l = 0) : (showL l).length ≤ 200000000 := by
 obtain ⟨hm, hg, _⟩ := (check_zero l).1 h0
 have hl := fewP_len hf
 have := show_len l 1500000 (fun k hk => by
  have := rules_len k.f1 20000 (fun r hr => by
   obtain ⟨s1, s2⟩ := fewP_rule hf hk hr
   have h1 := text_len r.f1 30 s1
   have h2 := (notGreat_size (Nat.le_refl 30) s1 ((eachP_iff _ _).1 hg k hk r hr)).1
   unfold ruleL
   rw [← data_len] at s2
   simp only [List.length_append, List.length_cons, List.length_nil]
   omega)
  obtain ⟨k1, k2⟩ := fewP_kind hf hk
  unfold kindL
  rw [← data_len] at k2
  simp only [List.length_append, List.length_cons, List.length_nil]
  omega)
 omega
theorem show_f {l : List S30} (hf : fewP l = true) : rule_Show.f l = some (if checkP l = 0 then (mk (showL l), 0) else (⟨#[]⟩, checkP l)) := by
 unfold rule_Show.f
 rw [if_pos ⟨fewP_small hf, fun h => by have := few_show_len hf h; omega⟩]
 rfl
theorem fewP_one {l : List S30} (hf : fewP l = true) {k : S30} (hk : k ∈ l) : fewP [k] = true := by
 unfold fewP at hf ⊢
 rw [Bool.and_eq_true, List.all_eq_true] at hf
 have := hf.2 k hk
 simp [this]
theorem okKs_iff (l : List S30) : okKs l = true ↔ ∀ i (h : i < l.length), okK l i l[i] = true := by
 constructor
 ·intro h i hi
  by_cases e : okK l i l[i] = true
  ·exact e
  ·rw [okKs_stop l i hi _ rfl (by simpa using e)] at h; cases h
 ·exact okKs_all l
theorem idx_one {α : Type} (P : α → Bool) (x : α) (h : P x = true) : idxP P [x] = 0 := idxP_found P [x] 0 (by simp) h (fun j hj => by omega)
theorem check_one {l : List S30} (h : checkP l = 0) {k : S30} (hk : k ∈ l) : checkP [k] = 0 := by
 obtain ⟨h1, h2, h3, h4, h5⟩ := (check_zero l).1 h
 refine (check_zero [k]).2 ⟨?_, ?_, ?_, ?_, ?_⟩
 ·exact (manyP_iff _).2 ⟨by simp, fun k' hk' => by rw [List.mem_singleton.1 hk']; exact ((manyP_iff _).1 h1).2 k hk⟩
 ·exact (eachP_iff _ _).2 fun k' hk' r hr => by rw [List.mem_singleton.1 hk'] at hr; exact (eachP_iff _ _).1 h2 k hk r hr
 ·exact (eachP_iff _ _).2 fun k' hk' r hr => by rw [List.mem_singleton.1 hk'] at hr; exact (eachP_iff _ _).1 h3 k hk r hr
 ·obtain ⟨i, hi, rfl⟩ := List.mem_iff_getElem.1 hk
  have := (okKs_iff l).1 h4 i hi
  refine (okKs_iff _).2 fun j hj => ?_
  have hj : j = 0 := by simp at hj; omega
  subst hj
  unfold okK at this ⊢
  rw [Bool.and_eq_true, Bool.and_eq_true] at this ⊢
  refine ⟨⟨this.1.1, ?_⟩, this.2⟩
  rw [List.getElem_singleton, idx_one _ _ (by unfold kindP; exact beq_self_eq_true _)]
  rfl
 ·exact (eachP_iff _ _).2 fun k' hk' r hr => by rw [List.mem_singleton.1 hk'] at hr ⊢; exact (eachP_iff _ _).1 h5 k hk r hr
end Go.Proofs.YtjcipbdocbomjaaGreatDoor.K
