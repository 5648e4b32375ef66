/- Texts of this claim's proof, put together: V1 V2 V3 HC V4 HF; conditions: as each states. -/
import Derived.Test.YtjcipbdocbomjaaGreatDoorZ1
import Derived.Test.YtjcipbdocbomjaaGreatDoorZ2
import Derived.Lib.Strings
set_option linter.unusedVariables false
set_option linter.unusedSimpArgs false
open Go.RowKit Go.Proofs.YtjcipbdocbomjaaGreatDoorW.PrintWords Go.Proofs.YtjcipbdocbomjaaGreatDoorW.PrintLast Go.Proofs.YtjcipbdocbomjaaGreatDoorW.PrintMore
namespace Go.Proofs.YtjcipbdocbomjaaGreatDoor.K
attribute [local go_sem] max2_int min2_int max_two min_two max_three min_three max_four min_four
mutual
def rule_Deep.l0 : Nat → Int → List (S33) → Int → Int → Option (Int)
 | 0, _, _, _, _ => none
 | k + 1, x3, x7, x8, x9 => if x9 < x8 then (if 0 ≤ x9 then (if x9 < (x7.length : Int) then ((rule_Deep.f k ((rd_T33 x7 x9).f0) ((rd_T33 x7 x9).f1) ((rd_T33 x7 x9).f2) ((rd_T33 x7 x9).f3)).bind fun t104 => (rule_Deep.l0 k (mx x3 t104) x7 x8 (wrap64 (x9 + 1)))) else (none)) else (none)) else (some (wrap64 (x3 + 1)))
def rule_Deep.f : Nat → ByteArray → ByteArray → ByteArray → List (S33) → Option (Int)
 | 0, _, _, _, _ => none
 | k + 1, a0_0, a0_1, a0_2, l0_3 => rule_Deep.l0 k 0 l0_3 (l0_3.length : Int) 0
end
set_option maxHeartbeats 8000000 in
set_option maxRecDepth 100000 in
theorem rule_Deep.calls (k : Nat) : ∀ (a0_0 : ByteArray) (a0_1 : ByteArray) (a0_2 : ByteArray) (A0_3 : Option Addr) (c0_3 : Nat) (l0_3 : List (S33)) (r : Int) (w : World) (hr0_3 : Kd.C k33 w A0_3 l0_3.length l0_3) (hc0_3 : l0_3.length ≤ c0_3) (h : rule_Deep.f k a0_0 a0_1 a0_2 l0_3 = some r),
  Calls Tryz.prog 12 #[.agg #[.string a0_0, .string a0_1, .string a0_2, .slice A0_3 l0_3.length c0_3]] w fun e w' => e = .returned (.int .i64 r) ∧ Below w.heap.size w w' := by
 induction k using Nat.strongRecOn with
 | _ k ih =>
 intro a0_0 a0_1 a0_2 A0_3 c0_3 l0_3 r w hr0_3 hc0_3 h
 cases k with
 | zero => exact absurd h (by simp [rule_Deep.f])
 | succ k =>
 simp only [rule_Deep.f] at h
 have hu33 := Tryz.underlying33
 have HR0_3 := Aside0.mk hr0_3
 have HC0_3 := Aside0.mk hc0_3
 clear hr0_3 hc0_3
 have HB := Aside0.mk (Below.refl w.heap.size w)
 have H : (rule_Deep.l0 k 0 l0_3 (l0_3.length : Int) 0) = some r := h
 clear h
 have H' := Aside0.mk H
 clear H
 go_enter Tryz.func12, Tryz.ntmps12
 go_wp2_with (((with_reducible refine gate_dst (N := 1) rfl ?_); refine box_event ?hg (N := 1) ?hd (cs := #[.string a0_0, .string a0_1, .string a0_2, .slice A0_3 l0_3.length c0_3]) (t := 33) ?hr ?_; (case hd => rfl); (case hg => rfl); (case hr => (go_simp; done)); intro gb101 hg w2 hbox hb; have n0_ := Aside0.mk (below_step (by repeat ((with_reducible (exact HB.out)))) hb); have n1_ := Aside0.mk (hbox); have n2_ := Aside0.mk ((by rw [hg]; exact (below_size (by repeat ((with_reducible (exact HB.out))))) : w.heap.size ≤ gb101)); have n3_ := Aside0.mk ((by rw [hg]; exact (below_size (by repeat ((with_reducible (exact HB.out))))) : w.heap.size ≤ gb101)); clear HB; have HB := n0_; have BK101 := n1_; have GW101 := n2_; have GE101 := n3_; clear n0_ n1_ n2_ n3_; clear hb hbox hg; have hcz3_0 : w2.cell? ⟨gb101, 0, none⟩ = some (.string a0_0) := (blk_cell BK101.out 0).trans rfl; have hcz3_1 : w2.cell? ⟨gb101, 1, none⟩ = some (.string a0_1) := (blk_cell BK101.out 1).trans rfl; have hcz3_2 : w2.cell? ⟨gb101, 2, none⟩ = some (.string a0_2) := (blk_cell BK101.out 2).trans rfl; have hcz3_3 : w2.cell? ⟨gb101, 3, none⟩ = some (.slice A0_3 l0_3.length c0_3) := (blk_cell BK101.out 3).trans rfl; have hfz3_0 := blk_frozen BK101.out 0; have hfz3_1 := blk_frozen BK101.out 1; have hfz3_2 := blk_frozen BK101.out 2; have hfz3_3 := blk_frozen BK101.out 3))
 go_loopg [3, 9] k (fun kq v3 v9 w' => ∃ (x3_1 : Int) (x9_1 : Int), v3 = .int .i64 x3_1 ∧ v9 = .int .i64 x9_1 ∧ Aside0 (rule_Deep.l0 kq x3_1 l0_3 (l0_3.length : Int) x9_1 = some r) ∧ Aside0 (kq ≤ k) ∧ Aside0 (w'.heap[gb101]? = some (.cells #[.string a0_0, .string a0_1, .string a0_2, (.slice A0_3 l0_3.length c0_3)] 33 (0, 0))) ∧ Aside0 (Below w.heap.size w w'))
 case atStart => exact ⟨(0), (0), (by (rfl)), (by (rfl)), H', ⟨Nat.le_refl _⟩, ⟨by (with_reducible repeat ((refine blk_drew ?_))); exact BK101.out⟩, ⟨by repeat ((with_reducible (exact HB.out)))⟩⟩
 case round =>
  clear H'
  try clear hcz3_0
  try clear hcz3_1
  try clear hcz3_2
  try clear hcz3_3
  try clear hfz3_0
  try clear hfz3_1
  try clear hfz3_2
  try clear hfz3_3
  obtain ⟨x3_1, x9_1, rfl, rfl, HA, HK1, BK101, HB⟩ := hrel
  cases gk with
  | zero => exact absurd HA.out (by simp [rule_Deep.l0])
  | succ k1 =>
   have H := HA.out
   clear HA
   simp only [rule_Deep.l0] at H
   by_cases c4 : x9_1 < (l0_3.length : Int)
   ·rw [if_pos c4] at H
    have c4b0 : decide (x9_1 < (l0_3.length : Int)) = true := decide_eq_true c4
    clear c4
    by_cases c5 : 0 ≤ x9_1
    ·rw [if_pos c5] at H
     have c5b0 : decide (0 ≤ x9_1) = true := decide_eq_true c5
     clear c5
     by_cases c6 : x9_1 < (l0_3.length : Int)
     ·rw [if_pos c6] at H
      have c6b0 : decide (x9_1 < (l0_3.length : Int)) = true := decide_eq_true c6
      clear c6
      replace H := Option.bind_eq_some_iff.mp H
      obtain ⟨t104, A70, H⟩ := H
      replace H : (rule_Deep.l0 k1 (mx x3_1 t104) l0_3 (l0_3.length : Int) (wrap64 (x9_1 + 1))) = some r := H
      have A7 := Aside0.mk A70
      clear A70
      obtain ⟨ji8, hji8⟩ : ∃ j_ : Int, (mx x3_1 t104) = j_ := ⟨_, rfl⟩
      replace H : (rule_Deep.l0 k1 ji8 l0_3 (l0_3.length : Int) (wrap64 (x9_1 + 1))) = some r := by (rw [hji8] at H; exact H)
      (try rw [hji8] at A7)
      have hji8_ : (if x3_1 < t104 then t104 else x3_1) = ji8 := hji8
      have H' := Aside0.mk H
      clear H
      have p102 : 0 ≤ (x9_1 : Int) := of_decide_eq_true (by (with_reducible assumption))
      have q102 : x9_1 < (l0_3.length : Int) := of_decide_eq_true (by (with_reducible assumption))
      obtain ⟨ad102, A102_3, c102_3, e102, hx102_0, hx102_1, hx102_2, hx102_3, hl102_3, hi102_3⟩ := at_T33 HR0_3.out x9_1 p102 q102
      cases e102
      replace hx102_0 := (HB.out.cell (World.block_lt_of_cell? w _ hx102_0)).trans hx102_0
      replace hx102_1 := (HB.out.cell (World.block_lt_of_cell? w _ hx102_1)).trans hx102_1
      replace hx102_2 := (HB.out.cell (World.block_lt_of_cell? w _ hx102_2)).trans hx102_2
      replace hx102_3 := (HB.out.cell (World.block_lt_of_cell? w _ hx102_3)).trans hx102_3
      have HR102_3 := Aside0.mk hi102_3
      have HC102_3 := Aside0.mk hl102_3
      clear hi102_3 hl102_3
      replace p102 := eq_true p102
      replace q102 := eq_true q102
      go_wp2_with (first | ((with_reducible refine gate_dst (N := 5) rfl ?_); refine box_event ?hg (N := 5) ?hd (cs := #[.string (⟨#[]⟩ : ByteArray), .string (⟨#[]⟩ : ByteArray), .string (⟨#[]⟩ : ByteArray), .slice none 0 0]) (t := 33) ?hr ?_; (case hd => rfl); (case hg => rfl); (case hr => (go_simp; done)); intro gb103 hg w9 hbox hb; have n0_ := Aside0.mk (blk_below (g := gb101) (o := .cells #[.string a0_0, .string a0_1, .string a0_2, .slice (some ad102) l0_3.length c0_3] 33 (0, 0)) (by (with_reducible repeat ((refine blk_drew ?_))); exact BK101.out) hb); have n1_ := Aside0.mk (below_step (by repeat ((with_reducible (exact HB.out)))) hb); have n2_ := Aside0.mk (hbox); have n3_ := Aside0.mk ((by rw [hg]; exact (below_size (by repeat ((with_reducible (exact HB.out))))) : w.heap.size ≤ gb103)); have n4_ := Aside0.mk ((by rw [hg]; exact (below_size (by repeat ((with_reducible (exact HB.out))))) : w.heap.size ≤ gb103)); have n5_ := Aside0.mk ((by rw [hg]; exact Nat.ne_of_lt (blk_lt (g := gb101) (o := .cells #[.string a0_0, .string a0_1, .string a0_2, .slice (some ad102) l0_3.length c0_3] 33 (0, 0)) (by (with_reducible repeat ((refine blk_drew ?_))); exact BK101.out)) : gb101 ≠ gb103)); have n6_ := Aside0.mk ((by rw [hg]; exact Nat.ne_of_gt (blk_lt (g := gb101) (o := .cells #[.string a0_0, .string a0_1, .string a0_2, .slice (some ad102) l0_3.length c0_3] 33 (0, 0)) (by (with_reducible repeat ((refine blk_drew ?_))); exact BK101.out)) : gb103 ≠ gb101)); clear BK101; clear HB; have BK101 := n0_; have HB := n1_; have BK103 := n2_; have GW103 := n3_; have GE103 := n4_; have NB101_103 := n5_; have NB103_101 := n6_; clear n0_ n1_ n2_ n3_ n4_ n5_ n6_; clear hb hbox hg; have hnb10 := NB103_101.out; have hnc10 := NB101_103.out; have hcz11_0 : w9.cell? ⟨gb103, 0, none⟩ = some (.string (⟨#[]⟩ : ByteArray)) := (blk_cell BK103.out 0).trans rfl; have hcz11_1 : w9.cell? ⟨gb103, 1, none⟩ = some (.string (⟨#[]⟩ : ByteArray)) := (blk_cell BK103.out 1).trans rfl; have hcz11_2 : w9.cell? ⟨gb103, 2, none⟩ = some (.string (⟨#[]⟩ : ByteArray)) := (blk_cell BK103.out 2).trans rfl; have hcz11_3 : w9.cell? ⟨gb103, 3, none⟩ = some (.slice none 0 0) := (blk_cell BK103.out 3).trans rfl; have hfz11_0 := blk_frozen BK103.out 0; have hfz11_1 := blk_frozen BK103.out 1; have hfz11_2 := blk_frozen BK103.out 2; have hfz11_3 := blk_frozen BK103.out 3) | ((with_reducible refine gate_callee (f := 12) rfl ?_); refine goesL_ (some 15) rfl rfl Tryz.func12 (by kernel_rfl) rfl #[.agg #[.string ((rd_T33 l0_3 x9_1).f0), .string ((rd_T33 l0_3 x9_1).f1), .string ((rd_T33 l0_3 x9_1).f2), .slice A102_3 ((rd_T33 l0_3 x9_1).f3).length c102_3]] rfl (by (try simp only [List.map_toArray, List.map_cons, List.map_nil]); (rfl)) ?_; (with_reducible refine (ih k1 (by have := HK1.out; omega) ((rd_T33 l0_3 x9_1).f0) ((rd_T33 l0_3 x9_1).f1) ((rd_T33 l0_3 x9_1).f2) _ _ ((rd_T33 l0_3 x9_1).f3) t104 _ ?side1 ?side2 A7.out).mono ?_); (case side1 => exact Kd.C_below HR102_3.out (by repeat ((with_reducible first | exact HB.out | refine below_set ?_ GE103.out)))); (case side2 => exact HC102_3.out); rintro e w12 ⟨rfl, hb⟩; refine ⟨_, rfl, ?_⟩; have n0_ := Aside0.mk (blk_below (g := gb101) (o := .cells #[.string a0_0, .string a0_1, .string a0_2, .slice (some ad102) l0_3.length c0_3] 33 (0, 0)) (by (with_reducible repeat ((refine blk_drew ?_))); refine blk_far ?_ NB101_103.out _; (with_reducible repeat ((refine blk_drew ?_))); refine blk_far ?_ NB101_103.out _; (with_reducible repeat ((refine blk_drew ?_))); refine blk_far ?_ NB101_103.out _; (with_reducible repeat ((refine blk_drew ?_))); refine blk_far ?_ NB101_103.out _; (with_reducible repeat ((refine blk_drew ?_))); exact BK101.out) hb); have n1_ := Aside0.mk (blk_below (g := gb103) (o := .cells #[.string ((rd_T33 l0_3 x9_1).f0), .string ((rd_T33 l0_3 x9_1).f1), .string ((rd_T33 l0_3 x9_1).f2), .slice A102_3 ((rd_T33 l0_3 x9_1).f3).length c102_3] 33 (0, 0)) (by (with_reducible repeat ((refine blk_drew ?_))); refine blk_put (cs := #[.string ((rd_T33 l0_3 x9_1).f0), .string ((rd_T33 l0_3 x9_1).f1), .string ((rd_T33 l0_3 x9_1).f2), .slice none 0 0]) ?_ 3 _ rfl; (with_reducible repeat ((refine blk_drew ?_))); refine blk_put (cs := #[.string ((rd_T33 l0_3 x9_1).f0), .string ((rd_T33 l0_3 x9_1).f1), .string (⟨#[]⟩ : ByteArray), .slice none 0 0]) ?_ 2 _ rfl; (with_reducible repeat ((refine blk_drew ?_))); refine blk_put (cs := #[.string ((rd_T33 l0_3 x9_1).f0), .string (⟨#[]⟩ : ByteArray), .string (⟨#[]⟩ : ByteArray), .slice none 0 0]) ?_ 1 _ rfl; (with_reducible repeat ((refine blk_drew ?_))); refine blk_put (cs := #[.string (⟨#[]⟩ : ByteArray), .string (⟨#[]⟩ : ByteArray), .string (⟨#[]⟩ : ByteArray), .slice none 0 0]) ?_ 0 _ rfl; (with_reducible repeat ((refine blk_drew ?_))); exact BK103.out) hb); have n2_ := Aside0.mk (below_step (by repeat ((with_reducible first | exact HB.out | refine below_set ?_ GE103.out))) hb); clear BK101; clear BK103; clear HB; have BK101 := n0_; have BK103 := n1_; have HB := n2_; clear n0_ n1_ n2_; (try clear hb)))
      go_roundg k1
      case measure => have := HK1.out; omega
      case rel => exact ⟨(ji8), (wrap64 (x9_1 + 1)), (by (rfl)), (by (rfl)), H', ⟨by have := HK1.out; omega⟩, ⟨by (with_reducible repeat ((refine blk_drew ?_))); exact BK101.out⟩, ⟨by repeat ((with_reducible (exact HB.out)))⟩⟩
     ·rw [if_neg c6] at H
      exact absurd H (by simp)
    ·rw [if_neg c5] at H
     exact absurd H (by simp)
   ·rw [if_neg c4] at H
    have c4b0 : decide (x9_1 < (l0_3.length : Int)) = false := decide_eq_false c4
    clear c4
    obtain rfl := Option.some.inj H
    go_wp2
    go_ret
    exact ⟨by (rfl), by repeat ((with_reducible (exact HB.out)))⟩
end Go.Proofs.YtjcipbdocbomjaaGreatDoor.K
namespace Go.Proofs.YtjcipbdocbomjaaGreatDoor.K
attribute [local go_sem] max2_int min2_int max_two min_two max_three min_three max_four min_four
mutual
def rule_Size.l0 : Nat → Int → List (S33) → Int → Int → Option (Int)
 | 0, _, _, _, _ => none
 | k + 1, x3, x7, x8, x9 => if x9 < x8 then (if 0 ≤ x9 then (if x9 < (x7.length : Int) then ((rule_Size.f k ((rd_T33 x7 x9).f0) ((rd_T33 x7 x9).f1) ((rd_T33 x7 x9).f2) ((rd_T33 x7 x9).f3)).bind fun t108 => (rule_Size.l0 k (wrap64 (x3 + t108)) x7 x8 (wrap64 (x9 + 1)))) else (none)) else (none)) else (some x3)
def rule_Size.f : Nat → ByteArray → ByteArray → ByteArray → List (S33) → Option (Int)
 | 0, _, _, _, _ => none
 | k + 1, a0_0, a0_1, a0_2, l0_3 => rule_Size.l0 k 1 l0_3 (l0_3.length : Int) 0
end
set_option maxHeartbeats 8000000 in
set_option maxRecDepth 100000 in
theorem rule_Size.calls (k : Nat) : ∀ (a0_0 : ByteArray) (a0_1 : ByteArray) (a0_2 : ByteArray) (A0_3 : Option Addr) (c0_3 : Nat) (l0_3 : List (S33)) (r : Int) (w : World) (hr0_3 : Kd.C k33 w A0_3 l0_3.length l0_3) (hc0_3 : l0_3.length ≤ c0_3) (h : rule_Size.f k a0_0 a0_1 a0_2 l0_3 = some r),
  Calls Tryz.prog 13 #[.agg #[.string a0_0, .string a0_1, .string a0_2, .slice A0_3 l0_3.length c0_3]] w fun e w' => e = .returned (.int .i64 r) ∧ Below w.heap.size w w' := by
 induction k using Nat.strongRecOn with
 | _ k ih =>
 intro a0_0 a0_1 a0_2 A0_3 c0_3 l0_3 r w hr0_3 hc0_3 h
 cases k with
 | zero => exact absurd h (by simp [rule_Size.f])
 | succ k =>
 simp only [rule_Size.f] at h
 have hu33 := Tryz.underlying33
 have HR0_3 := Aside0.mk hr0_3
 have HC0_3 := Aside0.mk hc0_3
 clear hr0_3 hc0_3
 have HB := Aside0.mk (Below.refl w.heap.size w)
 have H : (rule_Size.l0 k 1 l0_3 (l0_3.length : Int) 0) = some r := h
 clear h
 have H' := Aside0.mk H
 clear H
 go_enter Tryz.func13, Tryz.ntmps13
 go_wp2_with (((with_reducible refine gate_dst (N := 1) rfl ?_); refine box_event ?hg (N := 1) ?hd (cs := #[.string a0_0, .string a0_1, .string a0_2, .slice A0_3 l0_3.length c0_3]) (t := 33) ?hr ?_; (case hd => rfl); (case hg => rfl); (case hr => (go_simp; done)); intro gb105 hg w2 hbox hb; have n0_ := Aside0.mk (below_step (by repeat ((with_reducible (exact HB.out)))) hb); have n1_ := Aside0.mk (hbox); have n2_ := Aside0.mk ((by rw [hg]; exact (below_size (by repeat ((with_reducible (exact HB.out))))) : w.heap.size ≤ gb105)); have n3_ := Aside0.mk ((by rw [hg]; exact (below_size (by repeat ((with_reducible (exact HB.out))))) : w.heap.size ≤ gb105)); clear HB; have HB := n0_; have BK105 := n1_; have GW105 := n2_; have GE105 := n3_; clear n0_ n1_ n2_ n3_; clear hb hbox hg; have hcz3_0 : w2.cell? ⟨gb105, 0, none⟩ = some (.string a0_0) := (blk_cell BK105.out 0).trans rfl; have hcz3_1 : w2.cell? ⟨gb105, 1, none⟩ = some (.string a0_1) := (blk_cell BK105.out 1).trans rfl; have hcz3_2 : w2.cell? ⟨gb105, 2, none⟩ = some (.string a0_2) := (blk_cell BK105.out 2).trans rfl; have hcz3_3 : w2.cell? ⟨gb105, 3, none⟩ = some (.slice A0_3 l0_3.length c0_3) := (blk_cell BK105.out 3).trans rfl; have hfz3_0 := blk_frozen BK105.out 0; have hfz3_1 := blk_frozen BK105.out 1; have hfz3_2 := blk_frozen BK105.out 2; have hfz3_3 := blk_frozen BK105.out 3))
 go_loopg [3, 9] k (fun kq v3 v9 w' => ∃ (x3_1 : Int) (x9_1 : Int), v3 = .int .i64 x3_1 ∧ v9 = .int .i64 x9_1 ∧ Aside0 (rule_Size.l0 kq x3_1 l0_3 (l0_3.length : Int) x9_1 = some r) ∧ Aside0 (kq ≤ k) ∧ Aside0 (w'.heap[gb105]? = some (.cells #[.string a0_0, .string a0_1, .string a0_2, (.slice A0_3 l0_3.length c0_3)] 33 (0, 0))) ∧ Aside0 (Below w.heap.size w w'))
 case atStart => exact ⟨(1), (0), (by (rfl)), (by (rfl)), H', ⟨Nat.le_refl _⟩, ⟨by (with_reducible repeat ((refine blk_drew ?_))); exact BK105.out⟩, ⟨by repeat ((with_reducible (exact HB.out)))⟩⟩
 case round =>
  clear H'
  try clear hcz3_0
  try clear hcz3_1
  try clear hcz3_2
  try clear hcz3_3
  try clear hfz3_0
  try clear hfz3_1
  try clear hfz3_2
  try clear hfz3_3
  obtain ⟨x3_1, x9_1, rfl, rfl, HA, HK1, BK105, HB⟩ := hrel
  cases gk with
  | zero => exact absurd HA.out (by simp [rule_Size.l0])
  | succ k1 =>
   have H := HA.out
   clear HA
   simp only [rule_Size.l0] at H
   by_cases c4 : x9_1 < (l0_3.length : Int)
   ·rw [if_pos c4] at H
    have c4b0 : decide (x9_1 < (l0_3.length : Int)) = true := decide_eq_true c4
    clear c4
    by_cases c5 : 0 ≤ x9_1
    ·rw [if_pos c5] at H
     have c5b0 : decide (0 ≤ x9_1) = true := decide_eq_true c5
     clear c5
     by_cases c6 : x9_1 < (l0_3.length : Int)
     ·rw [if_pos c6] at H
      have c6b0 : decide (x9_1 < (l0_3.length : Int)) = true := decide_eq_true c6
      clear c6
      replace H := Option.bind_eq_some_iff.mp H
      obtain ⟨t108, A70, H⟩ := H
      replace H : (rule_Size.l0 k1 (wrap64 (x3_1 + t108)) l0_3 (l0_3.length : Int) (wrap64 (x9_1 + 1))) = some r := H
      have A7 := Aside0.mk A70
      clear A70
      have H' := Aside0.mk H
      clear H
      have p106 : 0 ≤ (x9_1 : Int) := of_decide_eq_true (by (with_reducible assumption))
      have q106 : x9_1 < (l0_3.length : Int) := of_decide_eq_true (by (with_reducible assumption))
      obtain ⟨ad106, A106_3, c106_3, e106, hx106_0, hx106_1, hx106_2, hx106_3, hl106_3, hi106_3⟩ := at_T33 HR0_3.out x9_1 p106 q106
      cases e106
      replace hx106_0 := (HB.out.cell (World.block_lt_of_cell? w _ hx106_0)).trans hx106_0
      replace hx106_1 := (HB.out.cell (World.block_lt_of_cell? w _ hx106_1)).trans hx106_1
      replace hx106_2 := (HB.out.cell (World.block_lt_of_cell? w _ hx106_2)).trans hx106_2
      replace hx106_3 := (HB.out.cell (World.block_lt_of_cell? w _ hx106_3)).trans hx106_3
      have HR106_3 := Aside0.mk hi106_3
      have HC106_3 := Aside0.mk hl106_3
      clear hi106_3 hl106_3
      replace p106 := eq_true p106
      replace q106 := eq_true q106
      go_wp2_with (first | ((with_reducible refine gate_dst (N := 5) rfl ?_); refine box_event ?hg (N := 5) ?hd (cs := #[.string (⟨#[]⟩ : ByteArray), .string (⟨#[]⟩ : ByteArray), .string (⟨#[]⟩ : ByteArray), .slice none 0 0]) (t := 33) ?hr ?_; (case hd => rfl); (case hg => rfl); (case hr => (go_simp; done)); intro gb107 hg w8 hbox hb; have n0_ := Aside0.mk (blk_below (g := gb105) (o := .cells #[.string a0_0, .string a0_1, .string a0_2, .slice (some ad106) l0_3.length c0_3] 33 (0, 0)) (by (with_reducible repeat ((refine blk_drew ?_))); exact BK105.out) hb); have n1_ := Aside0.mk (below_step (by repeat ((with_reducible (exact HB.out)))) hb); have n2_ := Aside0.mk (hbox); have n3_ := Aside0.mk ((by rw [hg]; exact (below_size (by repeat ((with_reducible (exact HB.out))))) : w.heap.size ≤ gb107)); have n4_ := Aside0.mk ((by rw [hg]; exact (below_size (by repeat ((with_reducible (exact HB.out))))) : w.heap.size ≤ gb107)); have n5_ := Aside0.mk ((by rw [hg]; exact Nat.ne_of_lt (blk_lt (g := gb105) (o := .cells #[.string a0_0, .string a0_1, .string a0_2, .slice (some ad106) l0_3.length c0_3] 33 (0, 0)) (by (with_reducible repeat ((refine blk_drew ?_))); exact BK105.out)) : gb105 ≠ gb107)); have n6_ := Aside0.mk ((by rw [hg]; exact Nat.ne_of_gt (blk_lt (g := gb105) (o := .cells #[.string a0_0, .string a0_1, .string a0_2, .slice (some ad106) l0_3.length c0_3] 33 (0, 0)) (by (with_reducible repeat ((refine blk_drew ?_))); exact BK105.out)) : gb107 ≠ gb105)); clear BK105; clear HB; have BK105 := n0_; have HB := n1_; have BK107 := n2_; have GW107 := n3_; have GE107 := n4_; have NB105_107 := n5_; have NB107_105 := n6_; clear n0_ n1_ n2_ n3_ n4_ n5_ n6_; clear hb hbox hg; have hnb9 := NB107_105.out; have hnc9 := NB105_107.out; have hcz10_0 : w8.cell? ⟨gb107, 0, none⟩ = some (.string (⟨#[]⟩ : ByteArray)) := (blk_cell BK107.out 0).trans rfl; have hcz10_1 : w8.cell? ⟨gb107, 1, none⟩ = some (.string (⟨#[]⟩ : ByteArray)) := (blk_cell BK107.out 1).trans rfl; have hcz10_2 : w8.cell? ⟨gb107, 2, none⟩ = some (.string (⟨#[]⟩ : ByteArray)) := (blk_cell BK107.out 2).trans rfl; have hcz10_3 : w8.cell? ⟨gb107, 3, none⟩ = some (.slice none 0 0) := (blk_cell BK107.out 3).trans rfl; have hfz10_0 := blk_frozen BK107.out 0; have hfz10_1 := blk_frozen BK107.out 1; have hfz10_2 := blk_frozen BK107.out 2; have hfz10_3 := blk_frozen BK107.out 3) | ((with_reducible refine gate_callee (f := 13) rfl ?_); refine goesL_ (some 15) rfl rfl Tryz.func13 (by kernel_rfl) rfl #[.agg #[.string ((rd_T33 l0_3 x9_1).f0), .string ((rd_T33 l0_3 x9_1).f1), .string ((rd_T33 l0_3 x9_1).f2), .slice A106_3 ((rd_T33 l0_3 x9_1).f3).length c106_3]] rfl (by (try simp only [List.map_toArray, List.map_cons, List.map_nil]); (rfl)) ?_; (with_reducible refine (ih k1 (by have := HK1.out; omega) ((rd_T33 l0_3 x9_1).f0) ((rd_T33 l0_3 x9_1).f1) ((rd_T33 l0_3 x9_1).f2) _ _ ((rd_T33 l0_3 x9_1).f3) t108 _ ?side1 ?side2 A7.out).mono ?_); (case side1 => exact Kd.C_below HR106_3.out (by repeat ((with_reducible first | exact HB.out | refine below_set ?_ GE107.out)))); (case side2 => exact HC106_3.out); rintro e w11 ⟨rfl, hb⟩; refine ⟨_, rfl, ?_⟩; have n0_ := Aside0.mk (blk_below (g := gb105) (o := .cells #[.string a0_0, .string a0_1, .string a0_2, .slice (some ad106) l0_3.length c0_3] 33 (0, 0)) (by (with_reducible repeat ((refine blk_drew ?_))); refine blk_far ?_ NB105_107.out _; (with_reducible repeat ((refine blk_drew ?_))); refine blk_far ?_ NB105_107.out _; (with_reducible repeat ((refine blk_drew ?_))); refine blk_far ?_ NB105_107.out _; (with_reducible repeat ((refine blk_drew ?_))); refine blk_far ?_ NB105_107.out _; (with_reducible repeat ((refine blk_drew ?_))); exact BK105.out) hb); have n1_ := Aside0.mk (blk_below (g := gb107) (o := .cells #[.string ((rd_T33 l0_3 x9_1).f0), .string ((rd_T33 l0_3 x9_1).f1), .string ((rd_T33 l0_3 x9_1).f2), .slice A106_3 ((rd_T33 l0_3 x9_1).f3).length c106_3] 33 (0, 0)) (by (with_reducible repeat ((refine blk_drew ?_))); refine blk_put (cs := #[.string ((rd_T33 l0_3 x9_1).f0), .string ((rd_T33 l0_3 x9_1).f1), .string ((rd_T33 l0_3 x9_1).f2), .slice none 0 0]) ?_ 3 _ rfl; (with_reducible repeat ((refine blk_drew ?_))); refine blk_put (cs := #[.string ((rd_T33 l0_3 x9_1).f0), .string ((rd_T33 l0_3 x9_1).f1), .string (⟨#[]⟩ : ByteArray), .slice none 0 0]) ?_ 2 _ rfl; (with_reducible repeat ((refine blk_drew ?_))); refine blk_put (cs := #[.string ((rd_T33 l0_3 x9_1).f0), .string (⟨#[]⟩ : ByteArray), .string (⟨#[]⟩ : ByteArray), .slice none 0 0]) ?_ 1 _ rfl; (with_reducible repeat ((refine blk_drew ?_))); refine blk_put (cs := #[.string (⟨#[]⟩ : ByteArray), .string (⟨#[]⟩ : ByteArray), .string (⟨#[]⟩ : ByteArray), .slice none 0 0]) ?_ 0 _ rfl; (with_reducible repeat ((refine blk_drew ?_))); exact BK107.out) hb); have n2_ := Aside0.mk (below_step (by repeat ((with_reducible first | exact HB.out | refine below_set ?_ GE107.out))) hb); clear BK105; clear BK107; clear HB; have BK105 := n0_; have BK107 := n1_; have HB := n2_; clear n0_ n1_ n2_; (try clear hb)))
      go_roundg k1
      case measure => have := HK1.out; omega
      case rel => exact ⟨(wrap64 (x3_1 + t108)), (wrap64 (x9_1 + 1)), (by (rfl)), (by (rfl)), H', ⟨by have := HK1.out; omega⟩, ⟨by (with_reducible repeat ((refine blk_drew ?_))); exact BK105.out⟩, ⟨by repeat ((with_reducible (exact HB.out)))⟩⟩
     ·rw [if_neg c6] at H
      exact absurd H (by simp)
    ·rw [if_neg c5] at H
     exact absurd H (by simp)
   ·rw [if_neg c4] at H
    have c4b0 : decide (x9_1 < (l0_3.length : Int)) = false := decide_eq_false c4
    clear c4
    obtain rfl := Option.some.inj H
    go_wp2
    go_ret
    exact ⟨by (rfl), by repeat ((with_reducible (exact HB.out)))⟩
end Go.Proofs.YtjcipbdocbomjaaGreatDoor.K
namespace Go.Proofs.YtjcipbdocbomjaaGreatDoor.K
attribute [local go_sem] max2_int min2_int max_two min_two max_three min_three max_four min_four
def rule_form.j0 : Nat → Int → ByteArray → Bool → ByteArray → ByteArray → ByteArray → List (S33) → Option (Bool)
 | 0, _, _, _, _, _, _, _ => none
 | k + 1, x3, x8, x36, x110000, x110001, x110002, x110003 => if x36 = true then (if x110001.toList = ([] : List UInt8) then (if x110002.toList = ([] : List UInt8) then (some (decide (x3 ≥ 2))) else (some false)) else (some false)) else (if x8.toList = ([98, 117, 116] : List UInt8) then (if x110001.toList = ([] : List UInt8) then (if x110002.toList = ([] : List UInt8) then (some (x3 == 2)) else (some false)) else (some false)) else (some false))
def rule_form.f (k : Nat) (a0_0 : ByteArray) (a0_1 : ByteArray) (a0_2 : ByteArray) (l0_3 : List (S33)) : Option (Bool) := if a0_0.toList = ([116, 104, 105, 115] : List UInt8) then (if a0_1.toList = ([] : List UInt8) then (if a0_2.toList = ([] : List UInt8) then (some ((l0_3.length : Int) == 0)) else (some false)) else (some false)) else (if a0_0.toList = ([114, 101, 108] : List UInt8) then (if a0_2.toList = ([] : List UInt8) then (some ((l0_3.length : Int) == 0)) else (some false)) else (if a0_0.toList = ([102, 114, 111, 109] : List UInt8) then (some ((l0_3.length : Int) == 0)) else (if a0_0.toList = ([111, 114] : List UInt8) then (rule_form.j0 k (l0_3.length : Int) a0_0 (a0_0.toList == ([111, 114] : List UInt8)) a0_0 a0_1 a0_2 l0_3) else (rule_form.j0 k (l0_3.length : Int) a0_0 (a0_0.toList == ([97, 110, 100] : List UInt8)) a0_0 a0_1 a0_2 l0_3))))
set_option maxHeartbeats 8000000 in
set_option maxRecDepth 100000 in
theorem rule_form.calls (k : Nat) (a0_0 : ByteArray) (a0_1 : ByteArray) (a0_2 : ByteArray) (A0_3 : Option Addr) (c0_3 : Nat) (l0_3 : List (S33)) (r : Bool) (w : World) (hr0_3 : Kd.C k33 w A0_3 l0_3.length l0_3) (hc0_3 : l0_3.length ≤ c0_3) (h : rule_form.f k a0_0 a0_1 a0_2 l0_3 = some r) :
  Calls Tryz.prog 46 #[.agg #[.string a0_0, .string a0_1, .string a0_2, .slice A0_3 l0_3.length c0_3]] w fun e w' => e = .returned (.bool r) ∧ Below w.heap.size w w' := by
 have hu33 := Tryz.underlying33
 have HR0_3 := Aside0.mk hr0_3
 have HC0_3 := Aside0.mk hc0_3
 clear hr0_3 hc0_3
 have HB := Aside0.mk (Below.refl w.heap.size w)
 have H : (if a0_0.toList = ([116, 104, 105, 115] : List UInt8) then (if a0_1.toList = ([] : List UInt8) then (if a0_2.toList = ([] : List UInt8) then (some ((l0_3.length : Int) == 0)) else (some false)) else (some false)) else (if a0_0.toList = ([114, 101, 108] : List UInt8) then (if a0_2.toList = ([] : List UInt8) then (some ((l0_3.length : Int) == 0)) else (some false)) else (if a0_0.toList = ([102, 114, 111, 109] : List UInt8) then (some ((l0_3.length : Int) == 0)) else (if a0_0.toList = ([111, 114] : List UInt8) then (rule_form.j0 k (l0_3.length : Int) a0_0 (a0_0.toList == ([111, 114] : List UInt8)) a0_0 a0_1 a0_2 l0_3) else (rule_form.j0 k (l0_3.length : Int) a0_0 (a0_0.toList == ([97, 110, 100] : List UInt8)) a0_0 a0_1 a0_2 l0_3))))) = some r := h
 clear h
 by_cases c2 : a0_0.toList = ([116, 104, 105, 115] : List UInt8)
 ·rw [if_pos c2] at H
  have c2b0 : (a0_0.toList == ([116, 104, 105, 115] : List UInt8)) = true := beq_iff_eq.mpr c2
  have c2b1 : (a0_0.toList != ([116, 104, 105, 115] : List UInt8)) = false := bne_eq_false_iff_eq.mpr c2
  clear c2
  by_cases c3 : a0_1.toList = ([] : List UInt8)
  ·rw [if_pos c3] at H
   have c3b0 : (a0_1.toList == ([] : List UInt8)) = true := beq_iff_eq.mpr c3
   have c3b1 : (a0_1.toList != ([] : List UInt8)) = false := bne_eq_false_iff_eq.mpr c3
   clear c3
   by_cases c4 : a0_2.toList = ([] : List UInt8)
   ·rw [if_pos c4] at H
    have c4b0 : (a0_2.toList == ([] : List UInt8)) = true := beq_iff_eq.mpr c4
    have c4b1 : (a0_2.toList != ([] : List UInt8)) = false := bne_eq_false_iff_eq.mpr c4
    clear c4
    obtain rfl := Option.some.inj H
    go_enter Tryz.func46, Tryz.ntmps46
    go_wp2_with (((with_reducible refine gate_dst (N := 1) rfl ?_); refine box_event ?hg (N := 1) ?hd (cs := #[.string a0_0, .string a0_1, .string a0_2, .slice A0_3 l0_3.length c0_3]) (t := 33) ?hr ?_; (case hd => rfl); (case hg => rfl); (case hr => (go_simp; done)); intro gb109 hg w5 hbox hb; have n0_ := Aside0.mk (below_step (by repeat ((with_reducible (exact HB.out)))) hb); have n1_ := Aside0.mk (hbox); have n2_ := Aside0.mk ((by rw [hg]; exact (below_size (by repeat ((with_reducible (exact HB.out))))) : w.heap.size ≤ gb109)); have n3_ := Aside0.mk ((by rw [hg]; exact (below_size (by repeat ((with_reducible (exact HB.out))))) : w.heap.size ≤ gb109)); clear HB; have HB := n0_; have BK109 := n1_; have GW109 := n2_; have GE109 := n3_; clear n0_ n1_ n2_ n3_; clear hb hbox hg; have hcz6_0 : w5.cell? ⟨gb109, 0, none⟩ = some (.string a0_0) := (blk_cell BK109.out 0).trans rfl; have hcz6_1 : w5.cell? ⟨gb109, 1, none⟩ = some (.string a0_1) := (blk_cell BK109.out 1).trans rfl; have hcz6_2 : w5.cell? ⟨gb109, 2, none⟩ = some (.string a0_2) := (blk_cell BK109.out 2).trans rfl; have hcz6_3 : w5.cell? ⟨gb109, 3, none⟩ = some (.slice A0_3 l0_3.length c0_3) := (blk_cell BK109.out 3).trans rfl; have hfz6_0 := blk_frozen BK109.out 0; have hfz6_1 := blk_frozen BK109.out 1; have hfz6_2 := blk_frozen BK109.out 2; have hfz6_3 := blk_frozen BK109.out 3))
    go_ret
    exact ⟨by (rfl), by repeat ((with_reducible (exact HB.out)))⟩
   ·rw [if_neg c4] at H
    have c4b0 : (a0_2.toList == ([] : List UInt8)) = false := beq_eq_false_iff_ne.mpr c4
    have c4b1 : (a0_2.toList != ([] : List UInt8)) = true := bne_iff_ne.mpr c4
    obtain rfl := Option.some.inj H
    go_enter Tryz.func46, Tryz.ntmps46
    go_wp2_with (((with_reducible refine gate_dst (N := 1) rfl ?_); refine box_event ?hg (N := 1) ?hd (cs := #[.string a0_0, .string a0_1, .string a0_2, .slice A0_3 l0_3.length c0_3]) (t := 33) ?hr ?_; (case hd => rfl); (case hg => rfl); (case hr => (go_simp; done)); intro gb109 hg w7 hbox hb; have n0_ := Aside0.mk (below_step (by repeat ((with_reducible (exact HB.out)))) hb); have n1_ := Aside0.mk (hbox); have n2_ := Aside0.mk ((by rw [hg]; exact (below_size (by repeat ((with_reducible (exact HB.out))))) : w.heap.size ≤ gb109)); have n3_ := Aside0.mk ((by rw [hg]; exact (below_size (by repeat ((with_reducible (exact HB.out))))) : w.heap.size ≤ gb109)); clear HB; have HB := n0_; have BK109 := n1_; have GW109 := n2_; have GE109 := n3_; clear n0_ n1_ n2_ n3_; clear hb hbox hg; have hcz8_0 : w7.cell? ⟨gb109, 0, none⟩ = some (.string a0_0) := (blk_cell BK109.out 0).trans rfl; have hcz8_1 : w7.cell? ⟨gb109, 1, none⟩ = some (.string a0_1) := (blk_cell BK109.out 1).trans rfl; have hcz8_2 : w7.cell? ⟨gb109, 2, none⟩ = some (.string a0_2) := (blk_cell BK109.out 2).trans rfl; have hcz8_3 : w7.cell? ⟨gb109, 3, none⟩ = some (.slice A0_3 l0_3.length c0_3) := (blk_cell BK109.out 3).trans rfl; have hfz8_0 := blk_frozen BK109.out 0; have hfz8_1 := blk_frozen BK109.out 1; have hfz8_2 := blk_frozen BK109.out 2; have hfz8_3 := blk_frozen BK109.out 3))
    go_ret
    exact ⟨by (rfl), by repeat ((with_reducible (exact HB.out)))⟩
  ·rw [if_neg c3] at H
   have c3b0 : (a0_1.toList == ([] : List UInt8)) = false := beq_eq_false_iff_ne.mpr c3
   have c3b1 : (a0_1.toList != ([] : List UInt8)) = true := bne_iff_ne.mpr c3
   obtain rfl := Option.some.inj H
   go_enter Tryz.func46, Tryz.ntmps46
   go_wp2_with (((with_reducible refine gate_dst (N := 1) rfl ?_); refine box_event ?hg (N := 1) ?hd (cs := #[.string a0_0, .string a0_1, .string a0_2, .slice A0_3 l0_3.length c0_3]) (t := 33) ?hr ?_; (case hd => rfl); (case hg => rfl); (case hr => (go_simp; done)); intro gb109 hg w9 hbox hb; have n0_ := Aside0.mk (below_step (by repeat ((with_reducible (exact HB.out)))) hb); have n1_ := Aside0.mk (hbox); have n2_ := Aside0.mk ((by rw [hg]; exact (below_size (by repeat ((with_reducible (exact HB.out))))) : w.heap.size ≤ gb109)); have n3_ := Aside0.mk ((by rw [hg]; exact (below_size (by repeat ((with_reducible (exact HB.out))))) : w.heap.size ≤ gb109)); clear HB; have HB := n0_; have BK109 := n1_; have GW109 := n2_; have GE109 := n3_; clear n0_ n1_ n2_ n3_; clear hb hbox hg; have hcz10_0 : w9.cell? ⟨gb109, 0, none⟩ = some (.string a0_0) := (blk_cell BK109.out 0).trans rfl; have hcz10_1 : w9.cell? ⟨gb109, 1, none⟩ = some (.string a0_1) := (blk_cell BK109.out 1).trans rfl; have hcz10_2 : w9.cell? ⟨gb109, 2, none⟩ = some (.string a0_2) := (blk_cell BK109.out 2).trans rfl; have hcz10_3 : w9.cell? ⟨gb109, 3, none⟩ = some (.slice A0_3 l0_3.length c0_3) := (blk_cell BK109.out 3).trans rfl; have hfz10_0 := blk_frozen BK109.out 0; have hfz10_1 := blk_frozen BK109.out 1; have hfz10_2 := blk_frozen BK109.out 2; have hfz10_3 := blk_frozen BK109.out 3))
   go_ret
   exact ⟨by (rfl), by repeat ((with_reducible (exact HB.out)))⟩
 ·rw [if_neg c2] at H
  have c2b0 : (a0_0.toList == ([116, 104, 105, 115] : List UInt8)) = false := beq_eq_false_iff_ne.mpr c2
  have c2b1 : (a0_0.toList != ([116, 104, 105, 115] : List UInt8)) = true := bne_iff_ne.mpr c2
  by_cases c11 : a0_0.toList = ([114, 101, 108] : List UInt8)
  ·rw [if_pos c11] at H
   have c11b0 : (a0_0.toList == ([114, 101, 108] : List UInt8)) = true := beq_iff_eq.mpr c11
   have c11b1 : (a0_0.toList != ([114, 101, 108] : List UInt8)) = false := bne_eq_false_iff_eq.mpr c11
   clear c11
   by_cases c12 : a0_2.toList = ([] : List UInt8)
   ·rw [if_pos c12] at H
    have c12b0 : (a0_2.toList == ([] : List UInt8)) = true := beq_iff_eq.mpr c12
    have c12b1 : (a0_2.toList != ([] : List UInt8)) = false := bne_eq_false_iff_eq.mpr c12
    clear c12
    obtain rfl := Option.some.inj H
    go_enter Tryz.func46, Tryz.ntmps46
    go_wp2_with (((with_reducible refine gate_dst (N := 1) rfl ?_); refine box_event ?hg (N := 1) ?hd (cs := #[.string a0_0, .string a0_1, .string a0_2, .slice A0_3 l0_3.length c0_3]) (t := 33) ?hr ?_; (case hd => rfl); (case hg => rfl); (case hr => (go_simp; done)); intro gb109 hg w13 hbox hb; have n0_ := Aside0.mk (below_step (by repeat ((with_reducible (exact HB.out)))) hb); have n1_ := Aside0.mk (hbox); have n2_ := Aside0.mk ((by rw [hg]; exact (below_size (by repeat ((with_reducible (exact HB.out))))) : w.heap.size ≤ gb109)); have n3_ := Aside0.mk ((by rw [hg]; exact (below_size (by repeat ((with_reducible (exact HB.out))))) : w.heap.size ≤ gb109)); clear HB; have HB := n0_; have BK109 := n1_; have GW109 := n2_; have GE109 := n3_; clear n0_ n1_ n2_ n3_; clear hb hbox hg; have hcz14_0 : w13.cell? ⟨gb109, 0, none⟩ = some (.string a0_0) := (blk_cell BK109.out 0).trans rfl; have hcz14_1 : w13.cell? ⟨gb109, 1, none⟩ = some (.string a0_1) := (blk_cell BK109.out 1).trans rfl; have hcz14_2 : w13.cell? ⟨gb109, 2, none⟩ = some (.string a0_2) := (blk_cell BK109.out 2).trans rfl; have hcz14_3 : w13.cell? ⟨gb109, 3, none⟩ = some (.slice A0_3 l0_3.length c0_3) := (blk_cell BK109.out 3).trans rfl; have hfz14_0 := blk_frozen BK109.out 0; have hfz14_1 := blk_frozen BK109.out 1; have hfz14_2 := blk_frozen BK109.out 2; have hfz14_3 := blk_frozen BK109.out 3))
    go_ret
    exact ⟨by (rfl), by repeat ((with_reducible (exact HB.out)))⟩
   ·rw [if_neg c12] at H
    have c12b0 : (a0_2.toList == ([] : List UInt8)) = false := beq_eq_false_iff_ne.mpr c12
    have c12b1 : (a0_2.toList != ([] : List UInt8)) = true := bne_iff_ne.mpr c12
    obtain rfl := Option.some.inj H
    go_enter Tryz.func46, Tryz.ntmps46
    go_wp2_with (((with_reducible refine gate_dst (N := 1) rfl ?_); refine box_event ?hg (N := 1) ?hd (cs := #[.string a0_0, .string a0_1, .string a0_2, .slice A0_3 l0_3.length c0_3]) (t := 33) ?hr ?_; (case hd => rfl); (case hg => rfl); (case hr => (go_simp; done)); intro gb109 hg w15 hbox hb; have n0_ := Aside0.mk (below_step (by repeat ((with_reducible (exact HB.out)))) hb); have n1_ := Aside0.mk (hbox); have n2_ := Aside0.mk ((by rw [hg]; exact (below_size (by repeat ((with_reducible (exact HB.out))))) : w.heap.size ≤ gb109)); have n3_ := Aside0.mk ((by rw [hg]; exact (below_size (by repeat ((with_reducible (exact HB.out))))) : w.heap.size ≤ gb109)); clear HB; have HB := n0_; have BK109 := n1_; have GW109 := n2_; have GE109 := n3_; clear n0_ n1_ n2_ n3_; clear hb hbox hg; have hcz16_0 : w15.cell? ⟨gb109, 0, none⟩ = some (.string a0_0) := (blk_cell BK109.out 0).trans rfl; have hcz16_1 : w15.cell? ⟨gb109, 1, none⟩ = some (.string a0_1) := (blk_cell BK109.out 1).trans rfl; have hcz16_2 : w15.cell? ⟨gb109, 2, none⟩ = some (.string a0_2) := (blk_cell BK109.out 2).trans rfl; have hcz16_3 : w15.cell? ⟨gb109, 3, none⟩ = some (.slice A0_3 l0_3.length c0_3) := (blk_cell BK109.out 3).trans rfl; have hfz16_0 := blk_frozen BK109.out 0; have hfz16_1 := blk_frozen BK109.out 1; have hfz16_2 := blk_frozen BK109.out 2; have hfz16_3 := blk_frozen BK109.out 3))
    go_ret
    exact ⟨by (rfl), by repeat ((with_reducible (exact HB.out)))⟩
  ·rw [if_neg c11] at H
   have c11b0 : (a0_0.toList == ([114, 101, 108] : List UInt8)) = false := beq_eq_false_iff_ne.mpr c11
   have c11b1 : (a0_0.toList != ([114, 101, 108] : List UInt8)) = true := bne_iff_ne.mpr c11
   by_cases c17 : a0_0.toList = ([102, 114, 111, 109] : List UInt8)
   ·rw [if_pos c17] at H
    have c17b0 : (a0_0.toList == ([102, 114, 111, 109] : List UInt8)) = true := beq_iff_eq.mpr c17
    have c17b1 : (a0_0.toList != ([102, 114, 111, 109] : List UInt8)) = false := bne_eq_false_iff_eq.mpr c17
    clear c17
    obtain rfl := Option.some.inj H
    go_enter Tryz.func46, Tryz.ntmps46
    go_wp2_with (((with_reducible refine gate_dst (N := 1) rfl ?_); refine box_event ?hg (N := 1) ?hd (cs := #[.string a0_0, .string a0_1, .string a0_2, .slice A0_3 l0_3.length c0_3]) (t := 33) ?hr ?_; (case hd => rfl); (case hg => rfl); (case hr => (go_simp; done)); intro gb109 hg w18 hbox hb; have n0_ := Aside0.mk (below_step (by repeat ((with_reducible (exact HB.out)))) hb); have n1_ := Aside0.mk (hbox); have n2_ := Aside0.mk ((by rw [hg]; exact (below_size (by repeat ((with_reducible (exact HB.out))))) : w.heap.size ≤ gb109)); have n3_ := Aside0.mk ((by rw [hg]; exact (below_size (by repeat ((with_reducible (exact HB.out))))) : w.heap.size ≤ gb109)); clear HB; have HB := n0_; have BK109 := n1_; have GW109 := n2_; have GE109 := n3_; clear n0_ n1_ n2_ n3_; clear hb hbox hg; have hcz19_0 : w18.cell? ⟨gb109, 0, none⟩ = some (.string a0_0) := (blk_cell BK109.out 0).trans rfl; have hcz19_1 : w18.cell? ⟨gb109, 1, none⟩ = some (.string a0_1) := (blk_cell BK109.out 1).trans rfl; have hcz19_2 : w18.cell? ⟨gb109, 2, none⟩ = some (.string a0_2) := (blk_cell BK109.out 2).trans rfl; have hcz19_3 : w18.cell? ⟨gb109, 3, none⟩ = some (.slice A0_3 l0_3.length c0_3) := (blk_cell BK109.out 3).trans rfl; have hfz19_0 := blk_frozen BK109.out 0; have hfz19_1 := blk_frozen BK109.out 1; have hfz19_2 := blk_frozen BK109.out 2; have hfz19_3 := blk_frozen BK109.out 3))
    go_ret
    exact ⟨by (rfl), by repeat ((with_reducible (exact HB.out)))⟩
   ·rw [if_neg c17] at H
    have c17b0 : (a0_0.toList == ([102, 114, 111, 109] : List UInt8)) = false := beq_eq_false_iff_ne.mpr c17
    have c17b1 : (a0_0.toList != ([102, 114, 111, 109] : List UInt8)) = true := bne_iff_ne.mpr c17
    have HC20 := Aside0.mk H
    clear H
    go_enter Tryz.func46, Tryz.ntmps46
    go_upto_if 36 with (((with_reducible refine gate_dst (N := 1) rfl ?_); refine box_event ?hg (N := 1) ?hd (cs := #[.string a0_0, .string a0_1, .string a0_2, .slice A0_3 l0_3.length c0_3]) (t := 33) ?hr ?_; (case hd => rfl); (case hg => rfl); (case hr => (go_simp; done)); intro gb109 hg w21 hbox hb; have n0_ := Aside0.mk (below_step (by repeat ((with_reducible (exact HB.out)))) hb); have n1_ := Aside0.mk (hbox); have n2_ := Aside0.mk ((by rw [hg]; exact (below_size (by repeat ((with_reducible (exact HB.out))))) : w.heap.size ≤ gb109)); have n3_ := Aside0.mk ((by rw [hg]; exact (below_size (by repeat ((with_reducible (exact HB.out))))) : w.heap.size ≤ gb109)); clear HB; have HB := n0_; have BK109 := n1_; have GW109 := n2_; have GE109 := n3_; clear n0_ n1_ n2_ n3_; clear hb hbox hg; have hcz22_0 : w21.cell? ⟨gb109, 0, none⟩ = some (.string a0_0) := (blk_cell BK109.out 0).trans rfl; have hcz22_1 : w21.cell? ⟨gb109, 1, none⟩ = some (.string a0_1) := (blk_cell BK109.out 1).trans rfl; have hcz22_2 : w21.cell? ⟨gb109, 2, none⟩ = some (.string a0_2) := (blk_cell BK109.out 2).trans rfl; have hcz22_3 : w21.cell? ⟨gb109, 3, none⟩ = some (.slice A0_3 l0_3.length c0_3) := (blk_cell BK109.out 3).trans rfl; have hfz22_0 := blk_frozen BK109.out 0; have hfz22_1 := blk_frozen BK109.out 1; have hfz22_2 := blk_frozen BK109.out 2; have hfz22_3 := blk_frozen BK109.out 3))
    (try simp only [Act.put, List.setIfInBounds_toArray, List.set_cons_zero, List.set_cons_succ])
    go_cut [36] (fun v36 wc => ∃ (kq : Nat) (x36_19 : Bool), v36 = .bool x36_19 ∧ Aside0 (rule_form.j0 kq (l0_3.length : Int) a0_0 x36_19 a0_0 a0_1 a0_2 l0_3 = some r) ∧ Aside0 (kq ≤ k) ∧ Aside0 (wc.heap[gb109]? = some (.cells #[.string a0_0, .string a0_1, .string a0_2, (.slice A0_3 l0_3.length c0_3)] 33 (0, 0))) ∧ Aside0 (Below w.heap.size w wc))
    case first =>
     have H := HC20.out
     clear HC20
     by_cases c23 : a0_0.toList = ([111, 114] : List UInt8)
     ·rw [if_pos c23] at H
      have c23b0 : (a0_0.toList == ([111, 114] : List UInt8)) = true := beq_iff_eq.mpr c23
      have c23b1 : (a0_0.toList != ([111, 114] : List UInt8)) = false := bne_eq_false_iff_eq.mpr c23
      clear c23
      ((rw [c23b0]))
      have H' := Aside0.mk H
      clear H
      go_wp2
      go_meet
      case rel => exact ⟨_, ((a0_0.toList == ([111, 114] : List UInt8))), (by (simp [*]; done)), H', ⟨by (omega)⟩, ⟨by (with_reducible repeat ((refine blk_drew ?_))); exact BK109.out⟩, ⟨by repeat ((with_reducible (exact HB.out)))⟩⟩
     ·rw [if_neg c23] at H
      have c23b0 : (a0_0.toList == ([111, 114] : List UInt8)) = false := beq_eq_false_iff_ne.mpr c23
      have c23b1 : (a0_0.toList != ([111, 114] : List UInt8)) = true := bne_iff_ne.mpr c23
      ((rw [c23b0]))
      have H' := Aside0.mk H
      clear H
      go_wp2
      go_meet
      case rel => exact ⟨_, ((a0_0.toList == ([97, 110, 100] : List UInt8))), (by (rfl)), H', ⟨by (omega)⟩, ⟨by (with_reducible repeat ((refine blk_drew ?_))); exact BK109.out⟩, ⟨by repeat ((with_reducible (exact HB.out)))⟩⟩
    case rest =>
     clear HC20
     try clear c2
     try clear c2b0
     try clear c2b1
     try clear c11
     try clear c11b0
     try clear c11b1
     try clear c17
     try clear c17b0
     try clear c17b1
     try clear hcz22_0
     try clear hcz22_1
     try clear hcz22_2
     try clear hcz22_3
     try clear hfz22_0
     try clear hfz22_1
     try clear hfz22_2
     try clear hfz22_3
     obtain ⟨kq, x36_19, rfl, HA, HJ19, BK109, HB⟩ := hcut
     cases kq with
     | zero => exact absurd HA.out (by simp [rule_form.j0])
     | succ kj19 =>
      have H := HA.out
      clear HA
      simp only [rule_form.j0] at H
      by_cases c24 : x36_19 = true
      ·subst c24
       have H1 : (if a0_1.toList = ([] : List UInt8) then (if a0_2.toList = ([] : List UInt8) then (some (decide ((l0_3.length : Int) ≥ 2))) else (some false)) else (some false)) = some r := by rw [if_pos rfl] at H; exact H
       clear H
       have H := H1
       clear H1
       by_cases c25 : a0_1.toList = ([] : List UInt8)
       ·rw [if_pos c25] at H
        have c25b0 : (a0_1.toList == ([] : List UInt8)) = true := beq_iff_eq.mpr c25
        have c25b1 : (a0_1.toList != ([] : List UInt8)) = false := bne_eq_false_iff_eq.mpr c25
        clear c25
        by_cases c26 : a0_2.toList = ([] : List UInt8)
        ·rw [if_pos c26] at H
         have c26b0 : (a0_2.toList == ([] : List UInt8)) = true := beq_iff_eq.mpr c26
         have c26b1 : (a0_2.toList != ([] : List UInt8)) = false := bne_eq_false_iff_eq.mpr c26
         clear c26
         obtain rfl := Option.some.inj H
         have hcz27_0 : wc.cell? ⟨gb109, 0, none⟩ = some (.string a0_0) := (blk_cell BK109.out 0).trans rfl
         have hcz27_1 : wc.cell? ⟨gb109, 1, none⟩ = some (.string a0_1) := (blk_cell BK109.out 1).trans rfl
         have hcz27_2 : wc.cell? ⟨gb109, 2, none⟩ = some (.string a0_2) := (blk_cell BK109.out 2).trans rfl
         have hcz27_3 : wc.cell? ⟨gb109, 3, none⟩ = some (.slice A0_3 l0_3.length c0_3) := (blk_cell BK109.out 3).trans rfl
         have hfz27_0 := blk_frozen BK109.out 0
         have hfz27_1 := blk_frozen BK109.out 1
         have hfz27_2 := blk_frozen BK109.out 2
         have hfz27_3 := blk_frozen BK109.out 3
         go_wp2
         go_ret
         exact ⟨by (rfl), by repeat ((with_reducible (exact HB.out)))⟩
        ·rw [if_neg c26] at H
         have c26b0 : (a0_2.toList == ([] : List UInt8)) = false := beq_eq_false_iff_ne.mpr c26
         have c26b1 : (a0_2.toList != ([] : List UInt8)) = true := bne_iff_ne.mpr c26
         obtain rfl := Option.some.inj H
         have hcz28_0 : wc.cell? ⟨gb109, 0, none⟩ = some (.string a0_0) := (blk_cell BK109.out 0).trans rfl
         have hcz28_1 : wc.cell? ⟨gb109, 1, none⟩ = some (.string a0_1) := (blk_cell BK109.out 1).trans rfl
         have hcz28_2 : wc.cell? ⟨gb109, 2, none⟩ = some (.string a0_2) := (blk_cell BK109.out 2).trans rfl
         have hcz28_3 : wc.cell? ⟨gb109, 3, none⟩ = some (.slice A0_3 l0_3.length c0_3) := (blk_cell BK109.out 3).trans rfl
         have hfz28_0 := blk_frozen BK109.out 0
         have hfz28_1 := blk_frozen BK109.out 1
         have hfz28_2 := blk_frozen BK109.out 2
         have hfz28_3 := blk_frozen BK109.out 3
         go_wp2
         go_ret
         exact ⟨by (rfl), by repeat ((with_reducible (exact HB.out)))⟩
       ·rw [if_neg c25] at H
        have c25b0 : (a0_1.toList == ([] : List UInt8)) = false := beq_eq_false_iff_ne.mpr c25
        have c25b1 : (a0_1.toList != ([] : List UInt8)) = true := bne_iff_ne.mpr c25
        obtain rfl := Option.some.inj H
        have hcz29_0 : wc.cell? ⟨gb109, 0, none⟩ = some (.string a0_0) := (blk_cell BK109.out 0).trans rfl
        have hcz29_1 : wc.cell? ⟨gb109, 1, none⟩ = some (.string a0_1) := (blk_cell BK109.out 1).trans rfl
        have hcz29_2 : wc.cell? ⟨gb109, 2, none⟩ = some (.string a0_2) := (blk_cell BK109.out 2).trans rfl
        have hcz29_3 : wc.cell? ⟨gb109, 3, none⟩ = some (.slice A0_3 l0_3.length c0_3) := (blk_cell BK109.out 3).trans rfl
        have hfz29_0 := blk_frozen BK109.out 0
        have hfz29_1 := blk_frozen BK109.out 1
        have hfz29_2 := blk_frozen BK109.out 2
        have hfz29_3 := blk_frozen BK109.out 3
        go_wp2
        go_ret
        exact ⟨by (rfl), by repeat ((with_reducible (exact HB.out)))⟩
      ·replace c24 := Bool.eq_false_iff.mpr c24
       subst c24
       have H1 : (if a0_0.toList = ([98, 117, 116] : List UInt8) then (if a0_1.toList = ([] : List UInt8) then (if a0_2.toList = ([] : List UInt8) then (some ((l0_3.length : Int) == 2)) else (some false)) else (some false)) else (some false)) = some r := by rw [if_neg (show ¬ (false = true) by decide)] at H; exact H
       clear H
       have H := H1
       clear H1
       by_cases c30 : a0_0.toList = ([98, 117, 116] : List UInt8)
       ·rw [if_pos c30] at H
        have c30b0 : (a0_0.toList == ([98, 117, 116] : List UInt8)) = true := beq_iff_eq.mpr c30
        have c30b1 : (a0_0.toList != ([98, 117, 116] : List UInt8)) = false := bne_eq_false_iff_eq.mpr c30
        clear c30
        by_cases c31 : a0_1.toList = ([] : List UInt8)
        ·rw [if_pos c31] at H
         have c31b0 : (a0_1.toList == ([] : List UInt8)) = true := beq_iff_eq.mpr c31
         have c31b1 : (a0_1.toList != ([] : List UInt8)) = false := bne_eq_false_iff_eq.mpr c31
         clear c31
         by_cases c32 : a0_2.toList = ([] : List UInt8)
         ·rw [if_pos c32] at H
          have c32b0 : (a0_2.toList == ([] : List UInt8)) = true := beq_iff_eq.mpr c32
          have c32b1 : (a0_2.toList != ([] : List UInt8)) = false := bne_eq_false_iff_eq.mpr c32
          clear c32
          obtain rfl := Option.some.inj H
          have hcz33_0 : wc.cell? ⟨gb109, 0, none⟩ = some (.string a0_0) := (blk_cell BK109.out 0).trans rfl
          have hcz33_1 : wc.cell? ⟨gb109, 1, none⟩ = some (.string a0_1) := (blk_cell BK109.out 1).trans rfl
          have hcz33_2 : wc.cell? ⟨gb109, 2, none⟩ = some (.string a0_2) := (blk_cell BK109.out 2).trans rfl
          have hcz33_3 : wc.cell? ⟨gb109, 3, none⟩ = some (.slice A0_3 l0_3.length c0_3) := (blk_cell BK109.out 3).trans rfl
          have hfz33_0 := blk_frozen BK109.out 0
          have hfz33_1 := blk_frozen BK109.out 1
          have hfz33_2 := blk_frozen BK109.out 2
          have hfz33_3 := blk_frozen BK109.out 3
          go_wp2
          go_ret
          exact ⟨by (rfl), by repeat ((with_reducible (exact HB.out)))⟩
         ·rw [if_neg c32] at H
          have c32b0 : (a0_2.toList == ([] : List UInt8)) = false := beq_eq_false_iff_ne.mpr c32
          have c32b1 : (a0_2.toList != ([] : List UInt8)) = true := bne_iff_ne.mpr c32
          obtain rfl := Option.some.inj H
          have hcz34_0 : wc.cell? ⟨gb109, 0, none⟩ = some (.string a0_0) := (blk_cell BK109.out 0).trans rfl
          have hcz34_1 : wc.cell? ⟨gb109, 1, none⟩ = some (.string a0_1) := (blk_cell BK109.out 1).trans rfl
          have hcz34_2 : wc.cell? ⟨gb109, 2, none⟩ = some (.string a0_2) := (blk_cell BK109.out 2).trans rfl
          have hcz34_3 : wc.cell? ⟨gb109, 3, none⟩ = some (.slice A0_3 l0_3.length c0_3) := (blk_cell BK109.out 3).trans rfl
          have hfz34_0 := blk_frozen BK109.out 0
          have hfz34_1 := blk_frozen BK109.out 1
          have hfz34_2 := blk_frozen BK109.out 2
          have hfz34_3 := blk_frozen BK109.out 3
          go_wp2
          go_ret
          exact ⟨by (rfl), by repeat ((with_reducible (exact HB.out)))⟩
        ·rw [if_neg c31] at H
         have c31b0 : (a0_1.toList == ([] : List UInt8)) = false := beq_eq_false_iff_ne.mpr c31
         have c31b1 : (a0_1.toList != ([] : List UInt8)) = true := bne_iff_ne.mpr c31
         obtain rfl := Option.some.inj H
         have hcz35_0 : wc.cell? ⟨gb109, 0, none⟩ = some (.string a0_0) := (blk_cell BK109.out 0).trans rfl
         have hcz35_1 : wc.cell? ⟨gb109, 1, none⟩ = some (.string a0_1) := (blk_cell BK109.out 1).trans rfl
         have hcz35_2 : wc.cell? ⟨gb109, 2, none⟩ = some (.string a0_2) := (blk_cell BK109.out 2).trans rfl
         have hcz35_3 : wc.cell? ⟨gb109, 3, none⟩ = some (.slice A0_3 l0_3.length c0_3) := (blk_cell BK109.out 3).trans rfl
         have hfz35_0 := blk_frozen BK109.out 0
         have hfz35_1 := blk_frozen BK109.out 1
         have hfz35_2 := blk_frozen BK109.out 2
         have hfz35_3 := blk_frozen BK109.out 3
         go_wp2
         go_ret
         exact ⟨by (rfl), by repeat ((with_reducible (exact HB.out)))⟩
       ·rw [if_neg c30] at H
        have c30b0 : (a0_0.toList == ([98, 117, 116] : List UInt8)) = false := beq_eq_false_iff_ne.mpr c30
        have c30b1 : (a0_0.toList != ([98, 117, 116] : List UInt8)) = true := bne_iff_ne.mpr c30
        obtain rfl := Option.some.inj H
        go_wp2
        go_ret
        exact ⟨by (rfl), by repeat ((with_reducible (exact HB.out)))⟩
end Go.Proofs.YtjcipbdocbomjaaGreatDoor.K
namespace Go.Proofs.YtjcipbdocbomjaaGreatDoor.K
theorem wrap_succ {i n : Nat} (hi : i < n) (hn : n ≤ 1099511627776) : wrap64 ((i : Int) + 1) = ((i + 1 : Nat) : Int) := by unfold wrap64; omega
def sizeW (x : S33) : Int := x.f3.attach.foldl (fun n y => wrap64 (n + sizeW y.1)) 1
 termination_by SizeOf.sizeOf x
 decreasing_by exact S33.lt_of_mem y.2
theorem sizeW_eq (x : S33) : sizeW x = x.f3.foldl (fun n y => wrap64 (n + sizeW y)) 1 := by
 rw [sizeW]; exact List.foldl_attach (f := fun n y => wrap64 (n + sizeW y))
def deepW (x : S33) : Int := wrap64 (x.f3.attach.foldl (fun n y => mx n (deepW y.1)) 0 + 1)
 termination_by SizeOf.sizeOf x
 decreasing_by exact S33.lt_of_mem y.2
theorem deepW_eq (x : S33) : deepW x = wrap64 (x.f3.foldl (fun n y => mx n (deepW y)) 0 + 1) := by
 rw [deepW]; exact congrArg (fun z => wrap64 (z + 1)) (List.foldl_attach (f := fun n y => mx n (deepW y)))
theorem size_l0 (l : List S33) (hl : l.length ≤ 1099511627776) (IH : ∀ y ∈ l, Ev (fun k => rule_Size.f k y.f0 y.f1 y.f2 y.f3) (sizeW y)) (m : Nat) :
  ∀ (i : Nat) (acc : Int), i + m = l.length → Ev (fun k => rule_Size.l0 k acc l (l.length : Int) (i : Int)) ((l.drop i).foldl (fun n y => wrap64 (n + sizeW y)) acc) := by
 induction m with
 | zero =>
  intro i acc h
  have hd : l.drop i = [] := List.drop_eq_nil_of_le (by omega)
  rw [hd]
  exact Ev.step (f := fun _ => some acc) (fun k => by simp only [rule_Size.l0]; rw [if_neg (by omega)]) (Ev.now _)
 | succ m ih =>
  intro i acc h
  have hi : i < l.length := by omega
  rw [List.drop_eq_getElem_cons hi, List.foldl_cons]
  refine Ev.step (f := fun k => (rule_Size.f k l[i].f0 l[i].f1 l[i].f2 l[i].f3).bind fun t => rule_Size.l0 k (wrap64 (acc + t)) l (l.length : Int) ((i + 1 : Nat) : Int)) (fun k => ?_) ?_
  ·simp only [rule_Size.l0]
   rw [if_pos (by omega), if_pos (by omega), if_pos (by omega), show rd_T33 l (i : Int) = l[i] from rd_some z33 l i hi, wrap_succ hi hl]
  ·exact (IH _ (List.getElem_mem hi)).bind (ih (i + 1) _ (by omega))
theorem size_ev (n : Nat) : ∀ x : S33, SizeOf.sizeOf x < n → smallE x = true → Ev (fun k => rule_Size.f k x.f0 x.f1 x.f2 x.f3) (sizeW x) := by
 induction n with
 | zero => intro x h; omega
 | succ n ih =>
  intro x h hs
  rw [sizeW_eq]
  exact Ev.step (f := fun k => rule_Size.l0 k 1 x.f3 (x.f3.length : Int) ((0 : Nat) : Int)) (fun k => by simp only [rule_Size.f]; rfl)
   (size_l0 x.f3 (smallE_len hs) (fun y hy => ih y (by have := S33.lt_of_mem hy; omega) (smallE_mem hs hy)) x.f3.length 0 1 (by omega))
theorem deep_l0 (l : List S33) (hl : l.length ≤ 1099511627776) (IH : ∀ y ∈ l, Ev (fun k => rule_Deep.f k y.f0 y.f1 y.f2 y.f3) (deepW y)) (m : Nat) :
  ∀ (i : Nat) (acc : Int), i + m = l.length → Ev (fun k => rule_Deep.l0 k acc l (l.length : Int) (i : Int)) (wrap64 ((l.drop i).foldl (fun n y => mx n (deepW y)) acc + 1)) := by
 induction m with
 | zero =>
  intro i acc h
  have hd : l.drop i = [] := List.drop_eq_nil_of_le (by omega)
  rw [hd]
  exact Ev.step (f := fun _ => some (wrap64 (acc + 1))) (fun k => by simp only [rule_Deep.l0]; rw [if_neg (by omega)]) (Ev.now _)
 | succ m ih =>
  intro i acc h
  have hi : i < l.length := by omega
  rw [List.drop_eq_getElem_cons hi, List.foldl_cons]
  refine Ev.step (f := fun k => (rule_Deep.f k l[i].f0 l[i].f1 l[i].f2 l[i].f3).bind fun t => rule_Deep.l0 k (mx acc t) l (l.length : Int) ((i + 1 : Nat) : Int)) (fun k => ?_) ?_
  ·simp only [rule_Deep.l0]
   rw [if_pos (by omega), if_pos (by omega), if_pos (by omega), show rd_T33 l (i : Int) = l[i] from rd_some z33 l i hi, wrap_succ hi hl]
  ·exact (IH _ (List.getElem_mem hi)).bind (ih (i + 1) _ (by omega))
theorem deep_ev (n : Nat) : ∀ x : S33, SizeOf.sizeOf x < n → smallE x = true → Ev (fun k => rule_Deep.f k x.f0 x.f1 x.f2 x.f3) (deepW x) := by
 induction n with
 | zero => intro x h; omega
 | succ n ih =>
  intro x h hs
  rw [deepW_eq]
  exact Ev.step (f := fun k => rule_Deep.l0 k 0 x.f3 (x.f3.length : Int) ((0 : Nat) : Int)) (fun k => by simp only [rule_Deep.f]; rfl)
   (deep_l0 x.f3 (smallE_len hs) (fun y hy => ih y (by have := S33.lt_of_mem hy; omega) (smallE_mem hs hy)) x.f3.length 0 0 (by omega))
def formP (x : S33) : Bool :=
 if x.f0.toList = ([116, 104, 105, 115] : List UInt8) then decide (x.f1.toList = []) && decide (x.f2.toList = []) && decide (x.f3.length = 0)
 else if x.f0.toList = ([114, 101, 108] : List UInt8) then decide (x.f2.toList = []) && decide (x.f3.length = 0)
 else if x.f0.toList = ([102, 114, 111, 109] : List UInt8) then decide (x.f3.length = 0)
 else if x.f0.toList = ([111, 114] : List UInt8) ∨ x.f0.toList = ([97, 110, 100] : List UInt8) then decide (x.f1.toList = []) && decide (x.f2.toList = []) && decide (2 ≤ x.f3.length)
 else if x.f0.toList = ([98, 117, 116] : List UInt8) then decide (x.f1.toList = []) && decide (x.f2.toList = []) && decide (x.f3.length = 2)
 else false
theorem int_eq0 (n : Nat) : ((n : Int) == 0) = decide (n = 0) := by rw [Bool.eq_iff_iff]; simp
theorem int_eq2 (n : Nat) : ((n : Int) == 2) = decide (n = 2) := by rw [Bool.eq_iff_iff]; simp; omega
theorem int_ge2 (n : Nat) : decide ((n : Int) ≥ 2) = decide (2 ≤ n) := by rw [Bool.eq_iff_iff]; simp; omega
theorem form_eq (x : S33) (k : Nat) : rule_form.f (k + 1) x.f0 x.f1 x.f2 x.f3 = some (formP x) := by
 unfold rule_form.f formP
 simp only [rule_form.j0, int_eq0, int_eq2, int_ge2]
 by_cases h1 : x.f0.toList = ([116, 104, 105, 115] : List UInt8)
 ·rw [if_pos h1, if_pos h1]; by_cases a : x.f1.toList = ([] : List UInt8) <;> by_cases b : x.f2.toList = ([] : List UInt8) <;> simp [a, b]
 ·rw [if_neg h1, if_neg h1]
  by_cases h2 : x.f0.toList = ([114, 101, 108] : List UInt8)
  ·rw [if_pos h2, if_pos h2]; by_cases b : x.f2.toList = ([] : List UInt8) <;> simp [b]
  ·rw [if_neg h2, if_neg h2]
   by_cases h3 : x.f0.toList = ([102, 114, 111, 109] : List UInt8)
   ·rw [if_pos h3, if_pos h3]
   ·rw [if_neg h3, if_neg h3]
    by_cases h4 : x.f0.toList = ([111, 114] : List UInt8)
    ·rw [if_pos h4, if_pos (Or.inl h4)]; simp only [h4]; by_cases a : x.f1.toList = ([] : List UInt8) <;> by_cases b : x.f2.toList = ([] : List UInt8) <;> simp [a, b]
    ·rw [if_neg h4]
     by_cases h5 : x.f0.toList = ([97, 110, 100] : List UInt8)
     ·rw [if_pos (Or.inr h5)]; simp only [h5]; by_cases a : x.f1.toList = ([] : List UInt8) <;> by_cases b : x.f2.toList = ([] : List UInt8) <;> simp [a, b]
     ·rw [if_neg (show ¬ (x.f0.toList = ([111, 114] : List UInt8) ∨ x.f0.toList = ([97, 110, 100] : List UInt8)) from fun h => h.elim h4 h5)]
      have h7 : (x.f0.toList == ([97, 110, 100] : List UInt8)) = false := by simpa using h5
      rw [h7]
      by_cases h6 : x.f0.toList = ([98, 117, 116] : List UInt8)
      ·rw [if_pos h6]; simp only [h6]; by_cases a : x.f1.toList = ([] : List UInt8) <;> by_cases b : x.f2.toList = ([] : List UInt8) <;> simp [a, b]
      ·rw [if_neg h6]; simp [h6]
theorem form_any (x : S33) (A1 : Option Addr) (c1 : Nat) (w : World) (hl : x.f3.length ≤ c1) (hC : k33.C w A1 x.f3.length x.f3) :
  Calls Tryz.prog 46 #[.agg #[.string x.f0, .string x.f1, .string x.f2, .slice A1 x.f3.length c1]] w fun e w' => e = .returned (.bool (formP x)) ∧ Below w.heap.size w w' :=
 rule_form.calls 1 x.f0 x.f1 x.f2 A1 c1 x.f3 _ w hC hl (form_eq x 0)
theorem size_any (x : S33) (A1 : Option Addr) (c1 : Nat) (w : World) (hl : x.f3.length ≤ c1) (hC : k33.C w A1 x.f3.length x.f3) (hs : smallE x = true) :
  Calls Tryz.prog 13 #[.agg #[.string x.f0, .string x.f1, .string x.f2, .slice A1 x.f3.length c1]] w fun e w' => e = .returned (.int .i64 (sizeW x)) ∧ Below w.heap.size w w' := by
 obtain ⟨k, hk⟩ := (size_ev (SizeOf.sizeOf x + 1) x (by omega) hs).rounds
 exact rule_Size.calls k x.f0 x.f1 x.f2 A1 c1 x.f3 _ w hC hl hk
theorem deep_any (x : S33) (A1 : Option Addr) (c1 : Nat) (w : World) (hl : x.f3.length ≤ c1) (hC : k33.C w A1 x.f3.length x.f3) (hs : smallE x = true) :
  Calls Tryz.prog 12 #[.agg #[.string x.f0, .string x.f1, .string x.f2, .slice A1 x.f3.length c1]] w fun e w' => e = .returned (.int .i64 (deepW x)) ∧ Below w.heap.size w w' := by
 obtain ⟨k, hk⟩ := (deep_ev (SizeOf.sizeOf x + 1) x (by omega) hs).rounds
 exact rule_Deep.calls k x.f0 x.f1 x.f2 A1 c1 x.f3 _ w hC hl hk
def notGreat (r : S35) : Bool := decide (sizeW r.f1 ≤ 64) && decide (deepW r.f1 ≤ 8)
theorem check2_any (k : S30) (r : S35) (A1 : Option Addr) (c1 : Nat) (A2 : Option Addr) (c2 : Nat) (w : World) (hl : r.f1.f3.length ≤ c2) (hC2 : k33.C w A2 r.f1.f3.length r.f1.f3) (hs : smallE r.f1 = true) :
  Calls Tryz.prog 43 #[.agg #[.string k.f0, .slice A1 k.f1.length c1], .agg #[.string r.f0, .string r.f1.f0, .string r.f1.f1, .string r.f1.f2, .slice A2 r.f1.f3.length c2]] w fun e w' => e = .returned (.bool (notGreat r)) ∧ Below w.heap.size w w' := by
 have key1 : ∀ (W : World), Below w.heap.size w W → Calls Tryz.prog 13 #[.agg #[.string r.f1.f0, .string r.f1.f1, .string r.f1.f2, .slice A2 r.f1.f3.length c2]] W fun e w' => e = .returned (.int .i64 (sizeW r.f1)) ∧ (Below w.heap.size w w' ∧ Below W.heap.size W w') := by
  intro W hW
  refine (size_any r.f1 A2 c2 W hl (Kd.C_below hC2 hW) hs).mono ?_
  rintro e w3 ⟨rfl, h3⟩
  exact ⟨rfl, hW.trans (h3.mono hW.size), h3⟩
 have key2 : ∀ (W : World), Below w.heap.size w W → Calls Tryz.prog 12 #[.agg #[.string r.f1.f0, .string r.f1.f1, .string r.f1.f2, .slice A2 r.f1.f3.length c2]] W fun e w' => e = .returned (.int .i64 (deepW r.f1)) ∧ Below w.heap.size w w' := by
  intro W hW
  refine (deep_any r.f1 A2 c2 W hl (Kd.C_below hC2 hW) hs).mono ?_
  rintro e w3 ⟨rfl, h3⟩
  exact ⟨rfl, hW.trans (h3.mono hW.size)⟩
 clear hC2
 by_cases h : sizeW r.f1 ≤ 64
 ·have h1 : decide (sizeW r.f1 ≤ 64) = true := decide_eq_true h
  have hn : notGreat r = decide (deepW r.f1 ≤ 8) := by unfold notGreat; rw [h1]; rfl
  clear h
  go_enter Tryz.func43, Tryz.ntmps43
  go_wp2_with (first | (go_at_call 13; refine (key1 _ (below_two w _ _)).mono ?_; rintro e w' ⟨rfl, hb, hb3⟩; have hf := blk_below (blk_second w _ _) hb3; have hf1 := (blk_cell hf 1).trans rfl; have hf2 := (blk_cell hf 2).trans rfl; have hf3 := (blk_cell hf 3).trans rfl; have hf4 := (blk_cell hf 4).trans rfl) | (go_at_call 12; refine (key2 _ hb).mono ?_; rintro e w2 ⟨rfl, hb2⟩))
  go_ret
  rw [hn]
  exact ⟨rfl, hb2⟩
 ·have h1 : decide (sizeW r.f1 ≤ 64) = false := decide_eq_false h
  have hn : notGreat r = false := by unfold notGreat; rw [h1]; rfl
  clear h
  go_enter Tryz.func43, Tryz.ntmps43
  go_wp2_with ((go_at_call 13; refine (key1 _ (below_two w _ _)).mono ?_; rintro e w' ⟨rfl, hb, hb3⟩))
  go_ret
  rw [hn]
  exact ⟨rfl, hb⟩
theorem check3_any (k : S30) (r : S35) (A1 : Option Addr) (c1 : Nat) (A2 : Option Addr) (c2 : Nat) (w : World) (hl : r.f1.f3.length ≤ c2) (hC2 : k33.C w A2 r.f1.f3.length r.f1.f3) (hs : smallE r.f1 = true) :
  Calls Tryz.prog 44 #[.agg #[.string k.f0, .slice A1 k.f1.length c1], .agg #[.string r.f0, .string r.f1.f0, .string r.f1.f1, .string r.f1.f2, .slice A2 r.f1.f3.length c2]] w fun e w' => e = .returned (.bool (allP formP r.f1)) ∧ Below w.heap.size w w' := by
 have key : ∀ (W : World), Below w.heap.size w W → Calls Tryz.prog 45 #[.agg #[.string r.f1.f0, .string r.f1.f1, .string r.f1.f2, .slice A2 r.f1.f3.length c2], .func (.func 46) #[] #[]] W fun e w' => e = .returned (.bool (allP formP r.f1)) ∧ Below w.heap.size w w' := by
  intro W hW
  refine (all_46 formP 0 (fun _ => True) (fun _ _ _ _ _ => trivial) (fun x A c w1 _ _ hl2 hC => form_any x A c w1 hl2 hC) (SizeOf.sizeOf r.f1 + 1) r.f1 A2 c2 W (by omega) hs (by omega) trivial hl (Kd.C_below hC2 hW)).mono ?_
  rintro e w3 ⟨rfl, h3⟩
  exact ⟨rfl, hW.trans (h3.mono hW.size)⟩
 clear hC2
 go_enter Tryz.func44, Tryz.ntmps44
 go_wp2_with (go_at_call 45; refine (key _ (below_two w _ _)).mono ?_; rintro e w' ⟨rfl, hb⟩)
 go_ret
 exact ⟨rfl, hb⟩
def manyP (l : List S30) : Bool := decide ((l.length : Int) > 64) || l.any fun k => decide ((k.f1.length : Int) > 64)
def checkP (l : List S30) : Int :=
 if (manyP l || !(eachP (fun _ r => notGreat r) l)) = true then 122
 else if (!(eachP (fun _ r => allP formP r.f1) l)) = true then 120
 else if (!(okKs l && eachP (fun k r => allP (namedP k) r.f1) l)) = true then 121
 else 0
def rule_Check.f (l0 : List S30) : Option Int := if smallL l0 = true then some (checkP l0) else none
set_option maxHeartbeats 4000000 in
set_option maxRecDepth 100000 in
theorem rule_Check.calls (A0 : Option Addr) (c0 : Nat) (l0 : List S30) (r : Int) (w : World) (hr0 : Kd.C k30 w A0 l0.length l0) (hc0 : l0.length ≤ c0) (h : rule_Check.f l0 = some r) (hw : WordsIn w) :
  Calls Tryz.prog 22 #[.slice A0 l0.length c0] w fun e w' => e = .returned (.int .i64 r) ∧ Below w.heap.size w w' := by
 unfold rule_Check.f at h
 by_cases hs : smallL l0 = true
 ·rw [if_pos hs] at h
  obtain rfl := Option.some.inj h
  have k0 : Calls Tryz.prog 40 #[.slice A0 l0.length c0, .func (.func 41) #[] #[]] w fun e w' => e = .returned (.bool (l0.any fun k => decide ((k.f1.length : Int) > 64))) ∧ Below w.heap.size w w' := many_any A0 c0 l0 w hr0 (smallL_len hs)
  have k1 : ∀ (W : World), Below w.heap.size w W → Calls Tryz.prog 42 #[.slice A0 l0.length c0, .func (.func 43) #[] #[]] W fun e w' => e = .returned (.bool (eachP (fun _ r => notGreat r) l0)) ∧ Below w.heap.size w w' := by
   intro W hW
   refine (each_43 A0 c0 l0 (fun _ r => notGreat r) W (Kd.C_below hr0 hW) (smallL_len hs) (fun k hk => smallL_rules hs hk) (fun k hk r hr A1 c1 A2 c2 w1 _ _ _ hl2 hC2 => check2_any k r A1 c1 A2 c2 w1 hl2 hC2 (smallL_expr hs hk hr))).mono ?_
   rintro e w3 ⟨rfl, h3⟩
   exact ⟨rfl, hW.trans (h3.mono hW.size)⟩
  have k2 : ∀ (W : World), Below w.heap.size w W → Calls Tryz.prog 42 #[.slice A0 l0.length c0, .func (.func 44) #[] #[]] W fun e w' => e = .returned (.bool (eachP (fun _ r => allP formP r.f1) l0)) ∧ Below w.heap.size w w' := by
   intro W hW
   refine (each_44 A0 c0 l0 (fun _ r => allP formP r.f1) W (Kd.C_below hr0 hW) (smallL_len hs) (fun k hk => smallL_rules hs hk) (fun k hk r hr A1 c1 A2 c2 w1 _ _ _ hl2 hC2 => check3_any k r A1 c1 A2 c2 w1 hl2 hC2 (smallL_expr hs hk hr))).mono ?_
   rintro e w3 ⟨rfl, h3⟩
   exact ⟨rfl, hW.trans (h3.mono hW.size)⟩
  have k3 : ∀ (W : World), Below w.heap.size w W → Calls Tryz.prog 47 #[.slice A0 l0.length c0] W fun e w' => e = .returned (.bool (okKs l0 && eachP (fun k r => allP (namedP k) r.f1) l0)) ∧ Below w.heap.size w w' := by
   intro W hW
   refine (names_any A0 c0 l0 W (Kd.C_below hr0 hW) hs (words_below hw hW)).mono ?_
   rintro e w3 ⟨rfl, h3⟩
   exact ⟨rfl, hW.trans (h3.mono hW.size)⟩
  clear hr0 hc0 h hw
  have tail : ∀ (m : Bool) (hm : manyP l0 = m) (W : World), Below w.heap.size w W → True := fun _ _ _ _ => trivial
  clear tail
  cases hlen : decide ((l0.length : Int) > 64) with
  | true =>
   have hp : checkP l0 = 122 := by unfold checkP manyP; rw [hlen]; rfl
   go_enter Tryz.func22, Tryz.ntmps22
   go_wp2_with fail
   go_ret
   rw [hp]
   exact ⟨rfl, Below.refl _ _⟩
  | false =>
   cases hany : (l0.any fun k => decide ((k.f1.length : Int) > 64)) with
   | true =>
    have hp : checkP l0 = 122 := by unfold checkP manyP; rw [hlen, hany]; rfl
    rw [hany] at k0
    go_enter Tryz.func22, Tryz.ntmps22
    go_wp2_with ((go_at_call 40; refine k0.mono ?_; rintro e w1 ⟨rfl, hb1⟩))
    go_ret
    rw [hp]
    exact ⟨rfl, hb1⟩
   | false =>
    rw [hany] at k0
    have hmp : manyP l0 = false := by unfold manyP; rw [hlen, hany]; rfl
    cases he1 : eachP (fun _ r => notGreat r) l0 with
    | false =>
     have hp : checkP l0 = 122 := by unfold checkP; rw [he1]; simp
     rw [he1] at k1
     go_enter Tryz.func22, Tryz.ntmps22
     go_wp2_with (first | (go_at_call 40; refine k0.mono ?_; rintro e w1 ⟨rfl, hb1⟩) | (go_at_call 42; refine (k1 _ hb1).mono ?_; rintro e w2 ⟨rfl, hb2⟩; clear k1))
     go_ret
     rw [hp]
     exact ⟨rfl, hb2⟩
    | true =>
     rw [he1] at k1
     cases he2 : eachP (fun _ r => allP formP r.f1) l0 with
     | false =>
      have hp : checkP l0 = 120 := by unfold checkP; rw [hmp, he1, he2]; rfl
      rw [he2] at k2
      go_enter Tryz.func22, Tryz.ntmps22
      go_wp2_with (first | (go_at_call 40; refine k0.mono ?_; rintro e w1 ⟨rfl, hb1⟩) | (go_at_call 42; refine (k1 _ hb1).mono ?_; rintro e w2 ⟨rfl, hb2⟩; clear k1) | (go_at_call 42; refine (k2 _ hb2).mono ?_; rintro e w3 ⟨rfl, hb3⟩; clear k2))
      go_ret
      rw [hp]
      exact ⟨rfl, hb3⟩
     | true =>
      rw [he2] at k2
      cases he3 : (okKs l0 && eachP (fun k r => allP (namedP k) r.f1) l0) with
      | false =>
       have hp : checkP l0 = 121 := by unfold checkP; rw [hmp, he1, he2, he3]; rfl
       rw [he3] at k3
       go_enter Tryz.func22, Tryz.ntmps22
       go_wp2_with (first | (go_at_call 40; refine k0.mono ?_; rintro e w1 ⟨rfl, hb1⟩) | (go_at_call 42; refine (k1 _ hb1).mono ?_; rintro e w2 ⟨rfl, hb2⟩; clear k1) | (go_at_call 42; refine (k2 _ hb2).mono ?_; rintro e w3 ⟨rfl, hb3⟩; clear k2) | (go_at_call 47; refine (k3 _ hb3).mono ?_; rintro e w4 ⟨rfl, hb4⟩))
       go_ret
       rw [hp]
       exact ⟨rfl, hb4⟩
      | true =>
       have hp : checkP l0 = 0 := by unfold checkP; rw [hmp, he1, he2, he3]; rfl
       rw [he3] at k3
       go_enter Tryz.func22, Tryz.ntmps22
       go_wp2_with (first | (go_at_call 40; refine k0.mono ?_; rintro e w1 ⟨rfl, hb1⟩) | (go_at_call 42; refine (k1 _ hb1).mono ?_; rintro e w2 ⟨rfl, hb2⟩; clear k1) | (go_at_call 42; refine (k2 _ hb2).mono ?_; rintro e w3 ⟨rfl, hb3⟩; clear k2) | (go_at_call 47; refine (k3 _ hb3).mono ?_; rintro e w4 ⟨rfl, hb4⟩))
       go_ret
       rw [hp]
       exact ⟨rfl, hb4⟩
 ·rw [if_neg hs] at h; exact absurd h (by simp)
end Go.Proofs.YtjcipbdocbomjaaGreatDoor.K
namespace Go.Proofs.YtjcipbdocbomjaaGreatDoor.K
attribute [local go_sem] max2_int min2_int max_two min_two max_three min_three max_four min_four
mutual
def rule_copied.l0 : Nat → List (S33) → List (S33) → Int → Int → ByteArray → ByteArray → ByteArray → List (S33) → Option (ByteArray × ByteArray × ByteArray × (List (S33)))
 | 0, _, _, _, _, _, _, _, _ => none
 | k + 1, x3, x7, x8, x9, x111000, x111001, x111002, x111003 => if x9 < x8 then (if 0 ≤ x9 then (if x9 < (x7.length : Int) then ((rule_copied.f k ((rd_T33 x7 x9).f0) ((rd_T33 x7 x9).f1) ((rd_T33 x7 x9).f2) ((rd_T33 x7 x9).f3)).bind fun bt114 => (if x3.length < 1954687338268 then (rule_copied.l0 k (x3 ++ [(⟨bt114.1, bt114.2.1, bt114.2.2.1, bt114.2.2.2⟩ : S33)]) x7 x8 (wrap64 (x9 + 1)) x111000 x111001 x111002 x111003) else (none))) else (none)) else (none)) else (some (x111000, x111001, x111002, x3))
def rule_copied.f : Nat → ByteArray → ByteArray → ByteArray → List (S33) → Option (ByteArray × ByteArray × ByteArray × (List (S33)))
 | 0, _, _, _, _ => none
 | k + 1, a0_0, a0_1, a0_2, l0_3 => rule_copied.l0 k ([] : List (S33)) l0_3 (l0_3.length : Int) 0 a0_0 a0_1 a0_2 l0_3
end
set_option maxHeartbeats 8000000 in
set_option maxRecDepth 100000 in
theorem rule_copied.calls (k : Nat) : ∀ (a0_0 : ByteArray) (a0_1 : ByteArray) (a0_2 : ByteArray) (A0_3 : Option Addr) (c0_3 : Nat) (l0_3 : List (S33)) (r1 : ByteArray) (r2 : ByteArray) (r3 : ByteArray) (r4 : List (S33)) (w : World) (hr0_3 : Kd.C k33 w A0_3 l0_3.length l0_3) (hc0_3 : l0_3.length ≤ c0_3) (h : rule_copied.f k a0_0 a0_1 a0_2 l0_3 = some (r1, r2, r3, r4)),
  Calls Tryz.prog 38 #[.agg #[.string a0_0, .string a0_1, .string a0_2, .slice A0_3 l0_3.length c0_3]] w fun e w' => ∃ v3_ : Value, e = .returned (.agg #[.string r1, .string r2, .string r3, v3_]) ∧ Kd.R k33 33 w' w.heap.size (fun _ => True) v3_ r4 ∧ Below w.heap.size w w' := by
 induction k using Nat.strongRecOn with
 | _ k ih =>
 intro a0_0 a0_1 a0_2 A0_3 c0_3 l0_3 r1 r2 r3 r4 w hr0_3 hc0_3 h
 cases k with
 | zero => exact absurd h (by simp [rule_copied.f])
 | succ k =>
 simp only [rule_copied.f] at h
 have hu33 := Tryz.underlying33
 have HR0_3 := Aside0.mk hr0_3
 have HC0_3 := Aside0.mk hc0_3
 clear hr0_3 hc0_3
 have HB := Aside0.mk (Below.refl w.heap.size w)
 have H : (rule_copied.l0 k ([] : List (S33)) l0_3 (l0_3.length : Int) 0 a0_0 a0_1 a0_2 l0_3) = some (r1, r2, r3, r4) := h
 clear h
 have H' := Aside0.mk H
 clear H
 go_enter Tryz.func38, Tryz.ntmps38
 go_wp2_with (first | ((with_reducible refine gate_dst (N := 1) rfl ?_); refine box_event ?hg (N := 1) ?hd (cs := #[.string a0_0, .string a0_1, .string a0_2, .slice A0_3 l0_3.length c0_3]) (t := 33) ?hr ?_; (case hd => rfl); (case hg => rfl); (case hr => (go_simp; done)); intro gb110 hg w2 hbox hb; have n0_ := Aside0.mk (below_step (by repeat ((with_reducible (exact HB.out)))) hb); have n1_ := Aside0.mk (hbox); have n2_ := Aside0.mk ((by rw [hg]; exact (below_size (by repeat ((with_reducible (exact HB.out))))) : w.heap.size ≤ gb110)); have n3_ := Aside0.mk ((by rw [hg]; exact (below_size (by repeat ((with_reducible (exact HB.out))))) : w.heap.size ≤ gb110)); clear HB; have HB := n0_; have BK110 := n1_; have GW110 := n2_; have GE110 := n3_; clear n0_ n1_ n2_ n3_; clear hb hbox hg) | ((with_reducible refine gate_dst (N := 2) rfl ?_); refine box_event ?hg (N := 2) ?hd (cs := #[.string (⟨#[]⟩ : ByteArray), .string (⟨#[]⟩ : ByteArray), .string (⟨#[]⟩ : ByteArray), .slice none 0 0]) (t := 33) ?hr ?_; (case hd => rfl); (case hg => rfl); (case hr => (go_simp; done)); intro gb111 hg w3 hbox hb; have n0_ := Aside0.mk (blk_below (g := gb110) (o := .cells #[.string a0_0, .string a0_1, .string a0_2, .slice A0_3 l0_3.length c0_3] 33 (0, 0)) (by (with_reducible repeat ((refine blk_drew ?_))); exact BK110.out) hb); have n1_ := Aside0.mk (below_step (by repeat ((with_reducible (exact HB.out)))) hb); have n2_ := Aside0.mk (hbox); have n3_ := Aside0.mk ((by rw [hg]; exact (below_size (by repeat ((with_reducible (exact HB.out))))) : w.heap.size ≤ gb111)); have n4_ := Aside0.mk ((by rw [hg]; exact (below_size (by repeat ((with_reducible (exact HB.out))))) : w.heap.size ≤ gb111)); have n5_ := Aside0.mk ((by rw [hg]; exact Nat.ne_of_lt (blk_lt (g := gb110) (o := .cells #[.string a0_0, .string a0_1, .string a0_2, .slice A0_3 l0_3.length c0_3] 33 (0, 0)) (by (with_reducible repeat ((refine blk_drew ?_))); exact BK110.out)) : gb110 ≠ gb111)); have n6_ := Aside0.mk ((by rw [hg]; exact Nat.ne_of_gt (blk_lt (g := gb110) (o := .cells #[.string a0_0, .string a0_1, .string a0_2, .slice A0_3 l0_3.length c0_3] 33 (0, 0)) (by (with_reducible repeat ((refine blk_drew ?_))); exact BK110.out)) : gb111 ≠ gb110)); clear BK110; clear HB; have BK110 := n0_; have HB := n1_; have BK111 := n2_; have GW111 := n3_; have GE111 := n4_; have NB110_111 := n5_; have NB111_110 := n6_; clear n0_ n1_ n2_ n3_ n4_ n5_ n6_; clear hb hbox hg; have hnb4 := NB110_111.out; have hnc4 := NB111_110.out; have hcz5_0 : w3.cell? ⟨gb110, 0, none⟩ = some (.string a0_0) := (blk_cell BK110.out 0).trans rfl; have hcz5_1 : w3.cell? ⟨gb110, 1, none⟩ = some (.string a0_1) := (blk_cell BK110.out 1).trans rfl; have hcz5_2 : w3.cell? ⟨gb110, 2, none⟩ = some (.string a0_2) := (blk_cell BK110.out 2).trans rfl; have hcz5_3 : w3.cell? ⟨gb110, 3, none⟩ = some (.slice A0_3 l0_3.length c0_3) := (blk_cell BK110.out 3).trans rfl; have hfz5_0 := blk_frozen BK110.out 0; have hfz5_1 := blk_frozen BK110.out 1; have hfz5_2 := blk_frozen BK110.out 2; have hfz5_3 := blk_frozen BK110.out 3))
 go_loopg [3, 9] k (fun kq v3 v9 w' => ∃ (x3_1 : List (S33)) (x9_1 : Int), v9 = .int .i64 x9_1 ∧ Aside0 (rule_copied.l0 kq x3_1 l0_3 (l0_3.length : Int) x9_1 a0_0 a0_1 a0_2 l0_3 = some (r1, r2, r3, r4)) ∧ Aside0 (kq ≤ k) ∧ Aside0 (Kd.R k33 33 w' w.heap.size (fun k_ => k_ ≠ gb110 ∧ k_ ≠ gb111) v3 x3_1) ∧ Aside0 (w'.heap[gb110]? = some (.cells #[.string a0_0, .string a0_1, .string a0_2, (.slice A0_3 l0_3.length c0_3)] 33 (0, 0))) ∧ Aside0 (w'.heap[gb111]? = some (.cells #[.string (⟨#[]⟩ : ByteArray), .string (⟨#[]⟩ : ByteArray), .string (⟨#[]⟩ : ByteArray), (.slice none 0 0)] 33 (0, 0))) ∧ Aside0 (Below w.heap.size w w'))
 case atStart => exact ⟨(([] : List (S33))), (0), (by (rfl)), H', ⟨Nat.le_refl _⟩, ⟨by (exact Kd.R_nil _ _ _ _ _)⟩, ⟨by (with_reducible repeat ((refine blk_drew ?_))); exact BK110.out⟩, ⟨by (with_reducible repeat ((refine blk_drew ?_))); exact BK111.out⟩, ⟨by repeat ((with_reducible (exact HB.out)))⟩⟩
 case round =>
  clear H'
  try clear hcz5_0
  try clear hcz5_1
  try clear hcz5_2
  try clear hcz5_3
  try clear hfz5_0
  try clear hfz5_1
  try clear hfz5_2
  try clear hfz5_3
  obtain ⟨x3_1, x9_1, rfl, HA, HK1, HO_3, BK110, BK111, HB⟩ := hrel
  cases gk with
  | zero => exact absurd HA.out (by simp [rule_copied.l0])
  | succ k1 =>
   have H := HA.out
   clear HA
   simp only [rule_copied.l0] at H
   by_cases c6 : x9_1 < (l0_3.length : Int)
   ·rw [if_pos c6] at H
    have c6b0 : decide (x9_1 < (l0_3.length : Int)) = true := decide_eq_true c6
    clear c6
    by_cases c7 : 0 ≤ x9_1
    ·rw [if_pos c7] at H
     have c7b0 : decide (0 ≤ x9_1) = true := decide_eq_true c7
     clear c7
     by_cases c8 : x9_1 < (l0_3.length : Int)
     ·rw [if_pos c8] at H
      have c8b0 : decide (x9_1 < (l0_3.length : Int)) = true := decide_eq_true c8
      clear c8
      replace H := Option.bind_eq_some_iff.mp H
      obtain ⟨⟨t114, t115, t116, t117⟩, A90, H⟩ := H
      replace H : (if x3_1.length < 1954687338268 then (rule_copied.l0 k1 (x3_1 ++ [(⟨t114, t115, t116, t117⟩ : S33)]) l0_3 (l0_3.length : Int) (wrap64 (x9_1 + 1)) a0_0 a0_1 a0_2 l0_3) else (none)) = some (r1, r2, r3, r4) := H
      have A9 := Aside0.mk A90
      clear A90
      by_cases c10 : x3_1.length < 1954687338268
      ·rw [if_pos c10] at H
       have LMc10 := Aside0.mk c10
       clear c10
       obtain ⟨y120, hy120⟩ : ∃ y_ : List (S33), y_ = (x3_1 ++ [(⟨t114, t115, t116, t117⟩ : S33)]) := ⟨_, rfl⟩
       replace H : (rule_copied.l0 k1 y120 l0_3 (l0_3.length : Int) (wrap64 (x9_1 + 1)) a0_0 a0_1 a0_2 l0_3) = some (r1, r2, r3, r4) := by (rw [hy120]; with_reducible exact H)
       have Ny120 := Aside0.mk hy120
       clear hy120
       have H' := Aside0.mk H
       clear H
       have p112 : 0 ≤ (x9_1 : Int) := of_decide_eq_true (by (with_reducible assumption))
       have q112 : x9_1 < (l0_3.length : Int) := of_decide_eq_true (by (with_reducible assumption))
       obtain ⟨ad112, A112_3, c112_3, e112, hx112_0, hx112_1, hx112_2, hx112_3, hl112_3, hi112_3⟩ := at_T33 HR0_3.out x9_1 p112 q112
       cases e112
       replace hx112_0 := (HB.out.cell (World.block_lt_of_cell? w _ hx112_0)).trans hx112_0
       replace hx112_1 := (HB.out.cell (World.block_lt_of_cell? w _ hx112_1)).trans hx112_1
       replace hx112_2 := (HB.out.cell (World.block_lt_of_cell? w _ hx112_2)).trans hx112_2
       replace hx112_3 := (HB.out.cell (World.block_lt_of_cell? w _ hx112_3)).trans hx112_3
       have HR112_3 := Aside0.mk hi112_3
       have HC112_3 := Aside0.mk hl112_3
       clear hi112_3 hl112_3
       replace p112 := eq_true p112
       replace q112 := eq_true q112
       go_wp2_with (first | ((with_reducible refine gate_dst (N := 5) rfl ?_); refine box_event ?hg (N := 5) ?hd (cs := #[.string (⟨#[]⟩ : ByteArray), .string (⟨#[]⟩ : ByteArray), .string (⟨#[]⟩ : ByteArray), .slice none 0 0]) (t := 33) ?hr ?_; (case hd => rfl); (case hg => rfl); (case hr => (go_simp; done)); intro gb113 hg w11 hbox hb; have n0_ := Aside0.mk (Kd.R_below (Kd.R_elderB (by (with_reducible repeat ((apply Kd.R_drew))); exact HO_3.out) gb113 (Nat.le_of_eq hg.symm)) hb); have n1_ := Aside0.mk (blk_below (g := gb110) (o := .cells #[.string a0_0, .string a0_1, .string a0_2, .slice (some ad112) l0_3.length c0_3] 33 (0, 0)) (by (with_reducible repeat ((refine blk_drew ?_))); exact BK110.out) hb); have n2_ := Aside0.mk (blk_below (g := gb111) (o := .cells #[.string (⟨#[]⟩ : ByteArray), .string (⟨#[]⟩ : ByteArray), .string (⟨#[]⟩ : ByteArray), .slice none 0 0] 33 (0, 0)) (by (with_reducible repeat ((refine blk_drew ?_))); exact BK111.out) hb); have n3_ := Aside0.mk (below_step (by repeat ((with_reducible (exact HB.out)))) hb); have n4_ := Aside0.mk (hbox); have n5_ := Aside0.mk ((by rw [hg]; exact (below_size (by repeat ((with_reducible (exact HB.out))))) : w.heap.size ≤ gb113)); have n6_ := Aside0.mk ((by rw [hg]; exact (below_size (by repeat ((with_reducible (exact HB.out))))) : w.heap.size ≤ gb113)); have n7_ := Aside0.mk ((by rw [hg]; exact Nat.ne_of_lt (blk_lt (g := gb110) (o := .cells #[.string a0_0, .string a0_1, .string a0_2, .slice (some ad112) l0_3.length c0_3] 33 (0, 0)) (by (with_reducible repeat ((refine blk_drew ?_))); exact BK110.out)) : gb110 ≠ gb113)); have n8_ := Aside0.mk ((by rw [hg]; exact Nat.ne_of_gt (blk_lt (g := gb110) (o := .cells #[.string a0_0, .string a0_1, .string a0_2, .slice (some ad112) l0_3.length c0_3] 33 (0, 0)) (by (with_reducible repeat ((refine blk_drew ?_))); exact BK110.out)) : gb113 ≠ gb110)); have n9_ := Aside0.mk ((by rw [hg]; exact Nat.ne_of_lt (blk_lt (g := gb111) (o := .cells #[.string (⟨#[]⟩ : ByteArray), .string (⟨#[]⟩ : ByteArray), .string (⟨#[]⟩ : ByteArray), .slice none 0 0] 33 (0, 0)) (by (with_reducible repeat ((refine blk_drew ?_))); exact BK111.out)) : gb111 ≠ gb113)); have n10_ := Aside0.mk ((by rw [hg]; exact Nat.ne_of_gt (blk_lt (g := gb111) (o := .cells #[.string (⟨#[]⟩ : ByteArray), .string (⟨#[]⟩ : ByteArray), .string (⟨#[]⟩ : ByteArray), .slice none 0 0] 33 (0, 0)) (by (with_reducible repeat ((refine blk_drew ?_))); exact BK111.out)) : gb113 ≠ gb111)); clear HO_3; clear BK110; clear BK111; clear HB; have HO_3 := n0_; have BK110 := n1_; have BK111 := n2_; have HB := n3_; have BK113 := n4_; have GW113 := n5_; have GE113 := n6_; have NB110_113 := n7_; have NB113_110 := n8_; have NB111_113 := n9_; have NB113_111 := n10_; clear n0_ n1_ n2_ n3_ n4_ n5_ n6_ n7_ n8_ n9_ n10_; clear hb hbox hg; have hnb12 := NB113_110.out; have hnc12 := NB110_113.out; have hnb13 := NB113_111.out; have hnc13 := NB111_113.out; have hcz14_0 : w11.cell? ⟨gb113, 0, none⟩ = some (.string (⟨#[]⟩ : ByteArray)) := (blk_cell BK113.out 0).trans rfl; have hcz14_1 : w11.cell? ⟨gb113, 1, none⟩ = some (.string (⟨#[]⟩ : ByteArray)) := (blk_cell BK113.out 1).trans rfl; have hcz14_2 : w11.cell? ⟨gb113, 2, none⟩ = some (.string (⟨#[]⟩ : ByteArray)) := (blk_cell BK113.out 2).trans rfl; have hcz14_3 : w11.cell? ⟨gb113, 3, none⟩ = some (.slice none 0 0) := (blk_cell BK113.out 3).trans rfl; have hfz14_0 := blk_frozen BK113.out 0; have hfz14_1 := blk_frozen BK113.out 1; have hfz14_2 := blk_frozen BK113.out 2; have hfz14_3 := blk_frozen BK113.out 3) | ((with_reducible refine gate_callee (f := 38) rfl ?_); refine goesL_ (some 15) rfl rfl Tryz.func38 (by kernel_rfl) rfl #[.agg #[.string ((rd_T33 l0_3 x9_1).f0), .string ((rd_T33 l0_3 x9_1).f1), .string ((rd_T33 l0_3 x9_1).f2), .slice A112_3 ((rd_T33 l0_3 x9_1).f3).length c112_3]] rfl (by (try simp only [List.map_toArray, List.map_cons, List.map_nil]); (rfl)) ?_; (with_reducible refine (ih k1 (by have := HK1.out; omega) ((rd_T33 l0_3 x9_1).f0) ((rd_T33 l0_3 x9_1).f1) ((rd_T33 l0_3 x9_1).f2) _ _ ((rd_T33 l0_3 x9_1).f3) t114 t115 t116 t117 _ ?side1 ?side2 A9.out).mono ?_); (case side1 => exact Kd.C_below HR112_3.out (by repeat ((with_reducible first | exact HB.out | refine below_set ?_ GE113.out)))); (case side2 => exact HC112_3.out); rintro e w15 ⟨v118, rfl, ho0, hb⟩; refine ⟨_, rfl, ?_⟩; have n0_ := Aside0.mk (Kd.R_elder' (by (with_reducible repeat ((apply Kd.R_drew))); exact (Kd.R_mono (Kd.R_far (p := ⟨gb113, 3, none⟩) (Kd.R_far (p := ⟨gb113, 2, none⟩) (Kd.R_far (p := ⟨gb113, 1, none⟩) (Kd.R_far (p := ⟨gb113, 0, none⟩) (Kd.R_mono HO_3.out (fun k_ hk => (⟨hk, hk.2⟩ : _ ∧ k_ ≠ gb113))) (fun _ hk => hk.2) (.string ((rd_T33 l0_3 x9_1).f0))) (fun _ hk => hk.2) (.string ((rd_T33 l0_3 x9_1).f1))) (fun _ hk => hk.2) (.string ((rd_T33 l0_3 x9_1).f2))) (fun _ hk => hk.2) (.slice A112_3 ((rd_T33 l0_3 x9_1).f3).length c112_3)) (fun _ h_ => h_.1))) (Kd.R_base ho0) hb); have n1_ := Aside0.mk (Kd.R_lower (Kd.R_newB (Kd.R_newB (Kd.R_newB (Kd.R_new' ho0 (Kd.R_lt (by (with_reducible repeat ((apply Kd.R_drew))); exact (Kd.R_mono (Kd.R_far (p := ⟨gb113, 3, none⟩) (Kd.R_far (p := ⟨gb113, 2, none⟩) (Kd.R_far (p := ⟨gb113, 1, none⟩) (Kd.R_far (p := ⟨gb113, 0, none⟩) (Kd.R_mono HO_3.out (fun k_ hk => (⟨hk, hk.2⟩ : _ ∧ k_ ≠ gb113))) (fun _ hk => hk.2) (.string ((rd_T33 l0_3 x9_1).f0))) (fun _ hk => hk.2) (.string ((rd_T33 l0_3 x9_1).f1))) (fun _ hk => hk.2) (.string ((rd_T33 l0_3 x9_1).f2))) (fun _ hk => hk.2) (.slice A112_3 ((rd_T33 l0_3 x9_1).f3).length c112_3)) (fun _ h_ => h_.1))))) (g := gb110) (o := .cells #[.string a0_0, .string a0_1, .string a0_2, .slice (some ad112) l0_3.length c0_3] 33 (0, 0)) (by (with_reducible repeat ((refine blk_drew ?_))); refine blk_far ?_ NB110_113.out _; (with_reducible repeat ((refine blk_drew ?_))); refine blk_far ?_ NB110_113.out _; (with_reducible repeat ((refine blk_drew ?_))); refine blk_far ?_ NB110_113.out _; (with_reducible repeat ((refine blk_drew ?_))); refine blk_far ?_ NB110_113.out _; (with_reducible repeat ((refine blk_drew ?_))); exact BK110.out)) (g := gb111) (o := .cells #[.string (⟨#[]⟩ : ByteArray), .string (⟨#[]⟩ : ByteArray), .string (⟨#[]⟩ : ByteArray), .slice none 0 0] 33 (0, 0)) (by (with_reducible repeat ((refine blk_drew ?_))); refine blk_far ?_ NB111_113.out _; (with_reducible repeat ((refine blk_drew ?_))); refine blk_far ?_ NB111_113.out _; (with_reducible repeat ((refine blk_drew ?_))); refine blk_far ?_ NB111_113.out _; (with_reducible repeat ((refine blk_drew ?_))); refine blk_far ?_ NB111_113.out _; (with_reducible repeat ((refine blk_drew ?_))); exact BK111.out)) (g := gb113) (o := .cells #[.string ((rd_T33 l0_3 x9_1).f0), .string ((rd_T33 l0_3 x9_1).f1), .string ((rd_T33 l0_3 x9_1).f2), .slice A112_3 ((rd_T33 l0_3 x9_1).f3).length c112_3] 33 (0, 0)) (by (with_reducible repeat ((refine blk_drew ?_))); refine blk_put (cs := #[.string ((rd_T33 l0_3 x9_1).f0), .string ((rd_T33 l0_3 x9_1).f1), .string ((rd_T33 l0_3 x9_1).f2), .slice none 0 0]) ?_ 3 _ rfl; (with_reducible repeat ((refine blk_drew ?_))); refine blk_put (cs := #[.string ((rd_T33 l0_3 x9_1).f0), .string ((rd_T33 l0_3 x9_1).f1), .string (⟨#[]⟩ : ByteArray), .slice none 0 0]) ?_ 2 _ rfl; (with_reducible repeat ((refine blk_drew ?_))); refine blk_put (cs := #[.string ((rd_T33 l0_3 x9_1).f0), .string (⟨#[]⟩ : ByteArray), .string (⟨#[]⟩ : ByteArray), .slice none 0 0]) ?_ 1 _ rfl; (with_reducible repeat ((refine blk_drew ?_))); refine blk_put (cs := #[.string (⟨#[]⟩ : ByteArray), .string (⟨#[]⟩ : ByteArray), .string (⟨#[]⟩ : ByteArray), .slice none 0 0]) ?_ 0 _ rfl; (with_reducible repeat ((refine blk_drew ?_))); exact BK113.out)) (below_size (by repeat ((with_reducible first | exact HB.out | refine below_set ?_ GE113.out))))); have n2_ := Aside0.mk (blk_below (g := gb110) (o := .cells #[.string a0_0, .string a0_1, .string a0_2, .slice (some ad112) l0_3.length c0_3] 33 (0, 0)) (by (with_reducible repeat ((refine blk_drew ?_))); refine blk_far ?_ NB110_113.out _; (with_reducible repeat ((refine blk_drew ?_))); refine blk_far ?_ NB110_113.out _; (with_reducible repeat ((refine blk_drew ?_))); refine blk_far ?_ NB110_113.out _; (with_reducible repeat ((refine blk_drew ?_))); refine blk_far ?_ NB110_113.out _; (with_reducible repeat ((refine blk_drew ?_))); exact BK110.out) hb); have n3_ := Aside0.mk (blk_below (g := gb111) (o := .cells #[.string (⟨#[]⟩ : ByteArray), .string (⟨#[]⟩ : ByteArray), .string (⟨#[]⟩ : ByteArray), .slice none 0 0] 33 (0, 0)) (by (with_reducible repeat ((refine blk_drew ?_))); refine blk_far ?_ NB111_113.out _; (with_reducible repeat ((refine blk_drew ?_))); refine blk_far ?_ NB111_113.out _; (with_reducible repeat ((refine blk_drew ?_))); refine blk_far ?_ NB111_113.out _; (with_reducible repeat ((refine blk_drew ?_))); refine blk_far ?_ NB111_113.out _; (with_reducible repeat ((refine blk_drew ?_))); exact BK111.out) hb); have n4_ := Aside0.mk (blk_below (g := gb113) (o := .cells #[.string ((rd_T33 l0_3 x9_1).f0), .string ((rd_T33 l0_3 x9_1).f1), .string ((rd_T33 l0_3 x9_1).f2), .slice A112_3 ((rd_T33 l0_3 x9_1).f3).length c112_3] 33 (0, 0)) (by (with_reducible repeat ((refine blk_drew ?_))); refine blk_put (cs := #[.string ((rd_T33 l0_3 x9_1).f0), .string ((rd_T33 l0_3 x9_1).f1), .string ((rd_T33 l0_3 x9_1).f2), .slice none 0 0]) ?_ 3 _ rfl; (with_reducible repeat ((refine blk_drew ?_))); refine blk_put (cs := #[.string ((rd_T33 l0_3 x9_1).f0), .string ((rd_T33 l0_3 x9_1).f1), .string (⟨#[]⟩ : ByteArray), .slice none 0 0]) ?_ 2 _ rfl; (with_reducible repeat ((refine blk_drew ?_))); refine blk_put (cs := #[.string ((rd_T33 l0_3 x9_1).f0), .string (⟨#[]⟩ : ByteArray), .string (⟨#[]⟩ : ByteArray), .slice none 0 0]) ?_ 1 _ rfl; (with_reducible repeat ((refine blk_drew ?_))); refine blk_put (cs := #[.string (⟨#[]⟩ : ByteArray), .string (⟨#[]⟩ : ByteArray), .string (⟨#[]⟩ : ByteArray), .slice none 0 0]) ?_ 0 _ rfl; (with_reducible repeat ((refine blk_drew ?_))); exact BK113.out) hb); have n5_ := Aside0.mk (below_step (by repeat ((with_reducible first | exact HB.out | refine below_set ?_ GE113.out))) hb); clear HO_3; clear BK110; clear BK111; clear BK113; clear HB; have HO_3 := n0_; have HO119 := n1_; have BK110 := n2_; have BK111 := n3_; have BK113 := n4_; have HB := n5_; clear n0_ n1_ n2_ n3_ n4_ n5_; (try clear hb); (try clear ho0); obtain ⟨Ao17, co17, eo17⟩ := Kd.R_slice HO119.out; subst eo17) | ((with_reducible refine gate_builtin (b := .append) (xs := #[.tmp 13, .tmp 16]) rfl ?_); at_builtin; refine Kd.R_append k33 (w0 := w) w.heap.size rfl (.tmp 13) (.tmp 16) 31 33 (.agg #[(.string ⟨#[]⟩), (.string ⟨#[]⟩), (.string ⟨#[]⟩), (.slice none 0 0)]) 72 rfl Tryz.underlying31 info33 rfl (by decide) (by omega) u3 x3_1 (⟨t114, t115, t116, t117⟩ : S33) [.string t114, .string t115, .string t116, .slice Ao17 t117.length co17] (fun k_ => k_ ≠ gb110 ∧ k_ ≠ gb111 ∧ k_ ≠ gb113) (fun k_ => ((fun k_ => k_ ≠ gb110 ∧ k_ ≠ gb111 ∧ k_ ≠ gb113)) k_ ∧ some k_ ≠ (u3 : Value).ownBlock) rfl rfl ?aP (fun _ hk => hk) ?aF ?aO ?aB ?aS ?aL ?_; (case aP => exact k33_mkM _ _ _ (⟨t114, t115, t116, t117⟩ : S33) (Kd.R_mono (HO119.out) (fun k_ hk => ⟨⟨hk.1.1.2, ⟨hk.1.2, hk.2⟩⟩, hk.1.1.1.2⟩))); (case aB => exact (by repeat ((with_reducible (exact HB.out))))); (case aF => exact (fun k_ hk => ⟨Kd.freshB (g := gb110) (o := .cells #[.string a0_0, .string a0_1, .string a0_2, .slice (some ad112) l0_3.length c0_3] 33 (0, 0)) (by (with_reducible repeat ((refine blk_drew ?_))); exact BK110.out) k_ hk, Kd.freshB (g := gb111) (o := .cells #[.string (⟨#[]⟩ : ByteArray), .string (⟨#[]⟩ : ByteArray), .string (⟨#[]⟩ : ByteArray), .slice none 0 0] 33 (0, 0)) (by (with_reducible repeat ((refine blk_drew ?_))); exact BK111.out) k_ hk, Kd.freshB (g := gb113) (o := .cells #[.string ((rd_T33 l0_3 x9_1).f0), .string ((rd_T33 l0_3 x9_1).f1), .string ((rd_T33 l0_3 x9_1).f2), .slice A112_3 ((rd_T33 l0_3 x9_1).f3).length c112_3] 33 (0, 0)) (by (with_reducible repeat ((refine blk_drew ?_))); exact BK113.out) k_ hk⟩)); (case aO => exact (by (with_reducible repeat ((apply Kd.R_drew))); exact Kd.R_mono HO_3.out (fun _ hk => ⟨hk.1.1.1, ⟨hk.1.1.2, hk.1.2⟩⟩))); (case aS => exact (below_size (by repeat ((with_reducible (exact HB.out)))))); (case aL => have := LMc10.out; omega); intro v121 w16 ho hb hg hat; rw [← Ny120.out] at ho; have n0_ := Aside0.mk (blk_grown (g := gb110) (o := .cells #[.string a0_0, .string a0_1, .string a0_2, .slice (some ad112) l0_3.length c0_3] 33 (0, 0)) (by (with_reducible repeat ((refine blk_drew ?_))); exact BK110.out) hg (Kd.R_away HO_3.out (fun _ hk => hk.1.1.1))); have n1_ := Aside0.mk (blk_grown (g := gb111) (o := .cells #[.string (⟨#[]⟩ : ByteArray), .string (⟨#[]⟩ : ByteArray), .string (⟨#[]⟩ : ByteArray), .slice none 0 0] 33 (0, 0)) (by (with_reducible repeat ((refine blk_drew ?_))); exact BK111.out) hg (Kd.R_away HO_3.out (fun _ hk => hk.1.1.2))); have n2_ := Aside0.mk (blk_grown (g := gb113) (o := .cells #[.string ((rd_T33 l0_3 x9_1).f0), .string ((rd_T33 l0_3 x9_1).f1), .string ((rd_T33 l0_3 x9_1).f2), .slice A112_3 ((rd_T33 l0_3 x9_1).f3).length c112_3] 33 (0, 0)) (by (with_reducible repeat ((refine blk_drew ?_))); exact BK113.out) hg (Kd.R_away HO_3.out (fun _ hk => hk.1.2))); have n3_ := Aside0.mk (hb); have n4_ := Aside0.mk (ho); clear BK110; clear BK111; clear BK113; clear HB; clear HO_3; clear HO119; have BK110 := n0_; have BK111 := n1_; have BK113 := n2_; have HB := n3_; have HO122 := n4_; clear n0_ n1_ n2_ n3_ n4_; clear ho hb hg hat))
       go_roundg k1
       case measure => have := HK1.out; omega
       case rel => exact ⟨(y120), (wrap64 (x9_1 + 1)), (by (rfl)), H', ⟨by have := HK1.out; omega⟩, ⟨by (with_reducible repeat ((apply Kd.R_drew))); exact Kd.R_mono HO122.out (fun _ hk => ⟨hk.1, hk.2.1⟩)⟩, ⟨by (with_reducible repeat ((refine blk_drew ?_))); exact BK110.out⟩, ⟨by (with_reducible repeat ((refine blk_drew ?_))); exact BK111.out⟩, ⟨by repeat ((with_reducible (exact HB.out)))⟩⟩
      ·rw [if_neg c10] at H
       exact absurd H (by simp)
     ·rw [if_neg c8] at H
      exact absurd H (by simp)
    ·rw [if_neg c7] at H
     exact absurd H (by simp)
   ·rw [if_neg c6] at H
    have c6b0 : decide (x9_1 < (l0_3.length : Int)) = false := decide_eq_false c6
    clear c6
    simp only [Option.some.injEq, Prod.mk.injEq] at H
    obtain ⟨rfl, rfl, rfl, rfl⟩ := H
    obtain ⟨Ao18, co18, eo18⟩ := Kd.R_slice HO_3.out
    subst eo18
    have hnb19 := NB110_111.out
    have hnc19 := NB111_110.out
    have hcz20_0 : wr.cell? ⟨gb110, 0, none⟩ = some (.string a0_0) := (blk_cell BK110.out 0).trans rfl
    have hcz20_1 : wr.cell? ⟨gb110, 1, none⟩ = some (.string a0_1) := (blk_cell BK110.out 1).trans rfl
    have hcz20_2 : wr.cell? ⟨gb110, 2, none⟩ = some (.string a0_2) := (blk_cell BK110.out 2).trans rfl
    have hcz20_3 : wr.cell? ⟨gb110, 3, none⟩ = some (.slice A0_3 l0_3.length c0_3) := (blk_cell BK110.out 3).trans rfl
    have hfz20_0 := blk_frozen BK110.out 0
    have hfz20_1 := blk_frozen BK110.out 1
    have hfz20_2 := blk_frozen BK110.out 2
    have hfz20_3 := blk_frozen BK110.out 3
    have hcz21_0 : wr.cell? ⟨gb111, 0, none⟩ = some (.string (⟨#[]⟩ : ByteArray)) := (blk_cell BK111.out 0).trans rfl
    have hcz21_1 : wr.cell? ⟨gb111, 1, none⟩ = some (.string (⟨#[]⟩ : ByteArray)) := (blk_cell BK111.out 1).trans rfl
    have hcz21_2 : wr.cell? ⟨gb111, 2, none⟩ = some (.string (⟨#[]⟩ : ByteArray)) := (blk_cell BK111.out 2).trans rfl
    have hcz21_3 : wr.cell? ⟨gb111, 3, none⟩ = some (.slice none 0 0) := (blk_cell BK111.out 3).trans rfl
    have hfz21_0 := blk_frozen BK111.out 0
    have hfz21_1 := blk_frozen BK111.out 1
    have hfz21_2 := blk_frozen BK111.out 2
    have hfz21_3 := blk_frozen BK111.out 3
    go_wp2
    refine bodyPost_ret (results_cell_row rfl _ _ gb111 33 #[.string a0_0, .string a0_1, .string a0_2, .slice Ao18 x3_1.length co18] (0, 0) _ rfl (by (with_reducible repeat ((refine blk_drew ?_))); refine blk_put (cs := #[.string a0_0, .string a0_1, .string a0_2, .slice none 0 0]) ?_ 3 _ rfl; (with_reducible repeat ((refine blk_drew ?_))); refine blk_put (cs := #[.string a0_0, .string a0_1, .string (⟨#[]⟩ : ByteArray), .slice none 0 0]) ?_ 2 _ rfl; (with_reducible repeat ((refine blk_drew ?_))); refine blk_put (cs := #[.string a0_0, .string (⟨#[]⟩ : ByteArray), .string (⟨#[]⟩ : ByteArray), .slice none 0 0]) ?_ 1 _ rfl; (with_reducible repeat ((refine blk_drew ?_))); refine blk_put (cs := #[.string (⟨#[]⟩ : ByteArray), .string (⟨#[]⟩ : ByteArray), .string (⟨#[]⟩ : ByteArray), .slice none 0 0]) ?_ 0 _ rfl; (with_reducible repeat ((refine blk_drew ?_))); refine blk_far ?_ NB111_110.out _; (with_reducible repeat ((refine blk_drew ?_))); exact BK111.out) Tryz.underlying33 rfl (by kernel_rfl)) rfl ?_
    exact ⟨_, by (rfl), by (with_reducible repeat ((apply Kd.R_drew))); exact Kd.R_mono (Kd.R_far (p := ⟨gb111, 3, none⟩) (Kd.R_far (p := ⟨gb111, 2, none⟩) (Kd.R_far (p := ⟨gb111, 1, none⟩) (Kd.R_far (p := ⟨gb111, 0, none⟩) (Kd.R_far (p := ⟨gb110, 3, none⟩) (Kd.R_mono (Kd.R_mono HO_3.out (fun k_ hk => (⟨hk, hk.1⟩ : _ ∧ k_ ≠ gb110))) (fun k_ hk => (⟨hk, hk.1.2⟩ : _ ∧ k_ ≠ gb111))) (fun _ hk => hk.1.2) (.slice Ao18 x3_1.length co18)) (fun _ hk => hk.2) (.string a0_0)) (fun _ hk => hk.2) (.string a0_1)) (fun _ hk => hk.2) (.string a0_2)) (fun _ hk => hk.2) (.slice Ao18 x3_1.length co18)) (fun _ hk => trivial), by repeat ((with_reducible first | exact HB.out | refine below_set ?_ GE110.out | refine below_set ?_ GE111.out))⟩
end Go.Proofs.YtjcipbdocbomjaaGreatDoor.K
namespace Go.Proofs.YtjcipbdocbomjaaGreatDoor.K
theorem idxP_lt {α : Type} (P : α → Bool) (l : List α) : idxP P l = -1 ∨ ∃ i : Nat, i < l.length ∧ idxP P l = (i : Int) := by
 unfold idxP
 cases h : l.findIdx? P with
 | none => exact .inl rfl
 | some i =>
  right
  obtain ⟨hi, _⟩ := List.findIdx?_eq_some_iff_getElem.1 h
  exact ⟨i, hi, rfl⟩
theorem S33.eta (x : S33) : (⟨x.f0, x.f1, x.f2, x.f3⟩ : S33) = x := by cases x; rfl
theorem copied_l0 (l : List S33) (hl : l.length ≤ 1099511627776) (a b c : ByteArray) (q : List S33) (IH : ∀ y ∈ l, Ev (fun k => rule_copied.f k y.f0 y.f1 y.f2 y.f3) (y.f0, y.f1, y.f2, y.f3)) (m : Nat) :
  ∀ (i : Nat) (acc : List S33), i + m = l.length → acc.length = i → Ev (fun k => rule_copied.l0 k acc l (l.length : Int) (i : Int) a b c q) (a, b, c, acc ++ l.drop i) := by
 induction m with
 | zero =>
  intro i acc h hacc
  have hd : l.drop i = [] := List.drop_eq_nil_of_le (by omega)
  rw [hd, List.append_nil]
  exact Ev.step (f := fun _ => some (a, b, c, acc)) (fun k => by simp only [rule_copied.l0]; rw [if_neg (by omega)]) (Ev.now _)
 | succ m ih =>
  intro i acc h hacc
  have hi : i < l.length := by omega
  rw [List.drop_eq_getElem_cons hi]
  refine Ev.step (f := fun k => (rule_copied.f k l[i].f0 l[i].f1 l[i].f2 l[i].f3).bind fun bt114 => if acc.length < 1954687338268 then rule_copied.l0 k (acc ++ [(⟨bt114.1, bt114.2.1, bt114.2.2.1, bt114.2.2.2⟩ : S33)]) l (l.length : Int) ((i + 1 : Nat) : Int) a b c q else none) (fun k => ?_) ?_
  ·simp only [rule_copied.l0]
   rw [if_pos (by omega), if_pos (by omega), if_pos (by omega), show rd_T33 l (i : Int) = l[i] from rd_some z33 l i hi, wrap_succ hi hl]
  ·refine (IH _ (List.getElem_mem hi)).bind ?_
   refine Ev.congr (fun k => if_pos (by omega)) ?_
   have := ih (i + 1) (acc ++ [l[i]]) (by omega) (by simp [hacc])
   rw [show acc ++ l[i] :: l.drop (i + 1) = (acc ++ [l[i]]) ++ l.drop (i + 1) by simp]
   simp only [S33.eta]
   exact this
theorem copied_ev (n : Nat) : ∀ x : S33, SizeOf.sizeOf x < n → smallE x = true → Ev (fun k => rule_copied.f k x.f0 x.f1 x.f2 x.f3) (x.f0, x.f1, x.f2, x.f3) := by
 induction n with
 | zero => intro x h; omega
 | succ n ih =>
  intro x h hs
  have := copied_l0 x.f3 (smallE_len hs) x.f0 x.f1 x.f2 x.f3 (fun y hy => ih y (by have := S33.lt_of_mem hy; omega) (smallE_mem hs hy)) x.f3.length 0 [] (by omega) rfl
  exact Ev.step (f := fun k => rule_copied.l0 k [] x.f3 (x.f3.length : Int) ((0 : Nat) : Int) x.f0 x.f1 x.f2 x.f3) (fun k => by simp only [rule_copied.f]; rfl) (by simpa using this)
theorem copied_any (x : S33) (A1 : Option Addr) (c1 : Nat) (w : World) (hl : x.f3.length ≤ c1) (hC : k33.C w A1 x.f3.length x.f3) (hs : smallE x = true) :
  Calls Tryz.prog 38 #[.agg #[.string x.f0, .string x.f1, .string x.f2, .slice A1 x.f3.length c1]] w fun e w' => ∃ v3_ : Value, e = .returned (.agg #[.string x.f0, .string x.f1, .string x.f2, v3_]) ∧ Kd.R k33 33 w' w.heap.size (fun _ => True) v3_ x.f3 ∧ Below w.heap.size w w' := by
 obtain ⟨k, hk⟩ := (copied_ev (SizeOf.sizeOf x + 1) x (by omega) hs).rounds
 exact rule_copied.calls k x.f0 x.f1 x.f2 A1 c1 x.f3 _ _ _ _ w hC hl hk
abbrev FindR := ByteArray × ByteArray × ByteArray × List S33 × Bool
def findNo : FindR := (⟨#[]⟩, ⟨#[]⟩, ⟨#[]⟩, [], false)
def findP (l : List S30) (a b : ByteArray) : FindR :=
 if idxP (kindP a) l < 0 then findNo
 else if idxP (hasP b) (rd_T30 l (idxP (kindP a) l)).f1 < 0 then findNo
 else
  let e := (rd_T35 (rd_T30 l (idxP (kindP a) l)).f1 (idxP (hasP b) (rd_T30 l (idxP (kindP a) l)).f1)).f1
  (e.f0, e.f1, e.f2, e.f3, true)
def rule_Find.f (l0 : List S30) (a1 a2 : ByteArray) : Option FindR := if smallL l0 = true then some (findP l0 a1 a2) else none
theorem cell_keeps {w W : World} {a : Addr} {v : Value} (h : w.cell? a = some v) (hb : Below w.heap.size w W) : W.cell? a = some v := (hb.cell (World.block_lt_of_cell? w _ h)).trans h
def four (w : World) (g : Nat) (a b c v : Value) : World := (((w.setCell ⟨g, 0, none⟩ a).setCell ⟨g, 1, none⟩ b).setCell ⟨g, 2, none⟩ c).setCell ⟨g, 3, none⟩ v
theorem four_blk {w : World} {g : Nat} {x0 x1 x2 x3 : Value} (a b c v : Value) (h : w.heap[g]? = some (.cells #[x0, x1, x2, x3] 33 (0, 0))) : (four w g a b c v).heap[g]? = some (.cells #[a, b, c, v] 33 (0, 0)) :=
 blk_put (blk_put (blk_put (blk_put h 0 a rfl) 1 b rfl) 2 c rfl) 3 v rfl
theorem four_below {w w1 : World} {g B : Nat} (a b c v : Value) (h : Below B w w1) (hB : B ≤ g) : Below B w (four w1 g a b c v) :=
 (((h.setCell (p := ⟨g, 0, none⟩) hB _).setCell (p := ⟨g, 1, none⟩) hB _).setCell (p := ⟨g, 2, none⟩) hB _).setCell (p := ⟨g, 3, none⟩) hB _
theorem four_keep (w : World) (g : Nat) (a b c v : Value) : KeepBut w (four w g a b c v) g none :=
 ⟨by simp [four, World.setCell], fun i _ hg _ => by
  unfold four
  rw [Below.heap_setCell _ _ _ i hg, Below.heap_setCell _ _ _ i hg, Below.heap_setCell _ _ _ i hg, Below.heap_setCell _ _ _ i hg]⟩
theorem four_R {w : World} {B B' g : Nat} {v3 : Value} {xs : List S33} (a b c v : Value) (h : Kd.R k33 33 w B (fun _ => True) v3 xs) (hg : g < B) (hB : B' ≤ B) : Kd.R k33 33 (four w g a b c v) B' (fun _ => True) v3 xs := by
 refine Kd.R_lower (Kd.R_mono (Kd.R_keep (Kd.R_bound h) (four_keep w g a b c v) (fun k hk => ?_)) (fun _ _ => trivial)) hB
 have := hk.2.1; omega
set_option maxHeartbeats 4000000 in
set_option maxRecDepth 100000 in
theorem rule_Find.calls (A0 : Option Addr) (c0 : Nat) (l0 : List S30) (a1 a2 : ByteArray) (r1 r2 r3 : ByteArray) (r4 : List S33) (r5 : Bool) (w : World) (hr0 : Kd.C k30 w A0 l0.length l0) (hc0 : l0.length ≤ c0) (h : rule_Find.f l0 a1 a2 = some (r1, r2, r3, r4, r5)) :
  Calls Tryz.prog 17 #[.slice A0 l0.length c0, .string a1, .string a2] w fun e w' => ∃ v3_ : Value, e = .returned (.tuple #[.agg #[.string r1, .string r2, .string r3, v3_], .bool r5]) ∧ Kd.R k33 33 w' w.heap.size (fun _ => True) v3_ r4 ∧ Below w.heap.size w w' := by
 unfold rule_Find.f at h
 by_cases hs : smallL l0 = true
 ·rw [if_pos hs] at h
  replace h := Option.some.inj h
  have hm := smallL_len hs
  have k1 : ∀ (W : World) (b : Nat), Below w.heap.size w W → W.heap[b]? = some (.cells #[.string a1] 9 (0, 0)) → Calls Tryz.prog 35 #[.slice A0 l0.length c0, .func (.func 36) #[] #[.pointer (some ⟨b, 0, none⟩)]] W fun e w' => e = .returned (.int .i64 (idxP (kindP a1) l0)) ∧ (Below w.heap.size w w' ∧ Below W.heap.size W w') := by
   intro W b hW hb
   refine (find_kind A0 c0 l0 a1 b W (Kd.C_below hr0 hW) hm hb).mono ?_
   rintro e w3 ⟨rfl, h3⟩
   exact ⟨rfl, hW.trans (h3.mono hW.size), h3⟩
  rcases idxP_lt (kindP a1) l0 with hi | ⟨i, hlt, hi⟩
  ·have hf : findP l0 a1 a2 = findNo := by unfold findP; rw [hi]; rfl
   rw [hf] at h
   injection h with e1 h; injection h with e2 h; injection h with e3 h; injection h with e4 e5
   subst e1 e2 e3 e4 e5
   have hi' : decide (idxP (kindP a1) l0 < 0) = true := by rw [hi]; rfl
   clear hr0 hc0 hs hm hi hf
   go_enter Tryz.func17, Tryz.ntmps17
   go_wp2_with ((go_at_call 35; refine (k1 _ _ (below_two w _ _) (blk_first _ _ _)).mono ?_; rintro e w1 ⟨rfl, hb1, hb2⟩; have hf := blk_below (blk_second w _ _) hb2; have hc0 : w1.cell? ⟨w.heap.size + 1, 0, none⟩ = some (.string ⟨#[]⟩) := blk_cell hf 0; have hc1 : w1.cell? ⟨w.heap.size + 1, 1, none⟩ = some (.string ⟨#[]⟩) := blk_cell hf 1; have hc2 : w1.cell? ⟨w.heap.size + 1, 2, none⟩ = some (.string ⟨#[]⟩) := blk_cell hf 2; have hc3 : w1.cell? ⟨w.heap.size + 1, 3, none⟩ = some (.slice none 0 0) := blk_cell hf 3; have hz0 := Lib.frozen_of_heap hf 0; have hz1 := Lib.frozen_of_heap hf 1; have hz2 := Lib.frozen_of_heap hf 2; have hz3 := Lib.frozen_of_heap hf 3))
   refine bodyPost_ret (results_ct rfl _ _ (w.heap.size + 1) 33 #[.string ⟨#[]⟩, .string ⟨#[]⟩, .string ⟨#[]⟩, .slice none 0 0] (0, 0) _ rfl (four_blk _ _ _ _ hf) Tryz.underlying33 rfl (by kernel_rfl)) rfl ?_
   exact ⟨_, rfl, Kd.R_nil _ _ _ _ _, four_below _ _ _ _ hb1 (by omega)⟩
  ·have hi' : decide (idxP (kindP a1) l0 < 0) = false := by rw [hi]; exact decide_eq_false (by omega)
   have hiK : (i : Int) < (l0.length : Int) := by omega
   have hi0 : (0 : Int) ≤ (i : Int) := by omega
   obtain ⟨x, hx⟩ : ∃ x, l0[i] = x := ⟨_, rfl⟩
   have hel : rd_T30 l0 (i : Int) = x := (rd_some z30 l0 i hlt).trans hx
   have hmem : x ∈ l0 := hx ▸ List.getElem_mem hlt
   have hmx := smallL_rules hs hmem
   obtain ⟨ad, A1, c1, rfl, hx0, hx1, hl1, hg1⟩ := at_T30 hr0 (i : Int) hi0 hiK
   rw [hel] at hx0 hx1 hl1 hg1
   rw [Int.toNat_natCast] at hx0 hx1
   have kh : ∀ (W : World), Below w.heap.size w W → Calls Tryz.prog 37 #[.agg #[.string x.f0, .slice A1 x.f1.length c1], .string a2] W fun e w' => e = .returned (.int .i64 (idxP (hasP a2) x.f1)) ∧ (Below w.heap.size w w' ∧ Below W.heap.size W w') := by
    intro W hW
    refine (has_any x.f0 a2 A1 c1 x.f1 W (Kd.C_below hg1 hW) hmx).mono ?_
    rintro e w3 ⟨rfl, h3⟩
    exact ⟨rfl, hW.trans (h3.mono hW.size), h3⟩
   rcases idxP_lt (hasP a2) x.f1 with hj | ⟨j, hjt, hj⟩
   ·have hf : findP l0 a1 a2 = findNo := by unfold findP; rw [hi, hel, hj, if_neg (by omega)]; rfl
    rw [hf] at h
    injection h with e1 h; injection h with e2 h; injection h with e3 h; injection h with e4 e5
    subst e1 e2 e3 e4 e5
    have hj' : decide (idxP (hasP a2) x.f1 < 0) = true := by rw [hj]; rfl
    rw [hi] at k1 hi'
    clear hr0 hc0 hs hm hi hf hel hx hj hg1 hmem
    go_enter Tryz.func17, Tryz.ntmps17
    go_wp2_with (first | (go_at_call 35; refine (k1 _ _ (below_two w _ _) (blk_first _ _ _)).mono ?_; rintro e w1 ⟨rfl, hb1, hb2⟩; have hx0' := cell_keeps hx0 hb1; have hx1' := cell_keeps hx1 hb1; have hfa := blk_below (blk_second w _ _) hb2) | (go_at_call 37; refine (kh _ hb1).mono ?_; rintro e w2 ⟨rfl, hb3, hb4⟩; have hf := blk_below hfa hb4; have hc0 : w2.cell? ⟨w.heap.size + 1, 0, none⟩ = some (.string ⟨#[]⟩) := blk_cell hf 0; have hc1 : w2.cell? ⟨w.heap.size + 1, 1, none⟩ = some (.string ⟨#[]⟩) := blk_cell hf 1; have hc2 : w2.cell? ⟨w.heap.size + 1, 2, none⟩ = some (.string ⟨#[]⟩) := blk_cell hf 2; have hc3 : w2.cell? ⟨w.heap.size + 1, 3, none⟩ = some (.slice none 0 0) := blk_cell hf 3; have hz0 := Lib.frozen_of_heap hf 0; have hz1 := Lib.frozen_of_heap hf 1; have hz2 := Lib.frozen_of_heap hf 2; have hz3 := Lib.frozen_of_heap hf 3))
    refine bodyPost_ret (results_ct rfl _ _ (w.heap.size + 1) 33 #[.string ⟨#[]⟩, .string ⟨#[]⟩, .string ⟨#[]⟩, .slice none 0 0] (0, 0) _ rfl (four_blk _ _ _ _ hf) Tryz.underlying33 rfl (by kernel_rfl)) rfl ?_
    exact ⟨_, rfl, Kd.R_nil _ _ _ _ _, four_below _ _ _ _ hb3 (by omega)⟩
   ·have hj' : decide (idxP (hasP a2) x.f1 < 0) = false := by rw [hj]; exact decide_eq_false (by omega)
    have hjK : (j : Int) < (x.f1.length : Int) := by omega
    have hj0 : (0 : Int) ≤ (j : Int) := by omega
    obtain ⟨r, hr⟩ : ∃ r, x.f1[j] = r := ⟨_, rfl⟩
    have hel2 : rd_T35 x.f1 (j : Int) = r := (rd_some z35 x.f1 j hjt).trans hr
    have hmr : r ∈ x.f1 := hr ▸ List.getElem_mem hjt
    have hsr := smallL_expr hs hmem hmr
    obtain ⟨ad2, A2, c2, rfl, hy0, hy1, hy2, hy3, hy4, hl2, hg2⟩ := at_T35 hg1 (j : Int) hj0 hjK
    rw [hel2] at hy0 hy1 hy2 hy3 hy4 hl2 hg2
    rw [Int.toNat_natCast] at hy0 hy1 hy2 hy3 hy4
    have hf : findP l0 a1 a2 = (r.f1.f0, r.f1.f1, r.f1.f2, r.f1.f3, true) := by unfold findP; rw [hi, hel, hj, hel2, if_neg (by omega), if_neg (by omega)]
    rw [hf] at h
    injection h with e1 h; injection h with e2 h; injection h with e3 h; injection h with e4 e5
    subst e1 e2 e3 e4 e5
    have kc : ∀ (W : World), Below w.heap.size w W → Calls Tryz.prog 38 #[.agg #[.string r.f1.f0, .string r.f1.f1, .string r.f1.f2, .slice A2 r.f1.f3.length c2]] W fun e w' => ∃ v3_ : Value, e = .returned (.agg #[.string r.f1.f0, .string r.f1.f1, .string r.f1.f2, v3_]) ∧ Kd.R k33 33 w' W.heap.size (fun _ => True) v3_ r.f1.f3 ∧ (Below w.heap.size w w' ∧ Below W.heap.size W w') := by
     intro W hW
     refine (copied_any r.f1 A2 c2 W hl2 (Kd.C_below hg2 hW) hsr).mono ?_
     rintro e w3 ⟨v, rfl, hR, h3⟩
     exact ⟨v, rfl, hR, hW.trans (h3.mono hW.size), h3⟩
    rw [hi] at k1 hi'
    rw [hj] at kh hj'
    clear hr0 hc0 hs hm hi hf hel hx hj hg1 hmem hel2 hr hmr hg2
    go_enter Tryz.func17, Tryz.ntmps17
    go_wp2_with (first | (go_at_call 35; refine (k1 _ _ (below_two w _ _) (blk_first _ _ _)).mono ?_; rintro e w1 ⟨rfl, hb1, hb2⟩; have hx0' := cell_keeps hx0 hb1; have hx1' := cell_keeps hx1 hb1; have hfa := blk_below (blk_second w _ _) hb2) | (go_at_call 37; refine (kh _ hb1).mono ?_; rintro e w2 ⟨rfl, hb3, hb4⟩; have hfb := blk_below hfa hb4; have hx1'' := cell_keeps hx1 hb3; have hy1' := cell_keeps hy1 hb3; have hy2' := cell_keeps hy2 hb3; have hy3' := cell_keeps hy3 hb3; have hy4' := cell_keeps hy4 hb3) | (go_at_call 38; refine (kc _ hb3).mono ?_; rintro e w4 ⟨v3, rfl, hR, hb5, hb6⟩; obtain ⟨A3, c3, rfl⟩ := Kd.R_slice hR; have hf := blk_below hfb hb6; have hlt2 := blk_lt hfb; have hc0 : w4.cell? ⟨w.heap.size + 1, 0, none⟩ = some (.string ⟨#[]⟩) := blk_cell hf 0; have hc1 : w4.cell? ⟨w.heap.size + 1, 1, none⟩ = some (.string ⟨#[]⟩) := blk_cell hf 1; have hc2 : w4.cell? ⟨w.heap.size + 1, 2, none⟩ = some (.string ⟨#[]⟩) := blk_cell hf 2; have hc3 : w4.cell? ⟨w.heap.size + 1, 3, none⟩ = some (.slice none 0 0) := blk_cell hf 3; have hz0 := Lib.frozen_of_heap hf 0; have hz1 := Lib.frozen_of_heap hf 1; have hz2 := Lib.frozen_of_heap hf 2; have hz3 := Lib.frozen_of_heap hf 3))
    refine bodyPost_ret (results_ct rfl _ _ (w.heap.size + 1) 33 #[.string r.f1.f0, .string r.f1.f1, .string r.f1.f2, .slice A3 r.f1.f3.length c3] (0, 0) _ rfl (four_blk _ _ _ _ hf) Tryz.underlying33 rfl (by kernel_rfl)) rfl ?_
    exact ⟨_, rfl, four_R _ _ _ _ hR hlt2 hb3.size, four_below _ _ _ _ hb5 (by omega)⟩
 ·rw [if_neg hs] at h; exact absurd h (by simp)
end Go.Proofs.YtjcipbdocbomjaaGreatDoor.K
