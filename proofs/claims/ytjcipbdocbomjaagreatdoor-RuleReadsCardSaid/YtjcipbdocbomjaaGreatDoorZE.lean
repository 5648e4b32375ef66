/- Texts of this claim's proof, put together: V8 V9; conditions: as each states. -/
import Derived.Test.YtjcipbdocbomjaaGreatDoorZ1
set_option linter.unusedVariables false
set_option linter.unusedSimpArgs false
namespace Go.Proofs.YtjcipbdocbomjaaGreatDoor.K
open Go.RowKit Go.Proofs.YtjcipbdocbomjaaGreatDoorW.PrintWords Go.Proofs.YtjcipbdocbomjaaGreatDoorW.PrintLast Go.Proofs.YtjcipbdocbomjaaGreatDoorW.PrintMore
attribute [local go_sem] max2_int min2_int max_two min_two max_three min_three max_four min_four   -- for this text's walks alone
set_option linter.unusedVariables false
set_option linter.unusedSimpArgs false
/-! ### lunetteref12_text: function 34 -/
mutual
def lunetteref12_text.l0 : Nat → ByteArray → Int → ByteArray → ByteArray → ByteArray → List (S33) → Option (ByteArray)
 | 0, _, _, _, _, _, _ => none
 | k + 1, x3, x4, x141000, x141001, x141002, x141003 => if x4 < (x141003.length : Int) then (if 0 ≤ x4 then ((lunetteref12_text.f k ((rd_T33 x141003 x4).f0) ((rd_T33 x141003 x4).f1) ((rd_T33 x141003 x4).f2) ((rd_T33 x141003 x4).f3)).bind fun t142 => (if 1 + t142.size ≤ 9223372036854775807 then (if x3.size + ((⟨#[32]⟩ : ByteArray) ++ t142).size ≤ 9223372036854775807 then (lunetteref12_text.l0 k (x3 ++ ((⟨#[32]⟩ : ByteArray) ++ t142)) (wrap64 (x4 + 1)) x141000 x141001 x141002 x141003) else (none)) else (none))) else (none)) else (if x3.size + 1 ≤ 9223372036854775807 then (some (x3 ++ (⟨#[41]⟩ : ByteArray))) else (none))
def lunetteref12_text.f : Nat → ByteArray → ByteArray → ByteArray → List (S33) → Option (ByteArray)
 | 0, _, _, _, _ => none
 | k + 1, a0_0, a0_1, a0_2, l0_3 => if a0_0.toList = ([116, 104, 105, 115] : List UInt8) then (some (⟨#[116, 104, 105, 115]⟩ : ByteArray)) else (if a0_0.toList = ([114, 101, 108] : List UInt8) then (some a0_1) else (if a0_0.toList = ([102, 114, 111, 109] : List UInt8) then (if 6 + a0_2.size ≤ 9223372036854775807 then (if ((⟨#[40, 102, 114, 111, 109, 32]⟩ : ByteArray) ++ a0_2).size + 1 ≤ 9223372036854775807 then (if (((⟨#[40, 102, 114, 111, 109, 32]⟩ : ByteArray) ++ a0_2) ++ (⟨#[32]⟩ : ByteArray)).size + a0_1.size ≤ 9223372036854775807 then (if ((((⟨#[40, 102, 114, 111, 109, 32]⟩ : ByteArray) ++ a0_2) ++ (⟨#[32]⟩ : ByteArray)) ++ a0_1).size + 1 ≤ 9223372036854775807 then (some (((((⟨#[40, 102, 114, 111, 109, 32]⟩ : ByteArray) ++ a0_2) ++ (⟨#[32]⟩ : ByteArray)) ++ a0_1) ++ (⟨#[41]⟩ : ByteArray))) else (none)) else (none)) else (none)) else (none)) else (if 1 + a0_0.size ≤ 9223372036854775807 then (lunetteref12_text.l0 k ((⟨#[40]⟩ : ByteArray) ++ a0_0) 0 a0_0 a0_1 a0_2 l0_3) else (none))))
end
set_option maxHeartbeats 8000000 in
set_option maxRecDepth 100000 in
theorem lunetteref12_text.calls (k : Nat) : ∀ (a0_0 : ByteArray) (a0_1 : ByteArray) (a0_2 : ByteArray) (A0_3 : Option Addr) (c0_3 : Nat) (l0_3 : List (S33)) (r : ByteArray) (w : World) (hr0_3 : Kd.C k33 w A0_3 l0_3.length l0_3) (hc0_3 : l0_3.length ≤ c0_3) (h : lunetteref12_text.f k a0_0 a0_1 a0_2 l0_3 = some r),
  Calls Tryz.prog 34 #[.agg #[.string a0_0, .string a0_1, .string a0_2, .slice A0_3 l0_3.length c0_3]] w fun e w' => e = .returned (.string r) ∧ Below w.heap.size w w' := by
 induction k using Nat.strongRecOn with
 | _ k ih =>
 intro a0_0 a0_1 a0_2 A0_3 c0_3 l0_3 r w hr0_3 hc0_3 h
 cases k with
 | zero => exact absurd h (by simp [lunetteref12_text.f])
 | succ k =>
 simp only [lunetteref12_text.f] at h
 have hu33 := Tryz.underlying33
 have HR0_3 := Aside0.mk hr0_3
 have HC0_3 := Aside0.mk hc0_3
 clear hr0_3 hc0_3
 have HB := Aside0.mk (Below.refl w.heap.size w)
 have H : (if a0_0.toList = ([116, 104, 105, 115] : List UInt8) then (some (⟨#[116, 104, 105, 115]⟩ : ByteArray)) else (if a0_0.toList = ([114, 101, 108] : List UInt8) then (some a0_1) else (if a0_0.toList = ([102, 114, 111, 109] : List UInt8) then (if 6 + a0_2.size ≤ 9223372036854775807 then (if ((⟨#[40, 102, 114, 111, 109, 32]⟩ : ByteArray) ++ a0_2).size + 1 ≤ 9223372036854775807 then (if (((⟨#[40, 102, 114, 111, 109, 32]⟩ : ByteArray) ++ a0_2) ++ (⟨#[32]⟩ : ByteArray)).size + a0_1.size ≤ 9223372036854775807 then (if ((((⟨#[40, 102, 114, 111, 109, 32]⟩ : ByteArray) ++ a0_2) ++ (⟨#[32]⟩ : ByteArray)) ++ a0_1).size + 1 ≤ 9223372036854775807 then (some (((((⟨#[40, 102, 114, 111, 109, 32]⟩ : ByteArray) ++ a0_2) ++ (⟨#[32]⟩ : ByteArray)) ++ a0_1) ++ (⟨#[41]⟩ : ByteArray))) else (none)) else (none)) else (none)) else (none)) else (if 1 + a0_0.size ≤ 9223372036854775807 then (lunetteref12_text.l0 k ((⟨#[40]⟩ : ByteArray) ++ a0_0) 0 a0_0 a0_1 a0_2 l0_3) else (none))))) = some r := h
 clear h
 by_cases c2 : a0_0.toList = ([116, 104, 105, 115] : List UInt8)
 ·rw [if_pos c2] at H
  have c2b0 : (a0_0.toList == ([116, 104, 105, 115] : List UInt8)) = true := beq_iff_eq.mpr c2
  have c2b1 : (a0_0.toList != ([116, 104, 105, 115] : List UInt8)) = false := bne_eq_false_iff_eq.mpr c2
  clear c2
  obtain rfl := Option.some.inj H
  go_enter Tryz.func34, Tryz.ntmps34
  go_wp2_with (((with_reducible refine gate_dst (N := 1) rfl ?_); refine box_event ?hg (N := 1) ?hd (cs := #[.string a0_0, .string a0_1, .string a0_2, .slice A0_3 l0_3.length c0_3]) (t := 33) ?hr ?_; (case hd => rfl); (case hg => rfl); (case hr => (go_simp; done)); intro gb140 hg w3 hbox hb; have n0_ := Aside0.mk (below_step (by repeat ((with_reducible (exact HB.out)))) hb); have n1_ := Aside0.mk (hbox); have n2_ := Aside0.mk ((by rw [hg]; exact (below_size (by repeat ((with_reducible (exact HB.out))))) : w.heap.size ≤ gb140)); have n3_ := Aside0.mk ((by rw [hg]; exact (below_size (by repeat ((with_reducible (exact HB.out))))) : w.heap.size ≤ gb140)); clear HB; have HB := n0_; have BK140 := n1_; have GW140 := n2_; have GE140 := n3_; clear n0_ n1_ n2_ n3_; clear hb hbox hg; have hcz4_0 : w3.cell? ⟨gb140, 0, none⟩ = some (.string a0_0) := (blk_cell BK140.out 0).trans rfl; have hcz4_1 : w3.cell? ⟨gb140, 1, none⟩ = some (.string a0_1) := (blk_cell BK140.out 1).trans rfl; have hcz4_2 : w3.cell? ⟨gb140, 2, none⟩ = some (.string a0_2) := (blk_cell BK140.out 2).trans rfl; have hcz4_3 : w3.cell? ⟨gb140, 3, none⟩ = some (.slice A0_3 l0_3.length c0_3) := (blk_cell BK140.out 3).trans rfl; have hfz4_0 := blk_frozen BK140.out 0; have hfz4_1 := blk_frozen BK140.out 1; have hfz4_2 := blk_frozen BK140.out 2; have hfz4_3 := blk_frozen BK140.out 3))
  go_ret
  exact ⟨by (rfl), by repeat ((with_reducible (exact HB.out)))⟩
 ·rw [if_neg c2] at H
  have c2b0 : (a0_0.toList == ([116, 104, 105, 115] : List UInt8)) = false := beq_eq_false_iff_ne.mpr c2
  have c2b1 : (a0_0.toList != ([116, 104, 105, 115] : List UInt8)) = true := bne_iff_ne.mpr c2
  by_cases c5 : a0_0.toList = ([114, 101, 108] : List UInt8)
  ·rw [if_pos c5] at H
   have c5b0 : (a0_0.toList == ([114, 101, 108] : List UInt8)) = true := beq_iff_eq.mpr c5
   have c5b1 : (a0_0.toList != ([114, 101, 108] : List UInt8)) = false := bne_eq_false_iff_eq.mpr c5
   clear c5
   obtain rfl := Option.some.inj H
   go_enter Tryz.func34, Tryz.ntmps34
   go_wp2_with (((with_reducible refine gate_dst (N := 1) rfl ?_); refine box_event ?hg (N := 1) ?hd (cs := #[.string a0_0, .string a0_1, .string a0_2, .slice A0_3 l0_3.length c0_3]) (t := 33) ?hr ?_; (case hd => rfl); (case hg => rfl); (case hr => (go_simp; done)); intro gb140 hg w6 hbox hb; have n0_ := Aside0.mk (below_step (by repeat ((with_reducible (exact HB.out)))) hb); have n1_ := Aside0.mk (hbox); have n2_ := Aside0.mk ((by rw [hg]; exact (below_size (by repeat ((with_reducible (exact HB.out))))) : w.heap.size ≤ gb140)); have n3_ := Aside0.mk ((by rw [hg]; exact (below_size (by repeat ((with_reducible (exact HB.out))))) : w.heap.size ≤ gb140)); clear HB; have HB := n0_; have BK140 := n1_; have GW140 := n2_; have GE140 := n3_; clear n0_ n1_ n2_ n3_; clear hb hbox hg; have hcz7_0 : w6.cell? ⟨gb140, 0, none⟩ = some (.string a0_0) := (blk_cell BK140.out 0).trans rfl; have hcz7_1 : w6.cell? ⟨gb140, 1, none⟩ = some (.string a0_1) := (blk_cell BK140.out 1).trans rfl; have hcz7_2 : w6.cell? ⟨gb140, 2, none⟩ = some (.string a0_2) := (blk_cell BK140.out 2).trans rfl; have hcz7_3 : w6.cell? ⟨gb140, 3, none⟩ = some (.slice A0_3 l0_3.length c0_3) := (blk_cell BK140.out 3).trans rfl; have hfz7_0 := blk_frozen BK140.out 0; have hfz7_1 := blk_frozen BK140.out 1; have hfz7_2 := blk_frozen BK140.out 2; have hfz7_3 := blk_frozen BK140.out 3))
   go_ret
   exact ⟨by (rfl), by repeat ((with_reducible (exact HB.out)))⟩
  ·rw [if_neg c5] at H
   have c5b0 : (a0_0.toList == ([114, 101, 108] : List UInt8)) = false := beq_eq_false_iff_ne.mpr c5
   have c5b1 : (a0_0.toList != ([114, 101, 108] : List UInt8)) = true := bne_iff_ne.mpr c5
   by_cases c8 : a0_0.toList = ([102, 114, 111, 109] : List UInt8)
   ·rw [if_pos c8] at H
    have c8b0 : (a0_0.toList == ([102, 114, 111, 109] : List UInt8)) = true := beq_iff_eq.mpr c8
    have c8b1 : (a0_0.toList != ([102, 114, 111, 109] : List UInt8)) = false := bne_eq_false_iff_eq.mpr c8
    clear c8
    by_cases c9 : 6 + a0_2.size ≤ 9223372036854775807
    ·rw [if_pos c9] at H
     have c9b0 := eq_true c9
     have c9b1 : decide (6 + a0_2.size ≤ 9223372036854775807) = true := decide_eq_true c9
     try have c9b2 : (9223372036854775807 < 6 + a0_2.size) = False := eq_false (Nat.not_lt.2 c9)
     by_cases c10 : ((⟨#[40, 102, 114, 111, 109, 32]⟩ : ByteArray) ++ a0_2).size + 1 ≤ 9223372036854775807
     ·rw [if_pos c10] at H
      have c10b0 := eq_true c10
      have c10b1 : decide (((⟨#[40, 102, 114, 111, 109, 32]⟩ : ByteArray) ++ a0_2).size + 1 ≤ 9223372036854775807) = true := decide_eq_true c10
      try have c10b2 : (9223372036854775807 < ((⟨#[40, 102, 114, 111, 109, 32]⟩ : ByteArray) ++ a0_2).size + 1) = False := eq_false (Nat.not_lt.2 c10)
      try have c10n : 6 + a0_2.size + 1 ≤ 9223372036854775807 := by (have L0_ : (⟨#[40, 102, 114, 111, 109, 32]⟩ : ByteArray).size = 6 := rfl; have Q_ := c10; simp only [ByteArray.size_append, ByteArray.size_extract] at Q_; (omega))
      try have c10m : (9223372036854775807 < 6 + a0_2.size + 1) = False := eq_false (Nat.not_lt.2 c10n)
      by_cases c11 : (((⟨#[40, 102, 114, 111, 109, 32]⟩ : ByteArray) ++ a0_2) ++ (⟨#[32]⟩ : ByteArray)).size + a0_1.size ≤ 9223372036854775807
      ·rw [if_pos c11] at H
       have c11b0 := eq_true c11
       have c11b1 : decide ((((⟨#[40, 102, 114, 111, 109, 32]⟩ : ByteArray) ++ a0_2) ++ (⟨#[32]⟩ : ByteArray)).size + a0_1.size ≤ 9223372036854775807) = true := decide_eq_true c11
       try have c11b2 : (9223372036854775807 < (((⟨#[40, 102, 114, 111, 109, 32]⟩ : ByteArray) ++ a0_2) ++ (⟨#[32]⟩ : ByteArray)).size + a0_1.size) = False := eq_false (Nat.not_lt.2 c11)
       try have c11n : 6 + a0_2.size + 1 + a0_1.size ≤ 9223372036854775807 := by (have L0_ : (⟨#[32]⟩ : ByteArray).size = 1 := rfl; have L1_ : (⟨#[40, 102, 114, 111, 109, 32]⟩ : ByteArray).size = 6 := rfl; have Q_ := c11; simp only [ByteArray.size_append, ByteArray.size_extract] at Q_; (omega))
       try have c11m : (9223372036854775807 < 6 + a0_2.size + 1 + a0_1.size) = False := eq_false (Nat.not_lt.2 c11n)
       by_cases c12 : ((((⟨#[40, 102, 114, 111, 109, 32]⟩ : ByteArray) ++ a0_2) ++ (⟨#[32]⟩ : ByteArray)) ++ a0_1).size + 1 ≤ 9223372036854775807
       ·rw [if_pos c12] at H
        have c12b0 := eq_true c12
        have c12b1 : decide (((((⟨#[40, 102, 114, 111, 109, 32]⟩ : ByteArray) ++ a0_2) ++ (⟨#[32]⟩ : ByteArray)) ++ a0_1).size + 1 ≤ 9223372036854775807) = true := decide_eq_true c12
        try have c12b2 : (9223372036854775807 < ((((⟨#[40, 102, 114, 111, 109, 32]⟩ : ByteArray) ++ a0_2) ++ (⟨#[32]⟩ : ByteArray)) ++ a0_1).size + 1) = False := eq_false (Nat.not_lt.2 c12)
        try have c12n : 6 + a0_2.size + 1 + a0_1.size + 1 ≤ 9223372036854775807 := by (have L0_ : (⟨#[32]⟩ : ByteArray).size = 1 := rfl; have L1_ : (⟨#[40, 102, 114, 111, 109, 32]⟩ : ByteArray).size = 6 := rfl; have Q_ := c12; simp only [ByteArray.size_append, ByteArray.size_extract] at Q_; (omega))
        try have c12m : (9223372036854775807 < 6 + a0_2.size + 1 + a0_1.size + 1) = False := eq_false (Nat.not_lt.2 c12n)
        obtain rfl := Option.some.inj H
        go_enter Tryz.func34, Tryz.ntmps34
        go_wp2_with (((with_reducible refine gate_dst (N := 1) rfl ?_); refine box_event ?hg (N := 1) ?hd (cs := #[.string a0_0, .string a0_1, .string a0_2, .slice A0_3 l0_3.length c0_3]) (t := 33) ?hr ?_; (case hd => rfl); (case hg => rfl); (case hr => (go_simp; done)); intro gb140 hg w13 hbox hb; have n0_ := Aside0.mk (below_step (by repeat ((with_reducible (exact HB.out)))) hb); have n1_ := Aside0.mk (hbox); have n2_ := Aside0.mk ((by rw [hg]; exact (below_size (by repeat ((with_reducible (exact HB.out))))) : w.heap.size ≤ gb140)); have n3_ := Aside0.mk ((by rw [hg]; exact (below_size (by repeat ((with_reducible (exact HB.out))))) : w.heap.size ≤ gb140)); clear HB; have HB := n0_; have BK140 := n1_; have GW140 := n2_; have GE140 := n3_; clear n0_ n1_ n2_ n3_; clear hb hbox hg; have hcz14_0 : w13.cell? ⟨gb140, 0, none⟩ = some (.string a0_0) := (blk_cell BK140.out 0).trans rfl; have hcz14_1 : w13.cell? ⟨gb140, 1, none⟩ = some (.string a0_1) := (blk_cell BK140.out 1).trans rfl; have hcz14_2 : w13.cell? ⟨gb140, 2, none⟩ = some (.string a0_2) := (blk_cell BK140.out 2).trans rfl; have hcz14_3 : w13.cell? ⟨gb140, 3, none⟩ = some (.slice A0_3 l0_3.length c0_3) := (blk_cell BK140.out 3).trans rfl; have hfz14_0 := blk_frozen BK140.out 0; have hfz14_1 := blk_frozen BK140.out 1; have hfz14_2 := blk_frozen BK140.out 2; have hfz14_3 := blk_frozen BK140.out 3))
        go_ret
        exact ⟨by (rfl), by repeat ((with_reducible (exact HB.out)))⟩
       ·rw [if_neg c12] at H
        exact absurd H (by simp)
      ·rw [if_neg c11] at H
       exact absurd H (by simp)
     ·rw [if_neg c10] at H
      exact absurd H (by simp)
    ·rw [if_neg c9] at H
     exact absurd H (by simp)
   ·rw [if_neg c8] at H
    have c8b0 : (a0_0.toList == ([102, 114, 111, 109] : List UInt8)) = false := beq_eq_false_iff_ne.mpr c8
    have c8b1 : (a0_0.toList != ([102, 114, 111, 109] : List UInt8)) = true := bne_iff_ne.mpr c8
    by_cases c15 : 1 + a0_0.size ≤ 9223372036854775807
    ·rw [if_pos c15] at H
     have c15b0 := eq_true c15
     have c15b1 : decide (1 + a0_0.size ≤ 9223372036854775807) = true := decide_eq_true c15
     try have c15b2 : (9223372036854775807 < 1 + a0_0.size) = False := eq_false (Nat.not_lt.2 c15)
     have H' := Aside0.mk H
     clear H
     go_enter Tryz.func34, Tryz.ntmps34
     go_wp2_with (((with_reducible refine gate_dst (N := 1) rfl ?_); refine box_event ?hg (N := 1) ?hd (cs := #[.string a0_0, .string a0_1, .string a0_2, .slice A0_3 l0_3.length c0_3]) (t := 33) ?hr ?_; (case hd => rfl); (case hg => rfl); (case hr => (go_simp; done)); intro gb140 hg w16 hbox hb; have n0_ := Aside0.mk (below_step (by repeat ((with_reducible (exact HB.out)))) hb); have n1_ := Aside0.mk (hbox); have n2_ := Aside0.mk ((by rw [hg]; exact (below_size (by repeat ((with_reducible (exact HB.out))))) : w.heap.size ≤ gb140)); have n3_ := Aside0.mk ((by rw [hg]; exact (below_size (by repeat ((with_reducible (exact HB.out))))) : w.heap.size ≤ gb140)); clear HB; have HB := n0_; have BK140 := n1_; have GW140 := n2_; have GE140 := n3_; clear n0_ n1_ n2_ n3_; clear hb hbox hg; have hcz17_0 : w16.cell? ⟨gb140, 0, none⟩ = some (.string a0_0) := (blk_cell BK140.out 0).trans rfl; have hcz17_1 : w16.cell? ⟨gb140, 1, none⟩ = some (.string a0_1) := (blk_cell BK140.out 1).trans rfl; have hcz17_2 : w16.cell? ⟨gb140, 2, none⟩ = some (.string a0_2) := (blk_cell BK140.out 2).trans rfl; have hcz17_3 : w16.cell? ⟨gb140, 3, none⟩ = some (.slice A0_3 l0_3.length c0_3) := (blk_cell BK140.out 3).trans rfl; have hfz17_0 := blk_frozen BK140.out 0; have hfz17_1 := blk_frozen BK140.out 1; have hfz17_2 := blk_frozen BK140.out 2; have hfz17_3 := blk_frozen BK140.out 3))
     go_loopg [3, 4] k (fun kq v3 v4 w' => ∃ (x3_1 : ByteArray) (x4_1 : Int), v3 = .string x3_1 ∧ v4 = .int .i64 x4_1 ∧ Aside0 (lunetteref12_text.l0 kq x3_1 x4_1 a0_0 a0_1 a0_2 l0_3 = some r) ∧ Aside0 (kq ≤ k) ∧ Aside0 (w'.heap[gb140]? = some (.cells #[.string a0_0, .string a0_1, .string a0_2, (.slice A0_3 l0_3.length c0_3)] 33 (0, 0))) ∧ Aside0 (Below w.heap.size w w'))
     case atStart => exact ⟨((⟨#[40]⟩ : ByteArray) ++ a0_0), (0), (by (rfl)), (by (rfl)), H', ⟨Nat.le_refl _⟩, ⟨by (with_reducible repeat ((refine blk_drew ?_))); exact BK140.out⟩, ⟨by repeat ((with_reducible (exact HB.out)))⟩⟩
     case round =>
      clear H'
      try clear c2
      try clear c2b0
      try clear c2b1
      try clear c5
      try clear c5b0
      try clear c5b1
      try clear c8
      try clear c8b0
      try clear c8b1
      try clear c15
      try clear c15b0
      try clear c15b1
      try clear c15b2
      try clear hcz17_0
      try clear hcz17_1
      try clear hcz17_2
      try clear hcz17_3
      try clear hfz17_0
      try clear hfz17_1
      try clear hfz17_2
      try clear hfz17_3
      obtain ⟨x3_1, x4_1, rfl, rfl, HA, HK1, BK140, HB⟩ := hrel
      cases gk with
      | zero => exact absurd HA.out (by simp [lunetteref12_text.l0])
      | succ k1 =>
       have H := HA.out
       clear HA
       simp only [lunetteref12_text.l0] at H
       by_cases c18 : x4_1 < (l0_3.length : Int)
       ·rw [if_pos c18] at H
        have c18b0 : decide (x4_1 < (l0_3.length : Int)) = true := decide_eq_true c18
        clear c18
        by_cases c19 : 0 ≤ x4_1
        ·rw [if_pos c19] at H
         have c19b0 : decide (0 ≤ x4_1) = true := decide_eq_true c19
         clear c19
         replace H := Option.bind_eq_some_iff.mp H
         obtain ⟨t142, A200, H⟩ := H
         replace H : (if 1 + t142.size ≤ 9223372036854775807 then (if x3_1.size + ((⟨#[32]⟩ : ByteArray) ++ t142).size ≤ 9223372036854775807 then (lunetteref12_text.l0 k1 (x3_1 ++ ((⟨#[32]⟩ : ByteArray) ++ t142)) (wrap64 (x4_1 + 1)) a0_0 a0_1 a0_2 l0_3) else (none)) else (none)) = some r := H
         have A20 := Aside0.mk A200
         clear A200
         by_cases c21 : 1 + t142.size ≤ 9223372036854775807
         ·rw [if_pos c21] at H
          have c21b0 := eq_true c21
          have c21b1 : decide (1 + t142.size ≤ 9223372036854775807) = true := decide_eq_true c21
          try have c21b2 : (9223372036854775807 < 1 + t142.size) = False := eq_false (Nat.not_lt.2 c21)
          by_cases c22 : x3_1.size + ((⟨#[32]⟩ : ByteArray) ++ t142).size ≤ 9223372036854775807
          ·rw [if_pos c22] at H
           have c22b0 := eq_true c22
           have c22b1 : decide (x3_1.size + ((⟨#[32]⟩ : ByteArray) ++ t142).size ≤ 9223372036854775807) = true := decide_eq_true c22
           try have c22b2 : (9223372036854775807 < x3_1.size + ((⟨#[32]⟩ : ByteArray) ++ t142).size) = False := eq_false (Nat.not_lt.2 c22)
           try have c22n : x3_1.size + 1 + t142.size ≤ 9223372036854775807 := by (have L0_ : (⟨#[32]⟩ : ByteArray).size = 1 := rfl; have Q_ := c22; simp only [ByteArray.size_append, ByteArray.size_extract] at Q_; (omega))
           try have c22m : (9223372036854775807 < x3_1.size + 1 + t142.size) = False := eq_false (Nat.not_lt.2 c22n)
           have H' := Aside0.mk H
           clear H
           have hcz23_0 : wr.cell? ⟨gb140, 0, none⟩ = some (.string a0_0) := (blk_cell BK140.out 0).trans rfl
           have hcz23_1 : wr.cell? ⟨gb140, 1, none⟩ = some (.string a0_1) := (blk_cell BK140.out 1).trans rfl
           have hcz23_2 : wr.cell? ⟨gb140, 2, none⟩ = some (.string a0_2) := (blk_cell BK140.out 2).trans rfl
           have hcz23_3 : wr.cell? ⟨gb140, 3, none⟩ = some (.slice A0_3 l0_3.length c0_3) := (blk_cell BK140.out 3).trans rfl
           have hfz23_0 := blk_frozen BK140.out 0
           have hfz23_1 := blk_frozen BK140.out 1
           have hfz23_2 := blk_frozen BK140.out 2
           have hfz23_3 := blk_frozen BK140.out 3
           have p141 : 0 ≤ (x4_1 : Int) := of_decide_eq_true (by (with_reducible assumption))
           have q141 : x4_1 < (l0_3.length : Int) := of_decide_eq_true (by (with_reducible assumption))
           obtain ⟨ad141, A141_3, c141_3, e141, hx141_0, hx141_1, hx141_2, hx141_3, hl141_3, hi141_3⟩ := at_T33 HR0_3.out x4_1 p141 q141
           cases e141
           replace hx141_0 := (HB.out.cell (World.block_lt_of_cell? w _ hx141_0)).trans hx141_0
           replace hx141_1 := (HB.out.cell (World.block_lt_of_cell? w _ hx141_1)).trans hx141_1
           replace hx141_2 := (HB.out.cell (World.block_lt_of_cell? w _ hx141_2)).trans hx141_2
           replace hx141_3 := (HB.out.cell (World.block_lt_of_cell? w _ hx141_3)).trans hx141_3
           have HR141_3 := Aside0.mk hi141_3
           have HC141_3 := Aside0.mk hl141_3
           clear hi141_3 hl141_3
           replace p141 := eq_true p141
           replace q141 := eq_true q141
           go_wp2_with (((with_reducible refine gate_callee (f := 34) rfl ?_); refine goesL_ (some 39) rfl rfl Tryz.func34 (by kernel_rfl) rfl #[.agg #[.string ((rd_T33 l0_3 x4_1).f0), .string ((rd_T33 l0_3 x4_1).f1), .string ((rd_T33 l0_3 x4_1).f2), .slice A141_3 ((rd_T33 l0_3 x4_1).f3).length c141_3]] rfl (by (try simp only [List.map_toArray, List.map_cons, List.map_nil]); (rfl)) ?_; (with_reducible refine (ih k1 (by have := HK1.out; omega) ((rd_T33 l0_3 x4_1).f0) ((rd_T33 l0_3 x4_1).f1) ((rd_T33 l0_3 x4_1).f2) _ _ ((rd_T33 l0_3 x4_1).f3) t142 _ ?side1 ?side2 A20.out).mono ?_); (case side1 => repeat ((exact (Kd.C_below HR141_3.out HB.out)))); (case side2 => exact HC141_3.out); rintro e w24 ⟨rfl, hb⟩; refine ⟨_, rfl, ?_⟩; have n0_ := Aside0.mk (blk_below (g := gb140) (o := .cells #[.string a0_0, .string a0_1, .string a0_2, .slice (some ad141) l0_3.length c0_3] 33 (0, 0)) (by (with_reducible repeat ((refine blk_drew ?_))); exact BK140.out) hb); have n1_ := Aside0.mk (below_step (by repeat ((with_reducible (exact HB.out)))) hb); clear BK140; clear HB; have BK140 := n0_; have HB := n1_; clear n0_ n1_; (try clear hb)))
           go_roundg k1
           case measure => have := HK1.out; omega
           case rel => exact ⟨(x3_1 ++ ((⟨#[32]⟩ : ByteArray) ++ t142)), (wrap64 (x4_1 + 1)), (by (rfl)), (by (rfl)), H', ⟨by have := HK1.out; omega⟩, ⟨by (with_reducible repeat ((refine blk_drew ?_))); exact BK140.out⟩, ⟨by repeat ((with_reducible (exact HB.out)))⟩⟩
          ·rw [if_neg c22] at H
           exact absurd H (by simp)
         ·rw [if_neg c21] at H
          exact absurd H (by simp)
        ·rw [if_neg c19] at H
         exact absurd H (by simp)
       ·rw [if_neg c18] at H
        have c18b0 : decide (x4_1 < (l0_3.length : Int)) = false := decide_eq_false c18
        clear c18
        by_cases c25 : x3_1.size + 1 ≤ 9223372036854775807
        ·rw [if_pos c25] at H
         have c25b0 := eq_true c25
         have c25b1 : decide (x3_1.size + 1 ≤ 9223372036854775807) = true := decide_eq_true c25
         try have c25b2 : (9223372036854775807 < x3_1.size + 1) = False := eq_false (Nat.not_lt.2 c25)
         obtain rfl := Option.some.inj H
         have hcz26_0 : wr.cell? ⟨gb140, 0, none⟩ = some (.string a0_0) := (blk_cell BK140.out 0).trans rfl
         have hcz26_1 : wr.cell? ⟨gb140, 1, none⟩ = some (.string a0_1) := (blk_cell BK140.out 1).trans rfl
         have hcz26_2 : wr.cell? ⟨gb140, 2, none⟩ = some (.string a0_2) := (blk_cell BK140.out 2).trans rfl
         have hcz26_3 : wr.cell? ⟨gb140, 3, none⟩ = some (.slice A0_3 l0_3.length c0_3) := (blk_cell BK140.out 3).trans rfl
         have hfz26_0 := blk_frozen BK140.out 0
         have hfz26_1 := blk_frozen BK140.out 1
         have hfz26_2 := blk_frozen BK140.out 2
         have hfz26_3 := blk_frozen BK140.out 3
         go_wp2
         go_ret
         exact ⟨by (rfl), by repeat ((with_reducible (exact HB.out)))⟩
        ·rw [if_neg c25] at H
         exact absurd H (by simp)
    ·rw [if_neg c15] at H
     exact absurd H (by simp)
end Go.Proofs.YtjcipbdocbomjaaGreatDoor.K
namespace Go.Proofs.YtjcipbdocbomjaaGreatDoor.K
open Go.RowKit Go.Proofs.YtjcipbdocbomjaaGreatDoorW.PrintWords Go.Proofs.YtjcipbdocbomjaaGreatDoorW.PrintLast Go.Proofs.YtjcipbdocbomjaaGreatDoorW.PrintMore
attribute [local go_sem] max2_int min2_int max_two min_two max_three min_three max_four min_four   -- for this text's walks alone
set_option linter.unusedVariables false
set_option linter.unusedSimpArgs false
/-! ### lunetteref12_Show: function 16 -/
mutual
def lunetteref12_Show.l0 : Nat → List (S30) → ByteArray → Int → Option (ByteArray)
 | 0, _, _, _ => none
 | k + 1, x0, x3, x4 => if x4 < (x0.length : Int) then (if 0 ≤ x4 then (if 5 + ((rd_T30 x0 x4).f0).size ≤ 9223372036854775807 then (if ((⟨#[107, 105, 110, 100, 32]⟩ : ByteArray) ++ ((rd_T30 x0 x4).f0)).size + 1 ≤ 9223372036854775807 then (if x3.size + (((⟨#[107, 105, 110, 100, 32]⟩ : ByteArray) ++ ((rd_T30 x0 x4).f0)) ++ (⟨#[10]⟩ : ByteArray)).size ≤ 9223372036854775807 then (lunetteref12_Show.l1 k x0 (x3 ++ (((⟨#[107, 105, 110, 100, 32]⟩ : ByteArray) ++ ((rd_T30 x0 x4).f0)) ++ (⟨#[10]⟩ : ByteArray))) x4 0) else (none)) else (none)) else (none)) else (none)) else (some x3)
def lunetteref12_Show.l1 : Nat → List (S30) → ByteArray → Int → Int → Option (ByteArray)
 | 0, _, _, _, _ => none
 | k + 1, x0, x3, x4, x5 => if 0 ≤ x4 then (if x4 < (x0.length : Int) then (if x5 < (((rd_T30 x0 x4).f1).length : Int) then (if 0 ≤ x5 then (if ((rd_T35 ((rd_T30 x0 x4).f1) x5).f0).size + 3 ≤ 9223372036854775807 then ((lunetteref12_text.f k ((rd_T35 ((rd_T30 x0 x4).f1) x5).f1.f0) ((rd_T35 ((rd_T30 x0 x4).f1) x5).f1.f1) ((rd_T35 ((rd_T30 x0 x4).f1) x5).f1.f2) ((rd_T35 ((rd_T30 x0 x4).f1) x5).f1.f3)).bind fun t149 => (if (((rd_T35 ((rd_T30 x0 x4).f1) x5).f0) ++ (⟨#[32, 61, 32]⟩ : ByteArray)).size + t149.size ≤ 9223372036854775807 then (if ((((rd_T35 ((rd_T30 x0 x4).f1) x5).f0) ++ (⟨#[32, 61, 32]⟩ : ByteArray)) ++ t149).size + 1 ≤ 9223372036854775807 then (if x3.size + (((((rd_T35 ((rd_T30 x0 x4).f1) x5).f0) ++ (⟨#[32, 61, 32]⟩ : ByteArray)) ++ t149) ++ (⟨#[10]⟩ : ByteArray)).size ≤ 9223372036854775807 then (lunetteref12_Show.l1 k x0 (x3 ++ (((((rd_T35 ((rd_T30 x0 x4).f1) x5).f0) ++ (⟨#[32, 61, 32]⟩ : ByteArray)) ++ t149) ++ (⟨#[10]⟩ : ByteArray))) x4 (wrap64 (x5 + 1))) else (none)) else (none)) else (none))) else (none)) else (none)) else (lunetteref12_Show.l0 k x0 x3 (wrap64 (x4 + 1)))) else (none)) else (none)
end
def lunetteref12_Show.f (k : Nat) (l0 : List (S30)) : Option (ByteArray) := lunetteref12_Show.l0 k l0 (⟨#[]⟩ : ByteArray) 0
def lunetteref12_Show.T9 : Bool × List (List Nat × List Nat) := (true, [([], []), ([], []), ([], []), ([1, 2], [1, 2]), ([3], [3]), ([4], [4]), ([], []), ([5, 6], [5, 6]), ([7], [7]), ([8], [8]), ([9], [9]), ([], []), ([], []), ([11, 12], [11, 12]), ([13], [13]), ([14], [14]), ([], []), ([15, 16], [15, 16]), ([17], [17]), ([18], [18]), ([19], [19]), ([10, 20], [10, 20]), ([21], [21]), ([0, 22], [0, 22]), ([23, 20, 0, 1, 2, 3, 4, 5, 6, 7, 8, 9, 10, 11, 12, 13, 14, 15, 16, 17, 18, 19, 20, 21, 22, 23], [0, 23])])
def lunetteref12_Show.B9 : List Nat := [0, 0, 0, 6, 14, 30, 0, 126, 254, 510, 1022, 0, 0, 6144, 14336, 30720, 0, 129024, 260096, 522240, 1046528, 2097150, 4194302, 8388607, 16777215]
theorem lunetteref12_Show.tab9 : rtab .any (opsOf Tryz.f16 9) = lunetteref12_Show.T9 := by kernel_rfl
theorem lunetteref12_Show.bits9 : waitsOk lunetteref12_Show.T9.2 lunetteref12_Show.B9 = true := by kernel_rfl
set_option maxHeartbeats 8000000 in
set_option maxRecDepth 100000 in
theorem lunetteref12_Show.calls (k : Nat) (A0 : Option Addr) (c0 : Nat) (l0 : List (S30)) (r : ByteArray) (w : World) (hr0 : Kd.C k30 w A0 l0.length l0) (hc0 : l0.length ≤ c0) (h : lunetteref12_Show.f k l0 = some r) :
  Calls Tryz.prog 16 #[.slice A0 l0.length c0] w fun e w' => e = .returned (.string r) ∧ Below w.heap.size w w' := by
 have hu33 := Tryz.underlying33
 have HR0 := Aside0.mk hr0
 have HC0 := Aside0.mk hc0
 clear hr0 hc0
 have HB := Aside0.mk (Below.refl w.heap.size w)
 have H : (lunetteref12_Show.l0 k l0 (⟨#[]⟩ : ByteArray) 0) = some r := h
 clear h
 have H' := Aside0.mk H
 clear H
 go_enter Tryz.func16, Tryz.ntmps16
 go_wp2
 go_loopg [3, 4] k (fun kq v3 v4 w' => ∃ (x3_1 : ByteArray) (x4_1 : Int), v3 = .string x3_1 ∧ v4 = .int .i64 x4_1 ∧ Aside0 (lunetteref12_Show.l0 kq l0 x3_1 x4_1 = some r) ∧ Aside0 (kq ≤ k) ∧ Aside0 (Below w.heap.size w w'))
 case atStart => exact ⟨((⟨#[]⟩ : ByteArray)), (0), (by (rfl)), (by (rfl)), H', ⟨Nat.le_refl _⟩, ⟨by repeat ((with_reducible (exact HB.out)))⟩⟩
 case round =>
  clear H'
  obtain ⟨x3_1, x4_1, rfl, rfl, HA, HK1, HB⟩ := hrel
  cases gk with
  | zero => exact absurd HA.out (by simp [lunetteref12_Show.l0])
  | succ k1 =>
   have H := HA.out
   clear HA
   simp only [lunetteref12_Show.l0] at H
   by_cases c2 : x4_1 < (l0.length : Int)
   ·rw [if_pos c2] at H
    have c2b0 : decide (x4_1 < (l0.length : Int)) = true := decide_eq_true c2
    clear c2
    by_cases c3 : 0 ≤ x4_1
    ·rw [if_pos c3] at H
     have c3b0 : decide (0 ≤ x4_1) = true := decide_eq_true c3
     clear c3
     by_cases c4 : 5 + ((rd_T30 l0 x4_1).f0).size ≤ 9223372036854775807
     ·rw [if_pos c4] at H
      have c4b0 := eq_true c4
      have c4b1 : decide (5 + ((rd_T30 l0 x4_1).f0).size ≤ 9223372036854775807) = true := decide_eq_true c4
      try have c4b2 : (9223372036854775807 < 5 + ((rd_T30 l0 x4_1).f0).size) = False := eq_false (Nat.not_lt.2 c4)
      by_cases c5 : ((⟨#[107, 105, 110, 100, 32]⟩ : ByteArray) ++ ((rd_T30 l0 x4_1).f0)).size + 1 ≤ 9223372036854775807
      ·rw [if_pos c5] at H
       have c5b0 := eq_true c5
       have c5b1 : decide (((⟨#[107, 105, 110, 100, 32]⟩ : ByteArray) ++ ((rd_T30 l0 x4_1).f0)).size + 1 ≤ 9223372036854775807) = true := decide_eq_true c5
       try have c5b2 : (9223372036854775807 < ((⟨#[107, 105, 110, 100, 32]⟩ : ByteArray) ++ ((rd_T30 l0 x4_1).f0)).size + 1) = False := eq_false (Nat.not_lt.2 c5)
       try have c5n : 5 + ((rd_T30 l0 x4_1).f0).size + 1 ≤ 9223372036854775807 := by (have L0_ : (⟨#[107, 105, 110, 100, 32]⟩ : ByteArray).size = 5 := rfl; have Q_ := c5; simp only [ByteArray.size_append, ByteArray.size_extract] at Q_; (omega))
       try have c5m : (9223372036854775807 < 5 + ((rd_T30 l0 x4_1).f0).size + 1) = False := eq_false (Nat.not_lt.2 c5n)
       by_cases c6 : x3_1.size + (((⟨#[107, 105, 110, 100, 32]⟩ : ByteArray) ++ ((rd_T30 l0 x4_1).f0)) ++ (⟨#[10]⟩ : ByteArray)).size ≤ 9223372036854775807
       ·rw [if_pos c6] at H
        have c6b0 := eq_true c6
        have c6b1 : decide (x3_1.size + (((⟨#[107, 105, 110, 100, 32]⟩ : ByteArray) ++ ((rd_T30 l0 x4_1).f0)) ++ (⟨#[10]⟩ : ByteArray)).size ≤ 9223372036854775807) = true := decide_eq_true c6
        try have c6b2 : (9223372036854775807 < x3_1.size + (((⟨#[107, 105, 110, 100, 32]⟩ : ByteArray) ++ ((rd_T30 l0 x4_1).f0)) ++ (⟨#[10]⟩ : ByteArray)).size) = False := eq_false (Nat.not_lt.2 c6)
        try have c6n : x3_1.size + 5 + ((rd_T30 l0 x4_1).f0).size + 1 ≤ 9223372036854775807 := by (have L0_ : (⟨#[10]⟩ : ByteArray).size = 1 := rfl; have L1_ : (⟨#[107, 105, 110, 100, 32]⟩ : ByteArray).size = 5 := rfl; have Q_ := c6; simp only [ByteArray.size_append, ByteArray.size_extract] at Q_; (omega))
        try have c6m : (9223372036854775807 < x3_1.size + 5 + ((rd_T30 l0 x4_1).f0).size + 1) = False := eq_false (Nat.not_lt.2 c6n)
        have H' := Aside0.mk H
        clear H
        have p143 : 0 ≤ (x4_1 : Int) := of_decide_eq_true (by (with_reducible assumption))
        have q143 : x4_1 < (l0.length : Int) := of_decide_eq_true (by (with_reducible assumption))
        obtain ⟨ad143, A143_1, c143_1, e143, hx143_0, hx143_1, hl143_1, hi143_1⟩ := at_T30 HR0.out x4_1 p143 q143
        cases e143
        replace hx143_0 := (HB.out.cell (World.block_lt_of_cell? w _ hx143_0)).trans hx143_0
        replace hx143_1 := (HB.out.cell (World.block_lt_of_cell? w _ hx143_1)).trans hx143_1
        have HR143_1 := Aside0.mk hi143_1
        have HC143_1 := Aside0.mk hl143_1
        clear hi143_1 hl143_1
        replace p143 := eq_true p143
        replace q143 := eq_true q143
        go_wp2
        go_loopg [3, 5] k1 (fun kq v3 v5 w' => ∃ (x3_2 : ByteArray) (x5_2 : Int), v3 = .string x3_2 ∧ v5 = .int .i64 x5_2 ∧ Aside0 (lunetteref12_Show.l1 kq l0 x3_2 x4_1 x5_2 = some r) ∧ Aside0 (kq ≤ k1) ∧ Aside0 (Below w.heap.size w w'))
        case atStart => exact ⟨(x3_1 ++ (((⟨#[107, 105, 110, 100, 32]⟩ : ByteArray) ++ ((rd_T30 l0 x4_1).f0)) ++ (⟨#[10]⟩ : ByteArray))), (0), (by (rfl)), (by (rfl)), H', ⟨Nat.le_refl _⟩, ⟨by repeat ((with_reducible (exact HB.out)))⟩⟩
        case round =>
         clear H'
         try clear c2b0
         try clear c3b0
         try clear c4
         try clear c4b0
         try clear c4b1
         try clear c4b2
         try clear c5
         try clear c5b0
         try clear c5b1
         try clear c5b2
         try clear c6
         try clear c6b0
         try clear c6b1
         try clear c6b2
         try clear hx143_0
         try clear hx143_1
         try clear p143
         try clear q143
         obtain ⟨x3_2, x5_2, rfl, rfl, HA, HK2, HB⟩ := hrel
         cases gk with
         | zero => exact absurd HA.out (by simp [lunetteref12_Show.l1])
         | succ k2 =>
          have H := HA.out
          clear HA
          simp only [lunetteref12_Show.l1] at H
          by_cases c7 : 0 ≤ x4_1
          ·rw [if_pos c7] at H
           have c7b0 : decide (0 ≤ x4_1) = true := decide_eq_true c7
           clear c7
           by_cases c8 : x4_1 < (l0.length : Int)
           ·rw [if_pos c8] at H
            have c8b0 : decide (x4_1 < (l0.length : Int)) = true := decide_eq_true c8
            clear c8
            by_cases c9 : x5_2 < (((rd_T30 l0 x4_1).f1).length : Int)
            ·rw [if_pos c9] at H
             have c9b0 : decide (x5_2 < (((rd_T30 l0 x4_1).f1).length : Int)) = true := decide_eq_true c9
             clear c9
             by_cases c10 : 0 ≤ x5_2
             ·rw [if_pos c10] at H
              have c10b0 : decide (0 ≤ x5_2) = true := decide_eq_true c10
              clear c10
              by_cases c11 : ((rd_T35 ((rd_T30 l0 x4_1).f1) x5_2).f0).size + 3 ≤ 9223372036854775807
              ·rw [if_pos c11] at H
               have c11b0 := eq_true c11
               have c11b1 : decide (((rd_T35 ((rd_T30 l0 x4_1).f1) x5_2).f0).size + 3 ≤ 9223372036854775807) = true := decide_eq_true c11
               try have c11b2 : (9223372036854775807 < ((rd_T35 ((rd_T30 l0 x4_1).f1) x5_2).f0).size + 3) = False := eq_false (Nat.not_lt.2 c11)
               replace H := Option.bind_eq_some_iff.mp H
               obtain ⟨t149, A120, H⟩ := H
               replace H : (if (((rd_T35 ((rd_T30 l0 x4_1).f1) x5_2).f0) ++ (⟨#[32, 61, 32]⟩ : ByteArray)).size + t149.size ≤ 9223372036854775807 then (if ((((rd_T35 ((rd_T30 l0 x4_1).f1) x5_2).f0) ++ (⟨#[32, 61, 32]⟩ : ByteArray)) ++ t149).size + 1 ≤ 9223372036854775807 then (if x3_2.size + (((((rd_T35 ((rd_T30 l0 x4_1).f1) x5_2).f0) ++ (⟨#[32, 61, 32]⟩ : ByteArray)) ++ t149) ++ (⟨#[10]⟩ : ByteArray)).size ≤ 9223372036854775807 then (lunetteref12_Show.l1 k2 l0 (x3_2 ++ (((((rd_T35 ((rd_T30 l0 x4_1).f1) x5_2).f0) ++ (⟨#[32, 61, 32]⟩ : ByteArray)) ++ t149) ++ (⟨#[10]⟩ : ByteArray))) x4_1 (wrap64 (x5_2 + 1))) else (none)) else (none)) else (none)) = some r := H
               have A12 := Aside0.mk A120
               clear A120
               by_cases c13 : (((rd_T35 ((rd_T30 l0 x4_1).f1) x5_2).f0) ++ (⟨#[32, 61, 32]⟩ : ByteArray)).size + t149.size ≤ 9223372036854775807
               ·rw [if_pos c13] at H
                have c13b0 := eq_true c13
                have c13b1 : decide ((((rd_T35 ((rd_T30 l0 x4_1).f1) x5_2).f0) ++ (⟨#[32, 61, 32]⟩ : ByteArray)).size + t149.size ≤ 9223372036854775807) = true := decide_eq_true c13
                try have c13b2 : (9223372036854775807 < (((rd_T35 ((rd_T30 l0 x4_1).f1) x5_2).f0) ++ (⟨#[32, 61, 32]⟩ : ByteArray)).size + t149.size) = False := eq_false (Nat.not_lt.2 c13)
                try have c13n : ((rd_T35 ((rd_T30 l0 x4_1).f1) x5_2).f0).size + 3 + t149.size ≤ 9223372036854775807 := by (have L0_ : (⟨#[32, 61, 32]⟩ : ByteArray).size = 3 := rfl; have Q_ := c13; simp only [ByteArray.size_append, ByteArray.size_extract] at Q_; (omega))
                try have c13m : (9223372036854775807 < ((rd_T35 ((rd_T30 l0 x4_1).f1) x5_2).f0).size + 3 + t149.size) = False := eq_false (Nat.not_lt.2 c13n)
                by_cases c14 : ((((rd_T35 ((rd_T30 l0 x4_1).f1) x5_2).f0) ++ (⟨#[32, 61, 32]⟩ : ByteArray)) ++ t149).size + 1 ≤ 9223372036854775807
                ·rw [if_pos c14] at H
                 have c14b0 := eq_true c14
                 have c14b1 : decide (((((rd_T35 ((rd_T30 l0 x4_1).f1) x5_2).f0) ++ (⟨#[32, 61, 32]⟩ : ByteArray)) ++ t149).size + 1 ≤ 9223372036854775807) = true := decide_eq_true c14
                 try have c14b2 : (9223372036854775807 < ((((rd_T35 ((rd_T30 l0 x4_1).f1) x5_2).f0) ++ (⟨#[32, 61, 32]⟩ : ByteArray)) ++ t149).size + 1) = False := eq_false (Nat.not_lt.2 c14)
                 try have c14n : ((rd_T35 ((rd_T30 l0 x4_1).f1) x5_2).f0).size + 3 + t149.size + 1 ≤ 9223372036854775807 := by (have L0_ : (⟨#[32, 61, 32]⟩ : ByteArray).size = 3 := rfl; have Q_ := c14; simp only [ByteArray.size_append, ByteArray.size_extract] at Q_; (omega))
                 try have c14m : (9223372036854775807 < ((rd_T35 ((rd_T30 l0 x4_1).f1) x5_2).f0).size + 3 + t149.size + 1) = False := eq_false (Nat.not_lt.2 c14n)
                 by_cases c15 : x3_2.size + (((((rd_T35 ((rd_T30 l0 x4_1).f1) x5_2).f0) ++ (⟨#[32, 61, 32]⟩ : ByteArray)) ++ t149) ++ (⟨#[10]⟩ : ByteArray)).size ≤ 9223372036854775807
                 ·rw [if_pos c15] at H
                  have c15b0 := eq_true c15
                  have c15b1 : decide (x3_2.size + (((((rd_T35 ((rd_T30 l0 x4_1).f1) x5_2).f0) ++ (⟨#[32, 61, 32]⟩ : ByteArray)) ++ t149) ++ (⟨#[10]⟩ : ByteArray)).size ≤ 9223372036854775807) = true := decide_eq_true c15
                  try have c15b2 : (9223372036854775807 < x3_2.size + (((((rd_T35 ((rd_T30 l0 x4_1).f1) x5_2).f0) ++ (⟨#[32, 61, 32]⟩ : ByteArray)) ++ t149) ++ (⟨#[10]⟩ : ByteArray)).size) = False := eq_false (Nat.not_lt.2 c15)
                  try have c15n : x3_2.size + ((rd_T35 ((rd_T30 l0 x4_1).f1) x5_2).f0).size + 3 + t149.size + 1 ≤ 9223372036854775807 := by (have L0_ : (⟨#[10]⟩ : ByteArray).size = 1 := rfl; have L1_ : (⟨#[32, 61, 32]⟩ : ByteArray).size = 3 := rfl; have Q_ := c15; simp only [ByteArray.size_append, ByteArray.size_extract] at Q_; (omega))
                  try have c15m : (9223372036854775807 < x3_2.size + ((rd_T35 ((rd_T30 l0 x4_1).f1) x5_2).f0).size + 3 + t149.size + 1) = False := eq_false (Nat.not_lt.2 c15n)
                  have c15k : (9223372036854775807 < x3_2.size + (((rd_T35 ((rd_T30 l0 x4_1).f1) x5_2).f0).size + 3 + t149.size + 1)) = False := eq_false (by have := c15n; omega)
                  have H' := Aside0.mk H
                  clear H
                  have p144 : 0 ≤ (x4_1 : Int) := of_decide_eq_true (by (with_reducible assumption))
                  have q144 : x4_1 < (l0.length : Int) := of_decide_eq_true (by (with_reducible assumption))
                  obtain ⟨ad144, A144_1, c144_1, e144, hx144_0, hx144_1, hl144_1, hi144_1⟩ := at_T30 HR0.out x4_1 p144 q144
                  obtain rfl : ad143 = ad144 := (by injection e144)
                  replace hx144_0 := (HB.out.cell (World.block_lt_of_cell? w _ hx144_0)).trans hx144_0
                  replace hx144_1 := (HB.out.cell (World.block_lt_of_cell? w _ hx144_1)).trans hx144_1
                  have HR144_1 := Aside0.mk hi144_1
                  have HC144_1 := Aside0.mk hl144_1
                  clear hi144_1 hl144_1
                  replace p144 := eq_true p144
                  replace q144 := eq_true q144
                  try go_wp2
                  have n0_ := Aside0.mk (below_drew1 HB.out)
                  clear HB
                  have HB := n0_
                  clear n0_
                  have p145 : 0 ≤ (x4_1 : Int) := of_decide_eq_true (by (with_reducible assumption))
                  have q145 : x4_1 < (l0.length : Int) := of_decide_eq_true (by (with_reducible assumption))
                  obtain ⟨ad145, A145_1, c145_1, e145, hx145_0, hx145_1, hl145_1, hi145_1⟩ := at_T30 HR0.out x4_1 p145 q145
                  have hw145_1 := hx145_1
                  have hw145_0 := hx145_0
                  obtain rfl : ad143 = ad145 := (by injection e145)
                  replace hx145_0 := (HB.out.cell (World.block_lt_of_cell? w _ hx145_0)).trans hx145_0
                  replace hx145_1 := (HB.out.cell (World.block_lt_of_cell? w _ hx145_1)).trans hx145_1
                  have HR145_1 := Aside0.mk hi145_1
                  have HC145_1 := Aside0.mk hl145_1
                  clear hi145_1 hl145_1
                  replace p145 := eq_true p145
                  replace q145 := eq_true q145
                  have p146 : 0 ≤ (x5_2 : Int) := of_decide_eq_true (by (with_reducible assumption))
                  have q146 : x5_2 < (((rd_T30 l0 x4_1).f1).length : Int) := of_decide_eq_true (by (with_reducible assumption))
                  obtain ⟨ad146, A146_4, c146_4, e146, hx146_0, hx146_1, hx146_2, hx146_3, hx146_4, hl146_4, hi146_4⟩ := at_T35 HR145_1.out x5_2 p146 q146
                  have hw146_4 := hx146_4
                  have hw146_3 := hx146_3
                  have hw146_2 := hx146_2
                  have hw146_1 := hx146_1
                  have hw146_0 := hx146_0
                  cases e146
                  replace hx146_0 := (HB.out.cell (World.block_lt_of_cell? w _ hx146_0)).trans hx146_0
                  replace hx146_1 := (HB.out.cell (World.block_lt_of_cell? w _ hx146_1)).trans hx146_1
                  replace hx146_2 := (HB.out.cell (World.block_lt_of_cell? w _ hx146_2)).trans hx146_2
                  replace hx146_3 := (HB.out.cell (World.block_lt_of_cell? w _ hx146_3)).trans hx146_3
                  replace hx146_4 := (HB.out.cell (World.block_lt_of_cell? w _ hx146_4)).trans hx146_4
                  have HR146_4 := Aside0.mk hi146_4
                  have HC146_4 := Aside0.mk hl146_4
                  clear hi146_4 hl146_4
                  replace p146 := eq_true p146
                  replace q146 := eq_true q146
                  refine start_ (n := 25) (S := fun w' => w'.cell? (ad143.add ((x4_1).toNat * 2)) = some (.string ((rd_T30 l0 x4_1).f0)) ∧ w'.cell? ⟨(ad143.add ((x4_1).toNat * 2)).block, (ad143.add ((x4_1).toNat * 2)).off + 1, none⟩ = some (.slice (some ad146) ((rd_T30 l0 x4_1).f1).length c145_1) ∧ w'.cell? (ad146.add ((x5_2).toNat * 5)) = some (.string ((rd_T35 ((rd_T30 l0 x4_1).f1) x5_2).f0)) ∧ w'.cell? ⟨(ad146.add ((x5_2).toNat * 5)).block, (ad146.add ((x5_2).toNat * 5)).off + 1, none⟩ = some (.string ((rd_T35 ((rd_T30 l0 x4_1).f1) x5_2).f1.f0)) ∧ w'.cell? ⟨(ad146.add ((x5_2).toNat * 5)).block, (ad146.add ((x5_2).toNat * 5)).off + 2, none⟩ = some (.string ((rd_T35 ((rd_T30 l0 x4_1).f1) x5_2).f1.f1)) ∧ w'.cell? ⟨(ad146.add ((x5_2).toNat * 5)).block, (ad146.add ((x5_2).toNat * 5)).off + 3, none⟩ = some (.string ((rd_T35 ((rd_T30 l0 x4_1).f1) x5_2).f1.f2)) ∧ w'.cell? ⟨(ad146.add ((x5_2).toNat * 5)).block, (ad146.add ((x5_2).toNat * 5)).off + 4, none⟩ = some (.slice A146_4 ((rd_T35 ((rd_T30 l0 x4_1).f1) x5_2).f1.f3).length c146_4)) (ds := []) #[false, false, false, false, false, false, false, false, false, false, false, false, false, false, false, false, false, false, false, false, false, false, false, false, false] (by kernel_rfl) rfl rfl ⟨((HB.out.cell (World.block_lt_of_cell? w _ hw145_0)).trans hw145_0), ((HB.out.cell (World.block_lt_of_cell? w _ hw145_1)).trans hw145_1), ((HB.out.cell (World.block_lt_of_cell? w _ hw146_0)).trans hw146_0), ((HB.out.cell (World.block_lt_of_cell? w _ hw146_1)).trans hw146_1), ((HB.out.cell (World.block_lt_of_cell? w _ hw146_2)).trans hw146_2), ((HB.out.cell (World.block_lt_of_cell? w _ hw146_3)).trans hw146_3), ((HB.out.cell (World.block_lt_of_cell? w _ hw146_4)).trans hw146_4)⟩ (fun hHeld => ?_); refine with_tabW lunetteref12_Show.tab9 lunetteref12_Show.bits9 (fun HT_ HW_ => ?_)
                  generalize wr.drew = w16 at HB HR145_1 HR146_4 hx145_0 hx145_1 hx146_0 hx146_1 hx146_2 hx146_3 hx146_4 hHeld ⊢
                  refine pure_ (i := 0) (N := some 31) (v := ?_) (a' := ?_) #[true, false, false, false, false, false, false, false, false, false, false, false, false, false, false, false, false, false, false, false, false, false, false, false, false] rfl rfl (any_of HT_.out (by kernel_rfl)) (fun _ _ _ h => h) (Or.inl ⟨by rfl, ?_⟩) ?_ ?_
                  rotate_left
                  ·intro w'
                   go_simp
                   with_reducible rfl
                  rotate_left
                  ·simp only [Act.put, List.setIfInBounds_toArray, List.set_cons_zero, List.set_cons_succ, i64_w, i32_w]
                   rfl
                  refine pure_ (i := 1) (N := some 32) (v := ?_) (a' := ?_) #[true, true, false, false, false, false, false, false, false, false, false, false, false, false, false, false, false, false, false, false, false, false, false, false, false] rfl rfl (any_of HT_.out (by kernel_rfl)) (fun _ _ _ h => h) (Or.inl ⟨by rfl, ?_⟩) ?_ ?_
                  rotate_left
                  ·intro w'
                   go_simp
                   with_reducible rfl
                  rotate_left
                  ·simp only [Act.put, List.setIfInBounds_toArray, List.set_cons_zero, List.set_cons_succ, i64_w, i32_w]
                   rfl
                  refine pure_ (i := 2) (N := some 33) (v := ?_) (a' := ?_) #[true, true, true, false, false, false, false, false, false, false, false, false, false, false, false, false, false, false, false, false, false, false, false, false, false] rfl rfl (any_of HT_.out (by kernel_rfl)) (fun _ _ _ h => h) (Or.inl ⟨by rfl, ?_⟩) ?_ ?_
                  rotate_left
                  ·intro w'
                   go_simp
                   with_reducible rfl
                  rotate_left
                  ·simp only [Act.put, List.setIfInBounds_toArray, List.set_cons_zero, List.set_cons_succ, i64_w, i32_w]
                   rfl
                  refine pure_ (i := 3) (N := some 34) (v := ?_) (a' := ?_) #[true, true, true, true, false, false, false, false, false, false, false, false, false, false, false, false, false, false, false, false, false, false, false, false, false] rfl rfl (any_of HT_.out (by kernel_rfl)) (fun _ _ _ h => h) (Or.inl ⟨by rfl, ?_⟩) ?_ ?_
                  rotate_left
                  ·intro w'
                   go_simp
                   with_reducible rfl
                  rotate_left
                  ·simp only [Act.put, List.setIfInBounds_toArray, List.set_cons_zero, List.set_cons_succ, i64_w, i32_w]
                   rfl
                  refine pure_ (i := 4) (N := some 35) (v := ?_) (a' := ?_) #[true, true, true, true, true, false, false, false, false, false, false, false, false, false, false, false, false, false, false, false, false, false, false, false, false] rfl rfl (any_of HT_.out (by kernel_rfl)) (fun _ _ _ h => h) (Or.inl ⟨by rfl, ?_⟩) ?_ ?_
                  rotate_left
                  ·intro w'
                   go_simp
                   with_reducible rfl
                  rotate_left
                  ·simp only [Act.put, List.setIfInBounds_toArray, List.set_cons_zero, List.set_cons_succ, i64_w, i32_w]
                   rfl
                  refine pure_ (i := 6) (N := some 37) (v := ?_) (a' := ?_) #[true, true, true, true, true, false, true, false, false, false, false, false, false, false, false, false, false, false, false, false, false, false, false, false, false] rfl rfl (any_of HT_.out (by kernel_rfl)) (fun _ _ _ h => h) (Or.inl ⟨by rfl, ?_⟩) ?_ ?_
                  rotate_left
                  ·intro w'
                   go_simp
                   with_reducible rfl
                  rotate_left
                  ·simp only [Act.put, List.setIfInBounds_toArray, List.set_cons_zero, List.set_cons_succ, i64_w, i32_w]
                   rfl
                  refine pure_ (i := 11) (N := some 42) (v := ?_) (a' := ?_) #[true, true, true, true, true, false, true, false, false, false, false, true, false, false, false, false, false, false, false, false, false, false, false, false, false] rfl rfl (any_of HT_.out (by kernel_rfl)) (fun _ _ _ h => h) (Or.inl ⟨by rfl, ?_⟩) ?_ ?_
                  rotate_left
                  ·intro w'
                   go_simp
                   with_reducible rfl
                  rotate_left
                  ·simp only [Act.put, List.setIfInBounds_toArray, List.set_cons_zero, List.set_cons_succ, i64_w, i32_w]
                   rfl
                  refine pure_ (i := 12) (N := some 43) (v := ?_) (a' := ?_) #[true, true, true, true, true, false, true, false, false, false, false, true, true, false, false, false, false, false, false, false, false, false, false, false, false] rfl rfl (any_of HT_.out (by kernel_rfl)) (fun _ _ _ h => h) (Or.inl ⟨by rfl, ?_⟩) ?_ ?_
                  rotate_left
                  ·intro w'
                   go_simp
                   with_reducible rfl
                  rotate_left
                  ·simp only [Act.put, List.setIfInBounds_toArray, List.set_cons_zero, List.set_cons_succ, i64_w, i32_w]
                   rfl
                  refine pure_ (i := 13) (N := some 44) (v := ?_) (a' := ?_) #[true, true, true, true, true, false, true, false, false, false, false, true, true, true, false, false, false, false, false, false, false, false, false, false, false] rfl rfl (any_of HT_.out (by kernel_rfl)) (fun _ _ _ h => h) (Or.inl ⟨by rfl, ?_⟩) ?_ ?_
                  rotate_left
                  ·intro w'
                   go_simp
                   with_reducible rfl
                  rotate_left
                  ·simp only [Act.put, List.setIfInBounds_toArray, List.set_cons_zero, List.set_cons_succ, i64_w, i32_w]
                   rfl
                  refine pure_ (i := 14) (N := some 45) (v := ?_) (a' := ?_) #[true, true, true, true, true, false, true, false, false, false, false, true, true, true, true, false, false, false, false, false, false, false, false, false, false] rfl rfl (any_of HT_.out (by kernel_rfl)) (fun _ _ _ h => h) (Or.inl ⟨by rfl, ?_⟩) ?_ ?_
                  rotate_left
                  ·intro w'
                   go_simp
                   with_reducible rfl
                  rotate_left
                  ·simp only [Act.put, List.setIfInBounds_toArray, List.set_cons_zero, List.set_cons_succ, i64_w, i32_w]
                   rfl
                  refine pure_ (i := 16) (N := some 47) (v := ?_) (a' := ?_) #[true, true, true, true, true, false, true, false, false, false, false, true, true, true, true, false, true, false, false, false, false, false, false, false, false] rfl rfl (any_of HT_.out (by kernel_rfl)) (fun _ _ _ h => h) (Or.inl ⟨by rfl, ?_⟩) ?_ ?_
                  rotate_left
                  ·intro w'
                   go_simp
                   with_reducible rfl
                  rotate_left
                  ·simp only [Act.put, List.setIfInBounds_toArray, List.set_cons_zero, List.set_cons_succ, i64_w, i32_w]
                   rfl
                  refine take_ (i := 5) (N := some 36) (v := ?_) (a' := ?_) #[true, true, true, true, true, true, true, false, false, false, false, true, true, true, true, false, true, false, false, false, false, false, false, false, false] rfl rfl (take_ofW HT_.out HW_.out (by kernel_rfl)) (fun _ _ _ h => h) (Or.inl ⟨by rfl, ?_⟩) hHeld ?_ ?_
                  rotate_left
                  ·rintro w' ⟨s0, s1, s2, s3, s4, s5, s6⟩
                   go_simp
                   with_reducible rfl
                  rotate_left
                  ·simp only [Act.put, List.setIfInBounds_toArray, List.set_cons_zero, List.set_cons_succ, i64_w, i32_w]
                   rfl
                  refine pure_ (i := 7) (N := some 38) (v := ?_) (a' := ?_) #[true, true, true, true, true, true, true, true, false, false, false, true, true, true, true, false, true, false, false, false, false, false, false, false, false] rfl rfl (any_of HT_.out (by kernel_rfl)) (fun _ _ _ h => h) (Or.inl ⟨by rfl, ?_⟩) ?_ ?_
                  rotate_left
                  ·intro w'
                   go_simp
                   with_reducible rfl
                  rotate_left
                  ·simp only [Act.put, List.setIfInBounds_toArray, List.set_cons_zero, List.set_cons_succ, i64_w, i32_w]
                   rfl
                  refine pure_ (i := 8) (N := some 39) (v := ?_) (a' := ?_) #[true, true, true, true, true, true, true, true, true, false, false, true, true, true, true, false, true, false, false, false, false, false, false, false, false] rfl rfl (any_of HT_.out (by kernel_rfl)) (fun _ _ _ h => h) (Or.inl ⟨by rfl, ?_⟩) ?_ ?_
                  rotate_left
                  ·intro w'
                   go_simp
                   with_reducible rfl
                  rotate_left
                  ·simp only [Act.put, List.setIfInBounds_toArray, List.set_cons_zero, List.set_cons_succ, i64_w, i32_w]
                   rfl
                  refine take_ (i := 9) (N := some 40) (v := ?_) (a' := ?_) #[true, true, true, true, true, true, true, true, true, true, false, true, true, true, true, false, true, false, false, false, false, false, false, false, false] rfl rfl (take_ofW HT_.out HW_.out (by kernel_rfl)) (fun _ _ _ h => h) (Or.inl ⟨by rfl, ?_⟩) hHeld ?_ ?_
                  rotate_left
                  ·rintro w' ⟨s0, s1, s2, s3, s4, s5, s6⟩
                   go_simp
                   with_reducible rfl
                  rotate_left
                  ·simp only [Act.put, List.setIfInBounds_toArray, List.set_cons_zero, List.set_cons_succ, i64_w, i32_w]
                   rfl
                  refine pure_ (i := 10) (N := some 41) (v := ?_) (a' := ?_) #[true, true, true, true, true, true, true, true, true, true, true, true, true, true, true, false, true, false, false, false, false, false, false, false, false] rfl rfl (any_of HT_.out (by kernel_rfl)) (fun _ _ _ h => h) (Or.inl ⟨by rfl, ?_⟩) ?_ ?_
                  rotate_left
                  ·intro w'
                   go_simp
                   with_reducible rfl
                  rotate_left
                  ·simp only [Act.put, List.setIfInBounds_toArray, List.set_cons_zero, List.set_cons_succ, i64_w, i32_w]
                   rfl
                  refine take_ (i := 15) (N := some 46) (v := ?_) (a' := ?_) #[true, true, true, true, true, true, true, true, true, true, true, true, true, true, true, true, true, false, false, false, false, false, false, false, false] rfl rfl (take_ofW HT_.out HW_.out (by kernel_rfl)) (fun _ _ _ h => h) (Or.inl ⟨by rfl, ?_⟩) hHeld ?_ ?_
                  rotate_left
                  ·rintro w' ⟨s0, s1, s2, s3, s4, s5, s6⟩
                   go_simp
                   with_reducible rfl
                  rotate_left
                  ·simp only [Act.put, List.setIfInBounds_toArray, List.set_cons_zero, List.set_cons_succ, i64_w, i32_w]
                   rfl
                  refine pure_ (i := 17) (N := some 48) (v := ?_) (a' := ?_) #[true, true, true, true, true, true, true, true, true, true, true, true, true, true, true, true, true, true, false, false, false, false, false, false, false] rfl rfl (any_of HT_.out (by kernel_rfl)) (fun _ _ _ h => h) (Or.inl ⟨by rfl, ?_⟩) ?_ ?_
                  rotate_left
                  ·intro w'
                   go_simp
                   with_reducible rfl
                  rotate_left
                  ·simp only [Act.put, List.setIfInBounds_toArray, List.set_cons_zero, List.set_cons_succ, i64_w, i32_w]
                   rfl
                  refine pure_ (i := 18) (N := some 49) (v := ?_) (a' := ?_) #[true, true, true, true, true, true, true, true, true, true, true, true, true, true, true, true, true, true, true, false, false, false, false, false, false] rfl rfl (any_of HT_.out (by kernel_rfl)) (fun _ _ _ h => h) (Or.inl ⟨by rfl, ?_⟩) ?_ ?_
                  rotate_left
                  ·intro w'
                   go_simp
                   with_reducible rfl
                  rotate_left
                  ·simp only [Act.put, List.setIfInBounds_toArray, List.set_cons_zero, List.set_cons_succ, i64_w, i32_w]
                   rfl
                  refine take_ (i := 19) (N := some 50) (v := ?_) (a' := ?_) #[true, true, true, true, true, true, true, true, true, true, true, true, true, true, true, true, true, true, true, true, false, false, false, false, false] rfl rfl (take_ofW HT_.out HW_.out (by kernel_rfl)) (fun _ _ _ h => h) (Or.inl ⟨by rfl, ?_⟩) hHeld ?_ ?_
                  rotate_left
                  ·rintro w' ⟨s0, s1, s2, s3, s4, s5, s6⟩
                   go_simp
                   with_reducible rfl
                  rotate_left
                  ·simp only [Act.put, List.setIfInBounds_toArray, List.set_cons_zero, List.set_cons_succ, i64_w, i32_w]
                   rfl
                  refine one_ (i := 20) (N := some 51) #[true, true, true, true, true, true, true, true, true, true, true, true, true, true, true, true, true, true, true, true, true, false, false, false, false] rfl rfl (one_of HT_.out (by kernel_rfl)) (by decide) (fun K hK => ?_)
                  refine goes_ Tryz.func34 (by kernel_rfl) rfl #[.agg #[.string ((rd_T35 ((rd_T30 l0 x4_1).f1) x5_2).f1.f0), .string ((rd_T35 ((rd_T30 l0 x4_1).f1) x5_2).f1.f1), .string ((rd_T35 ((rd_T30 l0 x4_1).f1) x5_2).f1.f2), .slice A146_4 ((rd_T35 ((rd_T30 l0 x4_1).f1) x5_2).f1.f3).length c146_4]] (by rfl) rfl rfl (by (try simp only [List.map_toArray, List.map_cons, List.map_nil]); (rfl)) ?_
                  with_reducible refine (lunetteref12_text.calls k2 ((rd_T35 ((rd_T30 l0 x4_1).f1) x5_2).f1.f0) ((rd_T35 ((rd_T30 l0 x4_1).f1) x5_2).f1.f1) ((rd_T35 ((rd_T30 l0 x4_1).f1) x5_2).f1.f2) _ _ ((rd_T35 ((rd_T30 l0 x4_1).f1) x5_2).f1.f3) t149 _ ?side1 ?side2 A12.out).mono ?_
                  (case side1 => repeat ((exact (Kd.C_below HR146_4.out HB.out))))
                  (case side2 => exact HC146_4.out)
                  rintro e w17 ⟨rfl, hb⟩
                  refine ⟨_, rfl, ?_⟩
                  have n0_ := Aside0.mk (below_step (by repeat ((with_reducible (exact HB.out)))) hb)
                  clear HB
                  have HB := n0_
                  clear n0_
                  (try clear hb)
                  refine hK.out _ _ ⟨((HB.out.cell (World.block_lt_of_cell? w _ hw145_0)).trans hw145_0), ((HB.out.cell (World.block_lt_of_cell? w _ hw145_1)).trans hw145_1), ((HB.out.cell (World.block_lt_of_cell? w _ hw146_0)).trans hw146_0), ((HB.out.cell (World.block_lt_of_cell? w _ hw146_1)).trans hw146_1), ((HB.out.cell (World.block_lt_of_cell? w _ hw146_2)).trans hw146_2), ((HB.out.cell (World.block_lt_of_cell? w _ hw146_3)).trans hw146_3), ((HB.out.cell (World.block_lt_of_cell? w _ hw146_4)).trans hw146_4)⟩ (fun hHeld => ?_)
                  clear hK K
                  refine norm_ (a' := ?_) ?_ ?_
                  rotate_left
                  ·show Act.put _ (some 51) _ = _
                   simp only [Act.put, List.setIfInBounds_toArray, List.set_cons_zero, List.set_cons_succ, i64_w, i32_w]
                   rfl
                  refine pure_ (i := 21) (N := some 52) (v := ?_) (a' := ?_) #[true, true, true, true, true, true, true, true, true, true, true, true, true, true, true, true, true, true, true, true, true, true, false, false, false] rfl rfl (any_of HT_.out (by kernel_rfl)) (fun _ _ _ h => h) (Or.inl ⟨by rfl, ?_⟩) ?_ ?_
                  rotate_left
                  ·intro w'
                   go_simp
                   with_reducible rfl
                  rotate_left
                  ·simp only [Act.put, List.setIfInBounds_toArray, List.set_cons_zero, List.set_cons_succ, i64_w, i32_w]
                   rfl
                  refine pure_ (i := 22) (N := some 53) (v := ?_) (a' := ?_) #[true, true, true, true, true, true, true, true, true, true, true, true, true, true, true, true, true, true, true, true, true, true, true, false, false] rfl rfl (any_of HT_.out (by kernel_rfl)) (fun _ _ _ h => h) (Or.inl ⟨by rfl, ?_⟩) ?_ ?_
                  rotate_left
                  ·intro w'
                   go_simp
                   with_reducible rfl
                  rotate_left
                  ·simp only [Act.put, List.setIfInBounds_toArray, List.set_cons_zero, List.set_cons_succ, i64_w, i32_w]
                   rfl
                  refine pure_ (i := 23) (N := some 54) (v := ?_) (a' := ?_) #[true, true, true, true, true, true, true, true, true, true, true, true, true, true, true, true, true, true, true, true, true, true, true, true, false] rfl rfl (any_of HT_.out (by kernel_rfl)) (fun _ _ _ h => h) (Or.inl ⟨by rfl, ?_⟩) ?_ ?_
                  rotate_left
                  ·intro w'
                   go_simp
                   with_reducible rfl
                  rotate_left
                  ·simp only [Act.put, List.setIfInBounds_toArray, List.set_cons_zero, List.set_cons_succ, i64_w, i32_w]
                   rfl
                  refine pure_ (i := 24) (N := some 3) (v := ?_) (a' := ?_) #[true, true, true, true, true, true, true, true, true, true, true, true, true, true, true, true, true, true, true, true, true, true, true, true, true] rfl rfl (any_of HT_.out (by kernel_rfl)) (fun _ _ _ h => h) (Or.inl ⟨by rfl, ?_⟩) ?_ ?_
                  rotate_left
                  ·intro w'
                   go_simp
                   with_reducible rfl
                  rotate_left
                  ·simp only [Act.put, List.setIfInBounds_toArray, List.set_cons_zero, List.set_cons_succ, i64_w, i32_w]
                   rfl
                  refine done_ (done_of HT_.out (by kernel_rfl)) ?_
                  try go_wp2
                  go_roundg k2
                  case measure => have := HK1.out; have := HK2.out; omega
                  case rel => exact ⟨(x3_2 ++ (((((rd_T35 ((rd_T30 l0 x4_1).f1) x5_2).f0) ++ (⟨#[32, 61, 32]⟩ : ByteArray)) ++ t149) ++ (⟨#[10]⟩ : ByteArray))), (wrap64 (x5_2 + 1)), (by (rfl)), (by (rfl)), H', ⟨by have := HK1.out; have := HK2.out; omega⟩, ⟨by repeat ((with_reducible (exact HB.out)))⟩⟩
                 ·rw [if_neg c15] at H
                  exact absurd H (by simp)
                ·rw [if_neg c14] at H
                 exact absurd H (by simp)
               ·rw [if_neg c13] at H
                exact absurd H (by simp)
              ·rw [if_neg c11] at H
               exact absurd H (by simp)
             ·rw [if_neg c10] at H
              exact absurd H (by simp)
            ·rw [if_neg c9] at H
             have c9b0 : decide (x5_2 < (((rd_T30 l0 x4_1).f1).length : Int)) = false := decide_eq_false c9
             clear c9
             have H' := Aside0.mk H
             clear H
             have p144 : 0 ≤ (x4_1 : Int) := of_decide_eq_true (by (with_reducible assumption))
             have q144 : x4_1 < (l0.length : Int) := of_decide_eq_true (by (with_reducible assumption))
             obtain ⟨ad144, A144_1, c144_1, e144, hx144_0, hx144_1, hl144_1, hi144_1⟩ := at_T30 HR0.out x4_1 p144 q144
             obtain rfl : ad143 = ad144 := (by injection e144)
             replace hx144_0 := (HB.out.cell (World.block_lt_of_cell? w _ hx144_0)).trans hx144_0
             replace hx144_1 := (HB.out.cell (World.block_lt_of_cell? w _ hx144_1)).trans hx144_1
             have HR144_1 := Aside0.mk hi144_1
             have HC144_1 := Aside0.mk hl144_1
             clear hi144_1 hl144_1
             replace p144 := eq_true p144
             replace q144 := eq_true q144
             go_wp2
             go_roundg k2
             case measure => have := HK1.out; have := HK2.out; omega
             case rel => exact ⟨(x3_2), (wrap64 (x4_1 + 1)), (by (rfl)), (by (rfl)), H', ⟨by have := HK1.out; have := HK2.out; omega⟩, ⟨by repeat ((with_reducible (exact HB.out)))⟩⟩
           ·rw [if_neg c8] at H
            exact absurd H (by simp)
          ·rw [if_neg c7] at H
           exact absurd H (by simp)
       ·rw [if_neg c6] at H
        exact absurd H (by simp)
      ·rw [if_neg c5] at H
       exact absurd H (by simp)
     ·rw [if_neg c4] at H
      exact absurd H (by simp)
    ·rw [if_neg c3] at H
     exact absurd H (by simp)
   ·rw [if_neg c2] at H
    have c2b0 : decide (x4_1 < (l0.length : Int)) = false := decide_eq_false c2
    clear c2
    obtain rfl := Option.some.inj H
    go_wp2
    go_ret
    exact ⟨by (rfl), by repeat ((with_reducible (exact HB.out)))⟩
end Go.Proofs.YtjcipbdocbomjaaGreatDoor.K
