-- Written by a program of this session (wip/pp.py over the kit's print.py). Lean checks it.
import Derived.Test.YtggcipjdhhnnkaaDoorP0
namespace Go.Proofs.YtggcipjdhhnnkaaDoor.K
open Go.RowKit Go.Proofs.YtggcipjdhhnnkaaDoorW.PrintWords Go.Proofs.YtggcipjdhhnnkaaDoorW.PrintLast Go.Proofs.YtggcipjdhhnnkaaDoorW.PrintMore
attribute [local go_sem] max2_int min2_int max_two min_two max_three min_three max_four min_four   -- for this text's walks alone
set_option linter.unusedVariables false
set_option linter.unusedSimpArgs false
/-! ### lunetteref11_ShowUser: function 27 -/
def lunetteref11_ShowUser.f (a0_0 : ByteArray) (a0_1 : ByteArray) (a0_2 : ByteArray) : Option (ByteArray) := if a0_2.toList = ([] : List UInt8) then (if a0_0.size + 1 ≤ 9223372036854775807 then (if (a0_0 ++ (⟨#[58]⟩ : ByteArray)).size + a0_1.size ≤ 9223372036854775807 then (some ((a0_0 ++ (⟨#[58]⟩ : ByteArray)) ++ a0_1)) else (none)) else (none)) else (if a0_0.size + 1 ≤ 9223372036854775807 then (if (a0_0 ++ (⟨#[58]⟩ : ByteArray)).size + a0_1.size ≤ 9223372036854775807 then (if ((a0_0 ++ (⟨#[58]⟩ : ByteArray)) ++ a0_1).size + 1 ≤ 9223372036854775807 then (if (((a0_0 ++ (⟨#[58]⟩ : ByteArray)) ++ a0_1) ++ (⟨#[35]⟩ : ByteArray)).size + a0_2.size ≤ 9223372036854775807 then (some ((((a0_0 ++ (⟨#[58]⟩ : ByteArray)) ++ a0_1) ++ (⟨#[35]⟩ : ByteArray)) ++ a0_2)) else (none)) else (none)) else (none)) else (none))
set_option maxHeartbeats 8000000 in
set_option maxRecDepth 100000 in
theorem lunetteref11_ShowUser.calls (a0_0 : ByteArray) (a0_1 : ByteArray) (a0_2 : ByteArray) (r : ByteArray) (w : World) (h : lunetteref11_ShowUser.f a0_0 a0_1 a0_2 = some r) :
    Calls Tryd.prog 27 #[.agg #[.string a0_0, .string a0_1, .string a0_2]] w fun e w' => e = .returned (.string r) ∧ Below w.heap.size w w' := by
  have hu24 := Tryd.underlying24
  have HB := Aside0.mk (Below.refl w.heap.size w)
  have H : (if a0_2.toList = ([] : List UInt8) then (if a0_0.size + 1 ≤ 9223372036854775807 then (if (a0_0 ++ (⟨#[58]⟩ : ByteArray)).size + a0_1.size ≤ 9223372036854775807 then (some ((a0_0 ++ (⟨#[58]⟩ : ByteArray)) ++ a0_1)) else (none)) else (none)) else (if a0_0.size + 1 ≤ 9223372036854775807 then (if (a0_0 ++ (⟨#[58]⟩ : ByteArray)).size + a0_1.size ≤ 9223372036854775807 then (if ((a0_0 ++ (⟨#[58]⟩ : ByteArray)) ++ a0_1).size + 1 ≤ 9223372036854775807 then (if (((a0_0 ++ (⟨#[58]⟩ : ByteArray)) ++ a0_1) ++ (⟨#[35]⟩ : ByteArray)).size + a0_2.size ≤ 9223372036854775807 then (some ((((a0_0 ++ (⟨#[58]⟩ : ByteArray)) ++ a0_1) ++ (⟨#[35]⟩ : ByteArray)) ++ a0_2)) else (none)) else (none)) else (none)) else (none))) = some r := h
  clear h
  by_cases c2 : a0_2.toList = ([] : List UInt8)
  · rw [if_pos c2] at H
    have c2b0 : (a0_2.toList == ([] : List UInt8)) = true := beq_iff_eq.mpr c2
    have c2b1 : (a0_2.toList != ([] : List UInt8)) = false := bne_eq_false_iff_eq.mpr c2
    clear c2
    by_cases c3 : a0_0.size + 1 ≤ 9223372036854775807
    · rw [if_pos c3] at H
      have c3b0 := eq_true c3
      have c3b1 : decide (a0_0.size + 1 ≤ 9223372036854775807) = true := decide_eq_true c3
      try have c3b2 : (9223372036854775807 < a0_0.size + 1) = False := eq_false (Nat.not_lt.2 c3)
      by_cases c4 : (a0_0 ++ (⟨#[58]⟩ : ByteArray)).size + a0_1.size ≤ 9223372036854775807
      · rw [if_pos c4] at H
        have c4b0 := eq_true c4
        have c4b1 : decide ((a0_0 ++ (⟨#[58]⟩ : ByteArray)).size + a0_1.size ≤ 9223372036854775807) = true := decide_eq_true c4
        try have c4b2 : (9223372036854775807 < (a0_0 ++ (⟨#[58]⟩ : ByteArray)).size + a0_1.size) = False := eq_false (Nat.not_lt.2 c4)
        try have c4n : a0_0.size + 1 + a0_1.size ≤ 9223372036854775807 := by (have L0_ : (⟨#[58]⟩ : ByteArray).size = 1 := rfl; have Q_ := c4; simp only [ByteArray.size_append, ByteArray.size_extract] at Q_; first | omega | (simp at Q_ ⊢; omega) | (simp at Q_; omega))
        try have c4m : (9223372036854775807 < a0_0.size + 1 + a0_1.size) = False := eq_false (Nat.not_lt.2 c4n)
        obtain rfl := Option.some.inj H
        go_enter Tryd.func27, Tryd.ntmps27
        go_wp2_with (first | ((with_reducible refine gate_dst (N := 1) rfl ?_); refine box_event ?hg (N := 1) ?hd (cs := #[.string a0_0, .string a0_1, .string a0_2]) (t := 24) ?hr ?_; (case hd => rfl); (case hg => rfl); (case hr => first | (go_simp; done) | (go_simp; rfl)); intro gb342 hg w5 hbox hb; have n0_ := Aside0.mk (below_step (by repeat (first | (with_reducible first | exact HB.out | apply below_alloc | apply pw_below_drewN | apply below_drew1) | exact HB.out)) hb); have n1_ := Aside0.mk (hbox); have n2_ := Aside0.mk ((by rw [hg]; exact (below_size (by repeat (first | (with_reducible first | exact HB.out | apply below_alloc | apply pw_below_drewN | apply below_drew1) | exact HB.out))) : w.heap.size ≤ gb342)); have n3_ := Aside0.mk ((by rw [hg]; exact (below_size (by repeat (first | (with_reducible first | exact HB.out | apply below_alloc | apply pw_below_drewN | apply below_drew1) | exact HB.out))) : w.heap.size ≤ gb342)); clear HB; have HB := n0_; have BK342 := n1_; have GW342 := n2_; have GE342 := n3_; clear n0_ n1_ n2_ n3_; clear hb hbox hg; have hcz6_0 : w5.cell? ⟨gb342, 0, none⟩ = some (.string a0_0) := (blk_cell BK342.out 0).trans rfl; have hcz6_1 : w5.cell? ⟨gb342, 1, none⟩ = some (.string a0_1) := (blk_cell BK342.out 1).trans rfl; have hcz6_2 : w5.cell? ⟨gb342, 2, none⟩ = some (.string a0_2) := (blk_cell BK342.out 2).trans rfl; have hfz6_0 := blk_frozen BK342.out 0; have hfz6_1 := blk_frozen BK342.out 1; have hfz6_2 := blk_frozen BK342.out 2))
        go_ret
        exact ⟨by first | rfl | (simp [errW_none, errW_some] <;> rfl) | (simp [*, errW_none, errW_some] <;> rfl), by repeat (first | (with_reducible first | exact HB.out | apply below_alloc | apply pw_below_drewN | apply below_drew1 | refine below_set ?_ GE342.out) | exact HB.out)⟩
      · rw [if_neg c4] at H
        exact absurd H (by simp)
    · rw [if_neg c3] at H
      exact absurd H (by simp)
  · rw [if_neg c2] at H
    have c2b0 : (a0_2.toList == ([] : List UInt8)) = false := beq_eq_false_iff_ne.mpr c2
    have c2b1 : (a0_2.toList != ([] : List UInt8)) = true := bne_iff_ne.mpr c2
    by_cases c7 : a0_0.size + 1 ≤ 9223372036854775807
    · rw [if_pos c7] at H
      have c7b0 := eq_true c7
      have c7b1 : decide (a0_0.size + 1 ≤ 9223372036854775807) = true := decide_eq_true c7
      try have c7b2 : (9223372036854775807 < a0_0.size + 1) = False := eq_false (Nat.not_lt.2 c7)
      by_cases c8 : (a0_0 ++ (⟨#[58]⟩ : ByteArray)).size + a0_1.size ≤ 9223372036854775807
      · rw [if_pos c8] at H
        have c8b0 := eq_true c8
        have c8b1 : decide ((a0_0 ++ (⟨#[58]⟩ : ByteArray)).size + a0_1.size ≤ 9223372036854775807) = true := decide_eq_true c8
        try have c8b2 : (9223372036854775807 < (a0_0 ++ (⟨#[58]⟩ : ByteArray)).size + a0_1.size) = False := eq_false (Nat.not_lt.2 c8)
        try have c8n : a0_0.size + 1 + a0_1.size ≤ 9223372036854775807 := by (have L0_ : (⟨#[58]⟩ : ByteArray).size = 1 := rfl; have Q_ := c8; simp only [ByteArray.size_append, ByteArray.size_extract] at Q_; first | omega | (simp at Q_ ⊢; omega) | (simp at Q_; omega))
        try have c8m : (9223372036854775807 < a0_0.size + 1 + a0_1.size) = False := eq_false (Nat.not_lt.2 c8n)
        by_cases c9 : ((a0_0 ++ (⟨#[58]⟩ : ByteArray)) ++ a0_1).size + 1 ≤ 9223372036854775807
        · rw [if_pos c9] at H
          have c9b0 := eq_true c9
          have c9b1 : decide (((a0_0 ++ (⟨#[58]⟩ : ByteArray)) ++ a0_1).size + 1 ≤ 9223372036854775807) = true := decide_eq_true c9
          try have c9b2 : (9223372036854775807 < ((a0_0 ++ (⟨#[58]⟩ : ByteArray)) ++ a0_1).size + 1) = False := eq_false (Nat.not_lt.2 c9)
          try have c9n : a0_0.size + 1 + a0_1.size + 1 ≤ 9223372036854775807 := by (have L0_ : (⟨#[58]⟩ : ByteArray).size = 1 := rfl; have Q_ := c9; simp only [ByteArray.size_append, ByteArray.size_extract] at Q_; first | omega | (simp at Q_ ⊢; omega) | (simp at Q_; omega))
          try have c9m : (9223372036854775807 < a0_0.size + 1 + a0_1.size + 1) = False := eq_false (Nat.not_lt.2 c9n)
          by_cases c10 : (((a0_0 ++ (⟨#[58]⟩ : ByteArray)) ++ a0_1) ++ (⟨#[35]⟩ : ByteArray)).size + a0_2.size ≤ 9223372036854775807
          · rw [if_pos c10] at H
            have c10b0 := eq_true c10
            have c10b1 : decide ((((a0_0 ++ (⟨#[58]⟩ : ByteArray)) ++ a0_1) ++ (⟨#[35]⟩ : ByteArray)).size + a0_2.size ≤ 9223372036854775807) = true := decide_eq_true c10
            try have c10b2 : (9223372036854775807 < (((a0_0 ++ (⟨#[58]⟩ : ByteArray)) ++ a0_1) ++ (⟨#[35]⟩ : ByteArray)).size + a0_2.size) = False := eq_false (Nat.not_lt.2 c10)
            try have c10n : a0_0.size + 1 + a0_1.size + 1 + a0_2.size ≤ 9223372036854775807 := by (have L0_ : (⟨#[35]⟩ : ByteArray).size = 1 := rfl; have L1_ : (⟨#[58]⟩ : ByteArray).size = 1 := rfl; have Q_ := c10; simp only [ByteArray.size_append, ByteArray.size_extract] at Q_; first | omega | (simp at Q_ ⊢; omega) | (simp at Q_; omega))
            try have c10m : (9223372036854775807 < a0_0.size + 1 + a0_1.size + 1 + a0_2.size) = False := eq_false (Nat.not_lt.2 c10n)
            obtain rfl := Option.some.inj H
            go_enter Tryd.func27, Tryd.ntmps27
            go_wp2_with (first | ((with_reducible refine gate_dst (N := 1) rfl ?_); refine box_event ?hg (N := 1) ?hd (cs := #[.string a0_0, .string a0_1, .string a0_2]) (t := 24) ?hr ?_; (case hd => rfl); (case hg => rfl); (case hr => first | (go_simp; done) | (go_simp; rfl)); intro gb342 hg w11 hbox hb; have n0_ := Aside0.mk (below_step (by repeat (first | (with_reducible first | exact HB.out | apply below_alloc | apply pw_below_drewN | apply below_drew1) | exact HB.out)) hb); have n1_ := Aside0.mk (hbox); have n2_ := Aside0.mk ((by rw [hg]; exact (below_size (by repeat (first | (with_reducible first | exact HB.out | apply below_alloc | apply pw_below_drewN | apply below_drew1) | exact HB.out))) : w.heap.size ≤ gb342)); have n3_ := Aside0.mk ((by rw [hg]; exact (below_size (by repeat (first | (with_reducible first | exact HB.out | apply below_alloc | apply pw_below_drewN | apply below_drew1) | exact HB.out))) : w.heap.size ≤ gb342)); clear HB; have HB := n0_; have BK342 := n1_; have GW342 := n2_; have GE342 := n3_; clear n0_ n1_ n2_ n3_; clear hb hbox hg; have hcz12_0 : w11.cell? ⟨gb342, 0, none⟩ = some (.string a0_0) := (blk_cell BK342.out 0).trans rfl; have hcz12_1 : w11.cell? ⟨gb342, 1, none⟩ = some (.string a0_1) := (blk_cell BK342.out 1).trans rfl; have hcz12_2 : w11.cell? ⟨gb342, 2, none⟩ = some (.string a0_2) := (blk_cell BK342.out 2).trans rfl; have hfz12_0 := blk_frozen BK342.out 0; have hfz12_1 := blk_frozen BK342.out 1; have hfz12_2 := blk_frozen BK342.out 2))
            go_ret
            exact ⟨by first | rfl | (simp [errW_none, errW_some] <;> rfl) | (simp [*, errW_none, errW_some] <;> rfl), by repeat (first | (with_reducible first | exact HB.out | apply below_alloc | apply pw_below_drewN | apply below_drew1 | refine below_set ?_ GE342.out) | exact HB.out)⟩
          · rw [if_neg c10] at H
            exact absurd H (by simp)
        · rw [if_neg c9] at H
          exact absurd H (by simp)
      · rw [if_neg c8] at H
        exact absurd H (by simp)
    · rw [if_neg c7] at H
      exact absurd H (by simp)


/-! ### lunetteref11_Show: function 25 -/
def lunetteref11_Show.f (a0_0 : ByteArray) (a0_1 : ByteArray) (a0_2 : ByteArray) (a0_3 : ByteArray) (a0_4 : ByteArray) (a0_5 : ByteArray) : Option (ByteArray) := if a0_0.size + 1 ≤ 9223372036854775807 then (if (a0_0 ++ (⟨#[58]⟩ : ByteArray)).size + a0_1.size ≤ 9223372036854775807 then (if ((a0_0 ++ (⟨#[58]⟩ : ByteArray)) ++ a0_1).size + 1 ≤ 9223372036854775807 then (if (((a0_0 ++ (⟨#[58]⟩ : ByteArray)) ++ a0_1) ++ (⟨#[35]⟩ : ByteArray)).size + a0_2.size ≤ 9223372036854775807 then (if ((((a0_0 ++ (⟨#[58]⟩ : ByteArray)) ++ a0_1) ++ (⟨#[35]⟩ : ByteArray)) ++ a0_2).size + 1 ≤ 9223372036854775807 then ((lunetteref11_ShowUser.f a0_3 a0_4 a0_5).bind fun t344 => (if (((((a0_0 ++ (⟨#[58]⟩ : ByteArray)) ++ a0_1) ++ (⟨#[35]⟩ : ByteArray)) ++ a0_2) ++ (⟨#[64]⟩ : ByteArray)).size + t344.size ≤ 9223372036854775807 then (some ((((((a0_0 ++ (⟨#[58]⟩ : ByteArray)) ++ a0_1) ++ (⟨#[35]⟩ : ByteArray)) ++ a0_2) ++ (⟨#[64]⟩ : ByteArray)) ++ t344)) else (none))) else (none)) else (none)) else (none)) else (none)) else (none)
def lunetteref11_Show.T1 : Bool × List (List Nat × List Nat) := (true, [([], []), ([0], [0]), ([1], [1]), ([], []), ([3], [3]), ([2, 4], [2, 4]), ([5], [5]), ([], []), ([7], [7]), ([6, 8], [6, 8]), ([9], [9]), ([], []), ([11], [11]), ([12], [12]), ([10, 13], [10, 13]), ([14, 13, 0, 1, 2, 3, 4, 5, 6, 7, 8, 9, 10, 11, 12, 13, 14], [14])])
def lunetteref11_Show.B1 : List Nat := [0, 1, 3, 0, 8, 31, 63, 0, 128, 511, 1023, 0, 2048, 6144, 16383, 32767]
theorem lunetteref11_Show.tab1 : rtab .any (opsOf Tryd.f25 1) = lunetteref11_Show.T1 := by kernel_rfl
theorem lunetteref11_Show.bits1 : waitsOk lunetteref11_Show.T1.2 lunetteref11_Show.B1 = true := by kernel_rfl
set_option maxHeartbeats 8000000 in
set_option maxRecDepth 100000 in
theorem lunetteref11_Show.calls (a0_0 : ByteArray) (a0_1 : ByteArray) (a0_2 : ByteArray) (a0_3 : ByteArray) (a0_4 : ByteArray) (a0_5 : ByteArray) (r : ByteArray) (w : World) (h : lunetteref11_Show.f a0_0 a0_1 a0_2 a0_3 a0_4 a0_5 = some r) :
    Calls Tryd.prog 25 #[.agg #[.string a0_0, .string a0_1, .string a0_2, .string a0_3, .string a0_4, .string a0_5]] w fun e w' => e = .returned (.string r) ∧ Below w.heap.size w w' := by
  have hu26 := Tryd.underlying26
  have hu24 := Tryd.underlying24
  have HB := Aside0.mk (Below.refl w.heap.size w)
  have H : (if a0_0.size + 1 ≤ 9223372036854775807 then (if (a0_0 ++ (⟨#[58]⟩ : ByteArray)).size + a0_1.size ≤ 9223372036854775807 then (if ((a0_0 ++ (⟨#[58]⟩ : ByteArray)) ++ a0_1).size + 1 ≤ 9223372036854775807 then (if (((a0_0 ++ (⟨#[58]⟩ : ByteArray)) ++ a0_1) ++ (⟨#[35]⟩ : ByteArray)).size + a0_2.size ≤ 9223372036854775807 then (if ((((a0_0 ++ (⟨#[58]⟩ : ByteArray)) ++ a0_1) ++ (⟨#[35]⟩ : ByteArray)) ++ a0_2).size + 1 ≤ 9223372036854775807 then ((lunetteref11_ShowUser.f a0_3 a0_4 a0_5).bind fun t344 => (if (((((a0_0 ++ (⟨#[58]⟩ : ByteArray)) ++ a0_1) ++ (⟨#[35]⟩ : ByteArray)) ++ a0_2) ++ (⟨#[64]⟩ : ByteArray)).size + t344.size ≤ 9223372036854775807 then (some ((((((a0_0 ++ (⟨#[58]⟩ : ByteArray)) ++ a0_1) ++ (⟨#[35]⟩ : ByteArray)) ++ a0_2) ++ (⟨#[64]⟩ : ByteArray)) ++ t344)) else (none))) else (none)) else (none)) else (none)) else (none)) else (none)) = some r := h
  clear h
  by_cases c2 : a0_0.size + 1 ≤ 9223372036854775807
  · rw [if_pos c2] at H
    have c2b0 := eq_true c2
    have c2b1 : decide (a0_0.size + 1 ≤ 9223372036854775807) = true := decide_eq_true c2
    try have c2b2 : (9223372036854775807 < a0_0.size + 1) = False := eq_false (Nat.not_lt.2 c2)
    by_cases c3 : (a0_0 ++ (⟨#[58]⟩ : ByteArray)).size + a0_1.size ≤ 9223372036854775807
    · rw [if_pos c3] at H
      have c3b0 := eq_true c3
      have c3b1 : decide ((a0_0 ++ (⟨#[58]⟩ : ByteArray)).size + a0_1.size ≤ 9223372036854775807) = true := decide_eq_true c3
      try have c3b2 : (9223372036854775807 < (a0_0 ++ (⟨#[58]⟩ : ByteArray)).size + a0_1.size) = False := eq_false (Nat.not_lt.2 c3)
      try have c3n : a0_0.size + 1 + a0_1.size ≤ 9223372036854775807 := by (have L0_ : (⟨#[58]⟩ : ByteArray).size = 1 := rfl; have Q_ := c3; simp only [ByteArray.size_append, ByteArray.size_extract] at Q_; first | omega | (simp at Q_ ⊢; omega) | (simp at Q_; omega))
      try have c3m : (9223372036854775807 < a0_0.size + 1 + a0_1.size) = False := eq_false (Nat.not_lt.2 c3n)
      by_cases c4 : ((a0_0 ++ (⟨#[58]⟩ : ByteArray)) ++ a0_1).size + 1 ≤ 9223372036854775807
      · rw [if_pos c4] at H
        have c4b0 := eq_true c4
        have c4b1 : decide (((a0_0 ++ (⟨#[58]⟩ : ByteArray)) ++ a0_1).size + 1 ≤ 9223372036854775807) = true := decide_eq_true c4
        try have c4b2 : (9223372036854775807 < ((a0_0 ++ (⟨#[58]⟩ : ByteArray)) ++ a0_1).size + 1) = False := eq_false (Nat.not_lt.2 c4)
        try have c4n : a0_0.size + 1 + a0_1.size + 1 ≤ 9223372036854775807 := by (have L0_ : (⟨#[58]⟩ : ByteArray).size = 1 := rfl; have Q_ := c4; simp only [ByteArray.size_append, ByteArray.size_extract] at Q_; first | omega | (simp at Q_ ⊢; omega) | (simp at Q_; omega))
        try have c4m : (9223372036854775807 < a0_0.size + 1 + a0_1.size + 1) = False := eq_false (Nat.not_lt.2 c4n)
        by_cases c5 : (((a0_0 ++ (⟨#[58]⟩ : ByteArray)) ++ a0_1) ++ (⟨#[35]⟩ : ByteArray)).size + a0_2.size ≤ 9223372036854775807
        · rw [if_pos c5] at H
          have c5b0 := eq_true c5
          have c5b1 : decide ((((a0_0 ++ (⟨#[58]⟩ : ByteArray)) ++ a0_1) ++ (⟨#[35]⟩ : ByteArray)).size + a0_2.size ≤ 9223372036854775807) = true := decide_eq_true c5
          try have c5b2 : (9223372036854775807 < (((a0_0 ++ (⟨#[58]⟩ : ByteArray)) ++ a0_1) ++ (⟨#[35]⟩ : ByteArray)).size + a0_2.size) = False := eq_false (Nat.not_lt.2 c5)
          try have c5n : a0_0.size + 1 + a0_1.size + 1 + a0_2.size ≤ 9223372036854775807 := by (have L0_ : (⟨#[35]⟩ : ByteArray).size = 1 := rfl; have L1_ : (⟨#[58]⟩ : ByteArray).size = 1 := rfl; have Q_ := c5; simp only [ByteArray.size_append, ByteArray.size_extract] at Q_; first | omega | (simp at Q_ ⊢; omega) | (simp at Q_; omega))
          try have c5m : (9223372036854775807 < a0_0.size + 1 + a0_1.size + 1 + a0_2.size) = False := eq_false (Nat.not_lt.2 c5n)
          by_cases c6 : ((((a0_0 ++ (⟨#[58]⟩ : ByteArray)) ++ a0_1) ++ (⟨#[35]⟩ : ByteArray)) ++ a0_2).size + 1 ≤ 9223372036854775807
          · rw [if_pos c6] at H
            have c6b0 := eq_true c6
            have c6b1 : decide (((((a0_0 ++ (⟨#[58]⟩ : ByteArray)) ++ a0_1) ++ (⟨#[35]⟩ : ByteArray)) ++ a0_2).size + 1 ≤ 9223372036854775807) = true := decide_eq_true c6
            try have c6b2 : (9223372036854775807 < ((((a0_0 ++ (⟨#[58]⟩ : ByteArray)) ++ a0_1) ++ (⟨#[35]⟩ : ByteArray)) ++ a0_2).size + 1) = False := eq_false (Nat.not_lt.2 c6)
            try have c6n : a0_0.size + 1 + a0_1.size + 1 + a0_2.size + 1 ≤ 9223372036854775807 := by (have L0_ : (⟨#[35]⟩ : ByteArray).size = 1 := rfl; have L1_ : (⟨#[58]⟩ : ByteArray).size = 1 := rfl; have Q_ := c6; simp only [ByteArray.size_append, ByteArray.size_extract] at Q_; first | omega | (simp at Q_ ⊢; omega) | (simp at Q_; omega))
            try have c6m : (9223372036854775807 < a0_0.size + 1 + a0_1.size + 1 + a0_2.size + 1) = False := eq_false (Nat.not_lt.2 c6n)
            replace H := Option.bind_eq_some_iff.mp H
            obtain ⟨t344, A70, H⟩ := H
            replace H : (if (((((a0_0 ++ (⟨#[58]⟩ : ByteArray)) ++ a0_1) ++ (⟨#[35]⟩ : ByteArray)) ++ a0_2) ++ (⟨#[64]⟩ : ByteArray)).size + t344.size ≤ 9223372036854775807 then (some ((((((a0_0 ++ (⟨#[58]⟩ : ByteArray)) ++ a0_1) ++ (⟨#[35]⟩ : ByteArray)) ++ a0_2) ++ (⟨#[64]⟩ : ByteArray)) ++ t344)) else (none)) = some r := H
            have A7 := Aside0.mk A70
            clear A70
            by_cases c8 : (((((a0_0 ++ (⟨#[58]⟩ : ByteArray)) ++ a0_1) ++ (⟨#[35]⟩ : ByteArray)) ++ a0_2) ++ (⟨#[64]⟩ : ByteArray)).size + t344.size ≤ 9223372036854775807
            · rw [if_pos c8] at H
              have c8b0 := eq_true c8
              have c8b1 : decide ((((((a0_0 ++ (⟨#[58]⟩ : ByteArray)) ++ a0_1) ++ (⟨#[35]⟩ : ByteArray)) ++ a0_2) ++ (⟨#[64]⟩ : ByteArray)).size + t344.size ≤ 9223372036854775807) = true := decide_eq_true c8
              try have c8b2 : (9223372036854775807 < (((((a0_0 ++ (⟨#[58]⟩ : ByteArray)) ++ a0_1) ++ (⟨#[35]⟩ : ByteArray)) ++ a0_2) ++ (⟨#[64]⟩ : ByteArray)).size + t344.size) = False := eq_false (Nat.not_lt.2 c8)
              try have c8n : a0_0.size + 1 + a0_1.size + 1 + a0_2.size + 1 + t344.size ≤ 9223372036854775807 := by (have L0_ : (⟨#[35]⟩ : ByteArray).size = 1 := rfl; have L1_ : (⟨#[58]⟩ : ByteArray).size = 1 := rfl; have L2_ : (⟨#[64]⟩ : ByteArray).size = 1 := rfl; have Q_ := c8; simp only [ByteArray.size_append, ByteArray.size_extract] at Q_; first | omega | (simp at Q_ ⊢; omega) | (simp at Q_; omega))
              try have c8m : (9223372036854775807 < a0_0.size + 1 + a0_1.size + 1 + a0_2.size + 1 + t344.size) = False := eq_false (Nat.not_lt.2 c8n)
              obtain rfl := Option.some.inj H
              go_enter Tryd.func25, Tryd.ntmps25
              try go_wp2_with (first | ((with_reducible refine gate_dst (N := 1) rfl ?_); refine box_event ?hg (N := 1) ?hd (cs := #[.string a0_0, .string a0_1, .string a0_2, .string a0_3, .string a0_4, .string a0_5]) (t := 26) ?hr ?_; (case hd => rfl); (case hg => rfl); (case hr => first | (go_simp; done) | (go_simp; rfl)); intro gb343 hg w9 hbox hb; have n0_ := Aside0.mk (below_step (by repeat (first | (with_reducible first | exact HB.out | apply below_alloc | apply pw_below_drewN | apply below_drew1) | exact HB.out)) hb); have n1_ := Aside0.mk (hbox); have n2_ := Aside0.mk ((by rw [hg]; exact (below_size (by repeat (first | (with_reducible first | exact HB.out | apply below_alloc | apply pw_below_drewN | apply below_drew1) | exact HB.out))) : w.heap.size ≤ gb343)); have n3_ := Aside0.mk ((by rw [hg]; exact (below_size (by repeat (first | (with_reducible first | exact HB.out | apply below_alloc | apply pw_below_drewN | apply below_drew1) | exact HB.out))) : w.heap.size ≤ gb343)); clear HB; have HB := n0_; have BK343 := n1_; have GW343 := n2_; have GE343 := n3_; clear n0_ n1_ n2_ n3_; clear hb hbox hg))
              have n0_ := Aside0.mk (blk_drew BK343.out)
              have n1_ := Aside0.mk (below_drew1 HB.out)
              clear BK343
              clear HB
              have BK343 := n0_
              have HB := n1_
              clear n0_ n1_
              refine start_ (n := 16) (S := fun w' => w'.cell? ⟨gb343, 0, none⟩ = some (.string a0_0) ∧ w'.cell? ⟨gb343, 1, none⟩ = some (.string a0_1) ∧ w'.cell? ⟨gb343, 2, none⟩ = some (.string a0_2) ∧ w'.cell? ⟨gb343, 3, none⟩ = some (.string a0_3) ∧ w'.cell? ⟨gb343, 4, none⟩ = some (.string a0_4) ∧ w'.cell? ⟨gb343, 5, none⟩ = some (.string a0_5)) (ds := []) #[false, false, false, false, false, false, false, false, false, false, false, false, false, false, false, false] (by kernel_rfl) rfl rfl ⟨(blk_cell BK343.out 0).trans rfl, (blk_cell BK343.out 1).trans rfl, (blk_cell BK343.out 2).trans rfl, (blk_cell BK343.out 3).trans rfl, (blk_cell BK343.out 4).trans rfl, (blk_cell BK343.out 5).trans rfl⟩ (fun hHeld => ?_); refine with_tabW lunetteref11_Show.tab1 lunetteref11_Show.bits1 (fun HT_ HW_ => ?_)
              generalize w9.drew = w10 at BK343 HB hHeld ⊢
              refine pure_ (i := 0) (N := some 3) (v := ?_) (a' := ?_) #[true, false, false, false, false, false, false, false, false, false, false, false, false, false, false, false] rfl rfl (any_of HT_.out (by kernel_rfl)) (fun _ _ _ h => h) (Or.inl ⟨by rfl, ?_⟩) ?_ ?_
              rotate_left
              · intro w'
                go_simp
                with_reducible rfl
              rotate_left
              · simp only [Act.put, List.setIfInBounds_toArray, List.set_cons_zero, List.set_cons_succ, i64_w, i32_w]
                rfl
              refine pure_ (i := 3) (N := some 6) (v := ?_) (a' := ?_) #[true, false, false, true, false, false, false, false, false, false, false, false, false, false, false, false] rfl rfl (any_of HT_.out (by kernel_rfl)) (fun _ _ _ h => h) (Or.inl ⟨by rfl, ?_⟩) ?_ ?_
              rotate_left
              · intro w'
                go_simp
                with_reducible rfl
              rotate_left
              · simp only [Act.put, List.setIfInBounds_toArray, List.set_cons_zero, List.set_cons_succ, i64_w, i32_w]
                rfl
              refine pure_ (i := 7) (N := some 10) (v := ?_) (a' := ?_) #[true, false, false, true, false, false, false, true, false, false, false, false, false, false, false, false] rfl rfl (any_of HT_.out (by kernel_rfl)) (fun _ _ _ h => h) (Or.inl ⟨by rfl, ?_⟩) ?_ ?_
              rotate_left
              · intro w'
                go_simp
                with_reducible rfl
              rotate_left
              · simp only [Act.put, List.setIfInBounds_toArray, List.set_cons_zero, List.set_cons_succ, i64_w, i32_w]
                rfl
              refine pure_ (i := 11) (N := some 14) (v := ?_) (a' := ?_) #[true, false, false, true, false, false, false, true, false, false, false, true, false, false, false, false] rfl rfl (any_of HT_.out (by kernel_rfl)) (fun _ _ _ h => h) (Or.inl ⟨by rfl, ?_⟩) ?_ ?_
              rotate_left
              · intro w'
                go_simp
                with_reducible rfl
              rotate_left
              · simp only [Act.put, List.setIfInBounds_toArray, List.set_cons_zero, List.set_cons_succ, i64_w, i32_w]
                rfl
              refine take_ (i := 1) (N := some 4) (v := ?_) (a' := ?_) #[true, true, false, true, false, false, false, true, false, false, false, true, false, false, false, false] rfl rfl (take_ofW HT_.out HW_.out (by kernel_rfl)) (fun _ _ _ h => h) (Or.inl ⟨by rfl, ?_⟩) hHeld ?_ ?_
              rotate_left
              · rintro w' ⟨s0, s1, s2, s3, s4, s5⟩
                go_simp
                with_reducible rfl
              rotate_left
              · simp only [Act.put, List.setIfInBounds_toArray, List.set_cons_zero, List.set_cons_succ, i64_w, i32_w]
                rfl
              refine pure_ (i := 2) (N := some 5) (v := ?_) (a' := ?_) #[true, true, true, true, false, false, false, true, false, false, false, true, false, false, false, false] rfl rfl (any_of HT_.out (by kernel_rfl)) (fun _ _ _ h => h) (Or.inl ⟨by rfl, ?_⟩) ?_ ?_
              rotate_left
              · intro w'
                go_simp
                with_reducible rfl
              rotate_left
              · simp only [Act.put, List.setIfInBounds_toArray, List.set_cons_zero, List.set_cons_succ, i64_w, i32_w]
                rfl
              refine take_ (i := 4) (N := some 7) (v := ?_) (a' := ?_) #[true, true, true, true, true, false, false, true, false, false, false, true, false, false, false, false] rfl rfl (take_ofW HT_.out HW_.out (by kernel_rfl)) (fun _ _ _ h => h) (Or.inl ⟨by rfl, ?_⟩) hHeld ?_ ?_
              rotate_left
              · rintro w' ⟨s0, s1, s2, s3, s4, s5⟩
                go_simp
                with_reducible rfl
              rotate_left
              · simp only [Act.put, List.setIfInBounds_toArray, List.set_cons_zero, List.set_cons_succ, i64_w, i32_w]
                rfl
              refine pure_ (i := 5) (N := some 8) (v := ?_) (a' := ?_) #[true, true, true, true, true, true, false, true, false, false, false, true, false, false, false, false] rfl rfl (any_of HT_.out (by kernel_rfl)) (fun _ _ _ h => h) (Or.inl ⟨by rfl, ?_⟩) ?_ ?_
              rotate_left
              · intro w'
                go_simp
                with_reducible rfl
              rotate_left
              · simp only [Act.put, List.setIfInBounds_toArray, List.set_cons_zero, List.set_cons_succ, i64_w, i32_w]
                rfl
              refine pure_ (i := 6) (N := some 9) (v := ?_) (a' := ?_) #[true, true, true, true, true, true, true, true, false, false, false, true, false, false, false, false] rfl rfl (any_of HT_.out (by kernel_rfl)) (fun _ _ _ h => h) (Or.inl ⟨by rfl, ?_⟩) ?_ ?_
              rotate_left
              · intro w'
                go_simp
                with_reducible rfl
              rotate_left
              · simp only [Act.put, List.setIfInBounds_toArray, List.set_cons_zero, List.set_cons_succ, i64_w, i32_w]
                rfl
              refine take_ (i := 8) (N := some 11) (v := ?_) (a' := ?_) #[true, true, true, true, true, true, true, true, true, false, false, true, false, false, false, false] rfl rfl (take_ofW HT_.out HW_.out (by kernel_rfl)) (fun _ _ _ h => h) (Or.inl ⟨by rfl, ?_⟩) hHeld ?_ ?_
              rotate_left
              · rintro w' ⟨s0, s1, s2, s3, s4, s5⟩
                go_simp
                with_reducible rfl
              rotate_left
              · simp only [Act.put, List.setIfInBounds_toArray, List.set_cons_zero, List.set_cons_succ, i64_w, i32_w]
                rfl
              refine pure_ (i := 9) (N := some 12) (v := ?_) (a' := ?_) #[true, true, true, true, true, true, true, true, true, true, false, true, false, false, false, false] rfl rfl (any_of HT_.out (by kernel_rfl)) (fun _ _ _ h => h) (Or.inl ⟨by rfl, ?_⟩) ?_ ?_
              rotate_left
              · intro w'
                go_simp
                with_reducible rfl
              rotate_left
              · simp only [Act.put, List.setIfInBounds_toArray, List.set_cons_zero, List.set_cons_succ, i64_w, i32_w]
                rfl
              refine pure_ (i := 10) (N := some 13) (v := ?_) (a' := ?_) #[true, true, true, true, true, true, true, true, true, true, true, true, false, false, false, false] rfl rfl (any_of HT_.out (by kernel_rfl)) (fun _ _ _ h => h) (Or.inl ⟨by rfl, ?_⟩) ?_ ?_
              rotate_left
              · intro w'
                go_simp
                with_reducible rfl
              rotate_left
              · simp only [Act.put, List.setIfInBounds_toArray, List.set_cons_zero, List.set_cons_succ, i64_w, i32_w]
                rfl
              refine take_ (i := 12) (N := some 15) (v := ?_) (a' := ?_) #[true, true, true, true, true, true, true, true, true, true, true, true, true, false, false, false] rfl rfl (take_ofW HT_.out HW_.out (by kernel_rfl)) (fun _ _ _ h => h) (Or.inl ⟨by rfl, ?_⟩) hHeld ?_ ?_
              rotate_left
              · rintro w' ⟨s0, s1, s2, s3, s4, s5⟩
                go_simp
                with_reducible rfl
              rotate_left
              · simp only [Act.put, List.setIfInBounds_toArray, List.set_cons_zero, List.set_cons_succ, i64_w, i32_w]
                rfl
              refine one_ (i := 13) (N := some 16) #[true, true, true, true, true, true, true, true, true, true, true, true, true, true, false, false] rfl rfl (one_of HT_.out (by kernel_rfl)) (by decide) (fun K hK => ?_)
              refine goes_ Tryd.func27 (by kernel_rfl) rfl #[.agg #[.string a0_3, .string a0_4, .string a0_5]] (by rfl) rfl rfl (by (try simp only [List.map_toArray, List.map_cons, List.map_nil]); first | done | rfl | (simp only [List.length_drop, List.length_take]; rfl)) ?_
              with_reducible refine (lunetteref11_ShowUser.calls a0_3 a0_4 a0_5 t344 _ A7.out).mono ?_
              rintro e w11 ⟨rfl, hb⟩
              refine ⟨_, rfl, ?_⟩
              have n0_ := Aside0.mk (blk_below (g := gb343) (o := .cells #[.string a0_0, .string a0_1, .string a0_2, .string a0_3, .string a0_4, .string a0_5] 26 (0, 0)) (by (with_reducible repeat (first | refine blk_drewN ?_ _ | refine blk_drew ?_ | refine blk_alloc ?_ _)); exact BK343.out) hb)
              have n1_ := Aside0.mk (below_step (by repeat (first | (with_reducible first | exact HB.out | apply below_alloc | apply pw_below_drewN | apply below_drew1 | refine below_set ?_ GE343.out) | exact HB.out)) hb)
              clear BK343
              clear HB
              have BK343 := n0_
              have HB := n1_
              clear n0_ n1_
              (try clear hb)
              (try clear hb2)
              (try clear hk)
              (try clear hi)
              refine hK.out _ _ ⟨(blk_cell BK343.out 0).trans rfl, (blk_cell BK343.out 1).trans rfl, (blk_cell BK343.out 2).trans rfl, (blk_cell BK343.out 3).trans rfl, (blk_cell BK343.out 4).trans rfl, (blk_cell BK343.out 5).trans rfl⟩ (fun hHeld => ?_)
              clear hK K
              refine norm_ (a' := ?_) ?_ ?_
              rotate_left
              · show Act.put _ (some 16) _ = _
                simp only [Act.put, List.setIfInBounds_toArray, List.set_cons_zero, List.set_cons_succ, i64_w, i32_w]
                rfl
              refine pure_ (i := 14) (N := some 17) (v := ?_) (a' := ?_) #[true, true, true, true, true, true, true, true, true, true, true, true, true, true, true, false] rfl rfl (any_of HT_.out (by kernel_rfl)) (fun _ _ _ h => h) (Or.inl ⟨by rfl, ?_⟩) ?_ ?_
              rotate_left
              · intro w'
                go_simp
                with_reducible rfl
              rotate_left
              · simp only [Act.put, List.setIfInBounds_toArray, List.set_cons_zero, List.set_cons_succ, i64_w, i32_w]
                rfl
              refine pure_ (i := 15) (N := some 2) (v := ?_) (a' := ?_) #[true, true, true, true, true, true, true, true, true, true, true, true, true, true, true, true] rfl rfl (any_of HT_.out (by kernel_rfl)) (fun _ _ _ h => h) (Or.inl ⟨by rfl, ?_⟩) ?_ ?_
              rotate_left
              · intro w'
                go_simp
                with_reducible rfl
              rotate_left
              · simp only [Act.put, List.setIfInBounds_toArray, List.set_cons_zero, List.set_cons_succ, i64_w, i32_w]
                rfl
              refine done_ (done_of HT_.out (by kernel_rfl)) ?_
              try go_wp2
              go_ret
              exact ⟨by first | rfl | (simp [errW_none, errW_some] <;> rfl) | (simp [*, errW_none, errW_some] <;> rfl), by repeat (first | (with_reducible first | exact HB.out | apply below_alloc | apply pw_below_drewN | apply below_drew1 | refine below_set ?_ GE343.out) | exact HB.out)⟩
            · rw [if_neg c8] at H
              exact absurd H (by simp)
          · rw [if_neg c6] at H
            exact absurd H (by simp)
        · rw [if_neg c5] at H
          exact absurd H (by simp)
      · rw [if_neg c4] at H
        exact absurd H (by simp)
    · rw [if_neg c3] at H
      exact absurd H (by simp)
  · rw [if_neg c2] at H
    exact absurd H (by simp)
end Go.Proofs.YtggcipjdhhnnkaaDoor.K
