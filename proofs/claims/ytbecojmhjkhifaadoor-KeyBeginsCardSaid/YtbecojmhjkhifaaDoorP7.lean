-- Written by a program of this session (wip/pp.py over the kit's print.py). Lean checks it.
import Derived.Test.YtbecojmhjkhifaaDoorP0
namespace Go.Proofs.YtbecojmhjkhifaaDoor.K
open Go.RowKit Go.Proofs.YtbecojmhjkhifaaDoorW.PrintWords Go.Proofs.YtbecojmhjkhifaaDoorW.PrintLast Go.Proofs.YtbecojmhjkhifaaDoorW.PrintMore
attribute [local go_sem] max2_int min2_int max_two min_two max_three min_three max_four min_four   -- for this text's walks alone
set_option linter.unusedVariables false
set_option linter.unusedSimpArgs false

/-! ### lunetteref01_Put: function 17 -/
mutual
def lunetteref01_Put.l0 : Nat → List ByteArray → ByteArray → Int → Option (ByteArray)
  | 0, _, _, _ => none
  | k + 1, x0, x3, x4 => if x4 < (x0.length : Int) then (lunetteref01_Put.l1 k x0 x3 x4 0) else (some x3)
def lunetteref01_Put.l1 : Nat → List ByteArray → ByteArray → Int → Int → Option (ByteArray)
  | 0, _, _, _, _ => none
  | k + 1, x0, x3, x4, x5 => if 0 ≤ x4 then (if x4 < (x0.length : Int) then (if x5 < ((rdOf ByteArray.empty x0 x4).size : Int) then (if 0 ≤ x5 then (if x5 ≤ (wrap64 (x5 + 1)) then (if (wrap64 (x5 + 1)) ≤ ((rdOf ByteArray.empty x0 x4).size : Int) then (if x3.size + ((rdOf ByteArray.empty x0 x4).extract (x5 : Int).toNat ((wrap64 (x5 + 1)) : Int).toNat).size ≤ 9223372036854775807 then (if (bt (rdOf ByteArray.empty x0 x4) x5) = 0 then (if (x3 ++ ((rdOf ByteArray.empty x0 x4).extract (x5 : Int).toNat ((wrap64 (x5 + 1)) : Int).toNat)).size + 1 ≤ 9223372036854775807 then (lunetteref01_Put.l1 k x0 ((x3 ++ ((rdOf ByteArray.empty x0 x4).extract (x5 : Int).toNat ((wrap64 (x5 + 1)) : Int).toNat)) ++ (⟨#[255]⟩ : ByteArray)) x4 (wrap64 (x5 + 1))) else (none)) else (lunetteref01_Put.l1 k x0 (x3 ++ ((rdOf ByteArray.empty x0 x4).extract (x5 : Int).toNat ((wrap64 (x5 + 1)) : Int).toNat)) x4 (wrap64 (x5 + 1)))) else (none)) else (none)) else (none)) else (none)) else (if x3.size + 2 ≤ 9223372036854775807 then (lunetteref01_Put.l0 k x0 (x3 ++ (⟨#[0, 0]⟩ : ByteArray)) (wrap64 (x4 + 1))) else (none))) else (none)) else (none)
end
def lunetteref01_Put.f (k : Nat) (l0 : List ByteArray) : Option (ByteArray) := lunetteref01_Put.l0 k l0 (⟨#[]⟩ : ByteArray) 0
theorem lunetteref01_Put.mono_l : ∀ k, (∀ y0 y1 y2, LeO (lunetteref01_Put.l0 k y0 y1 y2) (lunetteref01_Put.l0 (k + 1) y0 y1 y2)) ∧ (∀ y0 y1 y2 y3, LeO (lunetteref01_Put.l1 k y0 y1 y2 y3) (lunetteref01_Put.l1 (k + 1) y0 y1 y2 y3))
  | 0 => ⟨fun _ _ _ r h => by simp [lunetteref01_Put.l0] at h, fun _ _ _ _ r h => by simp [lunetteref01_Put.l1] at h⟩
  | k + 1 => by
    obtain ⟨ih0, ih1⟩ := lunetteref01_Put.mono_l k
    refine ⟨?_, ?_⟩
    · intro y0 y1 y2
      unfold lunetteref01_Put.l0
      repeat' first
      | (with_reducible exact ih0 _ _ _)
      | (with_reducible exact ih1 _ _ _ _)
      | (with_reducible exact LeO.refl _)
      | (with_reducible exact LeO.none _)
      | (with_reducible refine LeO.ite ?_ ?_)
      | (with_reducible refine LeO.bind ?_ (fun _ => ?_))
      | exact ih0 _ _ _
      | exact ih1 _ _ _ _
      | exact LeO.none _
      | refine LeO.ite ?_ ?_
      | refine LeO.bind ?_ (fun _ => ?_)
    · intro y0 y1 y2 y3
      unfold lunetteref01_Put.l1
      repeat' first
      | (with_reducible exact ih0 _ _ _)
      | (with_reducible exact ih1 _ _ _ _)
      | (with_reducible exact LeO.refl _)
      | (with_reducible exact LeO.none _)
      | (with_reducible refine LeO.ite ?_ ?_)
      | (with_reducible refine LeO.bind ?_ (fun _ => ?_))
      | exact ih0 _ _ _
      | exact ih1 _ _ _ _
      | exact LeO.none _
      | refine LeO.ite ?_ ?_
      | refine LeO.bind ?_ (fun _ => ?_)
theorem lunetteref01_Put.mono : ∀ a0 k, LeO (lunetteref01_Put.f k a0) (lunetteref01_Put.f (k + 1) a0) := by
  intro a0 k
  obtain ⟨ih0, ih1⟩ := lunetteref01_Put.mono_l k
  unfold lunetteref01_Put.f
  repeat' first
      | (with_reducible exact ih0 _ _ _)
      | (with_reducible exact ih1 _ _ _ _)
      | (with_reducible exact LeO.refl _)
      | (with_reducible exact LeO.none _)
      | (with_reducible refine LeO.ite ?_ ?_)
      | (with_reducible refine LeO.bind ?_ (fun _ => ?_))
      | exact ih0 _ _ _
      | exact ih1 _ _ _ _
      | exact LeO.none _
      | refine LeO.ite ?_ ?_
      | refine LeO.bind ?_ (fun _ => ?_)
set_option maxHeartbeats 8000000 in
set_option maxRecDepth 100000 in
theorem lunetteref01_Put.calls (k : Nat) (A0 : Option Addr) (c0 : Nat) (l0 : List ByteArray) (r : ByteArray) (w : World) (hr0 : Kd.C Kd.string w A0 l0.length l0) (hc0 : l0.length ≤ c0) (h : lunetteref01_Put.f k l0 = some r) :
    Calls Tryd.prog 17 #[.slice A0 l0.length c0] w fun e w' => e = .returned (.string r) ∧ Drawn0 w w' := by
  have HR0 := Aside0.mk hr0
  have HC0 := Aside0.mk hc0
  clear hr0 hc0
  have H : (lunetteref01_Put.l0 k l0 (⟨#[]⟩ : ByteArray) 0) = some r := h
  clear h
  have H' := Aside0.mk H
  clear H
  go_enter Tryd.func17, Tryd.ntmps17
  go_wp2
  go_loopg [3, 4] k (fun kq v3 v4 w' => ∃ (x3_1 : ByteArray) (x4_1 : Int), v3 = .string x3_1 ∧ v4 = .int .i64 x4_1 ∧ Aside0 (lunetteref01_Put.l0 kq l0 x3_1 x4_1 = some r) ∧ Aside0 (kq ≤ k) ∧ Drawn0 w w')
  case atStart => exact ⟨((⟨#[]⟩ : ByteArray)), (0), (by first | rfl | (simp; done) | (simp [*]; done)), (by first | rfl | (simp; done) | (simp [*]; done)), H', ⟨Nat.le_refl _⟩, by repeat (first | exact Drawn0.refl _ | apply Drawn0.step)⟩
  case round =>
    clear H'
    try clear c1
    obtain ⟨x3_1, x4_1, rfl, rfl, HA, HK1, ⟨m1, rfl⟩⟩ := hrel
    cases gk with
    | zero => exact absurd HA.out (by simp [lunetteref01_Put.l0])
    | succ k1 =>
      have H := HA.out
      clear HA
      simp only [lunetteref01_Put.l0] at H
      by_cases c2 : x4_1 < (l0.length : Int)
      · rw [if_pos c2] at H
        have c2b0 : decide (x4_1 < (l0.length : Int)) = true := decide_eq_true c2
        clear c2
        have H' := Aside0.mk H
        clear H
        go_wp2
        go_loopg [3, 5] k1 (fun kq v3 v5 w' => ∃ (x3_2 : ByteArray) (x5_2 : Int), v3 = .string x3_2 ∧ v5 = .int .i64 x5_2 ∧ Aside0 (lunetteref01_Put.l1 kq l0 x3_2 x4_1 x5_2 = some r) ∧ Aside0 (kq ≤ k1) ∧ Drawn0 w w')
        case atStart => exact ⟨(x3_1), (0), (by first | rfl | (simp; done) | (simp [*]; done)), (by first | rfl | (simp; done) | (simp [*]; done)), H', ⟨Nat.le_refl _⟩, by repeat (first | exact Drawn0.refl _ | apply Drawn0.step)⟩
        case round =>
          clear H'
          try clear c1
          try clear c2
          try clear c2b0
          try clear p2
          obtain ⟨x3_2, x5_2, rfl, rfl, HA, HK2, ⟨m2, rfl⟩⟩ := hrel
          cases gk with
          | zero => exact absurd HA.out (by simp [lunetteref01_Put.l1])
          | succ k2 =>
            have H := HA.out
            clear HA
            simp only [lunetteref01_Put.l1] at H
            by_cases c3 : 0 ≤ x4_1
            · rw [if_pos c3] at H
              have c3b0 : decide (0 ≤ x4_1) = true := decide_eq_true c3
              clear c3
              by_cases c4 : x4_1 < (l0.length : Int)
              · rw [if_pos c4] at H
                have c4b0 : decide (x4_1 < (l0.length : Int)) = true := decide_eq_true c4
                clear c4
                by_cases c5 : x5_2 < ((rdOf ByteArray.empty l0 x4_1).size : Int)
                · rw [if_pos c5] at H
                  have c5b0 : decide (x5_2 < ((rdOf ByteArray.empty l0 x4_1).size : Int)) = true := decide_eq_true c5
                  clear c5
                  by_cases c6 : 0 ≤ x5_2
                  · rw [if_pos c6] at H
                    have c6b0 := eq_true c6
                    have c6b1 : decide (0 ≤ x5_2) = true := decide_eq_true c6
                    clear c6
                    by_cases c7 : x5_2 ≤ (wrap64 (x5_2 + 1))
                    · rw [if_pos c7] at H
                      have c7b0 := eq_true c7
                      have c7b1 : decide (x5_2 ≤ (wrap64 (x5_2 + 1))) = true := decide_eq_true c7
                      by_cases c8 : (wrap64 (x5_2 + 1)) ≤ ((rdOf ByteArray.empty l0 x4_1).size : Int)
                      · rw [if_pos c8] at H
                        have c8b0 := eq_true c8
                        have c8b1 : decide ((wrap64 (x5_2 + 1)) ≤ ((rdOf ByteArray.empty l0 x4_1).size : Int)) = true := decide_eq_true c8
                        by_cases c9 : x3_2.size + ((rdOf ByteArray.empty l0 x4_1).extract (x5_2 : Int).toNat ((wrap64 (x5_2 + 1)) : Int).toNat).size ≤ 9223372036854775807
                        · rw [if_pos c9] at H
                          have c9b0 := eq_true c9
                          have c9b1 : decide (x3_2.size + ((rdOf ByteArray.empty l0 x4_1).extract (x5_2 : Int).toNat ((wrap64 (x5_2 + 1)) : Int).toNat).size ≤ 9223372036854775807) = true := decide_eq_true c9
                          try have c9b2 : (9223372036854775807 < x3_2.size + ((rdOf ByteArray.empty l0 x4_1).extract (x5_2 : Int).toNat ((wrap64 (x5_2 + 1)) : Int).toNat).size) = False := eq_false (Nat.not_lt.2 c9)
                          try have c9n : x3_2.size + ((wrap64 (x5_2 + 1)).toNat - x5_2.toNat) ≤ 9223372036854775807 := by (have Q_ := c9; simp only [ByteArray.size_append, ByteArray.size_extract] at Q_; first | omega | (simp at Q_ ⊢; omega))
                          try have c9m : (9223372036854775807 < x3_2.size + ((wrap64 (x5_2 + 1)).toNat - x5_2.toNat)) = False := eq_false (Nat.not_lt.2 c9n)
                          by_cases c11 : (bt (rdOf ByteArray.empty l0 x4_1) x5_2) = 0
                          · rw [if_pos c11] at H
                            have c11b0 : ((bt (rdOf ByteArray.empty l0 x4_1) x5_2) == 0) = true := beq_iff_eq.mpr c11
                            have c11b1 : ((bt (rdOf ByteArray.empty l0 x4_1) x5_2) != 0) = false := bne_eq_false_iff_eq.mpr c11
                            clear c11
                            by_cases c12 : (x3_2 ++ ((rdOf ByteArray.empty l0 x4_1).extract (x5_2 : Int).toNat ((wrap64 (x5_2 + 1)) : Int).toNat)).size + 1 ≤ 9223372036854775807
                            · rw [if_pos c12] at H
                              have c12b0 := eq_true c12
                              have c12b1 : decide ((x3_2 ++ ((rdOf ByteArray.empty l0 x4_1).extract (x5_2 : Int).toNat ((wrap64 (x5_2 + 1)) : Int).toNat)).size + 1 ≤ 9223372036854775807) = true := decide_eq_true c12
                              try have c12b2 : (9223372036854775807 < (x3_2 ++ ((rdOf ByteArray.empty l0 x4_1).extract (x5_2 : Int).toNat ((wrap64 (x5_2 + 1)) : Int).toNat)).size + 1) = False := eq_false (Nat.not_lt.2 c12)
                              try have c12n : x3_2.size + ((wrap64 (x5_2 + 1)).toNat - x5_2.toNat) + 1 ≤ 9223372036854775807 := by (have Q_ := c12; simp only [ByteArray.size_append, ByteArray.size_extract] at Q_; first | omega | (simp at Q_ ⊢; omega))
                              try have c12m : (9223372036854775807 < x3_2.size + ((wrap64 (x5_2 + 1)).toNat - x5_2.toNat) + 1) = False := eq_false (Nat.not_lt.2 c12n)
                              have H' := Aside0.mk H
                              clear H
                              have p132 : 0 ≤ (x4_1 : Int) := of_decide_eq_true (by first | (with_reducible assumption) | assumption)
                              have q132 : x4_1 < (l0.length : Int) := of_decide_eq_true (by first | (with_reducible assumption) | assumption)
                              obtain ⟨ad132, e132, hx132_0⟩ := Kd.at_string HR0.out x4_1 p132 q132
                              cases e132
                              replace p132 := eq_true p132
                              replace q132 := eq_true q132
                              have p133 : 0 ≤ (x4_1 : Int) := of_decide_eq_true (by first | (with_reducible assumption) | assumption)
                              have q133 : x4_1 < (l0.length : Int) := of_decide_eq_true (by first | (with_reducible assumption) | assumption)
                              obtain ⟨ad133, e133, hx133_0⟩ := Kd.at_string HR0.out x4_1 p133 q133
                              obtain rfl : ad132 = ad133 := (by injection e133)
                              replace p133 := eq_true p133
                              replace q133 := eq_true q133
                              have p134 : 0 ≤ (x4_1 : Int) := of_decide_eq_true (by first | (with_reducible assumption) | assumption)
                              have q134 : x4_1 < (l0.length : Int) := of_decide_eq_true (by first | (with_reducible assumption) | assumption)
                              obtain ⟨ad134, e134, hx134_0⟩ := Kd.at_string HR0.out x4_1 p134 q134
                              obtain rfl : ad132 = ad134 := (by injection e134)
                              replace p134 := eq_true p134
                              replace q134 := eq_true q134
                              have p10 : 0 ≤ (x5_2 : Int) := of_decide_eq_true (by first | (with_reducible assumption) | assumption)
                              have q10 : x5_2 < ((rdOf ByteArray.empty l0 x4_1).size : Int) := of_decide_eq_true (by first | (with_reducible assumption) | assumption)
                              have hx10 := bt_at (rdOf ByteArray.empty l0 x4_1) x5_2
                              replace p10 := eq_true p10
                              replace q10 := eq_true q10
                              go_wp2
                              go_roundg k2
                              case measure => have := HK1.out; have := HK2.out; omega
                              case rel => exact ⟨((x3_2 ++ ((rdOf ByteArray.empty l0 x4_1).extract (x5_2 : Int).toNat ((wrap64 (x5_2 + 1)) : Int).toNat)) ++ (⟨#[255]⟩ : ByteArray)), (wrap64 (x5_2 + 1)), (by first | rfl | (simp; done) | (simp [*]; done)), (by first | rfl | (simp; done) | (simp [*]; done)), H', ⟨by have := HK1.out; have := HK2.out; omega⟩, by repeat (first | exact Drawn0.refl _ | apply Drawn0.step)⟩
                            · rw [if_neg c12] at H
                              exact absurd H (by simp)
                          · rw [if_neg c11] at H
                            have c11b0 : ((bt (rdOf ByteArray.empty l0 x4_1) x5_2) == 0) = false := beq_eq_false_iff_ne.mpr c11
                            have c11b1 : ((bt (rdOf ByteArray.empty l0 x4_1) x5_2) != 0) = true := bne_iff_ne.mpr c11
                            have H' := Aside0.mk H
                            clear H
                            have p132 : 0 ≤ (x4_1 : Int) := of_decide_eq_true (by first | (with_reducible assumption) | assumption)
                            have q132 : x4_1 < (l0.length : Int) := of_decide_eq_true (by first | (with_reducible assumption) | assumption)
                            obtain ⟨ad132, e132, hx132_0⟩ := Kd.at_string HR0.out x4_1 p132 q132
                            cases e132
                            replace p132 := eq_true p132
                            replace q132 := eq_true q132
                            have p133 : 0 ≤ (x4_1 : Int) := of_decide_eq_true (by first | (with_reducible assumption) | assumption)
                            have q133 : x4_1 < (l0.length : Int) := of_decide_eq_true (by first | (with_reducible assumption) | assumption)
                            obtain ⟨ad133, e133, hx133_0⟩ := Kd.at_string HR0.out x4_1 p133 q133
                            obtain rfl : ad132 = ad133 := (by injection e133)
                            replace p133 := eq_true p133
                            replace q133 := eq_true q133
                            have p134 : 0 ≤ (x4_1 : Int) := of_decide_eq_true (by first | (with_reducible assumption) | assumption)
                            have q134 : x4_1 < (l0.length : Int) := of_decide_eq_true (by first | (with_reducible assumption) | assumption)
                            obtain ⟨ad134, e134, hx134_0⟩ := Kd.at_string HR0.out x4_1 p134 q134
                            obtain rfl : ad132 = ad134 := (by injection e134)
                            replace p134 := eq_true p134
                            replace q134 := eq_true q134
                            have p10 : 0 ≤ (x5_2 : Int) := of_decide_eq_true (by first | (with_reducible assumption) | assumption)
                            have q10 : x5_2 < ((rdOf ByteArray.empty l0 x4_1).size : Int) := of_decide_eq_true (by first | (with_reducible assumption) | assumption)
                            have hx10 := bt_at (rdOf ByteArray.empty l0 x4_1) x5_2
                            replace p10 := eq_true p10
                            replace q10 := eq_true q10
                            go_wp2
                            go_roundg k2
                            case measure => have := HK1.out; have := HK2.out; omega
                            case rel => exact ⟨(x3_2 ++ ((rdOf ByteArray.empty l0 x4_1).extract (x5_2 : Int).toNat ((wrap64 (x5_2 + 1)) : Int).toNat)), (wrap64 (x5_2 + 1)), (by first | rfl | (simp; done) | (simp [*]; done)), (by first | rfl | (simp; done) | (simp [*]; done)), H', ⟨by have := HK1.out; have := HK2.out; omega⟩, by repeat (first | exact Drawn0.refl _ | apply Drawn0.step)⟩
                        · rw [if_neg c9] at H
                          exact absurd H (by simp)
                      · rw [if_neg c8] at H
                        exact absurd H (by simp)
                    · rw [if_neg c7] at H
                      exact absurd H (by simp)
                  · rw [if_neg c6] at H
                    exact absurd H (by simp)
                · rw [if_neg c5] at H
                  have c5b0 : decide (x5_2 < ((rdOf ByteArray.empty l0 x4_1).size : Int)) = false := decide_eq_false c5
                  clear c5
                  by_cases c13 : x3_2.size + 2 ≤ 9223372036854775807
                  · rw [if_pos c13] at H
                    have c13b0 := eq_true c13
                    have c13b1 : decide (x3_2.size + 2 ≤ 9223372036854775807) = true := decide_eq_true c13
                    try have c13b2 : (9223372036854775807 < x3_2.size + 2) = False := eq_false (Nat.not_lt.2 c13)
                    have H' := Aside0.mk H
                    clear H
                    have p132 : 0 ≤ (x4_1 : Int) := of_decide_eq_true (by first | (with_reducible assumption) | assumption)
                    have q132 : x4_1 < (l0.length : Int) := of_decide_eq_true (by first | (with_reducible assumption) | assumption)
                    obtain ⟨ad132, e132, hx132_0⟩ := Kd.at_string HR0.out x4_1 p132 q132
                    cases e132
                    replace p132 := eq_true p132
                    replace q132 := eq_true q132
                    go_wp2
                    go_roundg k2
                    case measure => have := HK1.out; have := HK2.out; omega
                    case rel => exact ⟨(x3_2 ++ (⟨#[0, 0]⟩ : ByteArray)), (wrap64 (x4_1 + 1)), (by first | rfl | (simp; done) | (simp [*]; done)), (by first | rfl | (simp; done) | (simp [*]; done)), H', ⟨by have := HK1.out; have := HK2.out; omega⟩, by repeat (first | exact Drawn0.refl _ | apply Drawn0.step)⟩
                  · rw [if_neg c13] at H
                    exact absurd H (by simp)
              · rw [if_neg c4] at H
                exact absurd H (by simp)
            · rw [if_neg c3] at H
              exact absurd H (by simp)
      · rw [if_neg c2] at H
        have c2b0 : decide (x4_1 < (l0.length : Int)) = false := decide_eq_false c2
        clear c2
        obtain rfl := Option.some.inj H
        go_wp2
        go_ret
        exact ⟨by first | rfl | (simp; done) | (simp [*]; done), by repeat (first | exact Drawn0.refl _ | apply Drawn0.step)⟩

end Go.Proofs.YtbecojmhjkhifaaDoor.K
