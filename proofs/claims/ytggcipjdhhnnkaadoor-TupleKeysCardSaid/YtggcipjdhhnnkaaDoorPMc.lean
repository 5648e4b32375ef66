-- Written by a program of this session (wip/pp.py over the kit's print.py). Lean checks it.
import Derived.Test.YtggcipjdhhnnkaaDoorP0
import Derived.Test.YtggcipjdhhnnkaaDoorPMa
namespace Go.Proofs.YtggcipjdhhnnkaaDoor.K
open Go.RowKit Go.Proofs.YtggcipjdhhnnkaaDoorW.PrintWords Go.Proofs.YtggcipjdhhnnkaaDoorW.PrintLast Go.Proofs.YtggcipjdhhnnkaaDoorW.PrintMore
attribute [local go_sem] max2_int min2_int max_two min_two max_three min_three max_four min_four   -- for this text's walks alone
set_option linter.unusedVariables false
set_option linter.unusedSimpArgs false
/-! ### lunetteref01_Put: function 36 -/
mutual
def lunetteref01_Put.l0 : Nat → List ByteArray → ByteArray → Int → Option (ByteArray)
  | 0, _, _, _ => none
  | k + 1, x0, x3, x4 => if x4 < (x0.length : Int) then (lunetteref01_Put.l1 k x0 x3 x4 0) else (some x3)
def lunetteref01_Put.l1 : Nat → List ByteArray → ByteArray → Int → Int → Option (ByteArray)
  | 0, _, _, _, _ => none
  | k + 1, x0, x3, x4, x5 => if 0 ≤ x4 then (if x4 < (x0.length : Int) then (if x5 < ((rdOf ByteArray.empty x0 x4).size : Int) then (if 0 ≤ x5 then (if x5 ≤ (wrap64 (x5 + 1)) then (if (wrap64 (x5 + 1)) ≤ ((rdOf ByteArray.empty x0 x4).size : Int) then (if x3.size + ((rdOf ByteArray.empty x0 x4).extract (x5 : Int).toNat ((wrap64 (x5 + 1)) : Int).toNat).size ≤ 9223372036854775807 then (if (bt (rdOf ByteArray.empty x0 x4) x5) = 0 then (if (x3 ++ ((rdOf ByteArray.empty x0 x4).extract (x5 : Int).toNat ((wrap64 (x5 + 1)) : Int).toNat)).size + 1 ≤ 9223372036854775807 then (lunetteref01_Put.l1 k x0 ((x3 ++ ((rdOf ByteArray.empty x0 x4).extract (x5 : Int).toNat ((wrap64 (x5 + 1)) : Int).toNat)) ++ (⟨#[255]⟩ : ByteArray)) x4 (wrap64 (x5 + 1))) else (none)) else (lunetteref01_Put.l1 k x0 (x3 ++ ((rdOf ByteArray.empty x0 x4).extract (x5 : Int).toNat ((wrap64 (x5 + 1)) : Int).toNat)) x4 (wrap64 (x5 + 1)))) else (none)) else (none)) else (none)) else (none)) else (if x3.size + 2 ≤ 9223372036854775807 then (lunetteref01_Put.l0 k x0 (x3 ++ (⟨#[0, 0]⟩ : ByteArray)) (wrap64 (x4 + 1))) else (none))) else (none)) else (none)
end
def lunetteref01_Put.f (k : Nat) (l0 : List ByteArray) : Option (ByteArray) := lunetteref01_Put.l0 k l0 (⟨#[]⟩ : ByteArray) 0
theorem lunetteref01_Put.mono_l : ∀ k, (∀ y0 y1 y2, LeO (lunetteref01_Put.l0 k y0 y1 y2) (lunetteref01_Put.l0 (k + 1) y0 y1 y2)) ∧ (∀ y0 y1 y2 y3, LeO (lunetteref01_Put.l1 k y0 y1 y2 y3) (lunetteref01_Put.l1 (k + 1) y0 y1 y2 y3))
  | 0 => ⟨fun _ _ _ r h => by simp [lunetteref01_Put.l0] at h, fun _ _ _ _ r h => by simp [lunetteref01_Put.l1] at h⟩
  | k + 1 => by
    obtain ⟨ih0, ih1⟩ := lunetteref01_Put.mono_l k
    refine ⟨?_, ?_⟩
    · intro y0 y1 y2
      unfold lunetteref01_Put.l0
      repeat' first
      | (with_reducible exact ih0 _ _ _)
      | (with_reducible exact ih1 _ _ _ _)
      | (with_reducible exact LeO.refl _)
      | (with_reducible exact LeO.none _)
      | (with_reducible refine LeO.ite ?_ ?_)
      | (with_reducible refine LeO.bind ?_ (fun _ => ?_))
      | exact ih0 _ _ _
      | exact ih1 _ _ _ _
      | exact LeO.none _
      | refine LeO.ite ?_ ?_
      | refine LeO.bind ?_ (fun _ => ?_)
    · intro y0 y1 y2 y3
      unfold lunetteref01_Put.l1
      repeat' first
      | (with_reducible exact ih0 _ _ _)
      | (with_reducible exact ih1 _ _ _ _)
      | (with_reducible exact LeO.refl _)
      | (with_reducible exact LeO.none _)
      | (with_reducible refine LeO.ite ?_ ?_)
      | (with_reducible refine LeO.bind ?_ (fun _ => ?_))
      | exact ih0 _ _ _
      | exact ih1 _ _ _ _
      | exact LeO.none _
      | refine LeO.ite ?_ ?_
      | refine LeO.bind ?_ (fun _ => ?_)
theorem lunetteref01_Put.mono : ∀ a0 k, LeO (lunetteref01_Put.f k a0) (lunetteref01_Put.f (k + 1) a0) := by
  intro a0 k
  obtain ⟨ih0, ih1⟩ := lunetteref01_Put.mono_l k
  unfold lunetteref01_Put.f
  repeat' first
      | (with_reducible exact ih0 _ _ _)
      | (with_reducible exact ih1 _ _ _ _)
      | (with_reducible exact LeO.refl _)
      | (with_reducible exact LeO.none _)
      | (with_reducible refine LeO.ite ?_ ?_)
      | (with_reducible refine LeO.bind ?_ (fun _ => ?_))
      | exact ih0 _ _ _
      | exact ih1 _ _ _ _
      | exact LeO.none _
      | refine LeO.ite ?_ ?_
      | refine LeO.bind ?_ (fun _ => ?_)
set_option maxHeartbeats 8000000 in
set_option maxRecDepth 100000 in
theorem lunetteref01_Put.calls (k : Nat) (A0 : Option Addr) (c0 : Nat) (l0 : List ByteArray) (r : ByteArray) (w : World) (hr0 : Kd.C Kd.string w A0 l0.length l0) (hc0 : l0.length ≤ c0) (h : lunetteref01_Put.f k l0 = some r) :
    Calls Tryd.prog 36 #[.slice A0 l0.length c0] w fun e w' => e = .returned (.string r) ∧ Drawn0 w w' := by
  have HR0 := Aside0.mk hr0
  have HC0 := Aside0.mk hc0
  clear hr0 hc0
  have H : (lunetteref01_Put.l0 k l0 (⟨#[]⟩ : ByteArray) 0) = some r := h
  clear h
  have H' := Aside0.mk H
  clear H
  go_enter Tryd.func36, Tryd.ntmps36
  go_wp2
  go_loopg [3, 4] k (fun kq v3 v4 w' => ∃ (x3_1 : ByteArray) (x4_1 : Int), v3 = .string x3_1 ∧ v4 = .int .i64 x4_1 ∧ Aside0 (lunetteref01_Put.l0 kq l0 x3_1 x4_1 = some r) ∧ Aside0 (kq ≤ k) ∧ Drawn0 w w')
  case atStart => exact ⟨((⟨#[]⟩ : ByteArray)), (0), (by first | rfl | (simp; done) | (simp [*]; done)), (by first | rfl | (simp; done) | (simp [*]; done)), H', ⟨Nat.le_refl _⟩, by repeat (first | exact Drawn0.refl _ | apply Drawn0.step)⟩
  case round =>
    clear H'
    obtain ⟨x3_1, x4_1, rfl, rfl, HA, HK1, ⟨m1, rfl⟩⟩ := hrel
    cases gk with
    | zero => exact absurd HA.out (by simp [lunetteref01_Put.l0])
    | succ k1 =>
      have H := HA.out
      clear HA
      simp only [lunetteref01_Put.l0] at H
      by_cases c2 : x4_1 < (l0.length : Int)
      · rw [if_pos c2] at H
        have c2b0 : decide (x4_1 < (l0.length : Int)) = true := decide_eq_true c2
        clear c2
        have H' := Aside0.mk H
        clear H
        go_wp2
        go_loopg [3, 5] k1 (fun kq v3 v5 w' => ∃ (x3_2 : ByteArray) (x5_2 : Int), v3 = .string x3_2 ∧ v5 = .int .i64 x5_2 ∧ Aside0 (lunetteref01_Put.l1 kq l0 x3_2 x4_1 x5_2 = some r) ∧ Aside0 (kq ≤ k1) ∧ Drawn0 w w')
        case atStart => exact ⟨(x3_1), (0), (by first | rfl | (simp; done) | (simp [*]; done)), (by first | rfl | (simp; done) | (simp [*]; done)), H', ⟨Nat.le_refl _⟩, by repeat (first | exact Drawn0.refl _ | apply Drawn0.step)⟩
        case round =>
          clear H'
          try clear c2
          try clear c2b0
          try clear p2
          obtain ⟨x3_2, x5_2, rfl, rfl, HA, HK2, ⟨m2, rfl⟩⟩ := hrel
          cases gk with
          | zero => exact absurd HA.out (by simp [lunetteref01_Put.l1])
          | succ k2 =>
            have H := HA.out
            clear HA
            simp only [lunetteref01_Put.l1] at H
            by_cases c3 : 0 ≤ x4_1
            · rw [if_pos c3] at H
              have c3b0 : decide (0 ≤ x4_1) = true := decide_eq_true c3
              clear c3
              by_cases c4 : x4_1 < (l0.length : Int)
              · rw [if_pos c4] at H
                have c4b0 : decide (x4_1 < (l0.length : Int)) = true := decide_eq_true c4
                clear c4
                by_cases c5 : x5_2 < ((rdOf ByteArray.empty l0 x4_1).size : Int)
                · rw [if_pos c5] at H
                  have c5b0 : decide (x5_2 < ((rdOf ByteArray.empty l0 x4_1).size : Int)) = true := decide_eq_true c5
                  clear c5
                  by_cases c6 : 0 ≤ x5_2
                  · rw [if_pos c6] at H
                    have c6b0 := eq_true c6
                    have c6b1 : decide (0 ≤ x5_2) = true := decide_eq_true c6
                    clear c6
                    by_cases c7 : x5_2 ≤ (wrap64 (x5_2 + 1))
                    · rw [if_pos c7] at H
                      have c7b0 := eq_true c7
                      have c7b1 : decide (x5_2 ≤ (wrap64 (x5_2 + 1))) = true := decide_eq_true c7
                      by_cases c8 : (wrap64 (x5_2 + 1)) ≤ ((rdOf ByteArray.empty l0 x4_1).size : Int)
                      · rw [if_pos c8] at H
                        have c8b0 := eq_true c8
                        have c8b1 : decide ((wrap64 (x5_2 + 1)) ≤ ((rdOf ByteArray.empty l0 x4_1).size : Int)) = true := decide_eq_true c8
                        by_cases c9 : x3_2.size + ((rdOf ByteArray.empty l0 x4_1).extract (x5_2 : Int).toNat ((wrap64 (x5_2 + 1)) : Int).toNat).size ≤ 9223372036854775807
                        · rw [if_pos c9] at H
                          have c9b0 := eq_true c9
                          have c9b1 : decide (x3_2.size + ((rdOf ByteArray.empty l0 x4_1).extract (x5_2 : Int).toNat ((wrap64 (x5_2 + 1)) : Int).toNat).size ≤ 9223372036854775807) = true := decide_eq_true c9
                          try have c9b2 : (9223372036854775807 < x3_2.size + ((rdOf ByteArray.empty l0 x4_1).extract (x5_2 : Int).toNat ((wrap64 (x5_2 + 1)) : Int).toNat).size) = False := eq_false (Nat.not_lt.2 c9)
                          try have c9n : x3_2.size + ((wrap64 (x5_2 + 1)).toNat - x5_2.toNat) ≤ 9223372036854775807 := by (have Q_ := c9; simp only [ByteArray.size_append, ByteArray.size_extract] at Q_; first | omega | (simp at Q_ ⊢; omega) | (simp at Q_; omega))
                          try have c9m : (9223372036854775807 < x3_2.size + ((wrap64 (x5_2 + 1)).toNat - x5_2.toNat)) = False := eq_false (Nat.not_lt.2 c9n)
                          by_cases c11 : (bt (rdOf ByteArray.empty l0 x4_1) x5_2) = 0
                          · rw [if_pos c11] at H
                            have c11b0 : ((bt (rdOf ByteArray.empty l0 x4_1) x5_2) == 0) = true := beq_iff_eq.mpr c11
                            have c11b1 : ((bt (rdOf ByteArray.empty l0 x4_1) x5_2) != 0) = false := bne_eq_false_iff_eq.mpr c11
                            clear c11
                            by_cases c12 : (x3_2 ++ ((rdOf ByteArray.empty l0 x4_1).extract (x5_2 : Int).toNat ((wrap64 (x5_2 + 1)) : Int).toNat)).size + 1 ≤ 9223372036854775807
                            · rw [if_pos c12] at H
                              have c12b0 := eq_true c12
                              have c12b1 : decide ((x3_2 ++ ((rdOf ByteArray.empty l0 x4_1).extract (x5_2 : Int).toNat ((wrap64 (x5_2 + 1)) : Int).toNat)).size + 1 ≤ 9223372036854775807) = true := decide_eq_true c12
                              try have c12b2 : (9223372036854775807 < (x3_2 ++ ((rdOf ByteArray.empty l0 x4_1).extract (x5_2 : Int).toNat ((wrap64 (x5_2 + 1)) : Int).toNat)).size + 1) = False := eq_false (Nat.not_lt.2 c12)
                              try have c12n : x3_2.size + ((wrap64 (x5_2 + 1)).toNat - x5_2.toNat) + 1 ≤ 9223372036854775807 := by (have Q_ := c12; simp only [ByteArray.size_append, ByteArray.size_extract] at Q_; first | omega | (simp at Q_ ⊢; omega) | (simp at Q_; omega))
                              try have c12m : (9223372036854775807 < x3_2.size + ((wrap64 (x5_2 + 1)).toNat - x5_2.toNat) + 1) = False := eq_false (Nat.not_lt.2 c12n)
                              have H' := Aside0.mk H
                              clear H
                              have p209 : 0 ≤ (x4_1 : Int) := of_decide_eq_true (by first | (with_reducible assumption) | assumption)
                              have q209 : x4_1 < (l0.length : Int) := of_decide_eq_true (by first | (with_reducible assumption) | assumption)
                              obtain ⟨ad209, e209, hx209_0⟩ := Kd.at_string HR0.out x4_1 p209 q209
                              cases e209
                              replace p209 := eq_true p209
                              replace q209 := eq_true q209
                              have p210 : 0 ≤ (x4_1 : Int) := of_decide_eq_true (by first | (with_reducible assumption) | assumption)
                              have q210 : x4_1 < (l0.length : Int) := of_decide_eq_true (by first | (with_reducible assumption) | assumption)
                              obtain ⟨ad210, e210, hx210_0⟩ := Kd.at_string HR0.out x4_1 p210 q210
                              obtain rfl : ad209 = ad210 := (by injection e210)
                              replace p210 := eq_true p210
                              replace q210 := eq_true q210
                              have p211 : 0 ≤ (x4_1 : Int) := of_decide_eq_true (by first | (with_reducible assumption) | assumption)
                              have q211 : x4_1 < (l0.length : Int) := of_decide_eq_true (by first | (with_reducible assumption) | assumption)
                              obtain ⟨ad211, e211, hx211_0⟩ := Kd.at_string HR0.out x4_1 p211 q211
                              obtain rfl : ad209 = ad211 := (by injection e211)
                              replace p211 := eq_true p211
                              replace q211 := eq_true q211
                              have p10 : 0 ≤ (x5_2 : Int) := of_decide_eq_true (by first | (with_reducible assumption) | assumption)
                              have q10 : x5_2 < ((rdOf ByteArray.empty l0 x4_1).size : Int) := of_decide_eq_true (by first | (with_reducible assumption) | assumption)
                              have hx10 := bt_at (rdOf ByteArray.empty l0 x4_1) x5_2
                              replace p10 := eq_true p10
                              replace q10 := eq_true q10
                              go_wp2
                              go_roundg k2
                              case measure => have := HK1.out; have := HK2.out; omega
                              case rel => exact ⟨((x3_2 ++ ((rdOf ByteArray.empty l0 x4_1).extract (x5_2 : Int).toNat ((wrap64 (x5_2 + 1)) : Int).toNat)) ++ (⟨#[255]⟩ : ByteArray)), (wrap64 (x5_2 + 1)), (by first | rfl | (simp; done) | (simp [*]; done)), (by first | rfl | (simp; done) | (simp [*]; done)), H', ⟨by have := HK1.out; have := HK2.out; omega⟩, by repeat (first | exact Drawn0.refl _ | apply Drawn0.step)⟩
                            · rw [if_neg c12] at H
                              exact absurd H (by simp)
                          · rw [if_neg c11] at H
                            have c11b0 : ((bt (rdOf ByteArray.empty l0 x4_1) x5_2) == 0) = false := beq_eq_false_iff_ne.mpr c11
                            have c11b1 : ((bt (rdOf ByteArray.empty l0 x4_1) x5_2) != 0) = true := bne_iff_ne.mpr c11
                            have H' := Aside0.mk H
                            clear H
                            have p209 : 0 ≤ (x4_1 : Int) := of_decide_eq_true (by first | (with_reducible assumption) | assumption)
                            have q209 : x4_1 < (l0.length : Int) := of_decide_eq_true (by first | (with_reducible assumption) | assumption)
                            obtain ⟨ad209, e209, hx209_0⟩ := Kd.at_string HR0.out x4_1 p209 q209
                            cases e209
                            replace p209 := eq_true p209
                            replace q209 := eq_true q209
                            have p210 : 0 ≤ (x4_1 : Int) := of_decide_eq_true (by first | (with_reducible assumption) | assumption)
                            have q210 : x4_1 < (l0.length : Int) := of_decide_eq_true (by first | (with_reducible assumption) | assumption)
                            obtain ⟨ad210, e210, hx210_0⟩ := Kd.at_string HR0.out x4_1 p210 q210
                            obtain rfl : ad209 = ad210 := (by injection e210)
                            replace p210 := eq_true p210
                            replace q210 := eq_true q210
                            have p211 : 0 ≤ (x4_1 : Int) := of_decide_eq_true (by first | (with_reducible assumption) | assumption)
                            have q211 : x4_1 < (l0.length : Int) := of_decide_eq_true (by first | (with_reducible assumption) | assumption)
                            obtain ⟨ad211, e211, hx211_0⟩ := Kd.at_string HR0.out x4_1 p211 q211
                            obtain rfl : ad209 = ad211 := (by injection e211)
                            replace p211 := eq_true p211
                            replace q211 := eq_true q211
                            have p10 : 0 ≤ (x5_2 : Int) := of_decide_eq_true (by first | (with_reducible assumption) | assumption)
                            have q10 : x5_2 < ((rdOf ByteArray.empty l0 x4_1).size : Int) := of_decide_eq_true (by first | (with_reducible assumption) | assumption)
                            have hx10 := bt_at (rdOf ByteArray.empty l0 x4_1) x5_2
                            replace p10 := eq_true p10
                            replace q10 := eq_true q10
                            go_wp2
                            go_roundg k2
                            case measure => have := HK1.out; have := HK2.out; omega
                            case rel => exact ⟨(x3_2 ++ ((rdOf ByteArray.empty l0 x4_1).extract (x5_2 : Int).toNat ((wrap64 (x5_2 + 1)) : Int).toNat)), (wrap64 (x5_2 + 1)), (by first | rfl | (simp; done) | (simp [*]; done)), (by first | rfl | (simp; done) | (simp [*]; done)), H', ⟨by have := HK1.out; have := HK2.out; omega⟩, by repeat (first | exact Drawn0.refl _ | apply Drawn0.step)⟩
                        · rw [if_neg c9] at H
                          exact absurd H (by simp)
                      · rw [if_neg c8] at H
                        exact absurd H (by simp)
                    · rw [if_neg c7] at H
                      exact absurd H (by simp)
                  · rw [if_neg c6] at H
                    exact absurd H (by simp)
                · rw [if_neg c5] at H
                  have c5b0 : decide (x5_2 < ((rdOf ByteArray.empty l0 x4_1).size : Int)) = false := decide_eq_false c5
                  clear c5
                  by_cases c13 : x3_2.size + 2 ≤ 9223372036854775807
                  · rw [if_pos c13] at H
                    have c13b0 := eq_true c13
                    have c13b1 : decide (x3_2.size + 2 ≤ 9223372036854775807) = true := decide_eq_true c13
                    try have c13b2 : (9223372036854775807 < x3_2.size + 2) = False := eq_false (Nat.not_lt.2 c13)
                    have H' := Aside0.mk H
                    clear H
                    have p209 : 0 ≤ (x4_1 : Int) := of_decide_eq_true (by first | (with_reducible assumption) | assumption)
                    have q209 : x4_1 < (l0.length : Int) := of_decide_eq_true (by first | (with_reducible assumption) | assumption)
                    obtain ⟨ad209, e209, hx209_0⟩ := Kd.at_string HR0.out x4_1 p209 q209
                    cases e209
                    replace p209 := eq_true p209
                    replace q209 := eq_true q209
                    go_wp2
                    go_roundg k2
                    case measure => have := HK1.out; have := HK2.out; omega
                    case rel => exact ⟨(x3_2 ++ (⟨#[0, 0]⟩ : ByteArray)), (wrap64 (x4_1 + 1)), (by first | rfl | (simp; done) | (simp [*]; done)), (by first | rfl | (simp; done) | (simp [*]; done)), H', ⟨by have := HK1.out; have := HK2.out; omega⟩, by repeat (first | exact Drawn0.refl _ | apply Drawn0.step)⟩
                  · rw [if_neg c13] at H
                    exact absurd H (by simp)
              · rw [if_neg c4] at H
                exact absurd H (by simp)
            · rw [if_neg c3] at H
              exact absurd H (by simp)
      · rw [if_neg c2] at H
        have c2b0 : decide (x4_1 < (l0.length : Int)) = false := decide_eq_false c2
        clear c2
        obtain rfl := Option.some.inj H
        go_wp2
        go_ret
        exact ⟨by first | rfl | (simp; done) | (simp [*]; done), by repeat (first | exact Drawn0.refl _ | apply Drawn0.step)⟩


/-! ### lunetteref11_Back: function 14 -/
def lunetteref11_Back.f (k : Nat) (a0_0 : ByteArray) (a0_1 : ByteArray) (a0_2 : ByteArray) (a0_3 : ByteArray) (a0_4 : ByteArray) (a0_5 : ByteArray) : Option (ByteArray) := (lunetteref01_Put.f k (([(⟨#[114]⟩ : ByteArray), a0_3, a0_4, a0_5, a0_0, a0_1, a0_2] : List ByteArray))).bind fun t216 => (some t216)
theorem lunetteref11_Back.mono : ∀ a0 a1 a2 a3 a4 a5 k, LeO (lunetteref11_Back.f k a0 a1 a2 a3 a4 a5) (lunetteref11_Back.f (k + 1) a0 a1 a2 a3 a4 a5) := by
  intro a0 a1 a2 a3 a4 a5 k
  unfold lunetteref11_Back.f
  repeat' first
      | (with_reducible exact lunetteref01_Put.mono _ _)
      | (with_reducible exact LeO.refl _)
      | (with_reducible exact LeO.none _)
      | (with_reducible refine LeO.ite ?_ ?_)
      | (with_reducible refine LeO.bind ?_ (fun _ => ?_))
      | exact lunetteref01_Put.mono _ _
      | exact LeO.none _
      | refine LeO.ite ?_ ?_
      | refine LeO.bind ?_ (fun _ => ?_)
set_option maxHeartbeats 8000000 in
set_option maxRecDepth 100000 in
theorem lunetteref11_Back.calls (k : Nat) (a0_0 : ByteArray) (a0_1 : ByteArray) (a0_2 : ByteArray) (a0_3 : ByteArray) (a0_4 : ByteArray) (a0_5 : ByteArray) (r : ByteArray) (w : World) (h : lunetteref11_Back.f k a0_0 a0_1 a0_2 a0_3 a0_4 a0_5 = some r) :
    Calls Tryd.prog 14 #[.agg #[.string a0_0, .string a0_1, .string a0_2, .string a0_3, .string a0_4, .string a0_5]] w fun e w' => e = .returned (.string r) ∧ Below w.heap.size w w' := by
  have hu26 := Tryd.underlying26
  have HB := Aside0.mk (Below.refl w.heap.size w)
  have H : ((lunetteref01_Put.f k (([(⟨#[114]⟩ : ByteArray), a0_3, a0_4, a0_5, a0_0, a0_1, a0_2] : List ByteArray))).bind fun t216 => (some t216)) = some r := h
  clear h
  obtain ⟨y213, hy213⟩ : ∃ y_ : List ByteArray, y_ = (([(⟨#[114]⟩ : ByteArray), a0_3, a0_4, a0_5, a0_0, a0_1, a0_2] : List ByteArray)) := ⟨_, rfl⟩
  replace H : ((lunetteref01_Put.f k y213).bind fun t216 => (some t216)) = some r := by first | (rw [hy213]; with_reducible exact H) | (have H2_ := (Option.bind_some _ _).symm.trans H; rw [hy213]; with_reducible exact H2_) | (have H2_ := (Option.bind_some _ _).symm.trans H; with_reducible exact H2_) | with_reducible exact H | (rw [hy213]; exact H) | exact H
  have Ny213 := Aside0.mk hy213
  clear hy213
  replace H := Option.bind_eq_some_iff.mp H
  obtain ⟨t216, A20, H⟩ := H
  replace H : (some t216) = some r := H
  have A2 := Aside0.mk A20
  clear A20
  obtain rfl := Option.some.inj H
  go_enter Tryd.func14, Tryd.ntmps14
  go_wp2_with (first | ((with_reducible refine gate_dst (N := 1) rfl ?_); refine box_event ?hg (N := 1) ?hd (cs := #[.string a0_0, .string a0_1, .string a0_2, .string a0_3, .string a0_4, .string a0_5]) (t := 26) ?hr ?_; (case hd => rfl); (case hg => rfl); (case hr => first | (go_simp; done) | (go_simp; rfl)); intro gb212 hg w3 hbox hb; have n0_ := Aside0.mk (below_step (by repeat (first | (with_reducible first | exact HB.out | apply below_alloc | apply pw_below_drewN | apply below_drew1) | exact HB.out)) hb); have n1_ := Aside0.mk (hbox); have n2_ := Aside0.mk ((by rw [hg]; exact (below_size (by repeat (first | (with_reducible first | exact HB.out | apply below_alloc | apply pw_below_drewN | apply below_drew1) | exact HB.out))) : w.heap.size ≤ gb212)); have n3_ := Aside0.mk ((by rw [hg]; exact (below_size (by repeat (first | (with_reducible first | exact HB.out | apply below_alloc | apply pw_below_drewN | apply below_drew1) | exact HB.out))) : w.heap.size ≤ gb212)); clear HB; have HB := n0_; have BK212 := n1_; have GW212 := n2_; have GE212 := n3_; clear n0_ n1_ n2_ n3_; clear hb hbox hg; have hcz4_0 : w3.cell? ⟨gb212, 0, none⟩ = some (.string a0_0) := (blk_cell BK212.out 0).trans rfl; have hcz4_1 : w3.cell? ⟨gb212, 1, none⟩ = some (.string a0_1) := (blk_cell BK212.out 1).trans rfl; have hcz4_2 : w3.cell? ⟨gb212, 2, none⟩ = some (.string a0_2) := (blk_cell BK212.out 2).trans rfl; have hcz4_3 : w3.cell? ⟨gb212, 3, none⟩ = some (.string a0_3) := (blk_cell BK212.out 3).trans rfl; have hcz4_4 : w3.cell? ⟨gb212, 4, none⟩ = some (.string a0_4) := (blk_cell BK212.out 4).trans rfl; have hcz4_5 : w3.cell? ⟨gb212, 5, none⟩ = some (.string a0_5) := (blk_cell BK212.out 5).trans rfl; have hfz4_0 := blk_frozen BK212.out 0; have hfz4_1 := blk_frozen BK212.out 1; have hfz4_2 := blk_frozen BK212.out 2; have hfz4_3 := blk_frozen BK212.out 3; have hfz4_4 := blk_frozen BK212.out 4; have hfz4_5 := blk_frozen BK212.out 5) | ((with_reducible refine gate_dst (N := 18) rfl ?_); refine Kd.R_lit Kd.string _ 9 ?hg (N := 18) ?hd (xs := ([(⟨#[114]⟩ : ByteArray), a0_3, a0_4, a0_5, a0_0, a0_1, a0_2] : List ByteArray)) (inner := [.string (⟨#[114]⟩ : ByteArray), .string a0_3, .string a0_4, .string a0_5, .string a0_0, .string a0_1, .string a0_2]) (ok := fun _ => True) (okp := fun _ => True) ?hr ?hp (fun _ hk => hk) trivial (Below.refl _ _) (Nat.le_refl _) (by simp) ?_; (case hd => rfl); (case hg => rfl); (case hr => first | (go_simp; done) | (go_simp; rfl)); (case hp => exact (Reps.one (show Kd.M Kd.string _ _ _ (⟨#[114]⟩ : ByteArray) [.string (⟨#[114]⟩ : ByteArray)] from rfl) (Reps.one (show Kd.M Kd.string _ _ _ a0_3 [.string a0_3] from rfl) (Reps.one (show Kd.M Kd.string _ _ _ a0_4 [.string a0_4] from rfl) (Reps.one (show Kd.M Kd.string _ _ _ a0_5 [.string a0_5] from rfl) (Reps.one (show Kd.M Kd.string _ _ _ a0_0 [.string a0_0] from rfl) (Reps.one (show Kd.M Kd.string _ _ _ a0_1 [.string a0_1] from rfl) (Reps.one (show Kd.M Kd.string _ _ _ a0_2 [.string a0_2] from rfl) (Reps.none _ _))))))))); intro v214 w5 ho6 hb hg_ hnew_; clear hg_ hnew_; (first | rw [← Ny213.out] at ho6 | (simp only [Int.reduceToNat] at ho6; rw [← Ny213.out] at ho6)); have n0_ := Aside0.mk (Kd.R_lower ho6 (below_size (by repeat (first | (with_reducible first | exact HB.out | apply below_alloc | apply pw_below_drewN | apply below_drew1 | refine below_set ?_ GE212.out) | exact HB.out)))); have n1_ := Aside0.mk (blk_below (g := gb212) (o := .cells #[.string a0_0, .string a0_1, .string a0_2, .string a0_3, .string a0_4, .string a0_5] 26 (0, 0)) (by (with_reducible repeat (first | refine blk_drewN ?_ _ | refine blk_drew ?_ | refine blk_alloc ?_ _)); exact BK212.out) hb); have n2_ := Aside0.mk (below_step (by repeat (first | (with_reducible first | exact HB.out | apply below_alloc | apply pw_below_drewN | apply below_drew1 | refine below_set ?_ GE212.out) | exact HB.out)) hb); clear BK212; clear HB; have HO215 := n0_; have BK212 := n1_; have HB := n2_; clear n0_ n1_ n2_; clear hb ho6; obtain ⟨Ao7, co7, eo7⟩ := Kd.R_slice HO215.out; subst eo7) | ((with_reducible refine gate_callee (f := 36) rfl ?_); refine goesL_ (some 19) rfl rfl Tryd.func36 (by kernel_rfl) rfl #[.slice Ao7 y213.length co7] rfl (by (try simp only [List.map_toArray, List.map_cons, List.map_nil]); first | done | rfl | (simp only [List.length_drop, List.length_take]; rfl)) ?_; (with_reducible refine (lunetteref01_Put.calls k _ _ y213 t216 _ ?side1 ?side2 A2.out).mono ?_); (case side1 => repeat (first | exact (Kd.R_reads' HO215.out).2.2 | (with_reducible refine Kd.C_alloc ?_ _) | (with_reducible refine Kd.C_drewN ?_ _) | (with_reducible refine Kd.C_drew ?_))); (case side2 => exact (Kd.R_reads' HO215.out).2.1); rintro e w' ⟨rfl, ⟨nd, rfl⟩⟩; refine ⟨_, rfl, ?_⟩))
  go_ret
  exact ⟨by first | rfl | (simp [errW_none, errW_some] <;> rfl) | (simp [*, errW_none, errW_some] <;> rfl), by repeat (first | (with_reducible first | exact HB.out | apply below_alloc | apply pw_below_drewN | apply below_drew1 | refine below_set ?_ GE212.out) | exact HB.out)⟩




/-! ### lunetteref11_Key: function 15 -/
def lunetteref11_Key.f (k : Nat) (a0_0 : ByteArray) (a0_1 : ByteArray) (a0_2 : ByteArray) (a0_3 : ByteArray) (a0_4 : ByteArray) (a0_5 : ByteArray) : Option (ByteArray) := (some (([(⟨#[102]⟩ : ByteArray)] : List ByteArray) : List ByteArray)).bind fun y222 => ((lunetteref11_Parts.f a0_0 a0_1 a0_2 a0_3 a0_4 a0_5).bind fun t225 => (if y222.length + t225.length < 8796093022208 then ((lunetteref01_Put.f k (y222 ++ t225)).bind fun t231 => (some t231)) else (none)))
theorem lunetteref11_Key.mono : ∀ a0 a1 a2 a3 a4 a5 k, LeO (lunetteref11_Key.f k a0 a1 a2 a3 a4 a5) (lunetteref11_Key.f (k + 1) a0 a1 a2 a3 a4 a5) := by
  intro a0 a1 a2 a3 a4 a5 k
  unfold lunetteref11_Key.f
  repeat' first
      | (with_reducible exact lunetteref01_Put.mono _ _)
      | (with_reducible exact LeO.refl _)
      | (with_reducible exact LeO.none _)
      | (with_reducible refine LeO.ite ?_ ?_)
      | (with_reducible refine LeO.bind ?_ (fun _ => ?_))
      | exact lunetteref01_Put.mono _ _
      | exact LeO.none _
      | refine LeO.ite ?_ ?_
      | refine LeO.bind ?_ (fun _ => ?_)
set_option maxHeartbeats 8000000 in
set_option maxRecDepth 100000 in
theorem lunetteref11_Key.calls (k : Nat) (a0_0 : ByteArray) (a0_1 : ByteArray) (a0_2 : ByteArray) (a0_3 : ByteArray) (a0_4 : ByteArray) (a0_5 : ByteArray) (r : ByteArray) (w : World) (h : lunetteref11_Key.f k a0_0 a0_1 a0_2 a0_3 a0_4 a0_5 = some r) :
    Calls Tryd.prog 15 #[.agg #[.string a0_0, .string a0_1, .string a0_2, .string a0_3, .string a0_4, .string a0_5]] w fun e w' => e = .returned (.string r) ∧ Below w.heap.size w w' := by
  have hu26 := Tryd.underlying26
  have HB := Aside0.mk (Below.refl w.heap.size w)
  have H : ((some (([(⟨#[102]⟩ : ByteArray)] : List ByteArray) : List ByteArray)).bind fun y222 => ((lunetteref11_Parts.f a0_0 a0_1 a0_2 a0_3 a0_4 a0_5).bind fun t225 => (if y222.length + t225.length < 8796093022208 then ((lunetteref01_Put.f k (y222 ++ t225)).bind fun t231 => (some t231)) else (none)))) = some r := h
  clear h
  obtain ⟨y222, hy222⟩ : ∃ y_ : List ByteArray, y_ = (([(⟨#[102]⟩ : ByteArray)] : List ByteArray)) := ⟨_, rfl⟩
  replace H : ((lunetteref11_Parts.f a0_0 a0_1 a0_2 a0_3 a0_4 a0_5).bind fun t225 => (if y222.length + t225.length < 8796093022208 then ((lunetteref01_Put.f k (y222 ++ t225)).bind fun t231 => (some t231)) else (none))) = some r := by first | (rw [hy222]; with_reducible exact H) | (have H2_ := (Option.bind_some _ _).symm.trans H; rw [hy222]; with_reducible exact H2_) | (have H2_ := (Option.bind_some _ _).symm.trans H; with_reducible exact H2_) | with_reducible exact H | (rw [hy222]; exact H) | exact H
  have Ny222 := Aside0.mk hy222
  clear hy222
  replace H := Option.bind_eq_some_iff.mp H
  obtain ⟨t225, A20, H⟩ := H
  replace H : (if y222.length + t225.length < 8796093022208 then ((lunetteref01_Put.f k (y222 ++ t225)).bind fun t231 => (some t231)) else (none)) = some r := H
  have A2 := Aside0.mk A20
  clear A20
  by_cases c3 : y222.length + t225.length < 8796093022208
  · rw [if_pos c3] at H
    have LMc3 := Aside0.mk c3
    clear c3
    obtain ⟨y228, hy228⟩ : ∃ y_ : List ByteArray, y_ = (y222 ++ t225) := ⟨_, rfl⟩
    replace H : ((lunetteref01_Put.f k y228).bind fun t231 => (some t231)) = some r := by first | (rw [hy228]; with_reducible exact H) | (have H2_ := (Option.bind_some _ _).symm.trans H; rw [hy228]; with_reducible exact H2_) | (have H2_ := (Option.bind_some _ _).symm.trans H; with_reducible exact H2_) | with_reducible exact H | (rw [hy228]; exact H) | exact H
    have Ny228 := Aside0.mk hy228
    clear hy228
    replace H := Option.bind_eq_some_iff.mp H
    obtain ⟨t231, A40, H⟩ := H
    replace H : (some t231) = some r := H
    have A4 := Aside0.mk A40
    clear A40
    obtain rfl := Option.some.inj H
    go_enter Tryd.func15, Tryd.ntmps15
    go_wp2_with (first | ((with_reducible refine gate_dst (N := 1) rfl ?_); refine box_event ?hg (N := 1) ?hd (cs := #[.string a0_0, .string a0_1, .string a0_2, .string a0_3, .string a0_4, .string a0_5]) (t := 26) ?hr ?_; (case hd => rfl); (case hg => rfl); (case hr => first | (go_simp; done) | (go_simp; rfl)); intro gb221 hg w5 hbox hb; have n0_ := Aside0.mk (below_step (by repeat (first | (with_reducible first | exact HB.out | apply below_alloc | apply pw_below_drewN | apply below_drew1) | exact HB.out)) hb); have n1_ := Aside0.mk (hbox); have n2_ := Aside0.mk ((by rw [hg]; exact (below_size (by repeat (first | (with_reducible first | exact HB.out | apply below_alloc | apply pw_below_drewN | apply below_drew1) | exact HB.out))) : w.heap.size ≤ gb221)); have n3_ := Aside0.mk ((by rw [hg]; exact (below_size (by repeat (first | (with_reducible first | exact HB.out | apply below_alloc | apply pw_below_drewN | apply below_drew1) | exact HB.out))) : w.heap.size ≤ gb221)); clear HB; have HB := n0_; have BK221 := n1_; have GW221 := n2_; have GE221 := n3_; clear n0_ n1_ n2_ n3_; clear hb hbox hg) | ((with_reducible refine gate_dst (N := 3) rfl ?_); refine Kd.R_lit Kd.string _ 9 ?hg (N := 3) ?hd (xs := ([(⟨#[102]⟩ : ByteArray)] : List ByteArray)) (inner := [.string (⟨#[102]⟩ : ByteArray)]) (ok := fun _ => True) (okp := fun _ => True) ?hr ?hp (fun _ hk => hk) trivial (Below.refl _ _) (Nat.le_refl _) (by simp) ?_; (case hd => rfl); (case hg => rfl); (case hr => first | (go_simp; done) | (go_simp; rfl)); (case hp => exact (Reps.one (show Kd.M Kd.string _ _ _ (⟨#[102]⟩ : ByteArray) [.string (⟨#[102]⟩ : ByteArray)] from rfl) (Reps.none _ _))); intro v223 w6 ho7 hb hg_ hnew_; clear hg_ hnew_; (first | rw [← Ny222.out] at ho7 | (simp only [Int.reduceToNat] at ho7; rw [← Ny222.out] at ho7)); have n0_ := Aside0.mk (Kd.R_lower ho7 (below_size (by repeat (first | (with_reducible first | exact HB.out | apply below_alloc | apply pw_below_drewN | apply below_drew1 | refine below_set ?_ GE221.out) | exact HB.out)))); have n1_ := Aside0.mk (blk_below (g := gb221) (o := .cells #[.string a0_0, .string a0_1, .string a0_2, .string a0_3, .string a0_4, .string a0_5] 26 (0, 0)) (by (with_reducible repeat (first | refine blk_drewN ?_ _ | refine blk_drew ?_ | refine blk_alloc ?_ _)); exact BK221.out) hb); have n2_ := Aside0.mk (below_step (by repeat (first | (with_reducible first | exact HB.out | apply below_alloc | apply pw_below_drewN | apply below_drew1 | refine below_set ?_ GE221.out) | exact HB.out)) hb); clear BK221; clear HB; have HO224 := n0_; have BK221 := n1_; have HB := n2_; clear n0_ n1_ n2_; clear hb ho7; have hcz8_0 : w6.cell? ⟨gb221, 0, none⟩ = some (.string a0_0) := (blk_cell BK221.out 0).trans rfl; have hcz8_1 : w6.cell? ⟨gb221, 1, none⟩ = some (.string a0_1) := (blk_cell BK221.out 1).trans rfl; have hcz8_2 : w6.cell? ⟨gb221, 2, none⟩ = some (.string a0_2) := (blk_cell BK221.out 2).trans rfl; have hcz8_3 : w6.cell? ⟨gb221, 3, none⟩ = some (.string a0_3) := (blk_cell BK221.out 3).trans rfl; have hcz8_4 : w6.cell? ⟨gb221, 4, none⟩ = some (.string a0_4) := (blk_cell BK221.out 4).trans rfl; have hcz8_5 : w6.cell? ⟨gb221, 5, none⟩ = some (.string a0_5) := (blk_cell BK221.out 5).trans rfl; have hfz8_0 := blk_frozen BK221.out 0; have hfz8_1 := blk_frozen BK221.out 1; have hfz8_2 := blk_frozen BK221.out 2; have hfz8_3 := blk_frozen BK221.out 3; have hfz8_4 := blk_frozen BK221.out 4; have hfz8_5 := blk_frozen BK221.out 5) | ((with_reducible refine gate_callee (f := 37) rfl ?_); refine goesL_ (some 5) rfl rfl Tryd.func37 (by kernel_rfl) rfl #[.agg #[.string a0_0, .string a0_1, .string a0_2, .string a0_3, .string a0_4, .string a0_5]] rfl (by (try simp only [List.map_toArray, List.map_cons, List.map_nil]); first | done | rfl | (simp only [List.length_drop, List.length_take]; rfl)) ?_; (with_reducible refine (lunetteref11_Parts.calls a0_0 a0_1 a0_2 a0_3 a0_4 a0_5 t225 _ A2.out).mono ?_); rintro e w9 ⟨v226, rfl, ho0, hb⟩; refine ⟨_, rfl, ?_⟩; have n0_ := Aside0.mk (Kd.R_elder' (by (with_reducible repeat (first | apply Kd.R_alloc | apply Kd.R_drewN | apply Kd.R_drew)); exact HO224.out) (Kd.R_base ho0) hb); have n1_ := Aside0.mk (Kd.R_lower (Kd.R_new' ho0 (Kd.R_lt (by (with_reducible repeat (first | apply Kd.R_alloc | apply Kd.R_drewN | apply Kd.R_drew)); exact HO224.out))) (below_size (by repeat (first | (with_reducible first | exact HB.out | apply below_alloc | apply pw_below_drewN | apply below_drew1 | refine below_set ?_ GE221.out) | exact HB.out)))); have n2_ := Aside0.mk (blk_below (g := gb221) (o := .cells #[.string a0_0, .string a0_1, .string a0_2, .string a0_3, .string a0_4, .string a0_5] 26 (0, 0)) (by (with_reducible repeat (first | refine blk_drewN ?_ _ | refine blk_drew ?_ | refine blk_alloc ?_ _)); exact BK221.out) hb); have n3_ := Aside0.mk (below_step (by repeat (first | (with_reducible first | exact HB.out | apply below_alloc | apply pw_below_drewN | apply below_drew1 | refine below_set ?_ GE221.out) | exact HB.out)) hb); clear HO224; clear BK221; clear HB; have HO224 := n0_; have HO227 := n1_; have BK221 := n2_; have HB := n3_; clear n0_ n1_ n2_ n3_; (try clear hb); (try clear hb2); (try clear hk); (try clear hi); (try clear ho0); obtain ⟨Ao11, co11, eo11⟩ := Kd.R_slice HO227.out; subst eo11) | ((with_reducible refine gate_builtin (b := .append) (xs := #[.tmp 3, .tmp 5]) rfl ?_); at_builtin; refine Kd.R_append_rows Kd.string (w0 := w) w.heap.size rfl (.tmp 3) (.tmp 5) 36 9 (.string ⟨#[]⟩) 16 rfl Tryd.underlying36 info9 rfl (by decide) (by omega) v223 y222 t225 _ _ _ (fun k_ => some k_ ≠ (.slice Ao11 t225.length co11 : Value).ownBlock) (fun _ => False) rfl rfl ?aO ?aR (fun _ _ h => h) (fun _ h => h.elim) ?aF ?aB ?aS ?aL ?_; (case aR => repeat (first | exact (Kd.R_reads' HO227.out).2.2 | (with_reducible refine Kd.C_alloc ?_ _) | (with_reducible refine Kd.C_drewN ?_ _) | (with_reducible refine Kd.C_drew ?_))); (case aB => exact (by repeat (first | (with_reducible first | exact HB.out | apply below_alloc | apply pw_below_drewN | apply below_drew1 | refine below_set ?_ GE221.out) | exact HB.out))); (case aF => exact (fun k_ hk => Kd.fresh' (Kd.R_lt (by (with_reducible repeat (first | apply Kd.R_alloc | apply Kd.R_drewN | apply Kd.R_drew)); exact HO227.out)) k_ hk)); (case aO => exact (by (with_reducible repeat (first | apply Kd.R_alloc | apply Kd.R_drewN | apply Kd.R_drew)); exact Kd.R_mono HO224.out (fun _ hk => hk.2))); (case aS => exact (below_size (by repeat (first | (with_reducible first | exact HB.out | apply below_alloc | apply pw_below_drewN | apply below_drew1 | refine below_set ?_ GE221.out) | exact HB.out)))); (case aL => have := LMc3.out; omega); intro v229 w10 ho hb hg hat; rw [← Ny228.out] at ho; have n0_ := Aside0.mk (blk_grown (g := gb221) (o := .cells #[.string a0_0, .string a0_1, .string a0_2, .string a0_3, .string a0_4, .string a0_5] 26 (0, 0)) (by (with_reducible repeat (first | refine blk_drewN ?_ _ | refine blk_drew ?_ | refine blk_alloc ?_ _)); exact BK221.out) hg (Kd.R_ne HO224.out BK221.out (by decide))); have n1_ := Aside0.mk (Kd.R_after (ok := (fun _ => True)) (by (with_reducible repeat (first | apply Kd.R_alloc | apply Kd.R_drewN | apply Kd.R_drew)); exact HO227.out) hg hat); have n2_ := Aside0.mk (hb); have n3_ := Aside0.mk (ho); clear BK221; clear HO227; clear HB; clear HO224; have BK221 := n0_; have HO227 := n1_; have HB := n2_; have HO230 := n3_; clear n0_ n1_ n2_ n3_; clear ho hb hg hat; obtain ⟨Ao12, co12, eo12⟩ := Kd.R_slice HO230.out; subst eo12) | ((with_reducible refine gate_callee (f := 36) rfl ?_); refine goesL_ (some 7) rfl rfl Tryd.func36 (by kernel_rfl) rfl #[.slice Ao12 y228.length co12] rfl (by (try simp only [List.map_toArray, List.map_cons, List.map_nil]); first | done | rfl | (simp only [List.length_drop, List.length_take]; rfl)) ?_; (with_reducible refine (lunetteref01_Put.calls k _ _ y228 t231 _ ?side1 ?side2 A4.out).mono ?_); (case side1 => repeat (first | exact (Kd.R_reads' HO230.out).2.2 | (with_reducible refine Kd.C_alloc ?_ _) | (with_reducible refine Kd.C_drewN ?_ _) | (with_reducible refine Kd.C_drew ?_))); (case side2 => exact (Kd.R_reads' HO230.out).2.1); rintro e w' ⟨rfl, ⟨nd, rfl⟩⟩; refine ⟨_, rfl, ?_⟩))
    go_ret
    exact ⟨by first | rfl | (simp [errW_none, errW_some] <;> rfl) | (simp [*, errW_none, errW_some] <;> rfl), by repeat (first | (with_reducible first | exact HB.out | apply below_alloc | apply pw_below_drewN | apply below_drew1 | refine below_set ?_ GE221.out) | exact HB.out)⟩
  · rw [if_neg c3] at H
    exact absurd H (by simp)
end Go.Proofs.YtggcipjdhhnnkaaDoor.K
