/- Texts of this claim's proof, put together: P13 QV QN; conditions: as each states. -/
import Derived.Test.YtjcipbdocbomjaaGreatDoorZE
import Derived.Test.YtjcipbdocbomjaaGreatDoorZA
import Derived.Test.YtjcipbdocbomjaaGreatDoorZD
import Derived.Test.YtjcipbdocbomjaaGreatDoorZF
import Derived.Lib.TrimAscii
import Derived.Laws.RangeString
set_option linter.unusedVariables false
set_option linter.unusedSimpArgs false
namespace Go.Proofs.YtjcipbdocbomjaaGreatDoor.K
open Go.RowKit Go.Proofs.YtjcipbdocbomjaaGreatDoorW.PrintWords Go.Proofs.YtjcipbdocbomjaaGreatDoorW.PrintLast Go.Proofs.YtjcipbdocbomjaaGreatDoorW.PrintMore
attribute [local go_sem] max2_int min2_int max_two min_two max_three min_three max_four min_four   -- for this text's walks alone
set_option linter.unusedVariables false
set_option linter.unusedSimpArgs false
/-! ### lunettelaw12_RuleLine: function 6 -/
mutual
def lunettelaw12_RuleLine.j0 : Nat → List (S30) → ByteArray → Bool → Option (Bool)
 | 0, _, _, _ => none
 | k + 1, x0, x1, x36 => if x36 = true then ((lunettelaw12_awake.f).bind fun t184 => (some t184)) else (lunettelaw12_RuleLine.l0 k x0 x1 0)
def lunettelaw12_RuleLine.l0 : Nat → List (S30) → ByteArray → Int → Option (Bool)
 | 0, _, _, _ => none
 | k + 1, x0, x1, x5 => if x5 < (x1.size : Int) then (if 0 ≤ x5 then (if (bt x1 x5) = 10 then (some true) else (lunettelaw12_RuleLine.l0 k x0 x1 (wrap64 (x5 + 1)))) else (none)) else ((lunetteref12_Show.f k x0).bind fun t185 => (if t185.size + x1.size ≤ 9223372036854775807 then (if (t185 ++ x1).size + 1 ≤ 9223372036854775807 then ((rule_Read.f k ((t185 ++ x1) ++ (⟨#[10]⟩ : ByteArray))).bind fun bt186 => (if bt186.2.1 = 0 then (if bt186.2.2 = 0 then (some true) else (if bt186.2.2 = 121 then (some true) else (some (bt186.2.2 == 122)))) else (lunettelaw12_RuleLine.l1 k x1 t185 bt186.2.1 bt186.2.2 0 0))) else (none)) else (none)))
def lunettelaw12_RuleLine.l1 : Nat → ByteArray → ByteArray → Int → Int → Int → Int → Option (Bool)
 | 0, _, _, _, _, _, _ => none
 | k + 1, x1, x6, x8, x9, x10, x11 => if x11 < (x6.size : Int) then (if 0 ≤ x11 then (if (bt x6 x11) = 10 then (lunettelaw12_RuleLine.l1 k x1 x6 x8 x9 (wrap64 (x10 + 1)) (wrap64 (x11 + 1))) else (lunettelaw12_RuleLine.l1 k x1 x6 x8 x9 x10 (wrap64 (x11 + 1)))) else (none)) else (if x6.size + x1.size ≤ 9223372036854775807 then (if (x6 ++ x1).size + 1 ≤ 9223372036854775807 then (if ((x6 ++ x1) ++ (⟨#[10]⟩ : ByteArray)).size + x6.size ≤ 9223372036854775807 then ((rule_Read.f k (((x6 ++ x1) ++ (⟨#[10]⟩ : ByteArray)) ++ x6)).bind fun bt191 => (if x8 = (wrap64 (x10 + 1)) then (if x9 = 120 then (if (bt191.1.length : Int) = 0 then (if bt191.2.1 = x8 then (some (bt191.2.2 == x9)) else (some false)) else (some false)) else (some false)) else (some false))) else (none)) else (none)) else (none))
end
def lunettelaw12_RuleLine.f (k : Nat) (l0 : List (S30)) (a1 : ByteArray) : Option (Bool) := (lunettelaw12_awake.f).bind fun t181 => (if t181 = true then ((lunetteref12_Few.f k l0).bind fun t182 => (if t182 = true then ((lunetteref12_Check.f k l0).bind fun t183 => (if t183 = 0 then (if (l0.length : Int) = 0 then (lunettelaw12_RuleLine.j0 k l0 a1 true) else (lunettelaw12_RuleLine.j0 k l0 a1 (decide ((a1.size : Int) > 300)))) else (lunettelaw12_RuleLine.j0 k l0 a1 true))) else (lunettelaw12_RuleLine.j0 k l0 a1 true))) else (lunettelaw12_RuleLine.j0 k l0 a1 true))
set_option maxHeartbeats 8000000 in
set_option maxRecDepth 100000 in
theorem lunettelaw12_RuleLine.callsT (k : Nat) (A0 : Option Addr) (c0 : Nat) (l0 : List (S30)) (a1 : ByteArray) (r : Bool) (w : World) (hr0 : Kd.C k30 w A0 l0.length l0) (hc0 : l0.length ≤ c0) (hTab : Tabs w) (h : lunettelaw12_RuleLine.f k l0 a1 = some r) (hT : r = true) :
  Calls Tryz.prog 6 #[.slice A0 l0.length c0, .string a1] w fun e w' => e = .returned (.bool r) ∧ Below w.heap.size w w' := by
 have HTB := Aside0.mk hTab
 clear hTab
 have HR0 := Aside0.mk hr0
 have HC0 := Aside0.mk hc0
 clear hr0 hc0
 have HB := Aside0.mk (Below.refl w.heap.size w)
 have HTRUE := Aside0.mk hT
 clear hT
 have H : ((lunettelaw12_awake.f).bind fun t181 => (if t181 = true then ((lunetteref12_Few.f k l0).bind fun t182 => (if t182 = true then ((lunetteref12_Check.f k l0).bind fun t183 => (if t183 = 0 then (if (l0.length : Int) = 0 then (lunettelaw12_RuleLine.j0 k l0 a1 true) else (lunettelaw12_RuleLine.j0 k l0 a1 (decide ((a1.size : Int) > 300)))) else (lunettelaw12_RuleLine.j0 k l0 a1 true))) else (lunettelaw12_RuleLine.j0 k l0 a1 true))) else (lunettelaw12_RuleLine.j0 k l0 a1 true))) = some r := h
 clear h
 have HC3 := Aside0.mk H
 clear H
 go_enter Tryz.func6, Tryz.ntmps6
 go_upto_region 1 with (fail)
 go_cut [36] (fun v36 wc => ∃ (kq : Nat) (x36_2 : Bool), v36 = .bool x36_2 ∧ Aside0 (lunettelaw12_RuleLine.j0 kq l0 a1 x36_2 = some r) ∧ Aside0 (kq ≤ k) ∧ Aside0 (Below w.heap.size w wc))
 case first =>
  have H := HC3.out
  clear HC3
  replace H := Option.bind_eq_some_iff.mp H
  obtain ⟨t181, A40, H⟩ := H
  replace H : (if t181 = true then ((lunetteref12_Few.f k l0).bind fun t182 => (if t182 = true then ((lunetteref12_Check.f k l0).bind fun t183 => (if t183 = 0 then (if (l0.length : Int) = 0 then (lunettelaw12_RuleLine.j0 k l0 a1 true) else (lunettelaw12_RuleLine.j0 k l0 a1 (decide ((a1.size : Int) > 300)))) else (lunettelaw12_RuleLine.j0 k l0 a1 true))) else (lunettelaw12_RuleLine.j0 k l0 a1 true))) else (lunettelaw12_RuleLine.j0 k l0 a1 true)) = some r := H
  have A4 := Aside0.mk A40
  clear A40
  by_cases c5 : t181 = true
  ·subst c5
   have H1 : ((lunetteref12_Few.f k l0).bind fun t182 => (if t182 = true then ((lunetteref12_Check.f k l0).bind fun t183 => (if t183 = 0 then (if (l0.length : Int) = 0 then (lunettelaw12_RuleLine.j0 k l0 a1 true) else (lunettelaw12_RuleLine.j0 k l0 a1 (decide ((a1.size : Int) > 300)))) else (lunettelaw12_RuleLine.j0 k l0 a1 true))) else (lunettelaw12_RuleLine.j0 k l0 a1 true))) = some r := by rw [if_pos rfl] at H; exact H
   clear H
   have H := H1
   clear H1
   replace H := Option.bind_eq_some_iff.mp H
   obtain ⟨t182, A60, H⟩ := H
   replace H : (if t182 = true then ((lunetteref12_Check.f k l0).bind fun t183 => (if t183 = 0 then (if (l0.length : Int) = 0 then (lunettelaw12_RuleLine.j0 k l0 a1 true) else (lunettelaw12_RuleLine.j0 k l0 a1 (decide ((a1.size : Int) > 300)))) else (lunettelaw12_RuleLine.j0 k l0 a1 true))) else (lunettelaw12_RuleLine.j0 k l0 a1 true)) = some r := H
   have A6 := Aside0.mk A60
   clear A60
   by_cases c7 : t182 = true
   ·subst c7
    have H1 : ((lunetteref12_Check.f k l0).bind fun t183 => (if t183 = 0 then (if (l0.length : Int) = 0 then (lunettelaw12_RuleLine.j0 k l0 a1 true) else (lunettelaw12_RuleLine.j0 k l0 a1 (decide ((a1.size : Int) > 300)))) else (lunettelaw12_RuleLine.j0 k l0 a1 true))) = some r := by rw [if_pos rfl] at H; exact H
    clear H
    have H := H1
    clear H1
    replace H := Option.bind_eq_some_iff.mp H
    obtain ⟨t183, A80, H⟩ := H
    replace H : (if t183 = 0 then (if (l0.length : Int) = 0 then (lunettelaw12_RuleLine.j0 k l0 a1 true) else (lunettelaw12_RuleLine.j0 k l0 a1 (decide ((a1.size : Int) > 300)))) else (lunettelaw12_RuleLine.j0 k l0 a1 true)) = some r := H
    have A8 := Aside0.mk A80
    clear A80
    by_cases c9 : t183 = 0
    ·rw [if_pos c9] at H
     have c9b0 : (t183 == 0) = true := beq_iff_eq.mpr c9
     have c9b1 : (t183 != 0) = false := bne_eq_false_iff_eq.mpr c9
     clear c9
     ((skip))
     by_cases c10 : (l0.length : Int) = 0
     ·rw [if_pos c10] at H
      have c10b0 : ((l0.length : Int) == 0) = true := beq_iff_eq.mpr c10
      have c10b1 : ((l0.length : Int) != 0) = false := bne_eq_false_iff_eq.mpr c10
      clear c10
      have H' := Aside0.mk H
      clear H
      go_wp2_with (first | ((with_reducible refine gate_callee (f := 9) rfl ?_); refine goesL_ (some 15) rfl rfl Tryz.func9 (by kernel_rfl) rfl #[] rfl (by (try simp only [List.map_toArray, List.map_cons, List.map_nil]); (done)) ?_; (with_reducible refine (lunettelaw12_awake.calls  true _ A4.out ?sideT).mono ?_); (case sideT => exact Tabs.keep HTB.out (by repeat ((with_reducible (exact HB.out))))); rintro e w11 ⟨rfl, hb⟩; refine ⟨_, rfl, ?_⟩; have n0_ := Aside0.mk (below_step (by repeat ((with_reducible (exact HB.out)))) hb); clear HB; have HB := n0_; clear n0_; (try clear hb)) | (go_at_call 10; (with_reducible refine (lunetteref12_Few.calls k _ _ l0 true _ ?side1 ?side2 A6.out).mono ?_); (case side1 => repeat ((exact (Kd.C_below HR0.out HB.out)))); (case side2 => exact HC0.out); rintro e w12 ⟨rfl, hb⟩; have n0_ := Aside0.mk (below_step (by repeat ((with_reducible (exact HB.out)))) hb); clear HB; have HB := n0_; clear n0_; (try clear hb)) | (go_at_call 15; (with_reducible refine (lunetteref12_Check.calls k _ _ l0 t183 _ ?side1 ?side2 A8.out).mono ?_); (case side1 => repeat ((exact (Kd.C_below HR0.out HB.out)))); (case side2 => exact HC0.out); rintro e w13 ⟨rfl, hb⟩; have n0_ := Aside0.mk (below_step (by repeat ((with_reducible (exact HB.out)))) hb); clear HB; have HB := n0_; clear n0_; (try clear hb)))
      go_meet
      case rel => exact ⟨_, (true), (by (rfl)), H', ⟨by (omega)⟩, ⟨by repeat ((with_reducible (exact HB.out)))⟩⟩
     ·rw [if_neg c10] at H
      have c10b0 : ((l0.length : Int) == 0) = false := beq_eq_false_iff_ne.mpr c10
      have c10b1 : ((l0.length : Int) != 0) = true := bne_iff_ne.mpr c10
      have c10b2 : ¬ (l0 = []) := fun h_ => c10 (by rw [h_]; rfl)
      have H' := Aside0.mk H
      clear H
      go_wp2_with (first | ((with_reducible refine gate_callee (f := 9) rfl ?_); refine goesL_ (some 15) rfl rfl Tryz.func9 (by kernel_rfl) rfl #[] rfl (by (try simp only [List.map_toArray, List.map_cons, List.map_nil]); (done)) ?_; (with_reducible refine (lunettelaw12_awake.calls  true _ A4.out ?sideT).mono ?_); (case sideT => exact Tabs.keep HTB.out (by repeat ((with_reducible (exact HB.out))))); rintro e w14 ⟨rfl, hb⟩; refine ⟨_, rfl, ?_⟩; have n0_ := Aside0.mk (below_step (by repeat ((with_reducible (exact HB.out)))) hb); clear HB; have HB := n0_; clear n0_; (try clear hb)) | (go_at_call 10; (with_reducible refine (lunetteref12_Few.calls k _ _ l0 true _ ?side1 ?side2 A6.out).mono ?_); (case side1 => repeat ((exact (Kd.C_below HR0.out HB.out)))); (case side2 => exact HC0.out); rintro e w15 ⟨rfl, hb⟩; have n0_ := Aside0.mk (below_step (by repeat ((with_reducible (exact HB.out)))) hb); clear HB; have HB := n0_; clear n0_; (try clear hb)) | (go_at_call 15; (with_reducible refine (lunetteref12_Check.calls k _ _ l0 t183 _ ?side1 ?side2 A8.out).mono ?_); (case side1 => repeat ((exact (Kd.C_below HR0.out HB.out)))); (case side2 => exact HC0.out); rintro e w16 ⟨rfl, hb⟩; have n0_ := Aside0.mk (below_step (by repeat ((with_reducible (exact HB.out)))) hb); clear HB; have HB := n0_; clear n0_; (try clear hb)))
      go_meet
      case rel => exact ⟨_, (decide ((a1.size : Int) > 300)), (by (rfl)), H', ⟨by (omega)⟩, ⟨by repeat ((with_reducible (exact HB.out)))⟩⟩
    ·rw [if_neg c9] at H
     have c9b0 : (t183 == 0) = false := beq_eq_false_iff_ne.mpr c9
     have c9b1 : (t183 != 0) = true := bne_iff_ne.mpr c9
     ((skip))
     have H' := Aside0.mk H
     clear H
     go_wp2_with (first | ((with_reducible refine gate_callee (f := 9) rfl ?_); refine goesL_ (some 15) rfl rfl Tryz.func9 (by kernel_rfl) rfl #[] rfl (by (try simp only [List.map_toArray, List.map_cons, List.map_nil]); (done)) ?_; (with_reducible refine (lunettelaw12_awake.calls  true _ A4.out ?sideT).mono ?_); (case sideT => exact Tabs.keep HTB.out (by repeat ((with_reducible (exact HB.out))))); rintro e w17 ⟨rfl, hb⟩; refine ⟨_, rfl, ?_⟩; have n0_ := Aside0.mk (below_step (by repeat ((with_reducible (exact HB.out)))) hb); clear HB; have HB := n0_; clear n0_; (try clear hb)) | (go_at_call 10; (with_reducible refine (lunetteref12_Few.calls k _ _ l0 true _ ?side1 ?side2 A6.out).mono ?_); (case side1 => repeat ((exact (Kd.C_below HR0.out HB.out)))); (case side2 => exact HC0.out); rintro e w18 ⟨rfl, hb⟩; have n0_ := Aside0.mk (below_step (by repeat ((with_reducible (exact HB.out)))) hb); clear HB; have HB := n0_; clear n0_; (try clear hb)) | (go_at_call 15; (with_reducible refine (lunetteref12_Check.calls k _ _ l0 t183 _ ?side1 ?side2 A8.out).mono ?_); (case side1 => repeat ((exact (Kd.C_below HR0.out HB.out)))); (case side2 => exact HC0.out); rintro e w19 ⟨rfl, hb⟩; have n0_ := Aside0.mk (below_step (by repeat ((with_reducible (exact HB.out)))) hb); clear HB; have HB := n0_; clear n0_; (try clear hb)))
     go_meet
     case rel => exact ⟨_, (true), (by (rfl)), H', ⟨by (omega)⟩, ⟨by repeat ((with_reducible (exact HB.out)))⟩⟩
   ·replace c7 := Bool.eq_false_iff.mpr c7
    subst c7
    have H1 : (lunettelaw12_RuleLine.j0 k l0 a1 true) = some r := by rw [if_neg (show ¬ (false = true) by decide)] at H; exact H
    clear H
    have H := H1
    clear H1
    have H' := Aside0.mk H
    clear H
    go_wp2_with (first | ((with_reducible refine gate_callee (f := 9) rfl ?_); refine goesL_ (some 15) rfl rfl Tryz.func9 (by kernel_rfl) rfl #[] rfl (by (try simp only [List.map_toArray, List.map_cons, List.map_nil]); (done)) ?_; (with_reducible refine (lunettelaw12_awake.calls  true _ A4.out ?sideT).mono ?_); (case sideT => exact Tabs.keep HTB.out (by repeat ((with_reducible (exact HB.out))))); rintro e w20 ⟨rfl, hb⟩; refine ⟨_, rfl, ?_⟩; have n0_ := Aside0.mk (below_step (by repeat ((with_reducible (exact HB.out)))) hb); clear HB; have HB := n0_; clear n0_; (try clear hb)) | (go_at_call 10; (with_reducible refine (lunetteref12_Few.calls k _ _ l0 false _ ?side1 ?side2 A6.out).mono ?_); (case side1 => repeat ((exact (Kd.C_below HR0.out HB.out)))); (case side2 => exact HC0.out); rintro e w21 ⟨rfl, hb⟩; have n0_ := Aside0.mk (below_step (by repeat ((with_reducible (exact HB.out)))) hb); clear HB; have HB := n0_; clear n0_; (try clear hb)))
    go_meet
    case rel => exact ⟨_, (true), (by (rfl)), H', ⟨by (omega)⟩, ⟨by repeat ((with_reducible (exact HB.out)))⟩⟩
  ·replace c5 := Bool.eq_false_iff.mpr c5
   subst c5
   have H1 : (lunettelaw12_RuleLine.j0 k l0 a1 true) = some r := by rw [if_neg (show ¬ (false = true) by decide)] at H; exact H
   clear H
   have H := H1
   clear H1
   have H' := Aside0.mk H
   clear H
   go_wp2_with (((with_reducible refine gate_callee (f := 9) rfl ?_); refine goesL_ (some 15) rfl rfl Tryz.func9 (by kernel_rfl) rfl #[] rfl (by (try simp only [List.map_toArray, List.map_cons, List.map_nil]); (done)) ?_; (with_reducible refine (lunettelaw12_awake.calls  false _ A4.out ?sideT).mono ?_); (case sideT => exact Tabs.keep HTB.out (by repeat ((with_reducible (exact HB.out))))); rintro e w22 ⟨rfl, hb⟩; refine ⟨_, rfl, ?_⟩; have n0_ := Aside0.mk (below_step (by repeat ((with_reducible (exact HB.out)))) hb); clear HB; have HB := n0_; clear n0_; (try clear hb)))
   go_meet
   case rel => exact ⟨_, (true), (by (rfl)), H', ⟨by (omega)⟩, ⟨by repeat ((with_reducible (exact HB.out)))⟩⟩
 case rest =>
  clear HC3
  obtain ⟨kq, x36_2, rfl, HA, HJ2, HB⟩ := hcut
  cases kq with
  | zero => exact absurd HA.out (by simp [lunettelaw12_RuleLine.j0])
  | succ kj2 =>
   have H := HA.out
   clear HA
   simp only [lunettelaw12_RuleLine.j0] at H
   by_cases c23 : x36_2 = true
   ·subst c23
    have H1 : ((lunettelaw12_awake.f).bind fun t184 => (some t184)) = some r := by rw [if_pos rfl] at H; exact H
    clear H
    have H := H1
    clear H1
    replace H := Option.bind_eq_some_iff.mp H
    obtain ⟨t184, A240, H⟩ := H
    replace H : (some t184) = some r := H
    have A24 := Aside0.mk A240
    clear A240
    obtain rfl := Option.some.inj H
    go_wp2_with (((with_reducible refine gate_callee (f := 9) rfl ?_); refine goesL_ (some 37) rfl rfl Tryz.func9 (by kernel_rfl) rfl #[] rfl (by (try simp only [List.map_toArray, List.map_cons, List.map_nil]); (done)) ?_; (with_reducible refine (lunettelaw12_awake.calls  t184 _ A24.out ?sideT).mono ?_); (case sideT => exact Tabs.keep HTB.out (by repeat ((with_reducible (exact HB.out))))); rintro e w25 ⟨rfl, hb⟩; refine ⟨_, rfl, ?_⟩; have n0_ := Aside0.mk (below_step (by repeat ((with_reducible (exact HB.out)))) hb); clear HB; have HB := n0_; clear n0_; (try clear hb)))
    go_ret
    exact ⟨by (rfl), by repeat ((with_reducible (exact HB.out)))⟩
   ·replace c23 := Bool.eq_false_iff.mpr c23
    subst c23
    have H1 : (lunettelaw12_RuleLine.l0 kj2 l0 a1 0) = some r := by rw [if_neg (show ¬ (false = true) by decide)] at H; exact H
    clear H
    have H := H1
    clear H1
    have H' := Aside0.mk H
    clear H
    go_wp2
    go_loopg [5] kj2 (fun kq v5 w' => ∃ (x5_2 : Int), v5 = .int .i64 x5_2 ∧ Aside0 (lunettelaw12_RuleLine.l0 kq l0 a1 x5_2 = some r) ∧ Aside0 (kq ≤ kj2) ∧ Aside0 (Below w.heap.size w w'))
    case atStart => exact ⟨(0), (by (rfl)), H', ⟨Nat.le_refl _⟩, ⟨by repeat ((with_reducible (exact HB.out)))⟩⟩
    case round =>
     clear H'
     obtain ⟨x5_2, rfl, HA, HK2, HB⟩ := hrel
     cases gk with
     | zero => exact absurd HA.out (by simp [lunettelaw12_RuleLine.l0])
     | succ k2 =>
      have H := HA.out
      clear HA
      simp only [lunettelaw12_RuleLine.l0] at H
      by_cases c26 : x5_2 < (a1.size : Int)
      ·rw [if_pos c26] at H
       have c26b0 : decide (x5_2 < (a1.size : Int)) = true := decide_eq_true c26
       clear c26
       by_cases c27 : 0 ≤ x5_2
       ·rw [if_pos c27] at H
        have c27b0 : decide (0 ≤ x5_2) = true := decide_eq_true c27
        clear c27
        by_cases c29 : (bt a1 x5_2) = 10
        ·rw [if_pos c29] at H
         have c29b0 : ((bt a1 x5_2) == 10) = true := beq_iff_eq.mpr c29
         have c29b1 : ((bt a1 x5_2) != 10) = false := bne_eq_false_iff_eq.mpr c29
         clear c29
         obtain rfl := Option.some.inj H
         have p28 : 0 ≤ (x5_2 : Int) := of_decide_eq_true (by (with_reducible assumption))
         have q28 : x5_2 < (a1.size : Int) := of_decide_eq_true (by (with_reducible assumption))
         have hx28 := bt_at a1 x5_2
         replace p28 := eq_true p28
         replace q28 := eq_true q28
         go_wp2
         go_ret
         exact ⟨by (rfl), by repeat ((with_reducible (exact HB.out)))⟩
        ·rw [if_neg c29] at H
         have c29b0 : ((bt a1 x5_2) == 10) = false := beq_eq_false_iff_ne.mpr c29
         have c29b1 : ((bt a1 x5_2) != 10) = true := bne_iff_ne.mpr c29
         have H' := Aside0.mk H
         clear H
         have p28 : 0 ≤ (x5_2 : Int) := of_decide_eq_true (by (with_reducible assumption))
         have q28 : x5_2 < (a1.size : Int) := of_decide_eq_true (by (with_reducible assumption))
         have hx28 := bt_at a1 x5_2
         replace p28 := eq_true p28
         replace q28 := eq_true q28
         go_wp2
         go_roundg k2
         case measure => have := HJ2.out; have := HK2.out; omega
         case rel => exact ⟨(wrap64 (x5_2 + 1)), (by (rfl)), H', ⟨by have := HJ2.out; have := HK2.out; omega⟩, ⟨by repeat ((with_reducible (exact HB.out)))⟩⟩
       ·rw [if_neg c27] at H
        exact absurd H (by simp)
      ·rw [if_neg c26] at H
       have c26b0 : decide (x5_2 < (a1.size : Int)) = false := decide_eq_false c26
       clear c26
       replace H := Option.bind_eq_some_iff.mp H
       obtain ⟨t185, A300, H⟩ := H
       replace H : (if t185.size + a1.size ≤ 9223372036854775807 then (if (t185 ++ a1).size + 1 ≤ 9223372036854775807 then ((rule_Read.f k2 ((t185 ++ a1) ++ (⟨#[10]⟩ : ByteArray))).bind fun bt186 => (if bt186.2.1 = 0 then (if bt186.2.2 = 0 then (some true) else (if bt186.2.2 = 121 then (some true) else (some (bt186.2.2 == 122)))) else (lunettelaw12_RuleLine.l1 k2 a1 t185 bt186.2.1 bt186.2.2 0 0))) else (none)) else (none)) = some r := H
       have A30 := Aside0.mk A300
       clear A300
       by_cases c31 : t185.size + a1.size ≤ 9223372036854775807
       ·rw [if_pos c31] at H
        have c31b0 := eq_true c31
        have c31b1 : decide (t185.size + a1.size ≤ 9223372036854775807) = true := decide_eq_true c31
        try have c31b2 : (9223372036854775807 < t185.size + a1.size) = False := eq_false (Nat.not_lt.2 c31)
        by_cases c32 : (t185 ++ a1).size + 1 ≤ 9223372036854775807
        ·rw [if_pos c32] at H
         have c32b0 := eq_true c32
         have c32b1 : decide ((t185 ++ a1).size + 1 ≤ 9223372036854775807) = true := decide_eq_true c32
         try have c32b2 : (9223372036854775807 < (t185 ++ a1).size + 1) = False := eq_false (Nat.not_lt.2 c32)
         try have c32n : t185.size + a1.size + 1 ≤ 9223372036854775807 := by (have Q_ := c32; simp only [ByteArray.size_append, ByteArray.size_extract] at Q_; (omega))
         try have c32m : (9223372036854775807 < t185.size + a1.size + 1) = False := eq_false (Nat.not_lt.2 c32n)
         replace H := Option.bind_eq_some_iff.mp H
         obtain ⟨⟨t186, t187, t188⟩, A330, H⟩ := H
         replace H : (if t187 = 0 then (if t188 = 0 then (some true) else (if t188 = 121 then (some true) else (some (t188 == 122)))) else (lunettelaw12_RuleLine.l1 k2 a1 t185 t187 t188 0 0)) = some r := H
         have A33 := Aside0.mk A330
         clear A330
         by_cases c34 : t187 = 0
         ·rw [if_pos c34] at H
          have c34b0 : (t187 == 0) = true := beq_iff_eq.mpr c34
          have c34b1 : (t187 != 0) = false := bne_eq_false_iff_eq.mpr c34
          clear c34
          by_cases c35 : t188 = 0
          ·rw [if_pos c35] at H
           have c35b0 : (t188 == 0) = true := beq_iff_eq.mpr c35
           have c35b1 : (t188 != 0) = false := bne_eq_false_iff_eq.mpr c35
           clear c35
           obtain rfl := Option.some.inj H
           go_wp2_with (first | ((with_reducible refine gate_callee (f := 16) rfl ?_); refine goesL_ (some 49) rfl rfl Tryz.func16 (by kernel_rfl) rfl #[.slice A0 l0.length c0] rfl (by (try simp only [List.map_toArray, List.map_cons, List.map_nil]); (rfl)) ?_; (with_reducible refine (lunetteref12_Show.calls k2 _ _ l0 t185 _ ?side1 ?side2 A30.out).mono ?_); (case side1 => repeat ((exact (Kd.C_below HR0.out HB.out)))); (case side2 => exact HC0.out); rintro e w36 ⟨rfl, hb⟩; refine ⟨_, rfl, ?_⟩; have n0_ := Aside0.mk (below_step (by repeat ((with_reducible (exact HB.out)))) hb); clear HB; have HB := n0_; clear n0_; (try clear hb)) | ((with_reducible refine gate_callee (f := 14) rfl ?_); refine goesL_ (some 55) rfl rfl Tryz.func14 (by kernel_rfl) rfl #[.string ((t185 ++ a1) ++ (⟨#[10]⟩ : ByteArray))] rfl (by (try simp only [List.map_toArray, List.map_cons, List.map_nil]); (rfl)) ?_; (with_reducible refine (rule_Read.calls k2 ((t185 ++ a1) ++ (⟨#[10]⟩ : ByteArray)) t186 t187 t188 _ ?sideT A33.out).mono ?_); (case sideT => exact Tabs.keep HTB.out (by repeat ((with_reducible (exact HB.out))))); rintro e w37 ⟨v189, rfl, ho0, hb⟩; refine ⟨_, rfl, ?_⟩; have n0_ := Aside0.mk (Kd.R_lower ho0 (below_size (by repeat ((with_reducible (exact HB.out)))))); have n1_ := Aside0.mk (below_step (by repeat ((with_reducible (exact HB.out)))) hb); clear HB; have HO190 := n0_; have HB := n1_; clear n0_ n1_; (try clear hb); (try clear ho0)))
           go_ret
           exact ⟨by (rfl), by repeat ((with_reducible (exact HB.out)))⟩
          ·rw [if_neg c35] at H
           have c35b0 : (t188 == 0) = false := beq_eq_false_iff_ne.mpr c35
           have c35b1 : (t188 != 0) = true := bne_iff_ne.mpr c35
           by_cases c38 : t188 = 121
           ·rw [if_pos c38] at H
            have c38b0 : (t188 == 121) = true := beq_iff_eq.mpr c38
            have c38b1 : (t188 != 121) = false := bne_eq_false_iff_eq.mpr c38
            clear c38
            obtain rfl := Option.some.inj H
            go_wp2_with (first | ((with_reducible refine gate_callee (f := 16) rfl ?_); refine goesL_ (some 49) rfl rfl Tryz.func16 (by kernel_rfl) rfl #[.slice A0 l0.length c0] rfl (by (try simp only [List.map_toArray, List.map_cons, List.map_nil]); (rfl)) ?_; (with_reducible refine (lunetteref12_Show.calls k2 _ _ l0 t185 _ ?side1 ?side2 A30.out).mono ?_); (case side1 => repeat ((exact (Kd.C_below HR0.out HB.out)))); (case side2 => exact HC0.out); rintro e w39 ⟨rfl, hb⟩; refine ⟨_, rfl, ?_⟩; have n0_ := Aside0.mk (below_step (by repeat ((with_reducible (exact HB.out)))) hb); clear HB; have HB := n0_; clear n0_; (try clear hb)) | ((with_reducible refine gate_callee (f := 14) rfl ?_); refine goesL_ (some 55) rfl rfl Tryz.func14 (by kernel_rfl) rfl #[.string ((t185 ++ a1) ++ (⟨#[10]⟩ : ByteArray))] rfl (by (try simp only [List.map_toArray, List.map_cons, List.map_nil]); (rfl)) ?_; (with_reducible refine (rule_Read.calls k2 ((t185 ++ a1) ++ (⟨#[10]⟩ : ByteArray)) t186 t187 t188 _ ?sideT A33.out).mono ?_); (case sideT => exact Tabs.keep HTB.out (by repeat ((with_reducible (exact HB.out))))); rintro e w40 ⟨v189, rfl, ho0, hb⟩; refine ⟨_, rfl, ?_⟩; have n0_ := Aside0.mk (Kd.R_lower ho0 (below_size (by repeat ((with_reducible (exact HB.out)))))); have n1_ := Aside0.mk (below_step (by repeat ((with_reducible (exact HB.out)))) hb); clear HB; have HO190 := n0_; have HB := n1_; clear n0_ n1_; (try clear hb); (try clear ho0)))
            go_ret
            exact ⟨by (rfl), by repeat ((with_reducible (exact HB.out)))⟩
           ·rw [if_neg c38] at H
            have c38b0 : (t188 == 121) = false := beq_eq_false_iff_ne.mpr c38
            have c38b1 : (t188 != 121) = true := bne_iff_ne.mpr c38
            obtain rfl := Option.some.inj H
            go_wp2_with (first | ((with_reducible refine gate_callee (f := 16) rfl ?_); refine goesL_ (some 49) rfl rfl Tryz.func16 (by kernel_rfl) rfl #[.slice A0 l0.length c0] rfl (by (try simp only [List.map_toArray, List.map_cons, List.map_nil]); (rfl)) ?_; (with_reducible refine (lunetteref12_Show.calls k2 _ _ l0 t185 _ ?side1 ?side2 A30.out).mono ?_); (case side1 => repeat ((exact (Kd.C_below HR0.out HB.out)))); (case side2 => exact HC0.out); rintro e w41 ⟨rfl, hb⟩; refine ⟨_, rfl, ?_⟩; have n0_ := Aside0.mk (below_step (by repeat ((with_reducible (exact HB.out)))) hb); clear HB; have HB := n0_; clear n0_; (try clear hb)) | ((with_reducible refine gate_callee (f := 14) rfl ?_); refine goesL_ (some 55) rfl rfl Tryz.func14 (by kernel_rfl) rfl #[.string ((t185 ++ a1) ++ (⟨#[10]⟩ : ByteArray))] rfl (by (try simp only [List.map_toArray, List.map_cons, List.map_nil]); (rfl)) ?_; (with_reducible refine (rule_Read.calls k2 ((t185 ++ a1) ++ (⟨#[10]⟩ : ByteArray)) t186 t187 t188 _ ?sideT A33.out).mono ?_); (case sideT => exact Tabs.keep HTB.out (by repeat ((with_reducible (exact HB.out))))); rintro e w42 ⟨v189, rfl, ho0, hb⟩; refine ⟨_, rfl, ?_⟩; have n0_ := Aside0.mk (Kd.R_lower ho0 (below_size (by repeat ((with_reducible (exact HB.out)))))); have n1_ := Aside0.mk (below_step (by repeat ((with_reducible (exact HB.out)))) hb); clear HB; have HO190 := n0_; have HB := n1_; clear n0_ n1_; (try clear hb); (try clear ho0)))
            go_ret
            exact ⟨by (rfl), by repeat ((with_reducible (exact HB.out)))⟩
         ·rw [if_neg c34] at H
          have c34b0 : (t187 == 0) = false := beq_eq_false_iff_ne.mpr c34
          have c34b1 : (t187 != 0) = true := bne_iff_ne.mpr c34
          have H' := Aside0.mk H
          clear H
          go_wp2_with (first | ((with_reducible refine gate_callee (f := 16) rfl ?_); refine goesL_ (some 49) rfl rfl Tryz.func16 (by kernel_rfl) rfl #[.slice A0 l0.length c0] rfl (by (try simp only [List.map_toArray, List.map_cons, List.map_nil]); (rfl)) ?_; (with_reducible refine (lunetteref12_Show.calls k2 _ _ l0 t185 _ ?side1 ?side2 A30.out).mono ?_); (case side1 => repeat ((exact (Kd.C_below HR0.out HB.out)))); (case side2 => exact HC0.out); rintro e w43 ⟨rfl, hb⟩; refine ⟨_, rfl, ?_⟩; have n0_ := Aside0.mk (below_step (by repeat ((with_reducible (exact HB.out)))) hb); clear HB; have HB := n0_; clear n0_; (try clear hb)) | ((with_reducible refine gate_callee (f := 14) rfl ?_); refine goesL_ (some 55) rfl rfl Tryz.func14 (by kernel_rfl) rfl #[.string ((t185 ++ a1) ++ (⟨#[10]⟩ : ByteArray))] rfl (by (try simp only [List.map_toArray, List.map_cons, List.map_nil]); (rfl)) ?_; (with_reducible refine (rule_Read.calls k2 ((t185 ++ a1) ++ (⟨#[10]⟩ : ByteArray)) t186 t187 t188 _ ?sideT A33.out).mono ?_); (case sideT => exact Tabs.keep HTB.out (by repeat ((with_reducible (exact HB.out))))); rintro e w44 ⟨v189, rfl, ho0, hb⟩; refine ⟨_, rfl, ?_⟩; have n0_ := Aside0.mk (Kd.R_lower ho0 (below_size (by repeat ((with_reducible (exact HB.out)))))); have n1_ := Aside0.mk (below_step (by repeat ((with_reducible (exact HB.out)))) hb); clear HB; have HO190 := n0_; have HB := n1_; clear n0_ n1_; (try clear hb); (try clear ho0)))
          go_loopg [10, 11] k2 (fun kq v10 v11 w' => ∃ (x10_3 : Int) (x11_3 : Int), v10 = .int .i64 x10_3 ∧ v11 = .int .i64 x11_3 ∧ Aside0 (lunettelaw12_RuleLine.l1 kq a1 t185 t187 t188 x10_3 x11_3 = some r) ∧ Aside0 (kq ≤ k2) ∧ Aside0 (Below w.heap.size w w'))
          case atStart => exact ⟨(0), (0), (by (rfl)), (by (rfl)), H', ⟨Nat.le_refl _⟩, ⟨by repeat ((with_reducible (exact HB.out)))⟩⟩
          case round =>
           clear H'
           try clear c26b0
           try clear c31
           try clear c31b0
           try clear c31b1
           try clear c31b2
           try clear c32
           try clear c32b0
           try clear c32b1
           try clear c32b2
           try clear c34
           try clear c34b0
           try clear c34b1
           obtain ⟨x10_3, x11_3, rfl, rfl, HA, HK3, HB⟩ := hrel
           cases gk with
           | zero => exact absurd HA.out (by simp [lunettelaw12_RuleLine.l1])
           | succ k3 =>
            have H := HA.out
            clear HA
            simp only [lunettelaw12_RuleLine.l1] at H
            by_cases c45 : x11_3 < (t185.size : Int)
            ·rw [if_pos c45] at H
             have c45b0 : decide (x11_3 < (t185.size : Int)) = true := decide_eq_true c45
             clear c45
             by_cases c46 : 0 ≤ x11_3
             ·rw [if_pos c46] at H
              have c46b0 : decide (0 ≤ x11_3) = true := decide_eq_true c46
              clear c46
              by_cases c48 : (bt t185 x11_3) = 10
              ·rw [if_pos c48] at H
               have c48b0 : ((bt t185 x11_3) == 10) = true := beq_iff_eq.mpr c48
               have c48b1 : ((bt t185 x11_3) != 10) = false := bne_eq_false_iff_eq.mpr c48
               clear c48
               have H' := Aside0.mk H
               clear H
               have p47 : 0 ≤ (x11_3 : Int) := of_decide_eq_true (by (with_reducible assumption))
               have q47 : x11_3 < (t185.size : Int) := of_decide_eq_true (by (with_reducible assumption))
               have hx47 := bt_at t185 x11_3
               replace p47 := eq_true p47
               replace q47 := eq_true q47
               go_wp2
               go_roundg k3
               case measure => have := HJ2.out; have := HK2.out; have := HK3.out; omega
               case rel => exact ⟨(wrap64 (x10_3 + 1)), (wrap64 (x11_3 + 1)), (by (rfl)), (by (rfl)), H', ⟨by have := HJ2.out; have := HK2.out; have := HK3.out; omega⟩, ⟨by repeat ((with_reducible (exact HB.out)))⟩⟩
              ·rw [if_neg c48] at H
               have c48b0 : ((bt t185 x11_3) == 10) = false := beq_eq_false_iff_ne.mpr c48
               have c48b1 : ((bt t185 x11_3) != 10) = true := bne_iff_ne.mpr c48
               have H' := Aside0.mk H
               clear H
               have p47 : 0 ≤ (x11_3 : Int) := of_decide_eq_true (by (with_reducible assumption))
               have q47 : x11_3 < (t185.size : Int) := of_decide_eq_true (by (with_reducible assumption))
               have hx47 := bt_at t185 x11_3
               replace p47 := eq_true p47
               replace q47 := eq_true q47
               go_wp2
               go_roundg k3
               case measure => have := HJ2.out; have := HK2.out; have := HK3.out; omega
               case rel => exact ⟨(x10_3), (wrap64 (x11_3 + 1)), (by (rfl)), (by (rfl)), H', ⟨by have := HJ2.out; have := HK2.out; have := HK3.out; omega⟩, ⟨by repeat ((with_reducible (exact HB.out)))⟩⟩
             ·rw [if_neg c46] at H
              exact absurd H (by simp)
            ·rw [if_neg c45] at H
             have c45b0 : decide (x11_3 < (t185.size : Int)) = false := decide_eq_false c45
             clear c45
             by_cases c49 : t185.size + a1.size ≤ 9223372036854775807
             ·rw [if_pos c49] at H
              have c49b0 := eq_true c49
              have c49b1 : decide (t185.size + a1.size ≤ 9223372036854775807) = true := decide_eq_true c49
              try have c49b2 : (9223372036854775807 < t185.size + a1.size) = False := eq_false (Nat.not_lt.2 c49)
              by_cases c50 : (t185 ++ a1).size + 1 ≤ 9223372036854775807
              ·rw [if_pos c50] at H
               have c50b0 := eq_true c50
               have c50b1 : decide ((t185 ++ a1).size + 1 ≤ 9223372036854775807) = true := decide_eq_true c50
               try have c50b2 : (9223372036854775807 < (t185 ++ a1).size + 1) = False := eq_false (Nat.not_lt.2 c50)
               try have c50n : t185.size + a1.size + 1 ≤ 9223372036854775807 := by (have Q_ := c50; simp only [ByteArray.size_append, ByteArray.size_extract] at Q_; (omega))
               try have c50m : (9223372036854775807 < t185.size + a1.size + 1) = False := eq_false (Nat.not_lt.2 c50n)
               by_cases c51 : ((t185 ++ a1) ++ (⟨#[10]⟩ : ByteArray)).size + t185.size ≤ 9223372036854775807
               ·rw [if_pos c51] at H
                have c51b0 := eq_true c51
                have c51b1 : decide (((t185 ++ a1) ++ (⟨#[10]⟩ : ByteArray)).size + t185.size ≤ 9223372036854775807) = true := decide_eq_true c51
                try have c51b2 : (9223372036854775807 < ((t185 ++ a1) ++ (⟨#[10]⟩ : ByteArray)).size + t185.size) = False := eq_false (Nat.not_lt.2 c51)
                try have c51n : t185.size + a1.size + 1 + t185.size ≤ 9223372036854775807 := by (have L0_ : (⟨#[10]⟩ : ByteArray).size = 1 := rfl; have Q_ := c51; simp only [ByteArray.size_append, ByteArray.size_extract] at Q_; (omega))
                try have c51m : (9223372036854775807 < t185.size + a1.size + 1 + t185.size) = False := eq_false (Nat.not_lt.2 c51n)
                replace H := Option.bind_eq_some_iff.mp H
                obtain ⟨⟨t191, t192, t193⟩, A520, H⟩ := H
                replace H : (if t187 = (wrap64 (x10_3 + 1)) then (if t188 = 120 then (if (t191.length : Int) = 0 then (if t192 = t187 then (some (t193 == t188)) else (some false)) else (some false)) else (some false)) else (some false)) = some r := H
                have A52 := Aside0.mk A520
                clear A520
                by_cases c53 : t187 = (wrap64 (x10_3 + 1))
                ·rw [if_pos c53] at H
                 have c53b0 : (t187 == (wrap64 (x10_3 + 1))) = true := beq_iff_eq.mpr c53
                 have c53b1 : (t187 != (wrap64 (x10_3 + 1))) = false := bne_eq_false_iff_eq.mpr c53
                 clear c53
                 by_cases c54 : t188 = 120
                 ·rw [if_pos c54] at H
                  have c54b0 : (t188 == 120) = true := beq_iff_eq.mpr c54
                  have c54b1 : (t188 != 120) = false := bne_eq_false_iff_eq.mpr c54
                  clear c54
                  by_cases c55 : (t191.length : Int) = 0
                  ·rw [if_pos c55] at H
                   have c55b0 : ((t191.length : Int) == 0) = true := beq_iff_eq.mpr c55
                   have c55b1 : ((t191.length : Int) != 0) = false := bne_eq_false_iff_eq.mpr c55
                   clear c55
                   by_cases c56 : t192 = t187
                   ·rw [if_pos c56] at H
                    have c56b0 : (t192 == t187) = true := beq_iff_eq.mpr c56
                    have c56b1 : (t192 != t187) = false := bne_eq_false_iff_eq.mpr c56
                    clear c56
                    obtain rfl := Option.some.inj H
                    go_wp2_with (((with_reducible refine gate_callee (f := 14) rfl ?_); refine goesL_ (some 90) rfl rfl Tryz.func14 (by kernel_rfl) rfl #[.string (((t185 ++ a1) ++ (⟨#[10]⟩ : ByteArray)) ++ t185)] rfl (by (try simp only [List.map_toArray, List.map_cons, List.map_nil]); (rfl)) ?_; (with_reducible refine (rule_Read.calls k3 (((t185 ++ a1) ++ (⟨#[10]⟩ : ByteArray)) ++ t185) t191 t192 t193 _ ?sideT A52.out).mono ?_); (case sideT => exact Tabs.keep HTB.out (by repeat ((with_reducible (exact HB.out))))); rintro e w57 ⟨v194, rfl, ho0, hb⟩; refine ⟨_, rfl, ?_⟩; have n0_ := Aside0.mk (Kd.R_lower ho0 (below_size (by repeat ((with_reducible (exact HB.out)))))); have n1_ := Aside0.mk (below_step (by repeat ((with_reducible (exact HB.out)))) hb); clear HB; have HO195 := n0_; have HB := n1_; clear n0_ n1_; (try clear hb); (try clear ho0); obtain ⟨Ao58, co58, eo58⟩ := Kd.R_slice HO195.out; subst eo58))
                    go_ret
                    exact ⟨by (rfl), by repeat ((with_reducible (exact HB.out)))⟩
                   ·rw [if_neg c56] at H
                    have c56b0 : (t192 == t187) = false := beq_eq_false_iff_ne.mpr c56
                    have c56b1 : (t192 != t187) = true := bne_iff_ne.mpr c56
                    exact absurd ((Option.some.inj H).trans HTRUE.out) (by decide)
                  ·rw [if_neg c55] at H
                   have c55b0 : ((t191.length : Int) == 0) = false := beq_eq_false_iff_ne.mpr c55
                   have c55b1 : ((t191.length : Int) != 0) = true := bne_iff_ne.mpr c55
                   have c55b2 : ¬ (t191 = []) := fun h_ => c55 (by rw [h_]; rfl)
                   exact absurd ((Option.some.inj H).trans HTRUE.out) (by decide)
                 ·rw [if_neg c54] at H
                  have c54b0 : (t188 == 120) = false := beq_eq_false_iff_ne.mpr c54
                  have c54b1 : (t188 != 120) = true := bne_iff_ne.mpr c54
                  exact absurd ((Option.some.inj H).trans HTRUE.out) (by decide)
                ·rw [if_neg c53] at H
                 have c53b0 : (t187 == (wrap64 (x10_3 + 1))) = false := beq_eq_false_iff_ne.mpr c53
                 have c53b1 : (t187 != (wrap64 (x10_3 + 1))) = true := bne_iff_ne.mpr c53
                 exact absurd ((Option.some.inj H).trans HTRUE.out) (by decide)
               ·rw [if_neg c51] at H
                exact absurd H (by simp)
              ·rw [if_neg c50] at H
               exact absurd H (by simp)
             ·rw [if_neg c49] at H
              exact absurd H (by simp)
        ·rw [if_neg c32] at H
         exact absurd H (by simp)
       ·rw [if_neg c31] at H
        exact absurd H (by simp)
end Go.Proofs.YtjcipbdocbomjaaGreatDoor.K
namespace Go.Proofs.YtjcipbdocbomjaaGreatDoor.K
set_option linter.unusedVariables false
set_option linter.unusedSimpArgs false
open Go.RowKit Go.Proofs.YtjcipbdocbomjaaGreatDoorW.PrintWords Go.Proofs.YtjcipbdocbomjaaGreatDoorW.PrintLast Go.Proofs.YtjcipbdocbomjaaGreatDoorW.PrintMore
/-! Words' bytes. -/
def wb (b : UInt8) : Bool := (decide (97 ≤ b.toNat) && decide (b.toNat ≤ 122)) || (decide (48 ≤ b.toNat) && decide (b.toNat ≤ 57)) || decide (b.toNat = 95)
def wordB (s : ByteArray) : Bool := decide (s.data.toList ≠ []) && s.data.toList.all wb
theorem wb_bounds {b : UInt8} (h : wb b = true) : 48 ≤ b.toNat ∧ b.toNat ≤ 122 := by
 unfold wb at h
 simp only [Bool.or_eq_true, Bool.and_eq_true, decide_eq_true_eq] at h
 omega
theorem wordB_open {s : ByteArray} (h : wordB s = true) : s.data.toList ≠ [] ∧ ∀ b ∈ s.data.toList, wb b = true := by
 unfold wordB at h
 rw [Bool.and_eq_true, decide_eq_true_eq, List.all_eq_true] at h
 exact h
theorem odd_wb {b : UInt8} (h : wb b = true) : oddR b.toNat = false := by
 unfold wb at h
 unfold oddR
 rw [h]; rfl
theorem wordP_of {s : ByteArray} (h : wordB s = true) : wordP s = true := by
 obtain ⟨h1, h2⟩ := wordB_open h
 have hi : ∀ f pos, Lib.idxFuncFrom oddR true s f pos = -1 := by
  intro f
  induction f with
  | zero => intro pos; rfl
  | succ f ih =>
   intro pos
   rw [Lib.idxFuncFrom]
   by_cases hp : pos < s.size
   ·have hw : wb s[pos] = true := h2 _ (by have : s[pos] = s.data.toList[pos]'(by rw [data_len]; exact hp) := rfl; rw [this]; exact List.getElem_mem _)
    rw [if_pos hp, decode_ascii s pos hp (by have := (wb_bounds hw).2; omega), odd_wb hw, if_neg (by decide)]
    exact ih _
   ·rw [if_neg hp]
 unfold wordP Lib.idxFunc
 rw [hi, Bool.and_eq_true]
 refine ⟨?_, rfl⟩
 rw [bne_iff_ne, tl_data]
 exact h1
theorem name_word {s : ByteArray} (h : ruleNameP s = true) : wordB s = true ∧ ∀ w ∈ theWords, s ≠ w := by
 unfold ruleNameP at h
 rw [Bool.and_eq_true, Bool.not_eq_true', List.any_eq_false] at h
 obtain ⟨h1, h2⟩ := h
 refine ⟨?_, fun w hw e => ?_⟩
 ·unfold madeB at h1
  simp only [Bool.and_eq_true, List.all_eq_true, decide_eq_true_eq] at h1
  obtain ⟨⟨a, b⟩, c⟩ := h1
  unfold wordB
  rw [Bool.and_eq_true, decide_eq_true_eq, List.all_eq_true]
  refine ⟨fun e => by rw [← data_len, e] at b; simp at b, fun x hx => ?_⟩
  obtain ⟨j, hj, rfl⟩ := List.mem_iff_getElem.1 hx
  have hj2 : j < s.size := by rw [data_len] at hj; exact hj
  have := a j (List.mem_range.2 hj2)
  rw [show bt s (j : Int) = ((s.data.toList[j]).toNat : Int) by
   have : bt s (j : Int) = (s[j].toNat : Int) := by simp [bt, hj2]
   rw [this]; rfl] at this
  unfold nameC letterB digitB at this
  simp only [Bool.or_eq_true, Bool.and_eq_true, decide_eq_true_eq, beq_iff_eq] at this
  unfold wb
  simp only [Bool.or_eq_true, Bool.and_eq_true, decide_eq_true_eq]
  omega
 ·have := h2 w hw
  unfold isP at this
  rw [e] at this
  simp at this
/-! Pieces. -/
def G (cur l : List UInt8) : List (List UInt8) := Lib.fieldsGoD (l.length + 1) cur l
theorem G_nil : G [] [] = [] := rfl
theorem G_step (b : UInt8) (hb : b.toNat < 128) (cur t : List UInt8) : G cur (b :: t) = if Lib.isSpaceR b.toNat = true then (if cur = [] then [] else [cur]) ++ G [] t else G (cur ++ [b]) t := by
 unfold G
 rw [List.length_cons]
 conv => lhs; rw [Lib.fieldsGoD]
 rw [if_neg (by simp), Lib.decodeL_ascii b t hb]
 rfl
def solid (b : UInt8) : Prop := 33 ≤ b.toNat ∧ b.toNat < 128
instance (b : UInt8) : Decidable (solid b) := by unfold solid; infer_instance
theorem G_solid (w : List UInt8) (hw : ∀ b ∈ w, solid b) : ∀ cur t, G cur (w ++ t) = G (cur ++ w) t := by
 induction w with
 | nil => intro cur t; rw [List.append_nil]; rfl
 | cons b w ih =>
  intro cur t
  have hb := hw b List.mem_cons_self
  rw [List.cons_append, G_step b hb.2, if_neg (by rw [Lib.isSpaceR_false (fun hp => by unfold Lib.IsSpaceP at hp; have := hb.1; have := hb.2; omega)]; decide), ih (fun x hx => hw x (List.mem_cons_of_mem _ hx))]
  rw [List.append_assoc]; rfl
theorem G_space (cur t : List UInt8) : G cur (32 :: t) = (if cur = [] then [] else [cur]) ++ G [] t := by
 rw [G_step 32 (by decide), if_pos (by decide)]
theorem G_sp (t : List UInt8) : G [] (32 :: t) = G [] t := by rw [G_space, if_pos rfl]; rfl
def Tail (t : List UInt8) : Prop := t = [] ∨ ∃ u, t = 32 :: u
theorem G_tok (w : List UInt8) (hw : ∀ b ∈ w, solid b) (h0 : w ≠ []) (t : List UInt8) (ht : Tail t) : G [] (w ++ t) = w :: G [] t := by
 rw [G_solid w hw, List.nil_append]
 rcases ht with rfl | ⟨u, rfl⟩
 ·show Lib.fieldsGoD 1 w [] = _
  rw [Lib.fieldsGoD, if_pos rfl, if_neg h0]; rfl
 ·rw [G_space, if_neg h0, G_sp]; rfl
theorem repl_append (a b : List UInt8) : replP (a ++ b) = replP a ++ replP b := List.flatMap_append
theorem repl_same (w : List UInt8) (h : ∀ b ∈ w, wb b = true ∨ b = 32) : replP w = w := by
 induction w with
 | nil => rfl
 | cons b w ih =>
  rw [show replP (b :: w) = rep1 b ++ replP w from rfl, ih (fun x hx => h x (List.mem_cons_of_mem _ hx))]
  have h40 : b ≠ 40 ∧ b ≠ 41 := by
   rcases h b List.mem_cons_self with hb | rfl
   ·have := wb_bounds hb
    exact ⟨fun e => by rw [e] at this; revert this; decide, fun e => by rw [e] at this; revert this; decide⟩
   ·decide
  unfold rep1
  rw [if_neg h40.1, if_neg h40.2]; rfl
theorem word_solid {s : ByteArray} (h : wordB s = true) : ∀ b ∈ s.data.toList, solid b := fun b hb => by
 have := wb_bounds ((wordB_open h).2 b hb); exact ⟨by omega, by omega⟩
theorem word_repl {s : ByteArray} (h : wordB s = true) : replP s.data.toList = s.data.toList := repl_same _ fun b hb => .inl ((wordB_open h).2 b hb)
def wFrom : ByteArray := ⟨#[102, 114, 111, 109]⟩
/-- An expression's pieces. -/
def toks (x : S33) : List ByteArray :=
 if x.f0.toList = ([116, 104, 105, 115] : List UInt8) then [wThis]
 else if x.f0.toList = ([114, 101, 108] : List UInt8) then [x.f1]
 else if x.f0.toList = ([102, 114, 111, 109] : List UInt8) then [s40, wFrom, x.f2, x.f1, s41]
 else s40 :: x.f0 :: ((x.f3.attach.flatMap fun y => toks y.1) ++ [s41])
termination_by SizeOf.sizeOf x
decreasing_by exact S33.lt_of_mem y.2
theorem toks_eq (x : S33) : toks x =
  if x.f0.toList = ([116, 104, 105, 115] : List UInt8) then [wThis]
  else if x.f0.toList = ([114, 101, 108] : List UInt8) then [x.f1]
  else if x.f0.toList = ([102, 114, 111, 109] : List UInt8) then [s40, wFrom, x.f2, x.f1, s41]
  else s40 :: x.f0 :: ((x.f3.flatMap toks) ++ [s41]) := by
 rw [toks]
 have : (x.f3.attach.flatMap fun y => toks y.1) = x.f3.flatMap toks := by
  rw [List.flatMap_def, List.flatMap_def]
  exact congrArg List.flatten (List.attach_map_val (l := x.f3) (f := toks))
 rw [this]
/-- An expression's own words are words. -/
def goodN (x : S33) : Bool :=
 if x.f0.toList = ([114, 101, 108] : List UInt8) then wordB x.f1 && decide (x.f1.toList ≠ [116, 104, 105, 115])
 else if x.f0.toList = ([102, 114, 111, 109] : List UInt8) then wordB x.f2 && wordB x.f1 else true
def bsOf (l : List ByteArray) : List (List UInt8) := l.map fun s => s.data.toList
theorem bsOf_append (a b : List ByteArray) : bsOf (a ++ b) = bsOf a ++ bsOf b := List.map_append
theorem op_cases {x : S33} (h : formP x = true) (h1 : ¬ x.f0.toList = ([116, 104, 105, 115] : List UInt8)) (h2 : ¬ x.f0.toList = ([114, 101, 108] : List UInt8)) (h3 : ¬ x.f0.toList = ([102, 114, 111, 109] : List UInt8)) :
  (x.f0.toList = ([111, 114] : List UInt8) ∨ x.f0.toList = ([97, 110, 100] : List UInt8) ∨ x.f0.toList = ([98, 117, 116] : List UInt8)) ∧ x.f1 = nil_ ∧ x.f2 = nil_ := by
 have nil : ∀ {b : ByteArray}, b.toList = [] → b = nil_ := fun h => tl_inj (by rw [h, tl_data]; rfl)
 unfold formP at h
 rw [if_neg h1, if_neg h2, if_neg h3] at h
 by_cases h4 : x.f0.toList = ([111, 114] : List UInt8) ∨ x.f0.toList = ([97, 110, 100] : List UInt8)
 ·rw [if_pos h4] at h
  simp only [Bool.and_eq_true, decide_eq_true_eq] at h
  exact ⟨by rcases h4 with h4 | h4; exact .inl h4; exact .inr (.inl h4), nil h.1.1, nil h.1.2⟩
 ·rw [if_neg h4] at h
  by_cases h5 : x.f0.toList = ([98, 117, 116] : List UInt8)
  ·rw [if_pos h5] at h
   simp only [Bool.and_eq_true, decide_eq_true_eq] at h
   exact ⟨.inr (.inr h5), nil h.1.1, nil h.1.2⟩
  ·rw [if_neg h5] at h; cases h
theorem op_word {x : S33} (h : x.f0.toList = ([111, 114] : List UInt8) ∨ x.f0.toList = ([97, 110, 100] : List UInt8) ∨ x.f0.toList = ([98, 117, 116] : List UInt8)) : wordB x.f0 = true := by
 unfold wordB
 rw [tl_data] at h
 rcases h with h | h | h <;> rw [h] <;> decide
theorem G_text (x : S33) : allP formP x = true → allP goodN x = true → ∀ t, Tail t → G [] (replP (textP x) ++ t) = bsOf (toks x) ++ G [] t := by
 induction x using S33.ind with
 | h x ih =>
  intro hf hg t ht
  rw [allP_eq, Bool.and_eq_true, List.all_eq_true] at hf hg
  obtain ⟨f0, fp⟩ := hf
  obtain ⟨g0, gp⟩ := hg
  rw [textP_eq, toks_eq]
  by_cases h1 : x.f0.toList = ([116, 104, 105, 115] : List UInt8)
  ·rw [if_pos h1, if_pos h1]
   exact G_tok [116, 104, 105, 115] (by decide) (by decide) t ht
  rw [if_neg h1, if_neg h1]
  unfold goodN at g0
  by_cases h2 : x.f0.toList = ([114, 101, 108] : List UInt8)
  ·rw [if_pos h2, if_pos h2]
   rw [if_pos h2, Bool.and_eq_true] at g0
   rw [word_repl g0.1]
   exact G_tok _ (word_solid g0.1) (wordB_open g0.1).1 t ht
  rw [if_neg h2, if_neg h2]
  rw [if_neg h2] at g0
  have close : ∀ u, G [] (41 :: 32 :: u) = [41] :: G [] u := fun u => (G_tok [41] (by intro b hb; rw [List.mem_singleton.1 hb]; unfold solid; decide) (by decide) (32 :: u) (.inr ⟨u, rfl⟩)).trans (by rw [G_sp])
  have opens : ∀ u, G [] (40 :: 32 :: u) = [40] :: G [] u := fun u => (G_tok [40] (by intro b hb; rw [List.mem_singleton.1 hb]; unfold solid; decide) (by decide) (32 :: u) (.inr ⟨u, rfl⟩)).trans (by rw [G_sp])
  have tok : ∀ {s : ByteArray}, wordB s = true → ∀ u, G [] (s.data.toList ++ 32 :: u) = s.data.toList :: G [] u := fun h u => (G_tok _ (word_solid h) (wordB_open h).1 (32 :: u) (.inr ⟨u, rfl⟩)).trans (by rw [G_sp])
  by_cases h3 : x.f0.toList = ([102, 114, 111, 109] : List UInt8)
  ·rw [if_pos h3, if_pos h3]
   rw [if_pos h3, Bool.and_eq_true] at g0
   have e : replP ([40, 102, 114, 111, 109, 32] ++ x.f2.data.toList ++ [32] ++ x.f1.data.toList ++ [41]) ++ t = 32 :: 40 :: 32 :: (wFrom.data.toList ++ 32 :: (x.f2.data.toList ++ 32 :: (x.f1.data.toList ++ 32 :: 41 :: 32 :: t))) := by
    rw [repl_append, repl_append, repl_append, repl_append, word_repl g0.1, word_repl g0.2]
    rw [show replP [40, 102, 114, 111, 109, 32] = 32 :: 40 :: 32 :: (wFrom.data.toList ++ [32]) by decide +kernel, show replP [32] = [32] by decide +kernel, show replP [41] = [32, 41, 32] by decide +kernel]
    simp
   rw [e, G_sp, opens, tok (s := wFrom) (by decide +kernel), tok g0.1, tok g0.2, close]
   rfl
  ·rw [if_neg h3, if_neg h3]
   obtain ⟨ho, e1, e2⟩ := op_cases f0 h1 h2 h3
   have hw := op_word ho
   have parts : ∀ l : List S33, (∀ y ∈ l, y ∈ x.f3) → ∀ u, Tail u → Tail (replP (partsP l) ++ u) ∧ G [] (replP (partsP l) ++ u) = bsOf (l.flatMap toks) ++ G [] u := by
    intro l
    induction l with
    | nil => intro _ u hu; exact ⟨hu, rfl⟩
    | cons y l ihl =>
     intro hl u hu
     obtain ⟨t1, t2⟩ := ihl (fun z hz => hl z (List.mem_cons_of_mem _ hz)) u hu
     have hy := hl y List.mem_cons_self
     have e : replP (partsP (y :: l)) ++ u = 32 :: (replP (textP y) ++ (replP (partsP l) ++ u)) := by
      rw [show partsP (y :: l) = [32] ++ (textP y ++ partsP l) from rfl, repl_append, repl_append, show replP [32] = [32] by decide +kernel]
      simp
     rw [e]
     refine ⟨.inr ⟨_, rfl⟩, ?_⟩
     rw [G_sp, ih y hy (fp y hy) (gp y hy) _ t1, t2, List.flatMap_cons, bsOf_append, List.append_assoc]
   obtain ⟨t1, t2⟩ := parts x.f3 (fun y hy => hy) (32 :: 41 :: 32 :: t) (.inr ⟨_, rfl⟩)
   have e : replP ([40] ++ x.f0.data.toList ++ partsP x.f3 ++ [41]) ++ t = 32 :: 40 :: 32 :: (x.f0.data.toList ++ (replP (partsP x.f3) ++ 32 :: 41 :: 32 :: t)) := by
    rw [repl_append, repl_append, repl_append, word_repl hw, show replP [40] = [32, 40, 32] by decide +kernel, show replP [41] = [32, 41, 32] by decide +kernel]
    simp
   rw [e, G_sp, opens, G_tok _ (word_solid hw) (wordB_open hw).1 _ t1, t2, G_sp, close]
   show _ = bsOf ([s40, x.f0] ++ (x.f3.flatMap toks ++ [s41])) ++ _
   rw [bsOf_append, bsOf_append, List.append_assoc, List.append_assoc]
   rfl
theorem pieces_text (x : S33) (hf : allP formP x = true) (hg : allP goodN x = true) : piecesP (mk (textP x)) = toks x := by
 have h := G_text x hf hg [] (.inl rfl)
 rw [List.append_nil, G_nil, List.append_nil] at h
 unfold piecesP
 rw [mk_data]
 show (G [] (replP (textP x))).map _ = _
 rw [h]
 unfold bsOf
 rw [List.map_map]
 conv => rhs; rw [← List.map_id (toks x)]
 exact List.map_congr_left fun s _ => mk_to s
/-! The parser over an expression's pieces. -/
theorem nextV_cons (s : ByteArray) (l : List ByteArray) (ok : Bool) : nextV (s :: l) ok = (s, l, ok) := rfl
theorem t40 : s40.toList = ([40] : List UInt8) := by rw [tl_data]; rfl
theorem t41 : s41.toList = ([41] : List UInt8) := by rw [tl_data]; rfl
theorem word_ne {s : ByteArray} (h : wordB s = true) (c : UInt8) (hc : wb c = false) (l : List UInt8) : ¬ s.toList = c :: l := by
 intro e
 rw [tl_data] at e
 have := (wordB_open h).2 c (by rw [e]; exact List.mem_cons_self)
 rw [hc] at this; cases this
theorem toks_head (x : S33) (hf : formP x = true) (hg : goodN x = true) : ∃ h t, toks x = h :: t ∧ ¬ h.toList = ([41] : List UInt8) := by
 rw [toks_eq]
 by_cases h1 : x.f0.toList = ([116, 104, 105, 115] : List UInt8)
 ·rw [if_pos h1]; exact ⟨_, _, rfl, by rw [tl_data]; decide⟩
 rw [if_neg h1]
 unfold goodN at hg
 by_cases h2 : x.f0.toList = ([114, 101, 108] : List UInt8)
 ·rw [if_pos h2]
  rw [if_pos h2, Bool.and_eq_true] at hg
  exact ⟨_, _, rfl, word_ne hg.1 41 (by decide) []⟩
 rw [if_neg h2]
 by_cases h3 : x.f0.toList = ([102, 114, 111, 109] : List UInt8)
 ·rw [if_pos h3]; exact ⟨_, _, rfl, by rw [t40]; decide⟩
 ·rw [if_neg h3]; exact ⟨_, _, rfl, by rw [t40]; decide⟩
theorem j2_close (rest : List ByteArray) (x : S33) (hl : rest.length ≤ 100000000000) (hf : formP x = true) (h1 : ¬ x.f0.toList = ([116, 104, 105, 115] : List UInt8)) (h2 : ¬ x.f0.toList = ([114, 101, 108] : List UInt8)) :
  Ev (fun k => rule_parser_expr.j2 k false (s41 :: rest) true x.f0 x.f1 x.f2 x.f3) (x.f0, x.f1, x.f2, x.f3, rest, true) := by
 refine Ev.step (f := fun k => (rule_form.f k x.f0 x.f1 x.f2 x.f3).bind fun t133 => (if t133 = true then (if x.f0.toList = ([116, 104, 105, 115] : List UInt8) then (some (x.f0, x.f1, x.f2, x.f3, rest, false)) else (some (x.f0, x.f1, x.f2, x.f3, rest, (x.f0.toList != ([114, 101, 108] : List UInt8))))) else (some (x.f0, x.f1, x.f2, x.f3, rest, false)))) (fun k => ?_) ?_
 ·simp only [rule_parser_expr.j2, Bool.false_eq_true, if_false, if_true]
  rw [next_f true (by rw [List.length_cons]; omega), nextV_cons, Option.bind_some]
  show (if s41.toList = ([41] : List UInt8) then _ else _) = _
  rw [if_pos t41]
 ·refine Ev.step (f := fun _ => some _) (fun k => ?_) (Ev.now _)
  show (rule_form.f (k + 1) x.f0 x.f1 x.f2 x.f3).bind _ = _
  rw [form_eq x k, Option.bind_some, if_pos hf, if_neg h1, show (x.f0.toList != ([114, 101, 108] : List UInt8)) = true by rw [bne_iff_ne]; exact h2]
theorem expr_toks (x : S33) : allP formP x = true → allP goodN x = true → ∀ rest, (toks x).length + rest.length ≤ 1000000000 →
  Ev (fun k => rule_parser_expr.f k (toks x ++ rest) true) (x.f0, x.f1, x.f2, x.f3, rest, true) := by
 induction x using S33.ind with
 | h x ih =>
  intro hf hg rest hz
  rw [allP_eq, Bool.and_eq_true, List.all_eq_true] at hf hg
  obtain ⟨f0, fp⟩ := hf
  obtain ⟨g0, gp⟩ := hg
  have nil : ∀ {b : ByteArray}, b.toList = [] → b = nil_ := fun h => tl_inj (by rw [h, tl_data]; rfl)
  have F0 := f0
  rw [toks_eq] at hz ⊢
  by_cases h1 : x.f0.toList = ([116, 104, 105, 115] : List UInt8)
  ·rw [if_pos h1] at hz ⊢
   unfold formP at f0
   rw [if_pos h1] at f0
   simp only [Bool.and_eq_true, decide_eq_true_eq] at f0
   have e0 : x.f0 = wThis := tl_inj (by rw [h1, tl_data]; rfl)
   rw [e0, nil f0.1.1, nil f0.1.2, List.eq_nil_of_length_eq_zero f0.2]
   refine Ev.step (f := fun _ => some _) (fun k => ?_) (Ev.now _)
   simp only [rule_parser_expr.f]
   rw [show [wThis] ++ rest = wThis :: rest from rfl, next_f true (by rw [List.length_cons]; omega), nextV_cons, Option.bind_some]
   show (if wThis.toList = ([40] : List UInt8) then _ else _) = _
   have t : wThis.toList = ([116, 104, 105, 115] : List UInt8) := by rw [tl_data]; rfl
   rw [if_neg (by rw [t]; decide)]
   show (if true = true then _ else _) = _
   rw [if_pos rfl]
   unfold rule_word.f
   rw [Option.bind_some]
   show (if wThis.toList = ([116, 104, 105, 115] : List UInt8) then _ else _) = _
   rw [if_pos t, wordP_of (s := wThis) (by decide +kernel)]
   rfl
  rw [if_neg h1] at hz ⊢
  unfold goodN at g0
  by_cases h2 : x.f0.toList = ([114, 101, 108] : List UInt8)
  ·rw [if_pos h2] at hz ⊢
   rw [if_pos h2, Bool.and_eq_true, decide_eq_true_eq] at g0
   unfold formP at f0
   rw [if_neg h1, if_pos h2] at f0
   simp only [Bool.and_eq_true, decide_eq_true_eq] at f0
   have e0 : x.f0 = wRel := tl_inj (by rw [h2, tl_data]; rfl)
   rw [e0, nil f0.1, List.eq_nil_of_length_eq_zero f0.2]
   refine Ev.step (f := fun _ => some _) (fun k => ?_) (Ev.now _)
   simp only [rule_parser_expr.f]
   rw [show [x.f1] ++ rest = x.f1 :: rest from rfl, next_f true (by rw [List.length_cons]; omega), nextV_cons, Option.bind_some]
   show (if x.f1.toList = ([40] : List UInt8) then _ else _) = _
   rw [if_neg (word_ne g0.1 40 (by decide) [])]
   show (if true = true then _ else _) = _
   rw [if_pos rfl]
   unfold rule_word.f
   rw [Option.bind_some]
   show (if x.f1.toList = ([116, 104, 105, 115] : List UInt8) then _ else _) = _
   rw [if_neg g0.2, wordP_of g0.1]
   rfl
  rw [if_neg h2] at hz ⊢
  rw [if_neg h2] at g0
  by_cases h3 : x.f0.toList = ([102, 114, 111, 109] : List UInt8)
  ·rw [if_pos h3] at hz ⊢
   rw [if_pos h3, Bool.and_eq_true] at g0
   have hx3 : x.f3 = [] := by
    unfold formP at f0
    rw [if_neg h1, if_neg h2, if_pos h3, decide_eq_true_eq] at f0
    exact List.eq_nil_of_length_eq_zero f0
   have e0 : x.f0 = wFrom := tl_inj (by rw [h3, tl_data]; rfl)
   have tF : wFrom.toList = ([102, 114, 111, 109] : List UInt8) := by rw [tl_data]; rfl
   simp only [List.length_cons, List.length_nil] at hz
   refine Ev.step (f := fun k => rule_parser_expr.j0 k (s41 :: rest) true x.f0 x.f1 x.f2) (fun k => ?_) ?_
   ·simp only [rule_parser_expr.f]
    rw [show [s40, wFrom, x.f2, x.f1, s41] ++ rest = s40 :: wFrom :: x.f2 :: x.f1 :: s41 :: rest from rfl, next_f true (by simp only [List.length_cons]; omega), nextV_cons, Option.bind_some]
    show (if s40.toList = ([40] : List UInt8) then _ else _) = _
    rw [if_pos t40]
    show (parser_next.f (wFrom :: x.f2 :: x.f1 :: s41 :: rest) true).bind _ = _
    rw [next_f true (by simp only [List.length_cons]; omega), nextV_cons, Option.bind_some]
    show (if wFrom.toList = ([102, 114, 111, 109] : List UInt8) then _ else _) = _
    rw [if_pos tF]
    show (parser_next.f (x.f2 :: x.f1 :: s41 :: rest) true).bind _ = _
    rw [next_f true (by simp only [List.length_cons]; omega), nextV_cons, Option.bind_some]
    show (parser_next.f (x.f1 :: s41 :: rest) true).bind _ = _
    rw [next_f true (by simp only [List.length_cons]; omega), nextV_cons, Option.bind_some]
    show (if true = true then _ else _) = _
    rw [if_pos rfl]
    show (rule_word.f x.f2).bind _ = _
    unfold rule_word.f
    rw [Option.bind_some, if_pos (wordP_of g0.1)]
    show (some (wordP x.f1)).bind _ = _
    rw [Option.bind_some, wordP_of g0.2, e0]
   ·refine Ev.step (f := fun k => rule_parser_expr.l0 k (s41 :: rest) true x.f0 x.f1 x.f2 []) (fun k => by simp only [rule_parser_expr.j0]) ?_
    refine Ev.step (f := fun k => rule_parser_expr.j2 k false (s41 :: rest) true x.f0 x.f1 x.f2 []) (fun k => by simp only [rule_parser_expr.l0]; rw [if_pos h3]) ?_
    have := j2_close rest x (by omega) F0 h1 h2
    rw [hx3] at this
    rw [hx3]
    exact this
  ·rw [if_neg h3] at hz ⊢
   obtain ⟨ho, e1, e2⟩ := op_cases F0 h1 h2 h3
   simp only [List.length_cons, List.length_append, List.length_nil] at hz
   have loop : ∀ (l done : List S33), done ++ l = x.f3 → (l.flatMap toks).length + 1 + rest.length ≤ 1000000000 → done.length + l.length ≤ 1000000000 →
     Ev (fun k => rule_parser_expr.l0 k (l.flatMap toks ++ s41 :: rest) true x.f0 x.f1 x.f2 done) (x.f0, x.f1, x.f2, x.f3, rest, true) := by
    intro l
    induction l with
    | nil =>
     intro done hd hz2 hz3
     rw [List.append_nil] at hd
     subst hd
     refine Ev.step (fun k => ?_) (j2_close rest x (by omega) F0 h1 h2)
     simp only [rule_parser_expr.l0]
     rw [if_neg h3, if_pos trivial, show ([] : List S33).flatMap toks ++ s41 :: rest = s41 :: rest from rfl, if_pos (by rw [List.length_cons]; omega), if_pos (by rw [List.length_cons]; omega), show rdOf ByteArray.empty (s41 :: rest) 0 = s41 from rfl, t41]
     rfl
    | cons y l ihl =>
     intro done hd hz2 hz3
     have hy : y ∈ x.f3 := by rw [← hd]; exact List.mem_append_right _ List.mem_cons_self
     rw [List.flatMap_cons, List.length_append] at hz2
     rw [List.length_cons] at hz3
     have fy := fp y hy
     have gy := gp y hy
     have fy0 := fy
     have gy0 := gy
     rw [allP_eq, Bool.and_eq_true] at fy0 gy0
     obtain ⟨h, t, e, hh⟩ := toks_head y fy0.1 gy0.1
     rw [List.flatMap_cons, List.append_assoc]
     refine Ev.step (f := fun k => rule_parser_expr.j2 k true (toks y ++ (l.flatMap toks ++ s41 :: rest)) true x.f0 x.f1 x.f2 done) (fun k => ?_) ?_
     ·simp only [rule_parser_expr.l0]
      rw [if_neg h3, if_pos trivial, e, List.cons_append, if_pos (by rw [List.length_cons]; omega), if_pos (by rw [List.length_cons]; omega), show rdOf ByteArray.empty (h :: (t ++ (l.flatMap toks ++ s41 :: rest))) 0 = h from rfl, show (h.toList != ([41] : List UInt8)) = true by rw [bne_iff_ne]; exact hh]
     ·refine Ev.step (f := fun k => (rule_parser_expr.f k (toks y ++ (l.flatMap toks ++ s41 :: rest)) true).bind fun bt119 => (if done.length < 1954687338268 then (rule_parser_expr.l0 k bt119.2.2.2.2.1 bt119.2.2.2.2.2 x.f0 x.f1 x.f2 (done ++ [(⟨bt119.1, bt119.2.1, bt119.2.2.1, bt119.2.2.2.1⟩ : S33)])) else (none))) (fun k => by simp only [rule_parser_expr.j2, if_true]) ?_
      refine (ih y hy fy gy (l.flatMap toks ++ s41 :: rest) (by rw [List.length_append, List.length_cons]; omega)).bind ?_
      refine Ev.congr (fun k => if_pos (by omega)) ?_
      have ey : (⟨y.f0, y.f1, y.f2, y.f3⟩ : S33) = y := by cases y; rfl
      show Ev (fun k => rule_parser_expr.l0 k (l.flatMap toks ++ s41 :: rest) true x.f0 x.f1 x.f2 (done ++ [(⟨y.f0, y.f1, y.f2, y.f3⟩ : S33)])) _
      rw [ey]
      exact ihl (done ++ [y]) (by rw [← hd]; simp) (by omega) (by rw [List.length_append, List.length_cons, List.length_nil]; omega)
   have hx3l : x.f3.length ≤ (x.f3.flatMap toks).length := by
    have : ∀ l : List S33, (∀ y ∈ l, y ∈ x.f3) → l.length ≤ (l.flatMap toks).length := by
     intro l
     induction l with
     | nil => intro _; simp
     | cons y l ihl =>
      intro hl
      have hy := hl y List.mem_cons_self
      have fy0 := fp y hy
      have gy0 := gp y hy
      rw [allP_eq, Bool.and_eq_true] at fy0 gy0
      obtain ⟨h, t, e, _⟩ := toks_head y fy0.1 gy0.1
      have := ihl fun z hz => hl z (List.mem_cons_of_mem _ hz)
      rw [List.flatMap_cons, List.length_append, e, List.length_cons, List.length_cons]; omega
    exact this _ fun y hy => hy
   have lp := loop x.f3 [] rfl (by omega) (by rw [List.length_nil]; omega)
   rw [show (s40 :: x.f0 :: (x.f3.flatMap toks ++ [s41])) ++ rest = s40 :: x.f0 :: (x.f3.flatMap toks ++ s41 :: rest) by simp]
   refine Ev.step (f := fun k => rule_parser_expr.j0 k (x.f3.flatMap toks ++ s41 :: rest) true x.f0 nil_ nil_) (fun k => ?_) ?_
   ·simp only [rule_parser_expr.f]
    rw [next_f true (by simp only [List.length_cons, List.length_append]; omega), nextV_cons, Option.bind_some]
    show (if s40.toList = ([40] : List UInt8) then _ else _) = _
    rw [if_pos t40]
    show (parser_next.f (x.f0 :: (x.f3.flatMap toks ++ s41 :: rest)) true).bind _ = _
    rw [next_f true (by simp only [List.length_cons, List.length_append]; omega), nextV_cons, Option.bind_some]
    show (if x.f0.toList = ([102, 114, 111, 109] : List UInt8) then _ else _) = _
    rw [if_neg h3]
    rfl
   ·have lp2 : Ev (fun k => rule_parser_expr.j0 k (x.f3.flatMap toks ++ s41 :: rest) true x.f0 x.f1 x.f2) (x.f0, x.f1, x.f2, x.f3, rest, true) := Ev.step (fun k => by simp only [rule_parser_expr.j0]) lp
    exact Ev.congr (fun k => by rw [e1, e2]) lp2
theorem parse_text (x : S33) (hf : allP formP x = true) (hg : allP goodN x = true) (hs : smallE x = true) (hz : (textP x).length ≤ 10000000) :
  Ev (fun k => rule_parse.f k (mk (textP x))) (x.f0, x.f1, x.f2, x.f3, true) := by
 have hp := pieces_text x hf hg
 have hl := (pieces_bytes (mk (textP x))).2
 rw [hp, mk_size] at hl
 have he := expr_toks x hf hg [] (by rw [List.length_nil]; omega)
 rw [List.append_nil] at he
 unfold rule_parse.f
 refine Ev.congr (fun k => if_pos (by rw [mk_size]; omega)) ?_
 rw [hp]
 refine he.bind ?_
 have ex : (⟨x.f0, x.f1, x.f2, x.f3⟩ : S33) = x := by cases x; rfl
 refine Ev.congr (fun k => ?_) (Ev.now _)
 show (if (true = true ∧ ([] : List ByteArray) = []) then (if smallE ⟨x.f0, x.f1, x.f2, x.f3⟩ = true ∧ (textP ⟨x.f0, x.f1, x.f2, x.f3⟩).length ≤ 1099511627776 then some (x.f0, x.f1, x.f2, x.f3, (⟨(textP ⟨x.f0, x.f1, x.f2, x.f3⟩).toArray⟩ : ByteArray).toList == (mk (textP x)).toList) else none) else some (x.f0, x.f1, x.f2, x.f3, false)) = _
 rw [ex, if_pos ⟨rfl, rfl⟩, if_pos ⟨hs, by omega⟩, show ((⟨(textP x).toArray⟩ : ByteArray).toList == (mk (textP x)).toList) = true from beq_self_eq_true _]
end Go.Proofs.YtjcipbdocbomjaaGreatDoor.K
namespace Go.Proofs.YtjcipbdocbomjaaGreatDoor.K
set_option linter.unusedVariables false
set_option linter.unusedSimpArgs false
open Go.RowKit Go.Proofs.YtjcipbdocbomjaaGreatDoorW.PrintWords Go.Proofs.YtjcipbdocbomjaaGreatDoorW.PrintLast Go.Proofs.YtjcipbdocbomjaaGreatDoorW.PrintMore
theorem word_no10 {s : ByteArray} (h : wordB s = true) : (10 : UInt8) ∉ s.data.toList := fun hm => by
 have := wb_bounds ((wordB_open h).2 10 hm)
 revert this; decide
theorem text_no10 (x : S33) : allP formP x = true → allP goodN x = true → (10 : UInt8) ∉ textP x := by
 induction x using S33.ind with
 | h x ih =>
  intro hf hg
  rw [allP_eq, Bool.and_eq_true, List.all_eq_true] at hf hg
  obtain ⟨f0, fp⟩ := hf
  obtain ⟨g0, gp⟩ := hg
  unfold goodN at g0
  rw [textP_eq]
  by_cases h1 : x.f0.toList = ([116, 104, 105, 115] : List UInt8)
  ·rw [if_pos h1]; decide
  rw [if_neg h1]
  by_cases h2 : x.f0.toList = ([114, 101, 108] : List UInt8)
  ·rw [if_pos h2]
   rw [if_pos h2, Bool.and_eq_true] at g0
   exact word_no10 g0.1
  rw [if_neg h2]
  rw [if_neg h2] at g0
  by_cases h3 : x.f0.toList = ([102, 114, 111, 109] : List UInt8)
  ·rw [if_pos h3]
   rw [if_pos h3, Bool.and_eq_true] at g0
   intro hm
   simp only [List.mem_append] at hm
   rcases hm with (((hm | hm) | hm) | hm) | hm
   ·revert hm; decide
   ·exact word_no10 g0.1 hm
   ·revert hm; decide
   ·exact word_no10 g0.2 hm
   ·revert hm; decide
  ·rw [if_neg h3]
   have hw := op_word (op_cases f0 h1 h2 h3).1
   intro hm
   simp only [List.mem_append] at hm
   rcases hm with ((hm | hm) | hm) | hm
   ·revert hm; decide
   ·exact word_no10 hw hm
   ·unfold partsP at hm
    rw [List.mem_flatMap] at hm
    obtain ⟨y, hy, hm⟩ := hm
    rcases List.mem_cons.1 hm with hm | hm
    ·revert hm; decide
    ·exact ih y hy (fp y hy) (gp y hy) hm
   ·revert hm; decide
/-! Lines that are right. -/
def wKind : ByteArray := ⟨#[107, 105, 110, 100]⟩
structure GoodR (r : S35) : Prop where
 name : wordB r.f0 = true
 nk : r.f0 ≠ wKind
 f : allP formP r.f1 = true
 g : allP goodN r.f1 = true
 s : smallE r.f1 = true
 len : (textP r.f1).length ≤ 10000000
theorem line_kind (l : List S30) (name : ByteArray) (hw : wordB name = true) (hz : name.size ≤ 1000) (hk : smallK l = true) :
  Ev (fun k => rule_line.f k l (mk ([107, 105, 110, 100, 32] ++ name.data.toList))) (l ++ [⟨name, []⟩], true) := by
 have hp : Lib.hasPrefix ([107, 105, 110, 100, 32] ++ name.data.toList) [107, 105, 110, 100, 32] = true := by
  unfold Lib.hasPrefix
  rw [List.isPrefixOf_iff_prefix]
  exact List.prefix_append _ _
 have hr : restK (mk ([107, 105, 110, 100, 32] ++ name.data.toList)) = name := by
  apply data_inj
  unfold restK
  show (mk (Lib.trimPrefix (mk ([107, 105, 110, 100, 32] ++ name.data.toList)).data.toList [107, 105, 110, 100, 32])).data.toList = _
  rw [mk_data, mk_data]
  unfold Lib.trimPrefix
  rw [if_pos hp]
  rfl
 have hi : isK (mk ([107, 105, 110, 100, 32] ++ name.data.toList)) = true := by
  unfold isK
  rw [mk_data]
  exact hp
 have := data_len name
 unfold rule_line.f
 refine Ev.congr (fun k => (if_pos ⟨by rw [mk_size, List.length_append]; simp only [List.length_cons, List.length_nil]; omega, hk⟩).trans ((if_pos (by rw [hi, hr, wordP_of hw]; rfl)).trans (by rw [hr]))) (Ev.now _)
theorem not_kind (w u : List UInt8) (h0 : w ≠ []) (hw : ∀ b ∈ w, wb b = true) (hk : w ≠ [107, 105, 110, 100]) : Lib.hasPrefix (w ++ 32 :: u) [107, 105, 110, 100, 32] = false := by
 rw [← Bool.not_eq_true]
 intro h
 unfold Lib.hasPrefix at h
 rw [List.isPrefixOf_iff_prefix] at h
 obtain ⟨t, ht⟩ := h
 have n32 : ∀ b ∈ w, b ≠ 32 := fun b hb e => by have := wb_bounds (hw b hb); rw [e] at this; revert this; decide
 match w, h0, hk, n32, ht with
 | [a], _, _, _, ht => simp at ht
 | [a, b], _, _, _, ht => simp at ht
 | [a, b, c], _, _, _, ht => simp at ht
 | [a, b, c, d], _, hk, _, ht =>
  simp at ht
  obtain ⟨r1, r2, r3, r4, _⟩ := ht
  exact hk (by rw [← r1, ← r2, ← r3, ← r4])
 | a :: b :: c :: d :: e :: w, _, _, n32, ht =>
  simp at ht
  exact n32 e (by simp) ht.2.2.2.2.1.symm
theorem add_last (pre : List S30) (name : ByteArray) (d : List S35) (r : S35) : addRule (pre ++ [⟨name, d⟩]) r = pre ++ [⟨name, d ++ [r]⟩] := by
 unfold addRule
 rw [List.dropLast_concat, List.getLast?_concat]
 rfl
theorem line_rule (pre : List S30) (name : ByteArray) (d : List S35) (r : S35) (hg : GoodR r) (hz : (ruleL r).length ≤ 900000000) (hk : smallK (pre ++ [⟨name, d⟩]) = true) :
  Ev (fun k => rule_line.f k (pre ++ [⟨name, d⟩]) (mk (r.f0.data.toList ++ ([32, 61, 32] ++ textP r.f1)))) (pre ++ [⟨name, d ++ [r]⟩], true) := by
 obtain ⟨w0, w1⟩ := wordB_open hg.name
 have hn : isK (mk (r.f0.data.toList ++ ([32, 61, 32] ++ textP r.f1))) = false := by
  unfold isK
  rw [mk_data]
  refine not_kind _ _ w0 w1 fun e => hg.nk (data_inj ?_)
  rw [e]; rfl
 have hc : Lib.cut (r.f0.data.toList ++ ([32, 61, 32] ++ textP r.f1)) [32, 61, 32] = (r.f0.data.toList, textP r.f1, true) := by
  refine cut_at _ _ _ fun j hj => ?_
  unfold Lib.occAt
  rw [List.drop_eq_getElem_cons (by rw [List.length_append]; omega), List.isPrefixOf, List.getElem_append_left hj]
  have := wb_bounds (w1 _ (List.getElem_mem hj))
  rw [show ((32 : UInt8) == r.f0.data.toList[j]) = false by rw [beq_eq_false_iff_ne]; intro e; rw [← e] at this; revert this; decide]
  rfl
 have hcut : cutP (mk (r.f0.data.toList ++ ([32, 61, 32] ++ textP r.f1))) ⟨#[32, 61, 32]⟩ = (r.f0, mk (textP r.f1), true) := by
  unfold cutP
  show (mk (Lib.cut (mk (r.f0.data.toList ++ ([32, 61, 32] ++ textP r.f1))).data.toList [32, 61, 32]).1, mk (Lib.cut (mk (r.f0.data.toList ++ ([32, 61, 32] ++ textP r.f1))).data.toList [32, 61, 32]).2.1, (Lib.cut (mk (r.f0.data.toList ++ ([32, 61, 32] ++ textP r.f1))).data.toList [32, 61, 32]).2.2) = _
  rw [mk_data, hc, mk_to]
 have ex : (⟨r.f1.f0, r.f1.f1, r.f1.f2, r.f1.f3⟩ : S33) = r.f1 := by cases r.f1; rfl
 unfold ruleL at hz
 simp only [List.length_append, List.length_cons, List.length_nil] at hz
 unfold rule_line.f
 refine Ev.congr (fun k => (if_pos ⟨by rw [mk_size]; simp only [List.length_append, List.length_cons, List.length_nil]; omega, hk⟩).trans (if_neg (by rw [hn, Bool.false_and]; decide))) ?_
 rw [hcut]
 refine (parse_text r.f1 hg.f hg.g hg.s hg.len).bind ?_
 refine Ev.congr (fun k => ?_) (Ev.now _)
 show (if ((true && true) && wordP r.f0 && !(pre ++ [⟨name, d⟩] : List S30).isEmpty) = true then some (addRule (pre ++ [⟨name, d⟩]) ⟨r.f0, ⟨r.f1.f0, r.f1.f1, r.f1.f2, r.f1.f3⟩⟩, true) else some ([], false)) = _
 rw [wordP_of hg.name, ex, if_pos (by cases pre <;> rfl), add_last]
theorem smallK_70 {l : List S30} (h : l.length ≤ 70) (hk : ∀ k ∈ l, k.f1.length ≤ 70) : smallK l = true := by
 unfold smallK
 rw [Bool.and_eq_true, decide_eq_true_eq, List.all_eq_true]
 exact ⟨by omega, fun k hm => by rw [decide_eq_true_eq]; have := hk k hm; omega⟩
theorem read_rules (pre : List S30) (name : ByteArray) (hp : pre.length < 70) (hpk : ∀ k ∈ pre, k.f1.length ≤ 70) (t : List UInt8) (r : List S30 × Int × Int) (rs : List S35) :
  ∀ (d : List S35) (n : Nat), (∀ x ∈ rs, GoodR x) → d.length + rs.length ≤ 70 → (rulesL rs ++ t).length ≤ 900000000 → n + rs.length ≤ 1000000000 →
   Ev2 (fun kl k => rule_Read.l0 kl k (mk t) (pre ++ [⟨name, d ++ rs⟩]) ((n + rs.length : Nat) : Int)) r → Ev2 (fun kl k => rule_Read.l0 kl k (mk (rulesL rs ++ t)) (pre ++ [⟨name, d⟩]) (n : Int)) r := by
 induction rs with
 | nil => intro d n _ _ _ _ h; rw [List.append_nil] at h; exact h
 | cons x rs ih =>
  intro d n hg hd hz hn h
  rw [List.length_cons] at hd hn
  have gx := hg x List.mem_cons_self
  rw [rulesL_cons, List.append_assoc, List.length_append] at hz
  have e : rulesL (x :: rs) ++ t = (x.f0.data.toList ++ ([32, 61, 32] ++ textP x.f1)) ++ 10 :: (rulesL rs ++ t) := by
   rw [rulesL_cons]; unfold ruleL; simp
  have hl : (ruleL x).length = (x.f0.data.toList ++ ([32, 61, 32] ++ textP x.f1)).length + 1 := by
   unfold ruleL; simp only [List.length_append, List.length_cons, List.length_nil]; omega
  rw [e]
  refine read_line _ _ _ _ n (by omega) ?_ (by omega) (line_rule pre name d x gx (by omega) (smallK_70 (by rw [List.length_append]; simp; omega) fun k hk => ?_)) r ?_
  ·intro hm
   simp only [List.mem_append] at hm
   rcases hm with hm | hm | hm
   ·exact word_no10 gx.name hm
   ·revert hm; decide
   ·exact text_no10 _ gx.f gx.g hm
  ·rcases List.mem_append.1 hk with hk | hk
   ·exact hpk k hk
   ·rw [List.mem_singleton.1 hk]; show d.length ≤ 70; omega
  ·refine ih (d ++ [x]) (n + 1) (fun y hy => hg y (List.mem_cons_of_mem _ hy)) (by rw [List.length_append]; simp; omega) (by omega) (by omega) ?_
   rw [List.length_cons, show n + (rs.length + 1) = n + 1 + rs.length by omega] at h
   rw [show d ++ [x] ++ rs = d ++ x :: rs by simp]
   exact h
structure GoodK (k : S30) : Prop where
 name : wordB k.f0 = true
 len : k.f0.size ≤ 100
 few : k.f1.length ≤ 70
 rules : ∀ r ∈ k.f1, GoodR r
def linesN (l : List S30) : Nat := (l.map fun k => 1 + k.f1.length).sum
theorem linesN_cons (k : S30) (l : List S30) : linesN (k :: l) = 1 + k.f1.length + linesN l := by unfold linesN; rw [List.map_cons, List.sum_cons]
theorem read_kinds (t : List UInt8) (r : List S30 × Int × Int) (l : List S30) :
  ∀ (pre : List S30) (n : Nat), (∀ k ∈ l, GoodK k) → (∀ k ∈ pre, k.f1.length ≤ 70) → pre.length + l.length ≤ 70 → (showL l ++ t).length ≤ 900000000 → n + linesN l ≤ 1000000000 →
   Ev2 (fun kl k => rule_Read.l0 kl k (mk t) (pre ++ l) ((n + linesN l : Nat) : Int)) r → Ev2 (fun kl k => rule_Read.l0 kl k (mk (showL l ++ t)) pre (n : Int)) r := by
 induction l with
 | nil => intro pre n _ _ _ _ _ h; rw [List.append_nil] at h; exact h
 | cons x l ih =>
  intro pre n hg hpk hp hz hn h
  rw [List.length_cons] at hp
  rw [linesN_cons] at hn h
  have gx := hg x List.mem_cons_self
  have hxl := data_len x.f0
  have e : showL (x :: l) ++ t = ([107, 105, 110, 100, 32] ++ x.f0.data.toList) ++ 10 :: (rulesL x.f1 ++ (showL l ++ t)) := by
   rw [showL_cons]; unfold kindL; simp
  rw [e] at hz ⊢
  rw [List.length_append, List.length_cons] at hz
  refine read_line _ _ _ _ n (by omega) ?_ (by omega) (line_kind pre x.f0 gx.name (by have := gx.len; omega) (smallK_70 (by omega) hpk)) r ?_
  ·intro hm
   rcases List.mem_append.1 hm with hm | hm
   ·revert hm; decide
   ·exact word_no10 gx.name hm
  ·refine read_rules pre x.f0 (by omega) hpk _ r x.f1 [] (n + 1) gx.rules (by rw [List.length_nil]; have := gx.few; omega) (by omega) (by omega) ?_
   rw [List.nil_append]
   have ex : (⟨x.f0, x.f1⟩ : S30) = x := by cases x; rfl
   rw [ex]
   refine ih (pre ++ [x]) _ (fun y hy => hg y (List.mem_cons_of_mem _ hy)) (fun k hk => ?_) (by rw [List.length_append]; simp; omega) (by simp only [List.length_append] at hz ⊢; omega) (by omega) ?_
   ·rcases List.mem_append.1 hk with hk | hk
    ·exact hpk k hk
    ·rw [List.mem_singleton.1 hk]; exact gx.few
   ·rw [show n + (1 + x.f1.length + linesN l) = n + 1 + x.f1.length + linesN l by omega] at h
    rw [show pre ++ [x] ++ l = pre ++ x :: l by simp]
    exact h
theorem count_lines (l : List S30) (hg : ∀ k ∈ l, GoodK k) : (showL l).count 10 = linesN l := by
 have hr : ∀ rs : List S35, (∀ r ∈ rs, GoodR r) → (rulesL rs).count 10 = rs.length := by
  intro rs
  induction rs with
  | nil => intro _; rfl
  | cons r rs ih =>
   intro h
   have gr := h r List.mem_cons_self
   rw [rulesL_cons, List.count_append, ih (fun x hx => h x (List.mem_cons_of_mem _ hx)), List.length_cons]
   unfold ruleL
   rw [List.count_append, List.count_append, List.count_append, List.count_eq_zero.2 (word_no10 gr.name), List.count_eq_zero.2 (text_no10 _ gr.f gr.g)]
   show 0 + 0 + 0 + 1 + rs.length = _
   omega
 induction l with
 | nil => rfl
 | cons k l ih =>
  have gk := hg k List.mem_cons_self
  rw [showL_cons, List.count_append, List.count_append, ih (fun x hx => hg x (List.mem_cons_of_mem _ hx)), hr _ gk.rules, linesN_cons]
  unfold kindL
  rw [List.count_append, List.count_append, List.count_eq_zero.2 (word_no10 gk.name)]
  show 0 + 0 + 1 + k.f1.length + linesN l = _
  omega
/-! What Check tells. -/
theorem allP_mono {H H2 : S33 → Bool} (h : ∀ y, H y = true → H2 y = true) (x : S33) : allP H x = true → allP H2 x = true := by
 induction x using S33.ind with
 | h x ih =>
  intro hx
  rw [allP_eq, Bool.and_eq_true, List.all_eq_true] at hx ⊢
  exact ⟨h x hx.1, fun y hy => ih y hy (hx.2 y hy)⟩
theorem named_good (k : S30) (hk : ∀ r ∈ k.f1, ruleNameP r.f0 = true) (y : S33) (h : namedP k y = true) : goodN y = true := by
 have hasn : ∀ b : ByteArray, k.f1.any (hasP b) = true → ruleNameP b = true := by
  intro b hb
  rw [List.any_eq_true] at hb
  obtain ⟨r, hr, e⟩ := hb
  unfold hasP at e
  rw [beq_iff_eq] at e
  rw [← tl_inj e]
  exact hk r hr
 unfold namedP at h
 unfold goodN
 by_cases h1 : y.f0.toList = ([114, 101, 108] : List UInt8)
 ·rw [if_pos (by rw [h1]; rfl)] at h
  rw [if_pos h1, Bool.and_eq_true, decide_eq_true_eq]
  obtain ⟨a, b⟩ := name_word (hasn _ h)
  refine ⟨a, fun e => b ⟨#[116, 104, 105, 115]⟩ List.mem_cons_self (tl_inj ?_)⟩
  rw [e, tl_data]
 ·rw [if_neg (by rw [beq_iff_eq]; exact h1)] at h
  rw [if_neg h1]
  by_cases h2 : y.f0.toList = ([102, 114, 111, 109] : List UInt8)
  ·rw [if_pos (by rw [h2]; rfl), Bool.and_eq_true] at h
   rw [if_pos h2, Bool.and_eq_true]
   exact ⟨(name_word (hasn _ h.1)).1, (name_word h.2).1⟩
  ·rw [if_neg h2]
theorem check_good {l : List S30} (hf : fewP l = true) (h0 : checkP l = 0) : (∀ k ∈ l, GoodK k) ∧ Inv l := by
 obtain ⟨_, h2, h3, h4, h5⟩ := (check_zero l).1 h0
 obtain ⟨a, _⟩ := (okKs_all_iff l).1 h4
 refine ⟨fun k hk => ?_, fun k hk r hr => ⟨shortP_small _ _ (fewP_rule hf hk hr).1, (eachP_iff _ _).1 h3 k hk r hr⟩⟩
 obtain ⟨a1, a2⟩ := a k hk
 obtain ⟨b1, _⟩ := (okRs_iff k).1 a2
 obtain ⟨c1, c2⟩ := fewP_kind hf hk
 refine ⟨(name_word a1).1, c2, c1, fun r hr => ?_⟩
 obtain ⟨s1, s2⟩ := fewP_rule hf hk hr
 obtain ⟨n1, n2⟩ := name_word (b1 r hr)
 have hn := (notGreat_size (Nat.le_refl 30) s1 ((eachP_iff _ _).1 h2 k hk r hr)).1
 have ht := text_len r.f1 30 s1
 exact ⟨n1, n2 wKind (by unfold theWords wKind; simp), (eachP_iff _ _).1 h3 k hk r hr, allP_mono (fun y hy => named_good k b1 y hy) _ ((eachP_iff _ _).1 h5 k hk r hr), shortP_small _ _ s1, by omega⟩
theorem short_sized (x : S33) : ∀ d, shortP d x = true → sizedE x = true := by
 induction x using S33.ind with
 | h x ih =>
  intro d h
  obtain ⟨n, rfl, _, h1, _, h3, h4⟩ := shortP_open h
  unfold sizedE
  rw [allP_eq, Bool.and_eq_true, decide_eq_true_eq, List.all_eq_true]
  exact ⟨by omega, fun y hy => ih y hy n (h4 y hy)⟩
theorem few_ok {l : List S30} (hf : fewP l = true) : l.length ≤ 1099511627776 ∧ ∀ k ∈ l, okK_ k := by
 refine ⟨by have := fewP_len hf; omega, fun k hk => ?_⟩
 obtain ⟨a, b⟩ := fewP_kind hf hk
 refine ⟨by omega, by omega, fun r hr => ?_⟩
 obtain ⟨s1, s2⟩ := fewP_rule hf hk hr
 exact ⟨shortP_small _ _ s1, short_sized _ _ s1, by omega⟩
/-! The law. -/
/-- The line that is wrong. -/
theorem line_l1 (bad : ByteArray) (s : List UInt8) (hs : s.length ≤ 200000000) (n e : Int) (b : Bool) (c : Nat) (hc : c ≤ 1)
  (hN : Ev (fun k => lunettelaw12_RuleLine.l1 k bad (mk s) n e ((s.count 10 : Nat) : Int) (s.length : Int)) b) (m : Nat) :
  ∀ i : Nat, i + m = s.length → Ev (fun k => lunettelaw12_RuleLine.l1 k bad (mk s) n e (((s.take i).count 10 : Nat) : Int) (i : Int)) b := by
 have hcs := List.count_le_length (a := (10 : UInt8)) (l := s)
 induction m with
 | zero =>
  intro i h
  obtain rfl : i = s.length := by omega
  rw [List.take_length]
  exact hN
 | succ m ih =>
  intro i h
  have hi : i < s.length := by omega
  have hle := List.count_le_length (a := (10 : UInt8)) (l := s.take i)
  rw [List.length_take] at hle
  have hn := ih (i + 1) (by omega)
  rw [count_take hi] at hn
  refine Ev.step (fun k => ?_) hn
  simp only [lunettelaw12_RuleLine.l1]
  have hg : (mk s).data.toList[i]'(by rw [mk_data]; exact hi) = s[i] := by simp only [mk_data]
  rw [if_pos (by rw [mk_size]; omega), if_pos (by omega), bt_data (mk s) i (by rw [mk_size]; omega), hg, wrap_succ (n := 1000000000) (by omega) (by omega), wrap_succ (n := 1000000000) (by omega) (by omega)]
  by_cases e : s[i] = 10
  ·rw [if_pos ((byte_ten _).2 e), if_pos e]
  ·rw [if_neg (fun h => e ((byte_ten _).1 h)), if_neg e]
   rfl
theorem line_l0 (l : List S30) (bad : ByteArray) (hf : fewP l = true) (h0 : checkP l = 0) (hz : bad.size ≤ 300) (hN : (10 : UInt8) ∉ bad.data.toList → Ev (fun k => lunettelaw12_RuleLine.l0 k l bad (bad.size : Int)) true) (m : Nat) :
  ∀ i : Nat, i + m = bad.size → (10 : UInt8) ∉ bad.data.toList.take i → Ev (fun k => lunettelaw12_RuleLine.l0 k l bad (i : Int)) true := by
 have hbl := data_len bad
 induction m with
 | zero =>
  intro i h hno
  obtain rfl : i = bad.size := by omega
  rw [List.take_of_length_le (by omega)] at hno
  exact hN hno
 | succ m ih =>
  intro i h hno
  have hi : i < bad.data.toList.length := by omega
  by_cases e : bad.data.toList[i] = 10
  ·refine Ev.step (f := fun _ => some true) (fun k => ?_) (Ev.now _)
   simp only [lunettelaw12_RuleLine.l0]
   rw [if_pos (by omega), if_pos (by omega), bt_data bad i (by omega), if_pos ((byte_ten _).2 e)]
  ·refine Ev.step (fun k => ?_) (ih (i + 1) (by omega) ?_)
   ·simp only [lunettelaw12_RuleLine.l0]
    rw [if_pos (by omega), if_pos (by omega), bt_data bad i (by omega), if_neg (fun h => e ((byte_ten _).1 h)), wrap_succ (n := 1000) (by omega) (by omega)]
   ·rw [List.take_succ_eq_append_getElem hi]
    intro hm
    rcases List.mem_append.1 hm with hm | hm
    ·exact hno hm
    ·exact e (List.mem_singleton.1 hm).symm
theorem line_end (l : List S30) (bad : ByteArray) (hf : fewP l = true) (h0 : checkP l = 0) (hz : bad.size ≤ 300) (hno : (10 : UInt8) ∉ bad.data.toList) :
  Ev (fun k => lunettelaw12_RuleLine.l0 k l bad (bad.size : Int)) true := by
 obtain ⟨hg, hI⟩ := check_good hf h0
 have hlen := few_show_len hf h0
 have hcnt := count_lines l hg
 have hcl := List.count_le_length (a := (10 : UInt8)) (l := showL l)
 have hbl := data_len bad
 have h70 : ∀ k ∈ l, k.f1.length ≤ 70 := fun k hk => (fewP_kind hf hk).1
 obtain ⟨r, hr, hgood⟩ := line_ev l bad (by omega) (by omega) hI
 obtain ⟨l1, b1⟩ := r
 have e10 : (⟨#[10]⟩ : ByteArray) = mk [10] := rfl
 have et : ∀ u : List UInt8, (mk (showL l) ++ bad) ++ mk (10 :: u) = mk (showL l ++ (bad.data.toList ++ 10 :: u)) := by
  intro u
  conv => lhs; rw [← mk_to bad]
  rw [mk_append, mk_append]
  congr 1
  simp
 have hr2 : Ev (fun k => rule_line.f k l (mk bad.data.toList)) (l1, b1) := by rw [mk_to]; exact hr
 have s1 : ∀ k, lunettelaw12_RuleLine.l0 (k + 1) l bad (bad.size : Int) = (lunetteref12_Show.f k l).bind fun t185 => (if t185.size + bad.size ≤ 9223372036854775807 then (if (t185 ++ bad).size + 1 ≤ 9223372036854775807 then ((rule_Read.f k ((t185 ++ bad) ++ (⟨#[10]⟩ : ByteArray))).bind fun bt186 => (if bt186.2.1 = 0 then (if bt186.2.2 = 0 then (some true) else (if bt186.2.2 = 121 then (some true) else (some (bt186.2.2 == 122)))) else (lunettelaw12_RuleLine.l1 k bad t185 bt186.2.1 bt186.2.2 0 0))) else (none)) else (none)) := by
  intro k
  simp only [lunettelaw12_RuleLine.l0]
  rw [if_neg (by omega)]
 refine Ev.step s1 ?_
 refine (refShow_ev l (fewP_small hf) (by omega)).bind ?_
 refine Ev.congr (fun k => (if_pos (by rw [mk_size]; omega)).trans (if_pos (by rw [size_add, mk_size]; omega))) ?_
 rw [e10, et []]
 cases b1 with
 | true =>
  obtain ⟨g1, g2⟩ := hgood rfl
  have hl1 : (showL l1).length ≤ 1000000000 := by rw [g2]; simp only [List.length_append, List.length_cons, List.length_nil]; omega
  have hrd : Ev (fun k => rule_Read.f k (mk (showL l ++ (bad.data.toList ++ [10])))) (checkR l1) := by
   refine Ev2.both (g := fun kl k => rule_Read.l0 kl k (mk (showL l ++ (bad.data.toList ++ [10]))) [] ((1 : Nat) : Int)) ?_
   refine read_kinds _ _ l [] 1 hg (fun k hk => by cases hk) (by have := fewP_len hf; rw [List.length_nil]; omega) (by simp only [List.length_append, List.length_cons, List.length_nil]; omega) (by omega) ?_
   rw [List.nil_append]
   exact read_line l l1 bad.data.toList [] _ (by omega) hno (by simp only [List.length_nil]; omega) hr2 _ (read_nil l1 _ g1 hl1)
  refine hrd.bind ?_
  unfold checkR
  by_cases h1 : checkP l1 = 0
  ·rw [if_pos h1]; exact Ev.now _
  ·rw [if_neg h1]
   rcases (inv_form g1).2 with h | h | h
   ·exact absurd h h1
   ·rw [h]; exact Ev.now _
   ·rw [h]; exact Ev.now _
 | false =>
  have hrd : ∀ u : List UInt8, u.length ≤ 200000000 → Ev (fun k => rule_Read.f k (mk (showL l ++ (bad.data.toList ++ 10 :: u)))) ([], ((1 + linesN l : Nat) : Int), 120) := by
   intro u hu
   refine Ev2.both (g := fun kl k => rule_Read.l0 kl k (mk (showL l ++ (bad.data.toList ++ 10 :: u))) [] ((1 : Nat) : Int)) ?_
   refine read_kinds _ _ l [] 1 hg (fun k hk => by cases hk) (by have := fewP_len hf; rw [List.length_nil]; omega) (by simp only [List.length_append, List.length_cons]; omega) (by omega) ?_
   rw [List.nil_append]
   exact read_bad l bad.data.toList u _ l1 hno (by omega) hr2
  refine (hrd [] (by simp)).bind ?_
  show Ev (fun k => if ((1 + linesN l : Nat) : Int) = 0 then _ else lunettelaw12_RuleLine.l1 k bad (mk (showL l)) ((1 + linesN l : Nat) : Int) 120 0 0) true
  refine Ev.congr (fun k => if_neg (by omega)) ?_
  have := line_l1 bad (showL l) hlen ((1 + linesN l : Nat) : Int) 120 true 0 (by omega) ?_ (showL l).length 0 (Nat.zero_add _)
  ·rw [List.take_zero] at this
   exact this
  ·rw [hcnt]
   refine Ev.step (f := fun k => (rule_Read.f k (mk (showL l ++ (bad.data.toList ++ 10 :: showL l)))).bind fun bt191 => (if ((1 + linesN l : Nat) : Int) = (wrap64 ((linesN l : Int) + 1)) then (if (120 : Int) = 120 then (if (bt191.1.length : Int) = 0 then (if bt191.2.1 = ((1 + linesN l : Nat) : Int) then (some (bt191.2.2 == 120)) else (some false)) else (some false)) else (some false)) else (some false))) (fun k => ?_) ?_
   ·simp only [lunettelaw12_RuleLine.l1]
    have z1 : (mk [10]).size = 1 := rfl
    rw [if_neg (by rw [mk_size]; omega), if_pos (by rw [mk_size]; omega), if_pos (by rw [size_add, mk_size]; omega), e10, if_pos (by rw [size_add, size_add, mk_size, z1]; omega), et [], mk_append]
    rw [show showL l ++ (bad.data.toList ++ [10]) ++ showL l = showL l ++ (bad.data.toList ++ 10 :: showL l) by simp]
   ·refine (hrd (showL l) hlen).bind ?_
    refine Ev.congr (fun k => (if_pos (by rw [wrap_small (by omega) (by omega)]; omega)).trans ((if_pos rfl).trans ((if_pos rfl).trans (if_pos rfl)))) ?_
    exact Ev.now _
theorem ruleLine_ev (l : List S30) (bad : ByteArray) : Ev (fun k => lunettelaw12_RuleLine.f k l bad) true := by
 unfold lunettelaw12_RuleLine.f lunettelaw12_awake.f
 simp only [Option.bind_some, if_true]
 have yes : Ev (fun k => lunettelaw12_RuleLine.j0 k l bad true) true := Ev.step (f := fun _ => some true) (fun k => by simp only [lunettelaw12_RuleLine.j0, if_true]; rfl) (Ev.now _)
 refine (few_ev l).bind ?_
 cases hf : fewP l with
 | false => simp only [Bool.false_eq_true, if_false]; exact yes
 | true =>
  simp only [if_true]
  obtain ⟨o1, o2⟩ := few_ok hf
  refine (refCheck_ev l o1 o2).bind ?_
  by_cases h0 : checkP l = 0
  ·refine Ev.congr (fun k => if_pos h0) ?_
   by_cases hl : (l.length : Int) = 0
   ·exact Ev.congr (fun k => if_pos hl) yes
   ·refine Ev.congr (fun k => if_neg hl) ?_
    by_cases hz : (bad.size : Int) > 300
    ·rw [decide_eq_true hz]; exact yes
    ·rw [decide_eq_false hz]
     refine Ev.step (f := fun k => lunettelaw12_RuleLine.l0 k l bad ((0 : Nat) : Int)) (fun k => by simp only [lunettelaw12_RuleLine.j0, Bool.false_eq_true, if_false]; rfl) ?_
     exact line_l0 l bad hf h0 (by omega) (fun hno => line_end l bad hf h0 (by omega) hno) bad.size 0 (Nat.zero_add _) (by rw [List.take_zero]; intro h; cases h)
  ·exact Ev.congr (fun k => if_neg h0) yes
theorem ruleLine_walk (w : World) (A : Option Addr) (c : Nat) (l : List S30) (hr : Kd.C k30 w A l.length l) (hc : l.length ≤ c) (a : ByteArray) (ha : a.size ≤ 140737488351232) (hT : Tabs w) :
  Calls Tryz.prog 6 #[.slice A l.length c, .string a] w fun e w' => e = .returned (.bool true) ∧ Below w.heap.size w w' := by
 obtain ⟨k, h⟩ := (ruleLine_ev l a).rounds
 exact lunettelaw12_RuleLine.callsT k A c l a true w hr hc hT h rfl
end Go.Proofs.YtjcipbdocbomjaaGreatDoor.K
