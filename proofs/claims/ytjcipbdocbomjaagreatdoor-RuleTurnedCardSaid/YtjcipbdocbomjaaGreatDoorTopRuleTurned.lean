/- Texts of this claim's proof, put together: P16 QO QT; conditions: as each states. -/
import Derived.Test.YtjcipbdocbomjaaGreatDoorZA
set_option linter.unusedVariables false
set_option linter.unusedSimpArgs false
open Go.RowKit Go.Proofs.YtjcipbdocbomjaaGreatDoorW.PrintWords Go.Proofs.YtjcipbdocbomjaaGreatDoorW.PrintLast Go.Proofs.YtjcipbdocbomjaaGreatDoorW.PrintMore
namespace Go.Proofs.YtjcipbdocbomjaaGreatDoor.K
attribute [local go_sem] max2_int min2_int max_two min_two max_three min_three max_four min_four
mutual
def lunettelaw12_RuleTurned.j0 : Nat → List (S30) → Int → Bool → Option (Bool)
 | 0, _, _, _ => none
 | k + 1, x0, x1, x21 => if x21 = true then ((lunettelaw12_awake.f).bind fun t229 => (some t229)) else (if (x0.length : Int) = 0 then (none) else ((some (([] : List (S30)) : List (S30))).bind fun y230 => (if 0 ≤ (Int.tmod (wrap64 (x1)) (x0.length : Int)) then (if (Int.tmod (wrap64 (x1)) (x0.length : Int)) ≤ (x0.length : Int) then ((some (x0.drop ((Int.tmod (wrap64 (x1)) (x0.length : Int)) : Int).toNat : List (S30))).bind fun y233 => (if y230.length + y233.length < 3518437208883 then ((some (y230 ++ y233 : List (S30))).bind fun y238 => ((some (x0.take ((Int.tmod (wrap64 (x1)) (x0.length : Int)) : Int).toNat : List (S30))).bind fun y241 => (if y238.length + y241.length < 3518437208883 then (lunettelaw12_RuleTurned.l0 k x0 x1 (y238 ++ y241) 0) else (none)))) else (none))) else (none)) else (none))))
def lunettelaw12_RuleTurned.l0 : Nat → List (S30) → Int → List (S30) → Int → Option (Bool)
 | 0, _, _, _, _ => none
 | k + 1, x0, x1, x6, x7 => if x7 < (x6.length : Int) then (if 0 ≤ x7 then (if (((rd_T30 x6 x7).f1).length : Int) > 0 then (if (((rd_T30 x6 x7).f1).length : Int) = 0 then (none) else ((some (([] : List (S35)) : List (S35))).bind fun y250 => (if 0 ≤ (Int.tmod (wrap64 (x1)) (((rd_T30 x6 x7).f1).length : Int)) then (if (Int.tmod (wrap64 (x1)) (((rd_T30 x6 x7).f1).length : Int)) ≤ (((rd_T30 x6 x7).f1).length : Int) then ((some (((rd_T30 x6 x7).f1).drop ((Int.tmod (wrap64 (x1)) (((rd_T30 x6 x7).f1).length : Int)) : Int).toNat : List (S35))).bind fun y253 => (if y250.length + y253.length < 1599289640401 then ((some (y250 ++ y253 : List (S35))).bind fun y258 => ((some (((rd_T30 x6 x7).f1).take ((Int.tmod (wrap64 (x1)) (((rd_T30 x6 x7).f1).length : Int)) : Int).toNat : List (S35))).bind fun y261 => (if y258.length + y261.length < 1599289640401 then (lunettelaw12_RuleTurned.l0 k x0 x1 (x6.set (x7 : Int).toNat (⟨(rd_T30 x6 x7).f0, (y258 ++ y261)⟩ : S30)) (wrap64 (x7 + 1))) else (none)))) else (none))) else (none)) else (none)))) else (lunettelaw12_RuleTurned.l0 k x0 x1 x6 (wrap64 (x7 + 1)))) else (none)) else ((rule_Check.f x6).bind fun t270 => ((rule_Check.f x0).bind fun t271 => (if t270 = t271 then ((rule_But.f x6).bind fun t272 => ((rule_But.f x0).bind fun t273 => (some (t272 == t273)))) else (some false))))
end
def lunettelaw12_RuleTurned.f (k : Nat) (l0 : List (S30)) (a1 : Int) : Option (Bool) := (lunettelaw12_awake.f).bind fun t227 => (if t227 = true then ((lunetteref12_Few.f k l0).bind fun t228 => (if t228 = true then (lunettelaw12_RuleTurned.j0 k l0 a1 ((l0.length : Int) == 0)) else (lunettelaw12_RuleTurned.j0 k l0 a1 true))) else (lunettelaw12_RuleTurned.j0 k l0 a1 true))
def lunettelaw12_RuleTurned.T4 : Bool × List (List Nat × List Nat) := (true, [([], []), ([], []), ([], []), ([1, 2], [1, 2]), ([0, 3], [0, 3]), ([], []), ([], []), ([5, 6], [5, 6]), ([4, 7, 4], [4, 7]), ([8, 8, 0, 1, 2, 3, 4, 5, 6, 7, 8], [8])])
def lunettelaw12_RuleTurned.B4 : List Nat := [0, 0, 0, 6, 15, 0, 0, 96, 255, 511]
theorem lunettelaw12_RuleTurned.tab4 : rtab .any (opsOf Tryz.f8 4) = lunettelaw12_RuleTurned.T4 := by kernel_rfl
theorem lunettelaw12_RuleTurned.bits4 : waitsOk lunettelaw12_RuleTurned.T4.2 lunettelaw12_RuleTurned.B4 = true := by kernel_rfl
def lunettelaw12_RuleTurned.T11 : Bool × List (List Nat × List Nat) := (true, [([], []), ([], []), ([], []), ([], []), ([], []), ([3, 4], [3, 4]), ([2, 5], [2, 5]), ([], []), ([], []), ([7, 8], [7, 8]), ([6, 9, 6], [6, 9]), ([0, 1, 0, 1, 2, 3, 4, 5, 6, 7, 8, 9, 10], [0, 1]), ([11, 0, 1, 2, 3, 4, 5, 6, 7, 8, 9, 10], [11]), ([12, 10, 10, 0, 1, 2, 3, 4, 5, 6, 7, 8, 9, 10], [10, 12])])
def lunettelaw12_RuleTurned.B11 : List Nat := [0, 0, 0, 0, 0, 24, 60, 0, 0, 384, 1020, 2047, 4095, 8191]
theorem lunettelaw12_RuleTurned.tab11 : rtab .any (opsOf Tryz.f8 11) = lunettelaw12_RuleTurned.T11 := by kernel_rfl
theorem lunettelaw12_RuleTurned.bits11 : waitsOk lunettelaw12_RuleTurned.T11.2 lunettelaw12_RuleTurned.B11 = true := by kernel_rfl
set_option maxHeartbeats 8000000 in
set_option maxRecDepth 100000 in
theorem lunettelaw12_RuleTurned.callsT (k : Nat) (P0_ : Nat → Prop) (A0 : Option Addr) (c0 : Nat) (l0 : List (S30)) (a1 : Int) (r : Bool) (w : World) (hs0 : Kd.V k30 30 w w.heap.size (fun k_ => P0_ k_) (.slice A0 l0.length c0) l0) (hTab : Tabs w) (h : lunettelaw12_RuleTurned.f k l0 a1 = some r) (hT : r = true) :
  Calls Tryz.prog 8 #[.slice A0 l0.length c0, .int .u8 a1] w fun e w' => e = .returned (.bool r) ∧ Below w.heap.size w w' := by
 have HTB := Aside0.mk hTab
 clear hTab
 have HO0 := Aside0.mk (show Kd.V k30 30 w w.heap.size (fun k_ => (P0_ k_ ∨ w.heap.size ≤ k_)) (.slice A0 l0.length c0) l0 from Kd.V_mono hs0 (fun k_ hk => .inl hk))
 have HB := Aside0.mk (Below.refl w.heap.size w)
 have HTRUE := Aside0.mk hT
 clear hT
 have H : ((lunettelaw12_awake.f).bind fun t227 => (if t227 = true then ((lunetteref12_Few.f k l0).bind fun t228 => (if t228 = true then (lunettelaw12_RuleTurned.j0 k l0 a1 ((l0.length : Int) == 0)) else (lunettelaw12_RuleTurned.j0 k l0 a1 true))) else (lunettelaw12_RuleTurned.j0 k l0 a1 true))) = some r := h
 clear h
 have HC3 := Aside0.mk H
 clear H
 go_enter Tryz.func8, Tryz.ntmps8
 go_upto_region 1 with (fail)
 go_cut [21] (fun v21 wc => ∃ (kq : Nat) (x21_2 : Bool), v21 = .bool x21_2 ∧ Aside0 (lunettelaw12_RuleTurned.j0 kq l0 a1 x21_2 = some r) ∧ Aside0 (kq ≤ k) ∧ Aside0 (Kd.V k30 30 wc w.heap.size (fun k_ => (P0_ k_ ∨ w.heap.size ≤ k_)) (.slice A0 l0.length c0) l0) ∧ Aside0 (Below w.heap.size w wc))
 case first =>
  have H := HC3.out
  clear HC3
  replace H := Option.bind_eq_some_iff.mp H
  obtain ⟨t227, A40, H⟩ := H
  replace H : (if t227 = true then ((lunetteref12_Few.f k l0).bind fun t228 => (if t228 = true then (lunettelaw12_RuleTurned.j0 k l0 a1 ((l0.length : Int) == 0)) else (lunettelaw12_RuleTurned.j0 k l0 a1 true))) else (lunettelaw12_RuleTurned.j0 k l0 a1 true)) = some r := H
  have A4 := Aside0.mk A40
  clear A40
  by_cases c5 : t227 = true
  ·subst c5
   have H1 : ((lunetteref12_Few.f k l0).bind fun t228 => (if t228 = true then (lunettelaw12_RuleTurned.j0 k l0 a1 ((l0.length : Int) == 0)) else (lunettelaw12_RuleTurned.j0 k l0 a1 true))) = some r := by rw [if_pos rfl] at H; exact H
   clear H
   have H := H1
   clear H1
   replace H := Option.bind_eq_some_iff.mp H
   obtain ⟨t228, A60, H⟩ := H
   replace H : (if t228 = true then (lunettelaw12_RuleTurned.j0 k l0 a1 ((l0.length : Int) == 0)) else (lunettelaw12_RuleTurned.j0 k l0 a1 true)) = some r := H
   have A6 := Aside0.mk A60
   clear A60
   by_cases c7 : t228 = true
   ·subst c7
    have H1 : (lunettelaw12_RuleTurned.j0 k l0 a1 ((l0.length : Int) == 0)) = some r := by rw [if_pos rfl] at H; exact H
    clear H
    have H := H1
    clear H1
    have H' := Aside0.mk H
    clear H
    go_wp2_with (first | ((with_reducible refine gate_callee (f := 9) rfl ?_); refine goesL_ (some 10) rfl rfl Tryz.func9 (by kernel_rfl) rfl #[] rfl (by (try simp only [List.map_toArray, List.map_cons, List.map_nil]); (done)) ?_; (with_reducible refine (lunettelaw12_awake.calls  true _ A4.out ?sideT).mono ?_); (case sideT => exact Tabs.keep HTB.out (by repeat ((with_reducible (exact HB.out))))); rintro e w8 ⟨rfl, hb⟩; refine ⟨_, rfl, ?_⟩; have n0_ := Aside0.mk (Kd.V_below (by (with_reducible repeat ((apply Kd.V_drew))); exact HO0.out) hb); have n1_ := Aside0.mk (below_step (by repeat ((with_reducible (exact HB.out)))) hb); clear HO0; clear HB; have HO0 := n0_; have HB := n1_; clear n0_ n1_; (try clear hb)) | (go_at_call 10; (with_reducible refine (lunetteref12_Few.calls k _ _ l0 true _ ?side1 ?side2 A6.out).mono ?_); (case side1 => repeat ((exact (Kd.V_reads' HO0.out).2.2))); (case side2 => exact (Kd.V_reads' HO0.out).2.1); rintro e w9 ⟨rfl, hb⟩; have n0_ := Aside0.mk (Kd.V_below (by (with_reducible repeat ((apply Kd.V_drew))); exact HO0.out) hb); have n1_ := Aside0.mk (below_step (by repeat ((with_reducible (exact HB.out)))) hb); clear HO0; clear HB; have HO0 := n0_; have HB := n1_; clear n0_ n1_; (try clear hb)))
    go_meet
    case rel => exact ⟨_, (((l0.length : Int) == 0)), (by (rfl)), H', ⟨by (omega)⟩, ⟨by (with_reducible repeat ((apply Kd.V_drew))); exact HO0.out⟩, ⟨by repeat ((with_reducible (exact HB.out)))⟩⟩
   ·replace c7 := Bool.eq_false_iff.mpr c7
    subst c7
    have H1 : (lunettelaw12_RuleTurned.j0 k l0 a1 true) = some r := by rw [if_neg (show ¬ (false = true) by decide)] at H; exact H
    clear H
    have H := H1
    clear H1
    have H' := Aside0.mk H
    clear H
    go_wp2_with (first | ((with_reducible refine gate_callee (f := 9) rfl ?_); refine goesL_ (some 10) rfl rfl Tryz.func9 (by kernel_rfl) rfl #[] rfl (by (try simp only [List.map_toArray, List.map_cons, List.map_nil]); (done)) ?_; (with_reducible refine (lunettelaw12_awake.calls  true _ A4.out ?sideT).mono ?_); (case sideT => exact Tabs.keep HTB.out (by repeat ((with_reducible (exact HB.out))))); rintro e w10 ⟨rfl, hb⟩; refine ⟨_, rfl, ?_⟩; have n0_ := Aside0.mk (Kd.V_below (by (with_reducible repeat ((apply Kd.V_drew))); exact HO0.out) hb); have n1_ := Aside0.mk (below_step (by repeat ((with_reducible (exact HB.out)))) hb); clear HO0; clear HB; have HO0 := n0_; have HB := n1_; clear n0_ n1_; (try clear hb)) | (go_at_call 10; (with_reducible refine (lunetteref12_Few.calls k _ _ l0 false _ ?side1 ?side2 A6.out).mono ?_); (case side1 => repeat ((exact (Kd.V_reads' HO0.out).2.2))); (case side2 => exact (Kd.V_reads' HO0.out).2.1); rintro e w11 ⟨rfl, hb⟩; have n0_ := Aside0.mk (Kd.V_below (by (with_reducible repeat ((apply Kd.V_drew))); exact HO0.out) hb); have n1_ := Aside0.mk (below_step (by repeat ((with_reducible (exact HB.out)))) hb); clear HO0; clear HB; have HO0 := n0_; have HB := n1_; clear n0_ n1_; (try clear hb)))
    go_meet
    case rel => exact ⟨_, (true), (by (rfl)), H', ⟨by (omega)⟩, ⟨by (with_reducible repeat ((apply Kd.V_drew))); exact HO0.out⟩, ⟨by repeat ((with_reducible (exact HB.out)))⟩⟩
  ·replace c5 := Bool.eq_false_iff.mpr c5
   subst c5
   have H1 : (lunettelaw12_RuleTurned.j0 k l0 a1 true) = some r := by rw [if_neg (show ¬ (false = true) by decide)] at H; exact H
   clear H
   have H := H1
   clear H1
   have H' := Aside0.mk H
   clear H
   go_wp2_with (((with_reducible refine gate_callee (f := 9) rfl ?_); refine goesL_ (some 10) rfl rfl Tryz.func9 (by kernel_rfl) rfl #[] rfl (by (try simp only [List.map_toArray, List.map_cons, List.map_nil]); (done)) ?_; (with_reducible refine (lunettelaw12_awake.calls  false _ A4.out ?sideT).mono ?_); (case sideT => exact Tabs.keep HTB.out (by repeat ((with_reducible (exact HB.out))))); rintro e w12 ⟨rfl, hb⟩; refine ⟨_, rfl, ?_⟩; have n0_ := Aside0.mk (Kd.V_below (by (with_reducible repeat ((apply Kd.V_drew))); exact HO0.out) hb); have n1_ := Aside0.mk (below_step (by repeat ((with_reducible (exact HB.out)))) hb); clear HO0; clear HB; have HO0 := n0_; have HB := n1_; clear n0_ n1_; (try clear hb)))
   go_meet
   case rel => exact ⟨_, (true), (by (rfl)), H', ⟨by (omega)⟩, ⟨by (with_reducible repeat ((apply Kd.V_drew))); exact HO0.out⟩, ⟨by repeat ((with_reducible (exact HB.out)))⟩⟩
 case rest =>
  clear HC3
  obtain ⟨kq, x21_2, rfl, HA, HJ2, HO_0, HB⟩ := hcut
  cases kq with
  | zero => exact absurd HA.out (by simp [lunettelaw12_RuleTurned.j0])
  | succ kj2 =>
   have H := HA.out
   clear HA
   simp only [lunettelaw12_RuleTurned.j0] at H
   by_cases c13 : x21_2 = true
   ·subst c13
    have H1 : ((lunettelaw12_awake.f).bind fun t229 => (some t229)) = some r := by rw [if_pos rfl] at H; exact H
    clear H
    have H := H1
    clear H1
    replace H := Option.bind_eq_some_iff.mp H
    obtain ⟨t229, A140, H⟩ := H
    replace H : (some t229) = some r := H
    have A14 := Aside0.mk A140
    clear A140
    obtain rfl := Option.some.inj H
    go_wp2_with (((with_reducible refine gate_callee (f := 9) rfl ?_); refine goesL_ (some 22) rfl rfl Tryz.func9 (by kernel_rfl) rfl #[] rfl (by (try simp only [List.map_toArray, List.map_cons, List.map_nil]); (done)) ?_; (with_reducible refine (lunettelaw12_awake.calls  t229 _ A14.out ?sideT).mono ?_); (case sideT => exact Tabs.keep HTB.out (by repeat ((with_reducible (exact HB.out))))); rintro e w15 ⟨rfl, hb⟩; refine ⟨_, rfl, ?_⟩; have n0_ := Aside0.mk (Kd.V_below (by (with_reducible repeat ((apply Kd.V_drew))); exact HO_0.out) hb); have n1_ := Aside0.mk (below_step (by repeat ((with_reducible (exact HB.out)))) hb); clear HO_0; clear HB; have HO_0 := n0_; have HB := n1_; clear n0_ n1_; (try clear hb)))
    go_ret
    exact ⟨by (rfl), by repeat ((with_reducible (exact HB.out)))⟩
   ·replace c13 := Bool.eq_false_iff.mpr c13
    subst c13
    have H1 : (if (l0.length : Int) = 0 then (none) else ((some (([] : List (S30)) : List (S30))).bind fun y230 => (if 0 ≤ (Int.tmod (wrap64 (a1)) (l0.length : Int)) then (if (Int.tmod (wrap64 (a1)) (l0.length : Int)) ≤ (l0.length : Int) then ((some (l0.drop ((Int.tmod (wrap64 (a1)) (l0.length : Int)) : Int).toNat : List (S30))).bind fun y233 => (if y230.length + y233.length < 3518437208883 then ((some (y230 ++ y233 : List (S30))).bind fun y238 => ((some (l0.take ((Int.tmod (wrap64 (a1)) (l0.length : Int)) : Int).toNat : List (S30))).bind fun y241 => (if y238.length + y241.length < 3518437208883 then (lunettelaw12_RuleTurned.l0 kj2 l0 a1 (y238 ++ y241) 0) else (none)))) else (none))) else (none)) else (none)))) = some r := by rw [if_neg (show ¬ (false = true) by decide)] at H; exact H
    clear H
    have H := H1
    clear H1
    by_cases c16 : (l0.length : Int) = 0
    ·rw [if_pos c16] at H
     exact absurd H (by simp)
    ·rw [if_neg c16] at H
     have c16b0 : ((l0.length : Int) == 0) = false := beq_eq_false_iff_ne.mpr c16
     have c16b1 : ((l0.length : Int) != 0) = true := bne_iff_ne.mpr c16
     have c16b2 : ¬ (l0 = []) := fun h_ => c16 (by rw [h_]; rfl)
     obtain ⟨y230, hy230⟩ : ∃ y_ : List (S30), y_ = (([] : List (S30))) := ⟨_, rfl⟩
     replace H : (if 0 ≤ (Int.tmod (wrap64 (a1)) (l0.length : Int)) then (if (Int.tmod (wrap64 (a1)) (l0.length : Int)) ≤ (l0.length : Int) then ((some (l0.drop ((Int.tmod (wrap64 (a1)) (l0.length : Int)) : Int).toNat : List (S30))).bind fun y233 => (if y230.length + y233.length < 3518437208883 then ((some (y230 ++ y233 : List (S30))).bind fun y238 => ((some (l0.take ((Int.tmod (wrap64 (a1)) (l0.length : Int)) : Int).toNat : List (S30))).bind fun y241 => (if y238.length + y241.length < 3518437208883 then (lunettelaw12_RuleTurned.l0 kj2 l0 a1 (y238 ++ y241) 0) else (none)))) else (none))) else (none)) else (none)) = some r := by (have H2_ := (Option.bind_some _ _).symm.trans H; rw [hy230]; with_reducible exact H2_)
     have Ny230 := Aside0.mk hy230
     clear hy230
     obtain ⟨ji17, hji17⟩ : ∃ j_ : Int, (Int.tmod (wrap64 (a1)) (l0.length : Int)) = j_ := ⟨_, rfl⟩
     replace H : (if 0 ≤ (ji17) then (if (ji17) ≤ (l0.length : Int) then ((some (l0.drop ((ji17) : Int).toNat : List (S30))).bind fun y233 => (if y230.length + y233.length < 3518437208883 then ((some (y230 ++ y233 : List (S30))).bind fun y238 => ((some (l0.take ((ji17) : Int).toNat : List (S30))).bind fun y241 => (if y238.length + y241.length < 3518437208883 then (lunettelaw12_RuleTurned.l0 kj2 l0 a1 (y238 ++ y241) 0) else (none)))) else (none))) else (none)) else (none)) = some r := by (rw [hji17] at H; exact H)
     by_cases c18 : 0 ≤ (ji17)
     ·rw [if_pos c18] at H
      have c18b0 := eq_true c18
      have c18b1 : decide (0 ≤ (ji17)) = true := decide_eq_true c18
      clear c18
      by_cases c19 : (ji17) ≤ (l0.length : Int)
      ·rw [if_pos c19] at H
       have c19b0 := eq_true c19
       have c19b1 : decide ((ji17) ≤ (l0.length : Int)) = true := decide_eq_true c19
       clear c19
       obtain ⟨y233, hy233⟩ : ∃ y_ : List (S30), y_ = (l0.drop ((ji17) : Int).toNat) := ⟨_, rfl⟩
       replace H : (if y230.length + y233.length < 3518437208883 then ((some (y230 ++ y233 : List (S30))).bind fun y238 => ((some (l0.take ((ji17) : Int).toNat : List (S30))).bind fun y241 => (if y238.length + y241.length < 3518437208883 then (lunettelaw12_RuleTurned.l0 kj2 l0 a1 (y238 ++ y241) 0) else (none)))) else (none)) = some r := by (have H2_ := (Option.bind_some _ _).symm.trans H; rw [hy233]; with_reducible exact H2_)
       have Ny233 := Aside0.mk hy233
       clear hy233
       by_cases c20 : y230.length + y233.length < 3518437208883
       ·rw [if_pos c20] at H
        have LMc20 := Aside0.mk c20
        clear c20
        obtain ⟨y238, hy238⟩ : ∃ y_ : List (S30), y_ = (y230 ++ y233) := ⟨_, rfl⟩
        replace H : ((some (l0.take ((ji17) : Int).toNat : List (S30))).bind fun y241 => (if y238.length + y241.length < 3518437208883 then (lunettelaw12_RuleTurned.l0 kj2 l0 a1 (y238 ++ y241) 0) else (none))) = some r := by (have H2_ := (Option.bind_some _ _).symm.trans H; rw [hy238]; with_reducible exact H2_)
        have Ny238 := Aside0.mk hy238
        clear hy238
        have c21b0 := eq_true (of_decide_eq_true (by (with_reducible assumption)) : 0 ≤ (ji17))
        have c22b0 := eq_true (of_decide_eq_true (by (with_reducible assumption)) : (ji17) ≤ (l0.length : Int))
        obtain ⟨y241, hy241⟩ : ∃ y_ : List (S30), y_ = (l0.take ((ji17) : Int).toNat) := ⟨_, rfl⟩
        replace H : (if y238.length + y241.length < 3518437208883 then (lunettelaw12_RuleTurned.l0 kj2 l0 a1 (y238 ++ y241) 0) else (none)) = some r := by (have H2_ := (Option.bind_some _ _).symm.trans H; rw [hy241]; with_reducible exact H2_)
        have Ny241 := Aside0.mk hy241
        clear hy241
        by_cases c23 : y238.length + y241.length < 3518437208883
        ·rw [if_pos c23] at H
         have LMc23 := Aside0.mk c23
         clear c23
         obtain ⟨y246, hy246⟩ : ∃ y_ : List (S30), y_ = (y238 ++ y241) := ⟨_, rfl⟩
         replace H : (lunettelaw12_RuleTurned.l0 kj2 l0 a1 y246 0) = some r := by (rw [hy246]; with_reducible exact H)
         have Ny246 := Aside0.mk hy246
         clear hy246
         have H' := Aside0.mk H
         clear H
         try go_wp2
         have n0_ := Aside0.mk (Kd.V_drew HO_0.out)
         have n1_ := Aside0.mk (below_drew1 HB.out)
         clear HO_0
         clear HB
         have HO_0 := n0_
         have HB := n1_
         clear n0_ n1_
         have q25 : ((ji17) : Int) ≤ ((l0.length : Int) : Int) := of_decide_eq_true (by (with_reducible assumption))
         obtain ⟨i025, hi025, _, hsz25, _⟩ := info_parts info30
         have hroom25 : l0.length ≤ c0 := (Kd.V_reads' HO_0.out).2.1
         have hC25 : Kd.F k30 _ _ A0 l0.length l0 := (Kd.V_at (base := w.heap.size) HO_0.out).2.2
         have q025 : (0 : Int) ≤ ((ji17) : Int) := of_decide_eq_true (by (with_reducible assumption))
         have hcut25 := cut_from (P := Tryz.prog) 22 30 .i64 Tryz.underlying22 hi025 2 hsz25 A0 l0.length c0 (ji17) q025 q25
         have hr25 := Kd.F_cut (m := ((ji17) : Int).toNat) (c := c0) hC25 (by omega) hroom25
         obtain ⟨A25, hA25⟩ : ∃ A1, A1 = (if c0 = ((ji17) : Int).toNat then A0 else (A0 : Option Addr).map (·.add (((ji17) : Int).toNat * 2))) := ⟨_, rfl⟩
         obtain ⟨c25, hc25⟩ : ∃ c1, c1 = c0 - ((ji17) : Int).toNat := ⟨_, rfl⟩
         have hy25 : y233.length = l0.length - ((ji17) : Int).toNat := (by rw [Ny233.out, List.length_drop] <;> omega)
         rw [show (l0).drop ((ji17) : Int).toNat = y233 from Ny233.out.symm] at hr25
         replace hr25 : Kd.F k30 _ _ A25 y233.length y233 := (by rw [hA25]; exact hr25)
         rw [← hy25, ← hA25, ← hc25] at hcut25
         have HO237 := Aside0.mk (show Kd.V k30 30 _ w.heap.size _ (.slice A25 y233.length c25) y233 from Kd.V_mk (by rw [hy25, hc25]; exact Nat.sub_le_sub_right hroom25 _) hr25)
         have HC237 := Aside0.mk (show y233.length ≤ c25 from by rw [hy25, hc25]; exact Nat.sub_le_sub_right hroom25 _)
         clear hr25 hC25 hroom25 hi025 hsz25 hc25
         have KY25 := Aside0.mk hy25
         have KA25 := Aside0.mk hA25
         clear hy25 hA25
         replace q25 := eq_true q25
         have q26 : ((ji17) : Int) ≤ ((l0.length : Int) : Int) := of_decide_eq_true (by (with_reducible assumption))
         obtain ⟨i026, hi026, _, hsz26, _⟩ := info_parts info30
         have hroom26 : l0.length ≤ c0 := (Kd.V_reads' HO_0.out).2.1
         have hC26 : Kd.F k30 _ _ A0 l0.length l0 := (Kd.V_at (base := w.heap.size) HO_0.out).2.2
         have hcut26 := cut_to (P := Tryz.prog) 22 30 .i64 Tryz.underlying22 hi026 A0 l0.length c0 (ji17) (of_decide_eq_true (by (with_reducible assumption))) q26 hroom26
         have hr26 := Kd.F_take (m := ((ji17) : Int).toNat) hC26 (by omega)
         have hy26 : y241.length = ((ji17) : Int).toNat := (by rw [Ny241.out, List.length_take]; omega)
         rw [← Ny241.out] at hr26
         rw [← hy26] at hcut26
         have HO245 := Aside0.mk (show Kd.V k30 30 _ w.heap.size _ (.slice A0 y241.length c0) y241 from Kd.V_mk (by omega) hr26)
         have HC245 := Aside0.mk (show y241.length ≤ c0 from by omega)
         clear hr26 hC26 hroom26 hi026 hsz26
         have KY26 := Aside0.mk hy26
         clear hy26
         replace q26 := eq_true q26
         refine start_ (n := 10) (S := fun w' => True) (ds := []) #[false, false, false, false, false, false, false, false, false, false] (by kernel_rfl) rfl rfl trivial (fun hHeld => ?_); refine with_tabW lunettelaw12_RuleTurned.tab4 lunettelaw12_RuleTurned.bits4 (fun HT_ HW_ => ?_)
         generalize wc.drew = w24 at HO_0 HB HO237 HO245 hHeld ⊢
         refine pure_ (i := 1) (N := some 29) (v := ?_) (a' := ?_) #[false, true, false, false, false, false, false, false, false, false] rfl rfl (any_of HT_.out (by kernel_rfl)) (fun _ _ _ h => h) (Or.inl ⟨by rfl, ?_⟩) ?_ ?_
         rotate_left
         ·intro w'
          go_simp
          with_reducible rfl
         rotate_left
         ·simp only [Act.put, List.setIfInBounds_toArray, List.set_cons_zero, List.set_cons_succ, i64_w, i32_w]
          rfl
         refine pure_ (i := 2) (N := some 30) (v := ?_) (a' := ?_) #[false, true, true, false, false, false, false, false, false, false] rfl rfl (any_of HT_.out (by kernel_rfl)) (fun _ _ _ h => h) (Or.inl ⟨by rfl, ?_⟩) ?_ ?_
         rotate_left
         ·intro w'
          go_simp
          with_reducible rfl
         rotate_left
         ·simp only [Act.put, List.setIfInBounds_toArray, List.set_cons_zero, List.set_cons_succ, i64_w, i32_w]
          rfl
         refine pure_ (i := 3) (N := some 31) (v := ?_) (a' := ?_) #[false, true, true, true, false, false, false, false, false, false] rfl rfl (any_of HT_.out (by kernel_rfl)) (fun _ _ _ h => h) (Or.inl ⟨by rfl, ?_⟩) ?_ ?_
         rotate_left
         ·intro w'
          go_simp
          with_reducible rfl
         rotate_left
         ·simp only [Act.put, List.setIfInBounds_toArray, List.set_cons_zero, List.set_cons_succ, i64_w, i32_w]
          rfl
         refine pure_ (i := 5) (N := some 33) (v := ?_) (a' := ?_) #[false, true, true, true, false, true, false, false, false, false] rfl rfl (any_of HT_.out (by kernel_rfl)) (fun _ _ _ h => h) (Or.inl ⟨by rfl, ?_⟩) ?_ ?_
         rotate_left
         ·intro w'
          go_simp
          with_reducible rfl
         rotate_left
         ·simp only [Act.put, List.setIfInBounds_toArray, List.set_cons_zero, List.set_cons_succ, i64_w, i32_w]
          rfl
         refine pure_ (i := 6) (N := some 34) (v := ?_) (a' := ?_) #[false, true, true, true, false, true, true, false, false, false] rfl rfl (any_of HT_.out (by kernel_rfl)) (fun _ _ _ h => h) (Or.inl ⟨by rfl, ?_⟩) ?_ ?_
         rotate_left
         ·intro w'
          go_simp
          with_reducible rfl
         rotate_left
         ·simp only [Act.put, List.setIfInBounds_toArray, List.set_cons_zero, List.set_cons_succ, i64_w, i32_w]
          rfl
         refine pure_ (i := 7) (N := some 35) (v := ?_) (a' := ?_) #[false, true, true, true, false, true, true, true, false, false] rfl rfl (any_of HT_.out (by kernel_rfl)) (fun _ _ _ h => h) (Or.inl ⟨by rfl, ?_⟩) ?_ ?_
         rotate_left
         ·intro w'
          go_simp
          with_reducible rfl
         rotate_left
         ·simp only [Act.put, List.setIfInBounds_toArray, List.set_cons_zero, List.set_cons_succ, i64_w, i32_w]
          rfl
         refine one_ (i := 0) (N := some 28) #[true, true, true, true, false, true, true, true, false, false] rfl rfl (one_of HT_.out (by kernel_rfl)) (by decide) (fun K hK => ?_)
         refine Kd.N_lit_step k30 _ 30 ?hg (N' := 28) ?hd (xs := ([] : List (S30))) (inner := []) (ok := (fun k_ => (P0_ k_ ∨ w.heap.size ≤ k_))) (okp := (fun k_ => (P0_ k_ ∨ w.heap.size ≤ k_))) ?hr ?hp (fun _ hk => hk) ((show ∀ k_, w24.heap.size ≤ k_ → (fun k_ => (P0_ k_ ∨ w.heap.size ≤ k_)) k_ from fun k_ hk => (.inr (Nat.le_trans (below_size (by repeat ((with_reducible (exact HB.out))))) hk))) _ (Nat.le_refl _)) (Below.refl _ _) (Nat.le_refl _) (by simp) ?_; (case hd => rfl); (case hg => rfl); (case hr => (go_simp; done)); (case hp => exact (Reps.none _ _))
         intro v231 w27 ho28 hb hg_ hnew_
         clear hg_ hnew_
         ((rw [← Ny230.out] at ho28))
         have n0_ := Aside0.mk (Kd.V_elder' (by (with_reducible repeat ((apply Kd.V_drew))); exact HO_0.out) (Kd.N_base ho28) hb)
         have n1_ := Aside0.mk (Kd.V_elder' (by (with_reducible repeat ((apply Kd.V_drew))); exact HO237.out) (Kd.N_base ho28) hb)
         have n2_ := Aside0.mk (Kd.V_elder' (by (with_reducible repeat ((apply Kd.V_drew))); exact HO245.out) (Kd.N_base ho28) hb)
         have n3_ := Aside0.mk (Kd.N_lower ho28 (below_size (by repeat ((with_reducible (exact HB.out))))))
         have n4_ := Aside0.mk (below_step (by repeat ((with_reducible (exact HB.out)))) hb)
         clear HO_0
         clear HO237
         clear HO245
         clear HB
         have HO_0 := n0_
         have HO237 := n1_
         have HO245 := n2_
         have HO232 := n3_
         have HB := n4_
         clear n0_ n1_ n2_ n3_ n4_
         clear hb ho28
         refine hK.out _ _ trivial (fun hHeld => ?_)
         clear hK K
         refine norm_ (a' := ?_) ?_ ?_
         rotate_left
         ·show Act.put _ (some 28) _ = _
          simp only [Act.put, List.setIfInBounds_toArray, List.set_cons_zero, List.set_cons_succ, i64_w, i32_w]
          rfl
         refine one_ (i := 4) (N := some 32) #[true, true, true, true, true, true, true, true, false, false] rfl rfl (one_of HT_.out (by kernel_rfl)) (by decide) (fun K hK => ?_)
         refine Kd.N_append_rows_step k30 (w0 := w) w.heap.size (by rfl) (.tmp 28) (.tmp 31) 22 30 (.agg #[(.string ⟨#[]⟩), (.slice none 0 0)]) 40 rfl Tryz.underlying22 info30 rfl (by decide) (by omega) v231 y230 y233 _ _ _ (fun k_ => (P0_ k_ ∨ w.heap.size ≤ k_)) (fun k_ => ((fun k_ => (P0_ k_ ∨ w.heap.size ≤ k_))) k_ ∧ some k_ ≠ (v231 : Value).ownBlock) rfl rfl ?aO ?aR (fun _ hk => hk) ?aF ?aB ?aS ?aL ?_
         (case aR => exact (by exact Kd.V_F (Kd.V_mono (ok' := (fun k_ => ((fun k_ => (P0_ k_ ∨ w.heap.size ≤ k_))) k_ ∧ some k_ ≠ (v231 : Value).ownBlock)) (HO237.out) (fun k_ hk => ⟨hk.1, hk.2⟩))))
         (case aB => exact (by repeat ((with_reducible (exact HB.out)))))
         (case aF => exact (fun k_ hk => (.inr (Nat.le_trans (below_size (by repeat ((with_reducible (exact HB.out))))) hk))))
         (case aO => exact (by (with_reducible repeat ((apply Kd.N_drew))); exact HO232.out))
         (case aS => exact (below_size (by repeat ((with_reducible (exact HB.out))))))
         (case aL => have := LMc20.out; omega)
         intro v239 w29 ho hb hg hat
         rw [← Ny238.out] at ho
         have n0_ := Aside0.mk (Kd.V_afterv (ok := (fun k_ => (P0_ k_ ∨ w.heap.size ≤ k_))) (by (with_reducible repeat ((apply Kd.V_drew))); exact HO_0.out) hg hat)
         have n1_ := Aside0.mk (Kd.V_afterv (ok := (fun k_ => (P0_ k_ ∨ w.heap.size ≤ k_))) (by (with_reducible repeat ((apply Kd.V_drew))); exact HO237.out) hg hat)
         have n2_ := Aside0.mk (Kd.V_afterv (ok := (fun k_ => (P0_ k_ ∨ w.heap.size ≤ k_))) (by (with_reducible repeat ((apply Kd.V_drew))); exact HO245.out) hg hat)
         have n3_ := Aside0.mk (hb)
         have n4_ := Aside0.mk (ho)
         clear HO_0
         clear HO237
         clear HO245
         clear HB
         clear HO232
         have HO_0 := n0_
         have HO237 := n1_
         have HO245 := n2_
         have HB := n3_
         have HO240 := n4_
         clear n0_ n1_ n2_ n3_ n4_
         clear ho hb hg hat
         refine hK.out _ _ trivial (fun hHeld => ?_)
         clear hK K
         refine norm_ (a' := ?_) ?_ ?_
         rotate_left
         ·show Act.put _ (some 32) _ = _
          simp only [Act.put, List.setIfInBounds_toArray, List.set_cons_zero, List.set_cons_succ, i64_w, i32_w]
          rfl
         refine one_ (i := 8) (N := some 36) #[true, true, true, true, true, true, true, true, true, false] rfl rfl (one_of HT_.out (by kernel_rfl)) (by decide) (fun K hK => ?_)
         refine Kd.N_append_rows_step k30 (w0 := w) w.heap.size (by rfl) (.tmp 32) (.tmp 35) 22 30 (.agg #[(.string ⟨#[]⟩), (.slice none 0 0)]) 40 rfl Tryz.underlying22 info30 rfl (by decide) (by omega) v239 y238 y241 _ _ _ (fun k_ => (P0_ k_ ∨ w.heap.size ≤ k_)) (fun k_ => ((fun k_ => (P0_ k_ ∨ w.heap.size ≤ k_))) k_ ∧ some k_ ≠ (v239 : Value).ownBlock) rfl rfl ?aO ?aR (fun _ hk => hk) ?aF ?aB ?aS ?aL ?_
         (case aR => exact (by exact Kd.V_F (Kd.V_mono (ok' := (fun k_ => ((fun k_ => (P0_ k_ ∨ w.heap.size ≤ k_))) k_ ∧ some k_ ≠ (v239 : Value).ownBlock)) (HO245.out) (fun k_ hk => ⟨hk.1, hk.2⟩))))
         (case aB => exact (by repeat ((with_reducible (exact HB.out)))))
         (case aF => exact (fun k_ hk => (.inr (Nat.le_trans (below_size (by repeat ((with_reducible (exact HB.out))))) hk))))
         (case aO => exact (by (with_reducible repeat ((apply Kd.N_drew))); exact HO240.out))
         (case aS => exact (below_size (by repeat ((with_reducible (exact HB.out))))))
         (case aL => have := LMc23.out; omega)
         intro v247 w30 ho hb hg hat
         rw [← Ny246.out] at ho
         have n0_ := Aside0.mk (Kd.V_afterv (ok := (fun k_ => (P0_ k_ ∨ w.heap.size ≤ k_))) (by (with_reducible repeat ((apply Kd.V_drew))); exact HO_0.out) hg hat)
         have n1_ := Aside0.mk (Kd.V_afterv (ok := (fun k_ => (P0_ k_ ∨ w.heap.size ≤ k_))) (by (with_reducible repeat ((apply Kd.V_drew))); exact HO237.out) hg hat)
         have n2_ := Aside0.mk (Kd.V_afterv (ok := (fun k_ => (P0_ k_ ∨ w.heap.size ≤ k_))) (by (with_reducible repeat ((apply Kd.V_drew))); exact HO245.out) hg hat)
         have n3_ := Aside0.mk (hb)
         have n4_ := Aside0.mk (ho)
         clear HO_0
         clear HO237
         clear HO245
         clear HB
         clear HO240
         have HO_0 := n0_
         have HO237 := n1_
         have HO245 := n2_
         have HB := n3_
         have HO248 := n4_
         clear n0_ n1_ n2_ n3_ n4_
         clear ho hb hg hat
         refine hK.out _ _ trivial (fun hHeld => ?_)
         clear hK K
         refine norm_ (a' := ?_) ?_ ?_
         rotate_left
         ·show Act.put _ (some 36) _ = _
          simp only [Act.put, List.setIfInBounds_toArray, List.set_cons_zero, List.set_cons_succ, i64_w, i32_w]
          rfl
         refine pure_ (i := 9) (N := some 6) (v := ?_) (a' := ?_) #[true, true, true, true, true, true, true, true, true, true] rfl rfl (any_of HT_.out (by kernel_rfl)) (fun _ _ _ h => h) (Or.inl ⟨by rfl, ?_⟩) ?_ ?_
         rotate_left
         ·intro w'
          go_simp
          with_reducible rfl
         rotate_left
         ·simp only [Act.put, List.setIfInBounds_toArray, List.set_cons_zero, List.set_cons_succ, i64_w, i32_w]
          rfl
         refine done_ (done_of HT_.out (by kernel_rfl)) ?_
         try go_wp2
         go_loopg [7] kj2 (fun kq v7 w' => ∃ (x6_2 : List (S30)) (x7_2 : Int), v7 = .int .i64 x7_2 ∧ Aside0 (lunettelaw12_RuleTurned.l0 kq l0 a1 x6_2 x7_2 = some r) ∧ Aside0 (kq ≤ kj2) ∧ Aside0 (Kd.V k30 30 w' w.heap.size (fun k_ => (P0_ k_ ∨ w.heap.size ≤ k_) ∧ some k_ ≠ (v247 : Value).ownBlock) (.slice A0 l0.length c0) l0) ∧ Aside0 (Kd.N k30 30 w' w.heap.size (fun k_ => (P0_ k_ ∨ w.heap.size ≤ k_)) v247 x6_2) ∧ Aside0 (Below w.heap.size w w'))
         case atStart => exact ⟨(y246), (0), (by (rfl)), H', ⟨Nat.le_refl _⟩, ⟨by (with_reducible repeat ((apply Kd.V_drew))); exact HO_0.out⟩, ⟨by (with_reducible repeat ((apply Kd.N_drew))); exact HO248.out⟩, ⟨by repeat ((with_reducible (exact HB.out)))⟩⟩
         case round =>
          clear H'
          try clear c16
          try clear c16b0
          try clear c16b1
          try clear c16b2
          try clear c18b0
          try clear c18b1
          try clear c19b0
          try clear c19b1
          try clear c21b0
          try clear c22b0
          try clear q25
          try clear q26
          try clear q025
          obtain ⟨x6_2, x7_2, rfl, HA, HK2, HO_0, HO_6, HB⟩ := hrel
          cases gk with
          | zero => exact absurd HA.out (by simp [lunettelaw12_RuleTurned.l0])
          | succ k2 =>
           have H := HA.out
           clear HA
           simp only [lunettelaw12_RuleTurned.l0] at H
           by_cases c31 : x7_2 < (x6_2.length : Int)
           ·rw [if_pos c31] at H
            have c31b0 : decide (x7_2 < (x6_2.length : Int)) = true := decide_eq_true c31
            clear c31
            by_cases c32 : 0 ≤ x7_2
            ·rw [if_pos c32] at H
             have c32b0 : decide (0 ≤ x7_2) = true := decide_eq_true c32
             clear c32
             by_cases c33 : (((rd_T30 x6_2 x7_2).f1).length : Int) > 0
             ·rw [if_pos c33] at H
              have c33b0 : decide (0 < (((rd_T30 x6_2 x7_2).f1).length : Int)) = true := decide_eq_true c33
              have c33b1 : decide (0 < ((rd_T30 x6_2 x7_2).f1).length) = true := decide_eq_true (by omega)
              clear c33
              by_cases c34 : (((rd_T30 x6_2 x7_2).f1).length : Int) = 0
              ·rw [if_pos c34] at H
               exact absurd H (by simp)
              ·rw [if_neg c34] at H
               have c34b0 : ((((rd_T30 x6_2 x7_2).f1).length : Int) == 0) = false := beq_eq_false_iff_ne.mpr c34
               have c34b1 : ((((rd_T30 x6_2 x7_2).f1).length : Int) != 0) = true := bne_iff_ne.mpr c34
               have c34b2 : ¬ (((rd_T30 x6_2 x7_2).f1) = []) := fun h_ => c34 (by rw [h_]; rfl)
               obtain ⟨y250, hy250⟩ : ∃ y_ : List (S35), y_ = (([] : List (S35))) := ⟨_, rfl⟩
               replace H : (if 0 ≤ (Int.tmod (wrap64 (a1)) (((rd_T30 x6_2 x7_2).f1).length : Int)) then (if (Int.tmod (wrap64 (a1)) (((rd_T30 x6_2 x7_2).f1).length : Int)) ≤ (((rd_T30 x6_2 x7_2).f1).length : Int) then ((some (((rd_T30 x6_2 x7_2).f1).drop ((Int.tmod (wrap64 (a1)) (((rd_T30 x6_2 x7_2).f1).length : Int)) : Int).toNat : List (S35))).bind fun y253 => (if y250.length + y253.length < 1599289640401 then ((some (y250 ++ y253 : List (S35))).bind fun y258 => ((some (((rd_T30 x6_2 x7_2).f1).take ((Int.tmod (wrap64 (a1)) (((rd_T30 x6_2 x7_2).f1).length : Int)) : Int).toNat : List (S35))).bind fun y261 => (if y258.length + y261.length < 1599289640401 then (lunettelaw12_RuleTurned.l0 k2 l0 a1 (x6_2.set (x7_2 : Int).toNat (⟨(rd_T30 x6_2 x7_2).f0, (y258 ++ y261)⟩ : S30)) (wrap64 (x7_2 + 1))) else (none)))) else (none))) else (none)) else (none)) = some r := by (have H2_ := (Option.bind_some _ _).symm.trans H; rw [hy250]; with_reducible exact H2_)
               have Ny250 := Aside0.mk hy250
               clear hy250
               obtain ⟨ji35, hji35⟩ : ∃ j_ : Int, (Int.tmod (wrap64 (a1)) (((rd_T30 x6_2 x7_2).f1).length : Int)) = j_ := ⟨_, rfl⟩
               replace H : (if 0 ≤ (ji35) then (if (ji35) ≤ (((rd_T30 x6_2 x7_2).f1).length : Int) then ((some (((rd_T30 x6_2 x7_2).f1).drop ((ji35) : Int).toNat : List (S35))).bind fun y253 => (if y250.length + y253.length < 1599289640401 then ((some (y250 ++ y253 : List (S35))).bind fun y258 => ((some (((rd_T30 x6_2 x7_2).f1).take ((ji35) : Int).toNat : List (S35))).bind fun y261 => (if y258.length + y261.length < 1599289640401 then (lunettelaw12_RuleTurned.l0 k2 l0 a1 (x6_2.set (x7_2 : Int).toNat (⟨(rd_T30 x6_2 x7_2).f0, (y258 ++ y261)⟩ : S30)) (wrap64 (x7_2 + 1))) else (none)))) else (none))) else (none)) else (none)) = some r := by (rw [hji35] at H; exact H)
               by_cases c36 : 0 ≤ (ji35)
               ·rw [if_pos c36] at H
                have c36b0 := eq_true c36
                have c36b1 : decide (0 ≤ (ji35)) = true := decide_eq_true c36
                clear c36
                by_cases c37 : (ji35) ≤ (((rd_T30 x6_2 x7_2).f1).length : Int)
                ·rw [if_pos c37] at H
                 have c37b0 := eq_true c37
                 have c37b1 : decide ((ji35) ≤ (((rd_T30 x6_2 x7_2).f1).length : Int)) = true := decide_eq_true c37
                 clear c37
                 obtain ⟨y253, hy253⟩ : ∃ y_ : List (S35), y_ = (((rd_T30 x6_2 x7_2).f1).drop ((ji35) : Int).toNat) := ⟨_, rfl⟩
                 replace H : (if y250.length + y253.length < 1599289640401 then ((some (y250 ++ y253 : List (S35))).bind fun y258 => ((some (((rd_T30 x6_2 x7_2).f1).take ((ji35) : Int).toNat : List (S35))).bind fun y261 => (if y258.length + y261.length < 1599289640401 then (lunettelaw12_RuleTurned.l0 k2 l0 a1 (x6_2.set (x7_2 : Int).toNat (⟨(rd_T30 x6_2 x7_2).f0, (y258 ++ y261)⟩ : S30)) (wrap64 (x7_2 + 1))) else (none)))) else (none)) = some r := by (have H2_ := (Option.bind_some _ _).symm.trans H; rw [hy253]; with_reducible exact H2_)
                 have Ny253 := Aside0.mk hy253
                 clear hy253
                 by_cases c38 : y250.length + y253.length < 1599289640401
                 ·rw [if_pos c38] at H
                  have LMc38 := Aside0.mk c38
                  clear c38
                  obtain ⟨y258, hy258⟩ : ∃ y_ : List (S35), y_ = (y250 ++ y253) := ⟨_, rfl⟩
                  replace H : ((some (((rd_T30 x6_2 x7_2).f1).take ((ji35) : Int).toNat : List (S35))).bind fun y261 => (if y258.length + y261.length < 1599289640401 then (lunettelaw12_RuleTurned.l0 k2 l0 a1 (x6_2.set (x7_2 : Int).toNat (⟨(rd_T30 x6_2 x7_2).f0, (y258 ++ y261)⟩ : S30)) (wrap64 (x7_2 + 1))) else (none))) = some r := by (have H2_ := (Option.bind_some _ _).symm.trans H; rw [hy258]; with_reducible exact H2_)
                  have Ny258 := Aside0.mk hy258
                  clear hy258
                  have c39b0 := eq_true (of_decide_eq_true (by (with_reducible assumption)) : 0 ≤ (ji35))
                  have c40b0 := eq_true (of_decide_eq_true (by (with_reducible assumption)) : (ji35) ≤ (((rd_T30 x6_2 x7_2).f1).length : Int))
                  obtain ⟨y261, hy261⟩ : ∃ y_ : List (S35), y_ = (((rd_T30 x6_2 x7_2).f1).take ((ji35) : Int).toNat) := ⟨_, rfl⟩
                  replace H : (if y258.length + y261.length < 1599289640401 then (lunettelaw12_RuleTurned.l0 k2 l0 a1 (x6_2.set (x7_2 : Int).toNat (⟨(rd_T30 x6_2 x7_2).f0, (y258 ++ y261)⟩ : S30)) (wrap64 (x7_2 + 1))) else (none)) = some r := by (have H2_ := (Option.bind_some _ _).symm.trans H; rw [hy261]; with_reducible exact H2_)
                  have Ny261 := Aside0.mk hy261
                  clear hy261
                  by_cases c41 : y258.length + y261.length < 1599289640401
                  ·rw [if_pos c41] at H
                   have LMc41 := Aside0.mk c41
                   clear c41
                   obtain ⟨y266, hy266⟩ : ∃ y_ : List (S35), y_ = (y258 ++ y261) := ⟨_, rfl⟩
                   replace H : (lunettelaw12_RuleTurned.l0 k2 l0 a1 (x6_2.set (x7_2 : Int).toNat (⟨(rd_T30 x6_2 x7_2).f0, y266⟩ : S30)) (wrap64 (x7_2 + 1))) = some r := by (rw [hy266]; with_reducible exact H)
                   have Ny266 := Aside0.mk hy266
                   clear hy266
                   obtain ⟨y269, hy269⟩ : ∃ y_ : List (S30), y_ = (x6_2.set (x7_2 : Int).toNat (⟨(rd_T30 x6_2 x7_2).f0, y266⟩ : S30)) := ⟨_, rfl⟩
                   replace H : (lunettelaw12_RuleTurned.l0 k2 l0 a1 y269 (wrap64 (x7_2 + 1))) = some r := by (rw [hy269]; with_reducible exact H)
                   have Ny269 := Aside0.mk hy269
                   clear hy269
                   have H' := Aside0.mk H
                   clear H
                   obtain ⟨Ao43, co43, eo43⟩ := Kd.N_slice HO_6.out
                   subst eo43
                   have p249 : 0 ≤ (x7_2 : Int) := of_decide_eq_true (by (with_reducible assumption))
                   have q249 : x7_2 < (x6_2.length : Int) := of_decide_eq_true (by (with_reducible assumption))
                   obtain ⟨ad249, A249_1, c249_1, e249, hx249_0, hx249_1, hl249_1, hi249_1⟩ := at_T30 (Kd.N_reads' HO_6.out).2.2 x7_2 p249 q249
                   cases e249
                   obtain ⟨ce249, hce249, hMe249, hcc249⟩ := Kd.N_get HO_6.out z30 x7_2 p249 (by (exact q249))
                   obtain ⟨ua249_1, uc249_1, rfl, ul249_1, ge249_1⟩ := k30_openF hMe249
                   have hv249_1 := hcc249 1 _ rfl
                   rw [add_field _ _ 1 (by omega)] at hv249_1
                   replace hv249_1 := Option.some.inj (hv249_1.symm.trans hx249_1)
                   injection hv249_1 with hva_ hvn_ hvc_
                   rw [hva_] at ge249_1
                   rw [hvc_] at ul249_1
                   have HL249_1 := Aside0.mk (show Kd.V k35 35 _ w.heap.size _ _ ((rd_T30 x6_2 x7_2).f1) from Kd.V_mk ul249_1 ge249_1)
                   clear hva_ hvn_ hvc_ ge249_1 ul249_1
                   clear hcc249 hce249
                   have HR249_1 := Aside0.mk hi249_1
                   have HC249_1 := Aside0.mk hl249_1
                   clear hi249_1 hl249_1
                   replace p249 := eq_true p249
                   replace q249 := eq_true q249
                   try go_wp2
                   have n0_ := Aside0.mk (Kd.V_drew HO_0.out)
                   have n1_ := Aside0.mk (Kd.N_drew HO_6.out)
                   have n2_ := Aside0.mk (Kd.V_drew HL249_1.out)
                   have n3_ := Aside0.mk (Kd.C_drew HR249_1.out)
                   have n4_ := Aside0.mk (below_drew1 HB.out)
                   clear HO_0
                   clear HO_6
                   clear HL249_1
                   clear HR249_1
                   clear HB
                   have HO_0 := n0_
                   have HO_6 := n1_
                   have HL249_1 := n2_
                   have HR249_1 := n3_
                   have HB := n4_
                   clear n0_ n1_ n2_ n3_ n4_
                   have q45 : ((ji35) : Int) ≤ ((((rd_T30 x6_2 x7_2).f1).length : Int) : Int) := of_decide_eq_true (by (with_reducible assumption))
                   obtain ⟨i045, hi045, _, hsz45, _⟩ := info_parts info35
                   have hroom45 : ((rd_T30 x6_2 x7_2).f1).length ≤ c249_1 := HC249_1.out
                   have hC45 : Kd.F k35 _ _ A249_1 ((rd_T30 x6_2 x7_2).f1).length ((rd_T30 x6_2 x7_2).f1) := (Kd.V_at (base := w.heap.size) HL249_1.out).2.2
                   have q045 : (0 : Int) ≤ ((ji35) : Int) := of_decide_eq_true (by (with_reducible assumption))
                   have hcut45 := cut_from (P := Tryz.prog) 28 35 .i64 Tryz.underlying28 hi045 5 hsz45 A249_1 ((rd_T30 x6_2 x7_2).f1).length c249_1 (ji35) q045 q45
                   have hr45 := Kd.F_cut (m := ((ji35) : Int).toNat) (c := c249_1) hC45 (by omega) hroom45
                   obtain ⟨A45, hA45⟩ : ∃ A1, A1 = (if c249_1 = ((ji35) : Int).toNat then A249_1 else (A249_1 : Option Addr).map (·.add (((ji35) : Int).toNat * 5))) := ⟨_, rfl⟩
                   obtain ⟨c45, hc45⟩ : ∃ c1, c1 = c249_1 - ((ji35) : Int).toNat := ⟨_, rfl⟩
                   have hy45 : y253.length = ((rd_T30 x6_2 x7_2).f1).length - ((ji35) : Int).toNat := (by rw [Ny253.out, List.length_drop] <;> omega)
                   rw [show ((rd_T30 x6_2 x7_2).f1).drop ((ji35) : Int).toNat = y253 from Ny253.out.symm] at hr45
                   replace hr45 : Kd.F k35 _ _ A45 y253.length y253 := (by rw [hA45]; exact hr45)
                   rw [← hy45, ← hA45, ← hc45] at hcut45
                   have HO257 := Aside0.mk (show Kd.V k35 35 _ w.heap.size _ (.slice A45 y253.length c45) y253 from Kd.V_mk (by rw [hy45, hc45]; exact Nat.sub_le_sub_right hroom45 _) hr45)
                   have HC257 := Aside0.mk (show y253.length ≤ c45 from by rw [hy45, hc45]; exact Nat.sub_le_sub_right hroom45 _)
                   clear hr45 hC45 hroom45 hi045 hsz45 hc45
                   have KY45 := Aside0.mk hy45
                   have KA45 := Aside0.mk hA45
                   clear hy45 hA45
                   replace q45 := eq_true q45
                   have q46 : ((ji35) : Int) ≤ ((((rd_T30 x6_2 x7_2).f1).length : Int) : Int) := of_decide_eq_true (by (with_reducible assumption))
                   obtain ⟨i046, hi046, _, hsz46, _⟩ := info_parts info35
                   have hroom46 : ((rd_T30 x6_2 x7_2).f1).length ≤ c249_1 := HC249_1.out
                   have hC46 : Kd.F k35 _ _ A249_1 ((rd_T30 x6_2 x7_2).f1).length ((rd_T30 x6_2 x7_2).f1) := (Kd.V_at (base := w.heap.size) HL249_1.out).2.2
                   have hcut46 := cut_to (P := Tryz.prog) 28 35 .i64 Tryz.underlying28 hi046 A249_1 ((rd_T30 x6_2 x7_2).f1).length c249_1 (ji35) (of_decide_eq_true (by (with_reducible assumption))) q46 hroom46
                   have hr46 := Kd.F_take (m := ((ji35) : Int).toNat) hC46 (by omega)
                   have hy46 : y261.length = ((ji35) : Int).toNat := (by rw [Ny261.out, List.length_take]; omega)
                   rw [← Ny261.out] at hr46
                   rw [← hy46] at hcut46
                   have HO265 := Aside0.mk (show Kd.V k35 35 _ w.heap.size _ (.slice A249_1 y261.length c249_1) y261 from Kd.V_mk (by omega) hr46)
                   have HC265 := Aside0.mk (show y261.length ≤ c249_1 from by omega)
                   clear hr46 hC46 hroom46 hi046 hsz46
                   have KY46 := Aside0.mk hy46
                   clear hy46
                   replace q46 := eq_true q46
                   refine start_ (n := 14) (S := fun w' => True) (ds := [13]) #[false, false, false, false, false, false, false, false, false, false, false, false, false, false] (by kernel_rfl) rfl rfl trivial (fun hHeld => ?_); refine with_tabW lunettelaw12_RuleTurned.tab11 lunettelaw12_RuleTurned.bits11 (fun HT_ HW_ => ?_)
                   generalize wr.drew = w44 at HO_0 HO_6 HL249_1 HR249_1 HB HO257 HO265 hHeld ⊢
                   refine pure_ (i := 0) (N := some 56) (v := ?_) (a' := ?_) #[true, false, false, false, false, false, false, false, false, false, false, false, false, false] rfl rfl (any_of HT_.out (by kernel_rfl)) (fun _ _ _ h => h) (Or.inl ⟨by rfl, ?_⟩) ?_ ?_
                   rotate_left
                   ·intro w'
                    go_simp
                    with_reducible rfl
                   rotate_left
                   ·simp only [Act.put, List.setIfInBounds_toArray, List.set_cons_zero, List.set_cons_succ, i64_w, i32_w]
                    rfl
                   refine pure_ (i := 1) (N := some 57) (v := ?_) (a' := ?_) #[true, true, false, false, false, false, false, false, false, false, false, false, false, false] rfl rfl (any_of HT_.out (by kernel_rfl)) (fun _ _ _ h => h) (Or.inl ⟨by rfl, ?_⟩) ?_ ?_
                   rotate_left
                   ·intro w'
                    go_simp
                    with_reducible rfl
                   rotate_left
                   ·simp only [Act.put, List.setIfInBounds_toArray, List.set_cons_zero, List.set_cons_succ, i64_w, i32_w]
                    rfl
                   refine pure_ (i := 3) (N := some 59) (v := ?_) (a' := ?_) #[true, true, false, true, false, false, false, false, false, false, false, false, false, false] rfl rfl (any_of HT_.out (by kernel_rfl)) (fun _ _ _ h => h) (Or.inl ⟨by rfl, ?_⟩) ?_ ?_
                   rotate_left
                   ·intro w'
                    go_simp
                    with_reducible rfl
                   rotate_left
                   ·simp only [Act.put, List.setIfInBounds_toArray, List.set_cons_zero, List.set_cons_succ, i64_w, i32_w]
                    rfl
                   refine pure_ (i := 4) (N := some 60) (v := ?_) (a' := ?_) #[true, true, false, true, true, false, false, false, false, false, false, false, false, false] rfl rfl (any_of HT_.out (by kernel_rfl)) (fun _ _ _ h => h) (Or.inl ⟨by rfl, ?_⟩) ?_ ?_
                   rotate_left
                   ·intro w'
                    go_simp
                    with_reducible rfl
                   rotate_left
                   ·simp only [Act.put, List.setIfInBounds_toArray, List.set_cons_zero, List.set_cons_succ, i64_w, i32_w]
                    rfl
                   refine pure_ (i := 5) (N := some 61) (v := ?_) (a' := ?_) #[true, true, false, true, true, true, false, false, false, false, false, false, false, false] rfl rfl (any_of HT_.out (by kernel_rfl)) (fun _ _ _ h => h) (Or.inl ⟨by rfl, ?_⟩) ?_ ?_
                   rotate_left
                   ·intro w'
                    go_simp
                    with_reducible rfl
                   rotate_left
                   ·simp only [Act.put, List.setIfInBounds_toArray, List.set_cons_zero, List.set_cons_succ, i64_w, i32_w]
                    rfl
                   refine pure_ (i := 7) (N := some 63) (v := ?_) (a' := ?_) #[true, true, false, true, true, true, false, true, false, false, false, false, false, false] rfl rfl (any_of HT_.out (by kernel_rfl)) (fun _ _ _ h => h) (Or.inl ⟨by rfl, ?_⟩) ?_ ?_
                   rotate_left
                   ·intro w'
                    go_simp
                    with_reducible rfl
                   rotate_left
                   ·simp only [Act.put, List.setIfInBounds_toArray, List.set_cons_zero, List.set_cons_succ, i64_w, i32_w]
                    rfl
                   refine pure_ (i := 8) (N := some 64) (v := ?_) (a' := ?_) #[true, true, false, true, true, true, false, true, true, false, false, false, false, false] rfl rfl (any_of HT_.out (by kernel_rfl)) (fun _ _ _ h => h) (Or.inl ⟨by rfl, ?_⟩) ?_ ?_
                   rotate_left
                   ·intro w'
                    go_simp
                    with_reducible rfl
                   rotate_left
                   ·simp only [Act.put, List.setIfInBounds_toArray, List.set_cons_zero, List.set_cons_succ, i64_w, i32_w]
                    rfl
                   refine pure_ (i := 9) (N := some 65) (v := ?_) (a' := ?_) #[true, true, false, true, true, true, false, true, true, true, false, false, false, false] rfl rfl (any_of HT_.out (by kernel_rfl)) (fun _ _ _ h => h) (Or.inl ⟨by rfl, ?_⟩) ?_ ?_
                   rotate_left
                   ·intro w'
                    go_simp
                    with_reducible rfl
                   rotate_left
                   ·simp only [Act.put, List.setIfInBounds_toArray, List.set_cons_zero, List.set_cons_succ, i64_w, i32_w]
                    rfl
                   refine one_ (i := 2) (N := some 58) #[true, true, true, true, true, true, false, true, true, true, false, false, false, false] rfl rfl (one_of HT_.out (by kernel_rfl)) (by decide) (fun K hK => ?_)
                   refine Kd.N_lit_step k35 _ 35 ?hg (N' := 58) ?hd (xs := ([] : List (S35))) (inner := []) (ok := (fun k_ => (P0_ k_ ∨ w.heap.size ≤ k_) ∧ some k_ ≠ (.slice (some ad249) x6_2.length co43 : Value).ownBlock)) (okp := (fun k_ => (P0_ k_ ∨ w.heap.size ≤ k_) ∧ some k_ ≠ (.slice (some ad249) x6_2.length co43 : Value).ownBlock)) ?hr ?hp (fun _ hk => hk) ((show ∀ k_, w44.heap.size ≤ k_ → (fun k_ => (P0_ k_ ∨ w.heap.size ≤ k_) ∧ some k_ ≠ (.slice (some ad249) x6_2.length co43 : Value).ownBlock) k_ from fun k_ hk => ⟨(.inr (Nat.le_trans (below_size (by repeat ((with_reducible (exact HB.out))))) hk)), Kd.fresh' (Kd.N_lt (by (with_reducible repeat ((apply Kd.N_drew))); exact HO_6.out)) k_ hk⟩) _ (Nat.le_refl _)) (Below.refl _ _) (Nat.le_refl _) (by simp) ?_; (case hd => rfl); (case hg => rfl); (case hr => (go_simp; done)); (case hp => exact (Reps.none _ _))
                   intro v251 w47 ho48 hb hg_ hnew_
                   clear hg_ hnew_
                   ((rw [← Ny250.out] at ho48))
                   have n0_ := Aside0.mk (Kd.V_elder' (by (with_reducible repeat ((apply Kd.V_drew))); exact HO_0.out) (Kd.N_base ho48) hb)
                   have n1_ := Aside0.mk (Kd.N_elder' (by (with_reducible repeat ((apply Kd.N_drew))); exact HO_6.out) (Kd.N_base ho48) hb)
                   have n2_ := Aside0.mk (Kd.V_elder' (by (with_reducible repeat ((apply Kd.V_drew))); exact HL249_1.out) (Kd.N_base ho48) hb)
                   have n3_ := Aside0.mk (Kd.V_elder' (by (with_reducible repeat ((apply Kd.V_drew))); exact HO257.out) (Kd.N_base ho48) hb)
                   have n4_ := Aside0.mk (Kd.V_elder' (by (with_reducible repeat ((apply Kd.V_drew))); exact HO265.out) (Kd.N_base ho48) hb)
                   have n5_ := Aside0.mk (Kd.N_lower ho48 (below_size (by repeat ((with_reducible (exact HB.out))))))
                   have n6_ := Aside0.mk (Kd.C_below (by repeat ((with_reducible exact HR249_1.out))) hb)
                   have n7_ := Aside0.mk (below_step (by repeat ((with_reducible (exact HB.out)))) hb)
                   clear HO_0
                   clear HO_6
                   clear HL249_1
                   clear HO257
                   clear HO265
                   clear HR249_1
                   clear HB
                   have HO_0 := n0_
                   have HO_6 := n1_
                   have HL249_1 := n2_
                   have HO257 := n3_
                   have HO265 := n4_
                   have HO252 := n5_
                   have HR249_1 := n6_
                   have HB := n7_
                   clear n0_ n1_ n2_ n3_ n4_ n5_ n6_ n7_
                   clear hb ho48
                   refine hK.out _ _ trivial (fun hHeld => ?_)
                   clear hK K
                   refine norm_ (a' := ?_) ?_ ?_
                   rotate_left
                   ·show Act.put _ (some 58) _ = _
                    simp only [Act.put, List.setIfInBounds_toArray, List.set_cons_zero, List.set_cons_succ, i64_w, i32_w]
                    rfl
                   refine one_ (i := 6) (N := some 62) #[true, true, true, true, true, true, true, true, true, true, false, false, false, false] rfl rfl (one_of HT_.out (by kernel_rfl)) (by decide) (fun K hK => ?_)
                   refine Kd.N_append_rows_step k35 (w0 := w) w.heap.size (by rfl) (.tmp 58) (.tmp 61) 28 35 (.agg #[(.string ⟨#[]⟩), (.string ⟨#[]⟩), (.string ⟨#[]⟩), (.string ⟨#[]⟩), (.slice none 0 0)]) 88 rfl Tryz.underlying28 info35 rfl (by decide) (by omega) v251 y250 y253 _ _ _ (fun k_ => (P0_ k_ ∨ w.heap.size ≤ k_) ∧ some k_ ≠ (.slice (some ad249) x6_2.length co43 : Value).ownBlock) (fun k_ => ((fun k_ => (P0_ k_ ∨ w.heap.size ≤ k_) ∧ some k_ ≠ (.slice (some ad249) x6_2.length co43 : Value).ownBlock)) k_ ∧ some k_ ≠ (v251 : Value).ownBlock) rfl rfl ?aO ?aR (fun _ hk => hk) ?aF ?aB ?aS ?aL ?_
                   (case aR => exact (by exact Kd.V_F (Kd.V_mono (ok' := (fun k_ => ((fun k_ => (P0_ k_ ∨ w.heap.size ≤ k_) ∧ some k_ ≠ (.slice (some ad249) x6_2.length co43 : Value).ownBlock)) k_ ∧ some k_ ≠ (v251 : Value).ownBlock)) (HO257.out) (fun k_ hk => ⟨⟨hk.1.1, hk.1.2⟩, hk.2⟩))))
                   (case aB => exact (by repeat ((with_reducible (exact HB.out)))))
                   (case aF => exact (fun k_ hk => ⟨(.inr (Nat.le_trans (below_size (by repeat ((with_reducible (exact HB.out))))) hk)), Kd.fresh' (Kd.N_lt (by (with_reducible repeat ((apply Kd.N_drew))); exact HO_6.out)) k_ hk⟩))
                   (case aO => exact (by (with_reducible repeat ((apply Kd.N_drew))); exact HO252.out))
                   (case aS => exact (below_size (by repeat ((with_reducible (exact HB.out))))))
                   (case aL => have := LMc38.out; omega)
                   intro v259 w49 ho hb hg hat
                   rw [← Ny258.out] at ho
                   have n0_ := Aside0.mk (Kd.V_afterv (ok := (fun k_ => (P0_ k_ ∨ w.heap.size ≤ k_) ∧ some k_ ≠ (.slice (some ad249) x6_2.length co43 : Value).ownBlock)) (by (with_reducible repeat ((apply Kd.V_drew))); exact HO_0.out) hg hat)
                   have n1_ := Aside0.mk (Kd.N_afterv (ok := (fun k_ => (P0_ k_ ∨ w.heap.size ≤ k_))) (by (with_reducible repeat ((apply Kd.N_drew))); exact HO_6.out) hg hat)
                   have n2_ := Aside0.mk (Kd.V_afterv (ok := (fun k_ => (P0_ k_ ∨ w.heap.size ≤ k_) ∧ some k_ ≠ (.slice (some ad249) x6_2.length co43 : Value).ownBlock)) (by (with_reducible repeat ((apply Kd.V_drew))); exact HL249_1.out) hg hat)
                   have n3_ := Aside0.mk (Kd.V_afterv (ok := (fun k_ => (P0_ k_ ∨ w.heap.size ≤ k_) ∧ some k_ ≠ (.slice (some ad249) x6_2.length co43 : Value).ownBlock)) (by (with_reducible repeat ((apply Kd.V_drew))); exact HO257.out) hg hat)
                   have n4_ := Aside0.mk (Kd.V_afterv (ok := (fun k_ => (P0_ k_ ∨ w.heap.size ≤ k_) ∧ some k_ ≠ (.slice (some ad249) x6_2.length co43 : Value).ownBlock)) (by (with_reducible repeat ((apply Kd.V_drew))); exact HO265.out) hg hat)
                   have n5_ := Aside0.mk (hb)
                   have n6_ := Aside0.mk (ho)
                   clear HO_0
                   clear HO_6
                   clear HL249_1
                   clear HO257
                   clear HO265
                   clear HB
                   clear HO252
                   have HO_0 := n0_
                   have HO_6 := n1_
                   have HL249_1 := n2_
                   have HO257 := n3_
                   have HO265 := n4_
                   have HB := n5_
                   have HO260 := n6_
                   clear n0_ n1_ n2_ n3_ n4_ n5_ n6_
                   clear ho hb hg hat
                   refine hK.out _ _ trivial (fun hHeld => ?_)
                   clear hK K
                   refine norm_ (a' := ?_) ?_ ?_
                   rotate_left
                   ·show Act.put _ (some 62) _ = _
                    simp only [Act.put, List.setIfInBounds_toArray, List.set_cons_zero, List.set_cons_succ, i64_w, i32_w]
                    rfl
                   refine one_ (i := 10) (N := some 66) #[true, true, true, true, true, true, true, true, true, true, true, false, false, false] rfl rfl (one_of HT_.out (by kernel_rfl)) (by decide) (fun K hK => ?_)
                   refine Kd.N_append_rows_step k35 (w0 := w) w.heap.size (by rfl) (.tmp 62) (.tmp 65) 28 35 (.agg #[(.string ⟨#[]⟩), (.string ⟨#[]⟩), (.string ⟨#[]⟩), (.string ⟨#[]⟩), (.slice none 0 0)]) 88 rfl Tryz.underlying28 info35 rfl (by decide) (by omega) v259 y258 y261 _ _ _ (fun k_ => (P0_ k_ ∨ w.heap.size ≤ k_) ∧ some k_ ≠ (.slice (some ad249) x6_2.length co43 : Value).ownBlock) (fun k_ => ((fun k_ => (P0_ k_ ∨ w.heap.size ≤ k_) ∧ some k_ ≠ (.slice (some ad249) x6_2.length co43 : Value).ownBlock)) k_ ∧ some k_ ≠ (v259 : Value).ownBlock) rfl rfl ?aO ?aR (fun _ hk => hk) ?aF ?aB ?aS ?aL ?_
                   (case aR => exact (by exact Kd.V_F (Kd.V_mono (ok' := (fun k_ => ((fun k_ => (P0_ k_ ∨ w.heap.size ≤ k_) ∧ some k_ ≠ (.slice (some ad249) x6_2.length co43 : Value).ownBlock)) k_ ∧ some k_ ≠ (v259 : Value).ownBlock)) (HO265.out) (fun k_ hk => ⟨⟨hk.1.1, hk.1.2⟩, hk.2⟩))))
                   (case aB => exact (by repeat ((with_reducible (exact HB.out)))))
                   (case aF => exact (fun k_ hk => ⟨(.inr (Nat.le_trans (below_size (by repeat ((with_reducible (exact HB.out))))) hk)), Kd.fresh' (Kd.N_lt (by (with_reducible repeat ((apply Kd.N_drew))); exact HO_6.out)) k_ hk⟩))
                   (case aO => exact (by (with_reducible repeat ((apply Kd.N_drew))); exact HO260.out))
                   (case aS => exact (below_size (by repeat ((with_reducible (exact HB.out))))))
                   (case aL => have := LMc41.out; omega)
                   intro v267 w50 ho hb hg hat
                   rw [← Ny266.out] at ho
                   have n0_ := Aside0.mk (Kd.V_afterv (ok := (fun k_ => (P0_ k_ ∨ w.heap.size ≤ k_) ∧ some k_ ≠ (.slice (some ad249) x6_2.length co43 : Value).ownBlock)) (by (with_reducible repeat ((apply Kd.V_drew))); exact HO_0.out) hg hat)
                   have n1_ := Aside0.mk (Kd.N_afterv (ok := (fun k_ => (P0_ k_ ∨ w.heap.size ≤ k_))) (by (with_reducible repeat ((apply Kd.N_drew))); exact HO_6.out) hg hat)
                   have n2_ := Aside0.mk (Kd.V_afterv (ok := (fun k_ => (P0_ k_ ∨ w.heap.size ≤ k_) ∧ some k_ ≠ (.slice (some ad249) x6_2.length co43 : Value).ownBlock)) (by (with_reducible repeat ((apply Kd.V_drew))); exact HL249_1.out) hg hat)
                   have n3_ := Aside0.mk (Kd.V_afterv (ok := (fun k_ => (P0_ k_ ∨ w.heap.size ≤ k_) ∧ some k_ ≠ (.slice (some ad249) x6_2.length co43 : Value).ownBlock)) (by (with_reducible repeat ((apply Kd.V_drew))); exact HO257.out) hg hat)
                   have n4_ := Aside0.mk (Kd.V_afterv (ok := (fun k_ => (P0_ k_ ∨ w.heap.size ≤ k_) ∧ some k_ ≠ (.slice (some ad249) x6_2.length co43 : Value).ownBlock)) (by (with_reducible repeat ((apply Kd.V_drew))); exact HO265.out) hg hat)
                   have n5_ := Aside0.mk (hb)
                   have n6_ := Aside0.mk (ho)
                   clear HO_0
                   clear HO_6
                   clear HL249_1
                   clear HO257
                   clear HO265
                   clear HB
                   clear HO260
                   have HO_0 := n0_
                   have HO_6 := n1_
                   have HL249_1 := n2_
                   have HO257 := n3_
                   have HO265 := n4_
                   have HB := n5_
                   have HO268 := n6_
                   clear n0_ n1_ n2_ n3_ n4_ n5_ n6_
                   obtain ⟨A267, c267, rfl⟩ := Kd.N_slice HO268.out
                   clear ho hb hg hat
                   have p42 : 0 ≤ (x7_2 : Int) := of_decide_eq_true (by (with_reducible assumption))
                   have q42 : (x7_2 : Int) < ((x6_2.length : Int) : Int) := of_decide_eq_true (by (with_reducible assumption))
                   obtain ⟨go42, co42, eo42, gb42, gl42, cl42, HG42⟩ := Kd.N_form HO_6.out (by omega)
                   ((cases eo42))
                   have GB42 := Aside0.mk gb42
                   have GG42 := Aside0.mk HG42
                   clear gb42 gl42 HG42
                   ((simp only [add_plain] at hx249_0))
                   ((simp only [add_plain] at hx249_1))
                   obtain ⟨ce42, hcl42, hM42, hcc42, hfr42⟩ := Kd.N_elem HO_6.out z30 (x7_2 : Int) p42 q42
                   obtain ⟨ua42_1, uc42_1, rfl, ul42_1, ge42_1⟩ := k30_openF hM42
                   have hx42_0 : World.cell? _ ⟨go42, (x7_2 : Int).toNat * 2, none⟩ = some (.string ((rd_T30 x6_2 x7_2).f0)) := hcc42 0 _ rfl
                   have hx42_1 : World.cell? _ ⟨go42, (x7_2 : Int).toNat * 2 + 1, none⟩ = some (.slice ua42_1 ((rd_T30 x6_2 x7_2).f1).length uc42_1) := hcc42 1 _ rfl
                   have hf42_0 : World.frozen? _ ⟨go42, (x7_2 : Int).toNat * 2, none⟩ = false := hfr42 0
                   have hf42_1 : World.frozen? _ ⟨go42, (x7_2 : Int).toNat * 2 + 1, none⟩ = false := hfr42 1
                   clear hcl42 hcc42 hfr42 hM42
                   replace p42 := eq_true p42
                   replace q42 := eq_true q42
                   have HX51 := Aside0.mk (show Kd.N k30 30 _ w.heap.size (fun k_ => (P0_ k_ ∨ w.heap.size ≤ k_) ∧ some k_ ≠ (.slice A267 y266.length c267 : Value).ownBlock) (.slice (some ⟨go42, 0, none⟩) x6_2.length co43) x6_2 from (Kd.N_mono (HO_6.out) (fun k_ hk => ⟨hk.1, hk.2⟩)))
                   replace HX51 := Aside0.mk (show Kd.N k30 30 _ w.heap.size (fun k_ => (P0_ k_ ∨ w.heap.size ≤ k_)) (.slice (some ⟨go42, 0, none⟩) x6_2.length co43) x6_2 from Kd.N_mono HX51.out (fun k_ hk => hk.1))
                   obtain ⟨ce51, hcl51, hM51, hcc51, hfr51⟩ := Kd.N_elem HX51.out z30 (x7_2 : Int) (of_decide_eq_true (by (with_reducible assumption))) (by have h_ : (x7_2 : Int) < ((x6_2.length : Int) : Int) := of_decide_eq_true (by (with_reducible assumption)); (exact h_))
                   obtain ⟨ua51_1, uc51_1, rfl, ul51_1, ge51_1⟩ := k30_openF hM51
                   have HP51 := (Kd.N_seg HX51.out (x7_2 : Int) (of_decide_eq_true (by (with_reducible assumption))) (by have h_ : (x7_2 : Int) < ((x6_2.length : Int) : Int) := of_decide_eq_true (by (with_reducible assumption)); (exact h_)) (seg := [.slice A267 y266.length c267]) (j := 1) hcl51 hcc51 (show 2 ≤ 2 from by decide) (x' := (⟨(rd_T30 x6_2 x7_2).f0, y266⟩ : S30)) (k30_mkF _ _ (⟨(rd_T30 x6_2 x7_2).f0, y266⟩ : S30) (Kd.N_reads' (Kd.N_mono (ok' := (fun k_ => ((fun k_ => (P0_ k_ ∨ w.heap.size ≤ k_))) k_ ∧ k_ ≠ go42)) (HO268.out) (fun k_ hk => ⟨hk.1, fun e_ => (hk.2) (by rw [e_]; rfl)⟩))).2.1 (Kd.N_F (Kd.N_mono (ok' := (fun k_ => ((fun k_ => (P0_ k_ ∨ w.heap.size ≤ k_))) k_ ∧ k_ ≠ go42)) (HO268.out) (fun k_ hk => ⟨hk.1, fun e_ => (hk.2) (by rw [e_]; rfl)⟩)))) (fun _ hk => hk)).1
                   rw [← Ny269.out] at HP51
                   have HQ51 := Aside0.mk HP51
                   clear hcl51 hcc51 hfr51 hM51 HP51
                   refine hK.out _ _ trivial (fun hHeld => ?_)
                   clear hK K
                   refine norm_ (a' := ?_) ?_ ?_
                   rotate_left
                   ·show Act.put _ (some 66) _ = _
                    simp only [Act.put, List.setIfInBounds_toArray, List.set_cons_zero, List.set_cons_succ, i64_w, i32_w]
                    rfl
                   refine pure_ (i := 11) (N := some 67) (v := ?_) (a' := ?_) #[true, true, true, true, true, true, true, true, true, true, true, true, false, false] rfl rfl (any_of HT_.out (by kernel_rfl)) (fun _ _ _ h => h) (Or.inl ⟨by rfl, ?_⟩) ?_ ?_
                   rotate_left
                   ·intro w'
                    go_simp
                    with_reducible rfl
                   rotate_left
                   ·simp only [Act.put, List.setIfInBounds_toArray, List.set_cons_zero, List.set_cons_succ, i64_w, i32_w]
                    rfl
                   refine pure_ (i := 12) (N := some 68) (v := ?_) (a' := ?_) #[true, true, true, true, true, true, true, true, true, true, true, true, true, false] rfl rfl (any_of HT_.out (by kernel_rfl)) (fun _ _ _ h => h) (Or.inl ⟨by rfl, ?_⟩) ?_ ?_
                   rotate_left
                   ·intro w'
                    go_simp
                    with_reducible rfl
                   rotate_left
                   ·simp only [Act.put, List.setIfInBounds_toArray, List.set_cons_zero, List.set_cons_succ, i64_w, i32_w]
                    rfl
                   refine last_ (i := 13) (N := none) #[true, true, true, true, true, true, true, true, true, true, true, true, true, true] rfl rfl (one_of HT_.out (by kernel_rfl)) (by decide) (fun K hK => ?_)
                   refine skip_ (w1 := ?_) (by rfl) rfl ?_ ?_
                   rotate_left
                   ·go_simp
                    rfl
                   refine hK.out _ _ ?_
                   clear hK K
                   refine done_ (done_of HT_.out (by kernel_rfl)) ?_
                   try go_wp2
                   go_roundg k2
                   case measure => have := HJ2.out; have := HK2.out; omega
                   case rel => exact ⟨(y269), (wrap64 (x7_2 + 1)), (by (rfl)), H', ⟨by have := HJ2.out; have := HK2.out; omega⟩, ⟨by (with_reducible repeat ((apply Kd.V_drew))); exact Kd.V_mono (Kd.V_far (p := ⟨go42, (x7_2 : Int).toNat * 2 + 1, none⟩) (Kd.V_mono HO_0.out (fun k_ hk => (⟨hk, fun e_ => hk.1.2 (by rw [e_]; rfl)⟩ : _ ∧ k_ ≠ go42))) (fun _ hk => hk.2) (.slice A267 y266.length c267)) (fun _ hk => ⟨hk.1.1.1, hk.1.1.2⟩)⟩, ⟨by (with_reducible repeat ((apply Kd.N_drew))); exact HQ51.out⟩, ⟨by repeat ((with_reducible first | exact HB.out | refine below_set ?_ GB42.out))⟩⟩
                  ·rw [if_neg c41] at H
                   exact absurd H (by simp)
                 ·rw [if_neg c38] at H
                  exact absurd H (by simp)
                ·rw [if_neg c37] at H
                 exact absurd H (by simp)
               ·rw [if_neg c36] at H
                exact absurd H (by simp)
             ·rw [if_neg c33] at H
              have c33b0 : decide (0 < (((rd_T30 x6_2 x7_2).f1).length : Int)) = false := decide_eq_false c33
              have c33b1 : decide (0 < ((rd_T30 x6_2 x7_2).f1).length) = false := decide_eq_false (by omega)
              clear c33
              have H' := Aside0.mk H
              clear H
              obtain ⟨Ao52, co52, eo52⟩ := Kd.N_slice HO_6.out
              subst eo52
              have p249 : 0 ≤ (x7_2 : Int) := of_decide_eq_true (by (with_reducible assumption))
              have q249 : x7_2 < (x6_2.length : Int) := of_decide_eq_true (by (with_reducible assumption))
              obtain ⟨ad249, A249_1, c249_1, e249, hx249_0, hx249_1, hl249_1, hi249_1⟩ := at_T30 (Kd.N_reads' HO_6.out).2.2 x7_2 p249 q249
              cases e249
              obtain ⟨ce249, hce249, hMe249, hcc249⟩ := Kd.N_get HO_6.out z30 x7_2 p249 (by (exact q249))
              obtain ⟨ua249_1, uc249_1, rfl, ul249_1, ge249_1⟩ := k30_openF hMe249
              have hv249_1 := hcc249 1 _ rfl
              rw [add_field _ _ 1 (by omega)] at hv249_1
              replace hv249_1 := Option.some.inj (hv249_1.symm.trans hx249_1)
              injection hv249_1 with hva_ hvn_ hvc_
              rw [hva_] at ge249_1
              rw [hvc_] at ul249_1
              have HL249_1 := Aside0.mk (show Kd.V k35 35 _ w.heap.size _ _ ((rd_T30 x6_2 x7_2).f1) from Kd.V_mk ul249_1 ge249_1)
              clear hva_ hvn_ hvc_ ge249_1 ul249_1
              clear hcc249 hce249
              have HR249_1 := Aside0.mk hi249_1
              have HC249_1 := Aside0.mk hl249_1
              clear hi249_1 hl249_1
              replace p249 := eq_true p249
              replace q249 := eq_true q249
              go_wp2
              go_roundg k2
              case measure => have := HJ2.out; have := HK2.out; omega
              case rel => exact ⟨(x6_2), (wrap64 (x7_2 + 1)), (by (rfl)), H', ⟨by have := HJ2.out; have := HK2.out; omega⟩, ⟨by (with_reducible repeat ((apply Kd.V_drew))); exact HO_0.out⟩, ⟨by (with_reducible repeat ((apply Kd.N_drew))); exact HO_6.out⟩, ⟨by repeat ((with_reducible (exact HB.out)))⟩⟩
            ·rw [if_neg c32] at H
             exact absurd H (by simp)
           ·rw [if_neg c31] at H
            have c31b0 : decide (x7_2 < (x6_2.length : Int)) = false := decide_eq_false c31
            clear c31
            replace H := Option.bind_eq_some_iff.mp H
            obtain ⟨t270, A530, H⟩ := H
            replace H : ((rule_Check.f l0).bind fun t271 => (if t270 = t271 then ((rule_But.f x6_2).bind fun t272 => ((rule_But.f l0).bind fun t273 => (some (t272 == t273)))) else (some false))) = some r := H
            have A53 := Aside0.mk A530
            clear A530
            replace H := Option.bind_eq_some_iff.mp H
            obtain ⟨t271, A540, H⟩ := H
            replace H : (if t270 = t271 then ((rule_But.f x6_2).bind fun t272 => ((rule_But.f l0).bind fun t273 => (some (t272 == t273)))) else (some false)) = some r := H
            have A54 := Aside0.mk A540
            clear A540
            by_cases c55 : t270 = t271
            ·rw [if_pos c55] at H
             have c55b0 : (t270 == t271) = true := beq_iff_eq.mpr c55
             have c55b1 : (t270 != t271) = false := bne_eq_false_iff_eq.mpr c55
             clear c55
             replace H := Option.bind_eq_some_iff.mp H
             obtain ⟨t272, A560, H⟩ := H
             replace H : ((rule_But.f l0).bind fun t273 => (some (t272 == t273))) = some r := H
             have A56 := Aside0.mk A560
             clear A560
             replace H := Option.bind_eq_some_iff.mp H
             obtain ⟨t273, A570, H⟩ := H
             replace H : (some (t272 == t273)) = some r := H
             have A57 := Aside0.mk A570
             clear A570
             obtain rfl := Option.some.inj H
             obtain ⟨Ao58, co58, eo58⟩ := Kd.N_slice HO_6.out
             subst eo58
             go_wp2_with (first | ((with_reducible refine gate_callee (f := 22) rfl ?_); refine goesL_ (some 70) rfl rfl Tryz.func22 (by kernel_rfl) rfl #[.slice Ao58 x6_2.length co58] rfl (by (try simp only [List.map_toArray, List.map_cons, List.map_nil]); (rfl)) ?_; (with_reducible refine (rule_Check.calls _ _ x6_2 t270 _ ?side1 ?side2 A53.out ?sideT).mono ?_); (case sideT => exact (Tabs.keep HTB.out (by repeat ((with_reducible (exact HB.out))))).words); (case side1 => repeat ((exact (Kd.N_reads' HO_6.out).2.2))); (case side2 => exact (Kd.N_reads' HO_6.out).2.1); rintro e w59 ⟨rfl, hb⟩; refine ⟨_, rfl, ?_⟩; have n0_ := Aside0.mk (Kd.V_below (by (with_reducible repeat ((apply Kd.V_drew))); exact HO_0.out) hb); have n1_ := Aside0.mk (Kd.N_below (by (with_reducible repeat ((apply Kd.N_drew))); exact HO_6.out) hb); have n2_ := Aside0.mk (below_step (by repeat ((with_reducible (exact HB.out)))) hb); clear HO_0; clear HO_6; clear HB; have HO_0 := n0_; have HO_6 := n1_; have HB := n2_; clear n0_ n1_ n2_; (try clear hb)) | ((with_reducible refine gate_callee (f := 22) rfl ?_); refine goesL_ (some 72) rfl rfl Tryz.func22 (by kernel_rfl) rfl #[.slice A0 l0.length c0] rfl (by (try simp only [List.map_toArray, List.map_cons, List.map_nil]); (rfl)) ?_; (with_reducible refine (rule_Check.calls _ _ l0 t271 _ ?side1 ?side2 A54.out ?sideT).mono ?_); (case sideT => exact (Tabs.keep HTB.out (by repeat ((with_reducible (exact HB.out))))).words); (case side1 => repeat ((exact (Kd.V_reads' HO_0.out).2.2))); (case side2 => exact (Kd.V_reads' HO_0.out).2.1); rintro e w60 ⟨rfl, hb⟩; refine ⟨_, rfl, ?_⟩; have n0_ := Aside0.mk (Kd.V_below (by (with_reducible repeat ((apply Kd.V_drew))); exact HO_0.out) hb); have n1_ := Aside0.mk (Kd.N_below (by (with_reducible repeat ((apply Kd.N_drew))); exact HO_6.out) hb); have n2_ := Aside0.mk (below_step (by repeat ((with_reducible (exact HB.out)))) hb); clear HO_0; clear HO_6; clear HB; have HO_0 := n0_; have HO_6 := n1_; have HB := n2_; clear n0_ n1_ n2_; (try clear hb)) | (go_at_call 23; (with_reducible refine (rule_But.calls _ _ x6_2 t272 _ ?side1 ?side2 A56.out).mono ?_); (case side1 => repeat ((exact (Kd.N_reads' HO_6.out).2.2))); (case side2 => exact (Kd.N_reads' HO_6.out).2.1); rintro e w61 ⟨rfl, hb⟩; have n0_ := Aside0.mk (Kd.V_below (by (with_reducible repeat ((apply Kd.V_drew))); exact HO_0.out) hb); have n1_ := Aside0.mk (Kd.N_below (by (with_reducible repeat ((apply Kd.N_drew))); exact HO_6.out) hb); have n2_ := Aside0.mk (below_step (by repeat ((with_reducible (exact HB.out)))) hb); clear HO_0; clear HO_6; clear HB; have HO_0 := n0_; have HO_6 := n1_; have HB := n2_; clear n0_ n1_ n2_; (try clear hb)) | (go_at_call 23; (with_reducible refine (rule_But.calls _ _ l0 t273 _ ?side1 ?side2 A57.out).mono ?_); (case side1 => repeat ((exact (Kd.V_reads' HO_0.out).2.2))); (case side2 => exact (Kd.V_reads' HO_0.out).2.1); rintro e w62 ⟨rfl, hb⟩; have n0_ := Aside0.mk (Kd.V_below (by (with_reducible repeat ((apply Kd.V_drew))); exact HO_0.out) hb); have n1_ := Aside0.mk (Kd.N_below (by (with_reducible repeat ((apply Kd.N_drew))); exact HO_6.out) hb); have n2_ := Aside0.mk (below_step (by repeat ((with_reducible (exact HB.out)))) hb); clear HO_0; clear HO_6; clear HB; have HO_0 := n0_; have HO_6 := n1_; have HB := n2_; clear n0_ n1_ n2_; (try clear hb)))
             go_ret
             exact ⟨by (rfl), by repeat ((with_reducible (exact HB.out)))⟩
            ·rw [if_neg c55] at H
             have c55b0 : (t270 == t271) = false := beq_eq_false_iff_ne.mpr c55
             have c55b1 : (t270 != t271) = true := bne_iff_ne.mpr c55
             exact absurd ((Option.some.inj H).trans HTRUE.out) (by decide)
        ·rw [if_neg c23] at H
         exact absurd H (by simp)
       ·rw [if_neg c20] at H
        exact absurd H (by simp)
      ·rw [if_neg c19] at H
       exact absurd H (by simp)
     ·rw [if_neg c18] at H
      exact absurd H (by simp)
end Go.Proofs.YtjcipbdocbomjaaGreatDoor.K
namespace Go.Proofs.YtjcipbdocbomjaaGreatDoor.K
theorem idx_nodup {α : Type} (key : α → List UInt8) (l : List α) :
  (∀ (i : Nat) (h : i < l.length), idxP (fun y => key y == key l[i]) l = (i : Int)) ↔ (l.map key).Nodup := by
 unfold List.Nodup
 rw [List.pairwise_iff_getElem]
 constructor
 ·intro h i j hi hj hij e
  simp only [List.length_map] at hi hj
  simp only [List.getElem_map] at e
  have h1 := h j hj
  have h2 : idxP (fun y => key y == key l[j]) l ≤ (i : Int) := by
   unfold idxP
   cases hf : l.findIdx? (fun y => key y == key l[j]) with
   | none => show (-1 : Int) ≤ _; omega
   | some m =>
    rw [List.findIdx?_eq_some_iff_getElem] at hf
    obtain ⟨hm, _, h3⟩ := hf
    show (m : Int) ≤ i
    by_cases c : i < m
    ·have h4 := h3 i c
     rw [e] at h4
     simp at h4
    ·omega
  omega
 ·intro h i hi
  refine idxP_found _ l i hi (beq_self_eq_true _) fun j hj => ?_
  rw [beq_eq_false_iff_ne]
  have := h j i (by rw [List.length_map]; omega) (by rw [List.length_map]; omega) hj
  simpa using this
def nameK (k : S30) : List UInt8 := k.f0.toList
def nameR (r : S35) : List UInt8 := r.f0.toList
theorem okRs_iff (k : S30) : okRs k = true ↔ (∀ r ∈ k.f1, ruleNameP r.f0 = true) ∧ (k.f1.map nameR).Nodup := by
 rw [← idx_nodup]
 unfold okRs
 rw [List.all_eq_true]
 constructor
 ·intro h
  have h : ∀ i (hi : i < k.f1.length), ruleNameP k.f1[i].f0 = true ∧ idxP (hasP k.f1[i].f0) k.f1 = (i : Int) := by
   intro i hi
   have := h i (List.mem_range.mpr hi)
   unfold okR at this
   rw [show k.f1.getD i z35 = k.f1[i] by simp [hi], Bool.and_eq_true, beq_iff_eq] at this
   exact this
  refine ⟨fun r hr => ?_, fun i hi => (h i hi).2⟩
  obtain ⟨i, hi, rfl⟩ := List.mem_iff_getElem.1 hr
  exact (h i hi).1
 ·rintro ⟨h1, h2⟩ i hi
  have hi := List.mem_range.mp hi
  unfold okR
  rw [show k.f1.getD i z35 = k.f1[i] by simp [hi], Bool.and_eq_true, beq_iff_eq]
  exact ⟨h1 _ (List.getElem_mem hi), h2 i hi⟩
theorem okKs_all_iff (l : List S30) : okKs l = true ↔ (∀ k ∈ l, ruleNameP k.f0 = true ∧ okRs k = true) ∧ (l.map nameK).Nodup := by
 rw [← idx_nodup, okKs_iff]
 constructor
 ·intro h
  have h : ∀ i (hi : i < l.length), (ruleNameP l[i].f0 = true ∧ okRs l[i] = true) ∧ idxP (kindP l[i].f0) l = (i : Int) := by
   intro i hi
   have := h i hi
   unfold okK at this
   rw [Bool.and_eq_true, Bool.and_eq_true, beq_iff_eq] at this
   exact ⟨⟨this.1.1, this.2⟩, this.1.2⟩
  refine ⟨fun k hk => ?_, fun i hi => (h i hi).2⟩
  obtain ⟨i, hi, rfl⟩ := List.mem_iff_getElem.1 hk
  exact (h i hi).1
 ·rintro ⟨h1, h2⟩ i hi
  unfold okK
  rw [Bool.and_eq_true, Bool.and_eq_true, beq_iff_eq]
  have := h1 _ (List.getElem_mem hi)
  exact ⟨⟨this.1, h2 i hi⟩, this.2⟩
end Go.Proofs.YtjcipbdocbomjaaGreatDoor.K
namespace Go.Proofs.YtjcipbdocbomjaaGreatDoor.K
def Turned (l m : List S30) : Prop := ∃ g : S30 → S30, (∀ k, (g k).f0 = k.f0 ∧ (g k).f1.Perm k.f1) ∧ m.Perm (l.map g)
theorem Turned.mem {l m : List S30} {g : S30 → S30} (h : m.Perm (l.map g)) {k : S30} : k ∈ m ↔ ∃ x ∈ l, g x = k := by
 rw [h.mem_iff, List.mem_map]
theorem turned_each {l m : List S30} {g : S30 → S30} (hg : ∀ k, (g k).f0 = k.f0 ∧ (g k).f1.Perm k.f1) (hp : m.Perm (l.map g)) (P : S30 → S35 → Bool) (hP : ∀ k r, P (g k) r = P k r) : eachP P m = eachP P l := by
 rw [Bool.eq_iff_iff, eachP_iff, eachP_iff]
 constructor
 ·intro h k hk r hr
  have := h (g k) ((Turned.mem hp).2 ⟨k, hk, rfl⟩) r ((hg k).2.mem_iff.2 hr)
  rwa [hP] at this
 ·intro h k hk r hr
  obtain ⟨x, hx, rfl⟩ := (Turned.mem hp).1 hk
  rw [hP]
  exact h x hx r ((hg x).2.mem_iff.1 hr)
theorem turned_many {l m : List S30} {g : S30 → S30} (hg : ∀ k, (g k).f0 = k.f0 ∧ (g k).f1.Perm k.f1) (hp : m.Perm (l.map g)) : manyP m = manyP l := by
 have hl : m.length = l.length := by rw [hp.length_eq, List.length_map]
 have : manyP m = false ↔ manyP l = false := by
  rw [manyP_iff, manyP_iff, hl]
  refine and_congr_right fun _ => ⟨fun h k hk => ?_, fun h k hk => ?_⟩
  ·have := h (g k) ((Turned.mem hp).2 ⟨k, hk, rfl⟩)
   rwa [(hg k).2.length_eq] at this
  ·obtain ⟨x, hx, rfl⟩ := (Turned.mem hp).1 hk
   rw [(hg x).2.length_eq]
   exact h x hx
 cases h1 : manyP m <;> cases h2 : manyP l <;> simp_all
theorem turned_ok {l m : List S30} {g : S30 → S30} (hg : ∀ k, (g k).f0 = k.f0 ∧ (g k).f1.Perm k.f1) (hp : m.Perm (l.map g)) : okKs m = okKs l := by
 have hr : ∀ k, okRs (g k) = true ↔ okRs k = true := by
  intro k
  rw [okRs_iff, okRs_iff, ((hg k).2.map nameR).nodup_iff]
  refine and_congr_left fun _ => ⟨fun h r hr => h r ((hg k).2.mem_iff.2 hr), fun h r hr => h r ((hg k).2.mem_iff.1 hr)⟩
 have hn : (m.map nameK).Perm (l.map nameK) := by
  refine (hp.map nameK).trans ?_
  rw [List.map_map]
  rw [show (nameK ∘ g) = nameK from funext fun k => by show (g k).f0.toList = k.f0.toList; rw [(hg k).1]]
 rw [Bool.eq_iff_iff, okKs_all_iff, okKs_all_iff, hn.nodup_iff]
 refine and_congr_left fun _ => ⟨fun h k hk => ?_, fun h k hk => ?_⟩
 ·have := h (g k) ((Turned.mem hp).2 ⟨k, hk, rfl⟩)
  rw [(hg k).1, hr] at this
  exact this
 ·obtain ⟨x, hx, rfl⟩ := (Turned.mem hp).1 hk
  rw [(hg x).1, hr]
  exact h x hx
theorem named_perm {k k' : S30} (h : k'.f1.Perm k.f1) : namedP k' = namedP k := by
 funext x
 have ha : ∀ b, k'.f1.any (hasP b) = k.f1.any (hasP b) := by
  intro b
  rw [Bool.eq_iff_iff, List.any_eq_true, List.any_eq_true]
  exact ⟨fun ⟨r, h1, h2⟩ => ⟨r, h.mem_iff.1 h1, h2⟩, fun ⟨r, h1, h2⟩ => ⟨r, h.mem_iff.2 h1, h2⟩⟩
 unfold namedP
 rw [ha, ha]
theorem turned_check {l m : List S30} (h : Turned l m) : checkP m = checkP l := by
 obtain ⟨g, hg, hp⟩ := h
 unfold checkP
 rw [turned_many hg hp, turned_each hg hp (fun _ r => notGreat r) (fun _ _ => rfl), turned_each hg hp (fun _ r => allP formP r.f1) (fun _ _ => rfl), turned_ok hg hp,
  turned_each hg hp (fun k r => allP (namedP k) r.f1) (fun k r => by rw [named_perm (hg k).2])]
theorem turned_few {l m : List S30} (h : Turned l m) (hf : fewP l = true) : fewP m = true := by
 obtain ⟨g, hg, hp⟩ := h
 unfold fewP
 rw [Bool.and_eq_true, decide_eq_true_eq, List.all_eq_true, hp.length_eq, List.length_map]
 refine ⟨fewP_len hf, fun k hk => ?_⟩
 obtain ⟨x, hx, rfl⟩ := (Turned.mem hp).1 hk
 have h1 : fewK x = true := by unfold fewP at hf; rw [Bool.and_eq_true, List.all_eq_true] at hf; exact hf.2 x hx
 unfold fewK at h1 ⊢
 simp only [Bool.and_eq_true, decide_eq_true_eq, List.all_eq_true] at h1 ⊢
 rw [(hg x).1, (hg x).2.length_eq]
 exact ⟨h1.1, fun r hr => h1.2 r ((hg x).2.mem_iff.1 hr)⟩
def rot {α : Type} (n : Nat) (l : List α) : List α := l.drop n ++ l.take n
theorem rot_perm {α : Type} (n : Nat) (l : List α) : (rot n l).Perm l := by
 unfold rot
 exact List.perm_append_comm.trans (by rw [List.take_append_drop])
def rotK (a : Nat) (k : S30) : S30 := ⟨k.f0, rot (a % k.f1.length) k.f1⟩
theorem turned_rot (a n : Nat) (l : List S30) : Turned l ((rot n l).map (rotK a)) :=
 ⟨rotK a, fun k => ⟨rfl, rot_perm _ _⟩, (rot_perm n l).map _⟩
theorem tmod_u8 {a n : Nat} (ha : a ≤ 255) (hn : 0 < n) (hn2 : n ≤ 70) : Int.tmod (wrap64 (a : Int)) (n : Int) = ((a % n : Nat) : Int) := by
 rw [wrap_small (by omega) (by omega)]
 exact (Int.ofNat_tmod a n).symm
theorem turned_l0 (l m : List S30) (a : Nat) (ha : a ≤ 255) (hf : fewP l = true) (hm : fewP m = true) (ht : Turned l (m.map (rotK a))) (q : Nat) :
  ∀ (i : Nat), i + q = m.length → Ev (fun k => lunettelaw12_RuleTurned.l0 k l (a : Int) ((m.take i).map (rotK a) ++ m.drop i) (i : Int)) true := by
 have hl := fewP_len hm
 induction q with
 | zero =>
  intro i h
  rw [List.drop_eq_nil_of_le (by omega), List.take_of_length_le (by omega), List.append_nil]
  refine Ev.step (f := fun _ => some true) (fun k => ?_) (Ev.now _)
  simp only [lunettelaw12_RuleTurned.l0]
  have c1 : rule_Check.f (m.map (rotK a)) = some (checkP l) := by unfold rule_Check.f; rw [if_pos (fewP_small (turned_few ht hf)), turned_check ht]
  have c2 : rule_Check.f l = some (checkP l) := by unfold rule_Check.f; rw [if_pos (fewP_small hf)]
  have b : ∀ m', fewP m' = true → rule_But.f m' = some (!(eachP (fun _ r => allP noBut r.f1) m')) := fun m' h => by unfold rule_But.f; rw [if_pos (fewP_small h)]
  rw [if_neg (by rw [List.length_map]; omega), c1, c2, b _ (turned_few ht hf), b _ hf]
  obtain ⟨g, hg, hp⟩ := ht
  rw [turned_each hg hp (fun _ r => allP noBut r.f1) (fun _ _ => rfl)]
  simp
 | succ q ih =>
  intro i h
  have hi : i < m.length := by omega
  have hlen : ((m.take i).map (rotK a) ++ m.drop i).length = m.length := by rw [List.length_append, List.length_map, List.length_take, List.length_drop]; omega
  have hget : rd_T30 ((m.take i).map (rotK a) ++ m.drop i) (i : Int) = m[i] := by
   rw [rd30 (by omega), List.getElem_append_right (by rw [List.length_map, List.length_take]; omega)]
   simp [Nat.min_eq_left (Nat.le_of_lt hi)]
  have hk := fewP_kind hm (List.getElem_mem hi)
  have next : ∀ x, x = rotK a m[i] → ((m.take i).map (rotK a) ++ m.drop i).set i x = (m.take (i + 1)).map (rotK a) ++ m.drop (i + 1) := by
   intro x hx
   subst hx
   rw [List.set_append_right _ _ (by rw [List.length_map, List.length_take]; omega), List.length_map, List.length_take, Nat.min_eq_left (Nat.le_of_lt hi), Nat.sub_self, List.drop_eq_getElem_cons hi, List.set_cons_zero, List.take_succ_eq_append_getElem hi, List.map_append, List.append_assoc]
   rfl
  refine Ev.step (f := fun k => lunettelaw12_RuleTurned.l0 k l (a : Int) ((m.take (i + 1)).map (rotK a) ++ m.drop (i + 1)) ((i + 1 : Nat) : Int)) (fun k => ?_) (ih (i + 1) (by omega))
  simp only [lunettelaw12_RuleTurned.l0]
  rw [if_pos (by omega), if_pos (by omega), hget, wrap_succ hi (by omega)]
  by_cases he : m[i].f1.length > 0
  ·have hr : a % m[i].f1.length < m[i].f1.length := Nat.mod_lt _ he
   rw [if_pos (by omega), if_neg (by omega), tmod_u8 ha he hk.1, Option.bind_some, if_pos (by omega), if_pos (by omega), Option.bind_some,
    if_pos (by simp only [List.length_nil, List.length_drop]; omega), Option.bind_some, Option.bind_some,
    if_pos (by simp only [List.length_append, List.length_nil, List.length_drop, List.length_take]; omega), Int.toNat_natCast, Int.toNat_natCast, List.nil_append, next (⟨m[i].f0, m[i].f1.drop (a % m[i].f1.length) ++ m[i].f1.take (a % m[i].f1.length)⟩ : S30) rfl]
  ·have hz : m[i].f1 = [] := List.eq_nil_of_length_eq_zero (by omega)
   rw [if_neg (by omega)]
   congr 1
   rw [← next m[i] (by unfold rotK; rw [hz]; show m[i] = ⟨m[i].f0, rot _ []⟩; unfold rot; rw [List.drop_nil, List.take_nil, List.append_nil, ← hz])]
   rw [List.set_append_right _ _ (by rw [List.length_map, List.length_take]; omega), List.length_map, List.length_take, Nat.min_eq_left (Nat.le_of_lt hi), Nat.sub_self, List.drop_eq_getElem_cons hi, List.set_cons_zero]
theorem ruleTurned_ev (l : List S30) (a : Nat) (ha : a ≤ 255) : Ev (fun k => lunettelaw12_RuleTurned.f k l (a : Int)) true := by
 unfold lunettelaw12_RuleTurned.f lunettelaw12_awake.f
 simp only [Option.bind_some, if_true]
 have yes : Ev (fun k => lunettelaw12_RuleTurned.j0 k l (a : Int) true) true := Ev.step (f := fun _ => some true) (fun k => by simp only [lunettelaw12_RuleTurned.j0, if_true]; rfl) (Ev.now _)
 refine (few_ev l).bind ?_
 cases hf : fewP l with
 | false => simp only [Bool.false_eq_true, if_false]; exact yes
 | true =>
  simp only [if_true]
  by_cases h0 : l.length = 0
  ·rw [show ((l.length : Int) == 0) = true by rw [beq_iff_eq]; omega]; exact yes
  ·rw [show ((l.length : Int) == 0) = false by rw [beq_eq_false_iff_ne]; omega]
   have hl := fewP_len hf
   have hr : a % l.length < l.length := Nat.mod_lt _ (by omega)
   have hp : Turned l (rot (a % l.length) l) := ⟨id, fun k => ⟨rfl, .refl _⟩, by rw [List.map_id]; exact rot_perm _ _⟩
   have := turned_l0 l (rot (a % l.length) l) a ha hf (turned_few hp hf) (turned_rot a _ l) (rot (a % l.length) l).length 0 (Nat.zero_add _)
   rw [List.take_zero, List.drop_zero, List.map_nil, List.nil_append] at this
   refine Ev.step (fun k => ?_) this
   simp only [lunettelaw12_RuleTurned.j0, Bool.false_eq_true, if_false]
   rw [if_neg (by omega), tmod_u8 ha (by omega) hl, Option.bind_some, if_pos (by omega), if_pos (by omega), Option.bind_some,
    if_pos (by simp only [List.length_nil, List.length_drop]; omega), Option.bind_some, Option.bind_some,
    if_pos (by simp only [List.length_append, List.length_nil, List.length_drop, List.length_take]; omega), Int.toNat_natCast]
   rfl
theorem ruleTurned_walk (w : World) (A : Option Addr) (c : Nat) (l : List S30) (hr : Kd.C k30 w A l.length l) (hc : l.length ≤ c) (a : Int) (ha : (Lit.int .u8 a).wf = true) (hT : Tabs w) :
  Calls Tryz.prog 8 #[.slice A l.length c, .int .u8 a] w fun e w' => e = .returned (.bool true) ∧ Below w.heap.size w w' := by
 have hb : 0 ≤ a ∧ a ≤ 255 := by
  simp only [Lit.wf, Bool.and_eq_true, decide_eq_true_eq] at ha
  exact ha
 obtain ⟨n, rfl⟩ : ∃ n : Nat, a = (n : Int) := ⟨a.toNat, by omega⟩
 obtain ⟨k, h⟩ := (ruleTurned_ev l n (by omega)).rounds
 exact lunettelaw12_RuleTurned.callsT k (fun k_ => k_ < w.heap.size) A c l (n : Int) true w (Kd.V_mk hc (Kd.C_F k30_heap hr)) hT h rfl
end Go.Proofs.YtjcipbdocbomjaaGreatDoor.K
