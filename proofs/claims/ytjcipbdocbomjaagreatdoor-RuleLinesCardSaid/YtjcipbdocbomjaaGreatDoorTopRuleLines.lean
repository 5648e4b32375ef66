/- Texts of this claim's proof, put together: P4 QL; conditions: as each states. -/
import Derived.Test.YtjcipbdocbomjaaGreatDoorZA
set_option linter.unusedVariables false
set_option linter.unusedSimpArgs false
open Go.RowKit Go.Proofs.YtjcipbdocbomjaaGreatDoorW.PrintWords Go.Proofs.YtjcipbdocbomjaaGreatDoorW.PrintLast Go.Proofs.YtjcipbdocbomjaaGreatDoorW.PrintMore
namespace Go.Proofs.YtjcipbdocbomjaaGreatDoor.K
attribute [local go_sem] max2_int min2_int max_two min_two max_three min_three max_four min_four
mutual
def lunettelaw12_RuleLines.j0 : Nat → List (S30) → Bool → Option (Bool)
 | 0, _, _ => none
 | k + 1, x0, x15 => if x15 = true then ((lunettelaw12_awake.f).bind fun t120 => (some t120)) else ((rule_Show.f x0).bind fun bt121 => (if bt121.2 = 0 then (lunettelaw12_RuleLines.l0 k x0 bt121.1 (⟨#[]⟩ : ByteArray) 0) else (some (bt121.1.toList == ([] : List UInt8)))))
def lunettelaw12_RuleLines.l0 : Nat → List (S30) → ByteArray → ByteArray → Int → Option (Bool)
 | 0, _, _, _, _ => none
 | k + 1, x0, x3, x5, x6 => if x6 < (x0.length : Int) then (if 0 ≤ x6 then (if x6 ≤ (wrap64 (x6 + 1)) then (if (wrap64 (x6 + 1)) ≤ (x0.length : Int) then ((rule_Show.f ((x0.take ((wrap64 (x6 + 1)) : Int).toNat).drop (x6 : Int).toNat)).bind fun bt127 => (if bt127.2 = 0 then (if x5.size + bt127.1.size ≤ 9223372036854775807 then (lunettelaw12_RuleLines.l0 k x0 x3 (x5 ++ bt127.1) (wrap64 (x6 + 1))) else (none)) else (some false))) else (none)) else (none)) else (none)) else (some (x3.toList == x5.toList))
end
def lunettelaw12_RuleLines.f (k : Nat) (l0 : List (S30)) : Option (Bool) := (lunettelaw12_awake.f).bind fun t118 => (if t118 = true then ((lunetteref12_Few.f k l0).bind fun t119 => (lunettelaw12_RuleLines.j0 k l0 (!t119))) else (lunettelaw12_RuleLines.j0 k l0 true))
set_option maxHeartbeats 8000000 in
set_option maxRecDepth 100000 in
theorem lunettelaw12_RuleLines.callsT (k : Nat) (A0 : Option Addr) (c0 : Nat) (l0 : List (S30)) (r : Bool) (w : World) (hr0 : Kd.C k30 w A0 l0.length l0) (hc0 : l0.length ≤ c0) (hTab : Tabs w) (h : lunettelaw12_RuleLines.f k l0 = some r) (hT : r = true) :
  Calls Tryz.prog 3 #[.slice A0 l0.length c0] w fun e w' => e = .returned (.bool r) ∧ Below w.heap.size w w' := by
 have HTB := Aside0.mk hTab
 clear hTab
 have HR0 := Aside0.mk hr0
 have HC0 := Aside0.mk hc0
 clear hr0 hc0
 have HB := Aside0.mk (Below.refl w.heap.size w)
 have HTRUE := Aside0.mk hT
 clear hT
 have H : ((lunettelaw12_awake.f).bind fun t118 => (if t118 = true then ((lunetteref12_Few.f k l0).bind fun t119 => (lunettelaw12_RuleLines.j0 k l0 (!t119))) else (lunettelaw12_RuleLines.j0 k l0 true))) = some r := h
 clear h
 have HC2 := Aside0.mk H
 clear H
 go_enter Tryz.func3, Tryz.ntmps3
 go_upto_region 1 with (fail)
 go_cut [15] (fun v15 wc => ∃ (kq : Nat) (x15_1 : Bool), v15 = .bool x15_1 ∧ Aside0 (lunettelaw12_RuleLines.j0 kq l0 x15_1 = some r) ∧ Aside0 (kq ≤ k) ∧ Aside0 (Below w.heap.size w wc))
 case first =>
  have H := HC2.out
  clear HC2
  replace H := Option.bind_eq_some_iff.mp H
  obtain ⟨t118, A30, H⟩ := H
  replace H : (if t118 = true then ((lunetteref12_Few.f k l0).bind fun t119 => (lunettelaw12_RuleLines.j0 k l0 (!t119))) else (lunettelaw12_RuleLines.j0 k l0 true)) = some r := H
  have A3 := Aside0.mk A30
  clear A30
  by_cases c4 : t118 = true
  ·subst c4
   have H1 : ((lunetteref12_Few.f k l0).bind fun t119 => (lunettelaw12_RuleLines.j0 k l0 (!t119))) = some r := by rw [if_pos rfl] at H; exact H
   clear H
   have H := H1
   clear H1
   replace H := Option.bind_eq_some_iff.mp H
   obtain ⟨t119, A50, H⟩ := H
   replace H : (lunettelaw12_RuleLines.j0 k l0 (!t119)) = some r := H
   have A5 := Aside0.mk A50
   clear A50
   have H' := Aside0.mk H
   clear H
   go_wp2_with (first | ((with_reducible refine gate_callee (f := 9) rfl ?_); refine goesL_ (some 9) rfl rfl Tryz.func9 (by kernel_rfl) rfl #[] rfl (by (try simp only [List.map_toArray, List.map_cons, List.map_nil]); (done)) ?_; (with_reducible refine (lunettelaw12_awake.calls  true _ A3.out ?sideT).mono ?_); (case sideT => exact Tabs.keep HTB.out (by repeat ((with_reducible (exact HB.out))))); rintro e w6 ⟨rfl, hb⟩; refine ⟨_, rfl, ?_⟩; have n0_ := Aside0.mk (below_step (by repeat ((with_reducible (exact HB.out)))) hb); clear HB; have HB := n0_; clear n0_; (try clear hb)) | (go_at_call 10; (with_reducible refine (lunetteref12_Few.calls k _ _ l0 t119 _ ?side1 ?side2 A5.out).mono ?_); (case side1 => repeat ((exact (Kd.C_below HR0.out HB.out)))); (case side2 => exact HC0.out); rintro e w7 ⟨rfl, hb⟩; have n0_ := Aside0.mk (below_step (by repeat ((with_reducible (exact HB.out)))) hb); clear HB; have HB := n0_; clear n0_; (try clear hb)))
   go_meet
   case rel => exact ⟨_, (!t119), (by (rfl)), H', ⟨by (omega)⟩, ⟨by repeat ((with_reducible (exact HB.out)))⟩⟩
  ·replace c4 := Bool.eq_false_iff.mpr c4
   subst c4
   have H1 : (lunettelaw12_RuleLines.j0 k l0 true) = some r := by rw [if_neg (show ¬ (false = true) by decide)] at H; exact H
   clear H
   have H := H1
   clear H1
   have H' := Aside0.mk H
   clear H
   go_wp2_with (((with_reducible refine gate_callee (f := 9) rfl ?_); refine goesL_ (some 9) rfl rfl Tryz.func9 (by kernel_rfl) rfl #[] rfl (by (try simp only [List.map_toArray, List.map_cons, List.map_nil]); (done)) ?_; (with_reducible refine (lunettelaw12_awake.calls  false _ A3.out ?sideT).mono ?_); (case sideT => exact Tabs.keep HTB.out (by repeat ((with_reducible (exact HB.out))))); rintro e w8 ⟨rfl, hb⟩; refine ⟨_, rfl, ?_⟩; have n0_ := Aside0.mk (below_step (by repeat ((with_reducible (exact HB.out)))) hb); clear HB; have HB := n0_; clear n0_; (try clear hb)))
   go_meet
   case rel => exact ⟨_, (true), (by (rfl)), H', ⟨by (omega)⟩, ⟨by repeat ((with_reducible (exact HB.out)))⟩⟩
 case rest =>
  clear HC2
  obtain ⟨kq, x15_1, rfl, HA, HJ1, HB⟩ := hcut
  cases kq with
  | zero => exact absurd HA.out (by simp [lunettelaw12_RuleLines.j0])
  | succ kj1 =>
   have H := HA.out
   clear HA
   simp only [lunettelaw12_RuleLines.j0] at H
   by_cases c9 : x15_1 = true
   ·subst c9
    have H1 : ((lunettelaw12_awake.f).bind fun t120 => (some t120)) = some r := by rw [if_pos rfl] at H; exact H
    clear H
    have H := H1
    clear H1
    replace H := Option.bind_eq_some_iff.mp H
    obtain ⟨t120, A100, H⟩ := H
    replace H : (some t120) = some r := H
    have A10 := Aside0.mk A100
    clear A100
    obtain rfl := Option.some.inj H
    go_wp2_with (((with_reducible refine gate_callee (f := 9) rfl ?_); refine goesL_ (some 16) rfl rfl Tryz.func9 (by kernel_rfl) rfl #[] rfl (by (try simp only [List.map_toArray, List.map_cons, List.map_nil]); (done)) ?_; (with_reducible refine (lunettelaw12_awake.calls  t120 _ A10.out ?sideT).mono ?_); (case sideT => exact Tabs.keep HTB.out (by repeat ((with_reducible (exact HB.out))))); rintro e w11 ⟨rfl, hb⟩; refine ⟨_, rfl, ?_⟩; have n0_ := Aside0.mk (below_step (by repeat ((with_reducible (exact HB.out)))) hb); clear HB; have HB := n0_; clear n0_; (try clear hb)))
    go_ret
    exact ⟨by (rfl), by repeat ((with_reducible (exact HB.out)))⟩
   ·replace c9 := Bool.eq_false_iff.mpr c9
    subst c9
    have H1 : ((rule_Show.f l0).bind fun bt121 => (if bt121.2 = 0 then (lunettelaw12_RuleLines.l0 kj1 l0 bt121.1 (⟨#[]⟩ : ByteArray) 0) else (some (bt121.1.toList == ([] : List UInt8))))) = some r := by rw [if_neg (show ¬ (false = true) by decide)] at H; exact H
    clear H
    have H := H1
    clear H1
    replace H := Option.bind_eq_some_iff.mp H
    obtain ⟨⟨t121, t122⟩, A120, H⟩ := H
    replace H : (if t122 = 0 then (lunettelaw12_RuleLines.l0 kj1 l0 t121 (⟨#[]⟩ : ByteArray) 0) else (some (t121.toList == ([] : List UInt8)))) = some r := H
    have A12 := Aside0.mk A120
    clear A120
    by_cases c13 : t122 = 0
    ·rw [if_pos c13] at H
     have c13b0 : (t122 == 0) = true := beq_iff_eq.mpr c13
     have c13b1 : (t122 != 0) = false := bne_eq_false_iff_eq.mpr c13
     clear c13
     have H' := Aside0.mk H
     clear H
     go_wp2_with (((with_reducible refine gate_callee (f := 11) rfl ?_); refine goesL_ (some 19) rfl rfl Tryz.func11 (by kernel_rfl) rfl #[.slice A0 l0.length c0] rfl (by (try simp only [List.map_toArray, List.map_cons, List.map_nil]); (rfl)) ?_; (with_reducible refine (rule_Show.calls _ _ l0 t121 t122 _ ?side1 ?side2 A12.out ?sideT).mono ?_); (case sideT => exact (Tabs.keep HTB.out (by repeat ((with_reducible (exact HB.out))))).words); (case side1 => repeat ((exact (Kd.C_below HR0.out HB.out)))); (case side2 => exact HC0.out); rintro e w14 ⟨rfl, hb⟩; refine ⟨_, rfl, ?_⟩; have n0_ := Aside0.mk (below_step (by repeat ((with_reducible (exact HB.out)))) hb); clear HB; have HB := n0_; clear n0_; (try clear hb)))
     go_loopg [5, 6] kj1 (fun kq v5 v6 w' => ∃ (x5_2 : ByteArray) (x6_2 : Int), v5 = .string x5_2 ∧ v6 = .int .i64 x6_2 ∧ Aside0 (lunettelaw12_RuleLines.l0 kq l0 t121 x5_2 x6_2 = some r) ∧ Aside0 (kq ≤ kj1) ∧ Aside0 (Below w.heap.size w w'))
     case atStart => exact ⟨((⟨#[]⟩ : ByteArray)), (0), (by (rfl)), (by (rfl)), H', ⟨Nat.le_refl _⟩, ⟨by repeat ((with_reducible (exact HB.out)))⟩⟩
     case round =>
      clear H'
      try clear c13b0
      try clear c13b1
      obtain ⟨x5_2, x6_2, rfl, rfl, HA, HK2, HB⟩ := hrel
      cases gk with
      | zero => exact absurd HA.out (by simp [lunettelaw12_RuleLines.l0])
      | succ k2 =>
       have H := HA.out
       clear HA
       simp only [lunettelaw12_RuleLines.l0] at H
       by_cases c15 : x6_2 < (l0.length : Int)
       ·rw [if_pos c15] at H
        have c15b0 : decide (x6_2 < (l0.length : Int)) = true := decide_eq_true c15
        clear c15
        by_cases c16 : 0 ≤ x6_2
        ·rw [if_pos c16] at H
         have c16b0 := eq_true c16
         have c16b1 : decide (0 ≤ x6_2) = true := decide_eq_true c16
         clear c16
         by_cases c17 : x6_2 ≤ (wrap64 (x6_2 + 1))
         ·rw [if_pos c17] at H
          have c17b0 := eq_true c17
          have c17b1 : decide (x6_2 ≤ (wrap64 (x6_2 + 1))) = true := decide_eq_true c17
          by_cases c18 : (wrap64 (x6_2 + 1)) ≤ (l0.length : Int)
          ·rw [if_pos c18] at H
           have c18b0 := eq_true c18
           have c18b1 : decide ((wrap64 (x6_2 + 1)) ≤ (l0.length : Int)) = true := decide_eq_true c18
           obtain ⟨y123, hy123⟩ : ∃ y_ : List (S30), y_ = ((l0.take ((wrap64 (x6_2 + 1)) : Int).toNat).drop (x6_2 : Int).toNat) := ⟨_, rfl⟩
           replace H : ((rule_Show.f y123).bind fun bt127 => (if bt127.2 = 0 then (if x5_2.size + bt127.1.size ≤ 9223372036854775807 then (lunettelaw12_RuleLines.l0 k2 l0 t121 (x5_2 ++ bt127.1) (wrap64 (x6_2 + 1))) else (none)) else (some false))) = some r := by (rw [hy123]; with_reducible exact H)
           have Ny123 := Aside0.mk hy123
           clear hy123
           replace H := Option.bind_eq_some_iff.mp H
           obtain ⟨⟨t127, t128⟩, A190, H⟩ := H
           replace H : (if t128 = 0 then (if x5_2.size + t127.size ≤ 9223372036854775807 then (lunettelaw12_RuleLines.l0 k2 l0 t121 (x5_2 ++ t127) (wrap64 (x6_2 + 1))) else (none)) else (some false)) = some r := H
           have A19 := Aside0.mk A190
           clear A190
           by_cases c20 : t128 = 0
           ·rw [if_pos c20] at H
            have c20b0 : (t128 == 0) = true := beq_iff_eq.mpr c20
            have c20b1 : (t128 != 0) = false := bne_eq_false_iff_eq.mpr c20
            clear c20
            by_cases c21 : x5_2.size + t127.size ≤ 9223372036854775807
            ·rw [if_pos c21] at H
             have c21b0 := eq_true c21
             have c21b1 : decide (x5_2.size + t127.size ≤ 9223372036854775807) = true := decide_eq_true c21
             try have c21b2 : (9223372036854775807 < x5_2.size + t127.size) = False := eq_false (Nat.not_lt.2 c21)
             have H' := Aside0.mk H
             clear H
             have q22 : ((wrap64 (x6_2 + 1)) : Int) ≤ ((l0.length : Int) : Int) := of_decide_eq_true (by (with_reducible assumption))
             obtain ⟨i022, hi022, _, hsz22, _⟩ := info_parts info30
             have hroom22 : l0.length ≤ c0 := HC0.out
             have hC22 : Kd.C k30 _ A0 l0.length l0 := HR0.out
             have ql22 : (x6_2 : Int) ≤ ((wrap64 (x6_2 + 1)) : Int) := of_decide_eq_true (by (with_reducible assumption))
             have q022 : (0 : Int) ≤ (x6_2 : Int) := of_decide_eq_true (by (with_reducible assumption))
             have hcut22 := cut_mid (P := Tryz.prog) 22 30 .i64 .i64 Tryz.underlying22 hi022 2 hsz22 A0 l0.length c0 x6_2 (wrap64 (x6_2 + 1)) q022 ql22 q22 hroom22
             have hr22 := Kd.C_mid (lo := (x6_2 : Int).toNat) (hi := ((wrap64 (x6_2 + 1)) : Int).toNat) (c := c0) hC22 (by omega) (by omega) hroom22
             obtain ⟨A22, hA22⟩ : ∃ A1, A1 = (if c0 = (x6_2 : Int).toNat then A0 else (A0 : Option Addr).map (·.add ((x6_2 : Int).toNat * 2))) := ⟨_, rfl⟩
             obtain ⟨c22, hc22⟩ : ∃ c1, c1 = c0 - (x6_2 : Int).toNat := ⟨_, rfl⟩
             have hy22 : y123.length = ((wrap64 (x6_2 + 1)) : Int).toNat - (x6_2 : Int).toNat := (by rw [Ny123.out, List.length_drop, List.length_take] <;> omega)
             rw [show ((l0).take ((wrap64 (x6_2 + 1)) : Int).toNat).drop (x6_2 : Int).toNat = y123 from Ny123.out.symm] at hr22
             replace hr22 : Kd.C k30 _ A22 y123.length y123 := (by rw [hA22]; exact hr22)
             rw [← hy22, ← hA22, ← hc22] at hcut22
             have HR126 := Aside0.mk hr22
             have HC126 := Aside0.mk (show y123.length ≤ c22 from by rw [hy22, hc22]; exact Nat.sub_le_sub_right (Nat.le_trans (by omega) hroom22) _)
             clear hr22 hC22 hroom22 hi022 hsz22 hc22
             have KY22 := Aside0.mk hy22
             have KA22 := Aside0.mk hA22
             clear hy22 hA22
             replace q22 := eq_true q22
             go_wp2_with (((with_reducible refine gate_callee (f := 11) rfl ?_); refine goesL_ (some 38) rfl rfl Tryz.func11 (by kernel_rfl) rfl #[.slice A22 y123.length c22] rfl (by (try simp only [List.map_toArray, List.map_cons, List.map_nil]); (rfl)) ?_; (with_reducible refine (rule_Show.calls _ _ y123 t127 t128 _ ?side1 ?side2 A19.out ?sideT).mono ?_); (case sideT => exact (Tabs.keep HTB.out (by repeat ((with_reducible (exact HB.out))))).words); (case side1 => repeat ((exact (Kd.C_below HR126.out HB.out)))); (case side2 => exact HC126.out); rintro e w23 ⟨rfl, hb⟩; refine ⟨_, rfl, ?_⟩; have n0_ := Aside0.mk (below_step (by repeat ((with_reducible (exact HB.out)))) hb); clear HB; have HB := n0_; clear n0_; (try clear hb)))
             go_roundg k2
             case measure => have := HJ1.out; have := HK2.out; omega
             case rel => exact ⟨(x5_2 ++ t127), (wrap64 (x6_2 + 1)), (by (rfl)), (by (rfl)), H', ⟨by have := HJ1.out; have := HK2.out; omega⟩, ⟨by repeat ((with_reducible (exact HB.out)))⟩⟩
            ·rw [if_neg c21] at H
             exact absurd H (by simp)
           ·rw [if_neg c20] at H
            have c20b0 : (t128 == 0) = false := beq_eq_false_iff_ne.mpr c20
            have c20b1 : (t128 != 0) = true := bne_iff_ne.mpr c20
            exact absurd ((Option.some.inj H).trans HTRUE.out) (by decide)
          ·rw [if_neg c18] at H
           exact absurd H (by simp)
         ·rw [if_neg c17] at H
          exact absurd H (by simp)
        ·rw [if_neg c16] at H
         exact absurd H (by simp)
       ·rw [if_neg c15] at H
        have c15b0 : decide (x6_2 < (l0.length : Int)) = false := decide_eq_false c15
        clear c15
        obtain rfl := Option.some.inj H
        go_wp2
        go_ret
        exact ⟨by (rfl), by repeat ((with_reducible (exact HB.out)))⟩
    ·rw [if_neg c13] at H
     have c13b0 : (t122 == 0) = false := beq_eq_false_iff_ne.mpr c13
     have c13b1 : (t122 != 0) = true := bne_iff_ne.mpr c13
     obtain rfl := Option.some.inj H
     go_wp2_with (((with_reducible refine gate_callee (f := 11) rfl ?_); refine goesL_ (some 19) rfl rfl Tryz.func11 (by kernel_rfl) rfl #[.slice A0 l0.length c0] rfl (by (try simp only [List.map_toArray, List.map_cons, List.map_nil]); (rfl)) ?_; (with_reducible refine (rule_Show.calls _ _ l0 t121 t122 _ ?side1 ?side2 A12.out ?sideT).mono ?_); (case sideT => exact (Tabs.keep HTB.out (by repeat ((with_reducible (exact HB.out))))).words); (case side1 => repeat ((exact (Kd.C_below HR0.out HB.out)))); (case side2 => exact HC0.out); rintro e w24 ⟨rfl, hb⟩; refine ⟨_, rfl, ?_⟩; have n0_ := Aside0.mk (below_step (by repeat ((with_reducible (exact HB.out)))) hb); clear HB; have HB := n0_; clear n0_; (try clear hb)))
     go_ret
     exact ⟨by (rfl), by repeat ((with_reducible (exact HB.out)))⟩
end Go.Proofs.YtjcipbdocbomjaaGreatDoor.K
namespace Go.Proofs.YtjcipbdocbomjaaGreatDoor.K
theorem lines_l0 (l : List S30) (hf : fewP l = true) (h0 : checkP l = 0) (m : Nat) :
  ∀ (i : Nat), i + m = l.length → Ev (fun k => lunettelaw12_RuleLines.l0 k l (mk (showL l)) (mk (showL (l.take i))) (i : Int)) true := by
 induction m with
 | zero =>
  intro i h
  refine Ev.step (f := fun _ => some true) (fun k => ?_) (Ev.now _)
  simp only [lunettelaw12_RuleLines.l0]
  rw [if_neg (by omega), List.take_of_length_le (by omega)]
  simp
 | succ m ih =>
  intro i h
  have hi : i < l.length := by omega
  have hl := fewP_len hf
  have hk : l[i] ∈ l := List.getElem_mem hi
  have e1 : (l.take (((i + 1 : Nat) : Int)).toNat).drop ((i : Int)).toNat = [l[i]] := by
   rw [Int.toNat_natCast, Int.toNat_natCast, List.take_succ_eq_append_getElem hi, List.drop_append, List.drop_eq_nil_of_le (by simp; omega)]
   simp [Nat.min_eq_left (Nat.le_of_lt hi)]
  refine Ev.step (f := fun k => lunettelaw12_RuleLines.l0 k l (mk (showL l)) (mk (showL (l.take (i + 1)))) ((i + 1 : Nat) : Int)) (fun k => ?_) (ih (i + 1) (by omega))
  simp only [lunettelaw12_RuleLines.l0]
  rw [if_pos (by omega), if_pos (by omega), wrap_succ hi (by omega), if_pos (by omega), if_pos (by omega), e1, show_f (fewP_one hf hk), if_pos (check_one h0 hk)]
  have b1 := few_show_len hf h0
  have b2 : (showL (l.take i)).length ≤ (showL l).length := by
   conv => rhs; rw [← List.take_append_drop i l]
   unfold showL
   rw [List.flatMap_append, List.length_append]; omega
  have b3 := few_show_len (fewP_one hf hk) (check_one h0 hk)
  simp only [Option.bind_some, if_true]
  rw [if_pos (by rw [mk_size, mk_size]; omega), mk_append]
  congr 2
  rw [showL_take hi]
  simp [showL]
theorem ruleLines_ev (l : List S30) : Ev (fun k => lunettelaw12_RuleLines.f k l) true := by
 unfold lunettelaw12_RuleLines.f lunettelaw12_awake.f
 simp only [Option.bind_some, if_true]
 refine (few_ev l).bind ?_
 cases hf : fewP l with
 | false => exact Ev.step (f := fun _ => some true) (fun k => by simp only [lunettelaw12_RuleLines.j0, Bool.not_false, if_true]; rfl) (Ev.now _)
 | true =>
  by_cases h0 : checkP l = 0
  ·refine Ev.step (f := fun k => lunettelaw12_RuleLines.l0 k l (mk (showL l)) (mk (showL (l.take 0))) ((0 : Nat) : Int)) (fun k => ?_) (lines_l0 l hf h0 l.length 0 (by omega))
   simp only [lunettelaw12_RuleLines.j0, Bool.not_true, Bool.false_eq_true, if_false]
   rw [show_f hf, if_pos h0]
   simp only [Option.bind_some, if_true]
   rfl
  ·refine Ev.step (f := fun _ => some true) (fun k => ?_) (Ev.now _)
   simp only [lunettelaw12_RuleLines.j0, Bool.not_true, Bool.false_eq_true, if_false]
   rw [show_f hf, if_neg h0]
   simp only [Option.bind_some]
   rw [if_neg h0, tl_data]
   rfl
theorem ruleLines_walk (w : World) (A : Option Addr) (c : Nat) (l : List S30) (hr : Kd.C k30 w A l.length l) (hc : l.length ≤ c) (hT : Tabs w) :
  Calls Tryz.prog 3 #[.slice A l.length c] w fun e w' => e = .returned (.bool true) ∧ Below w.heap.size w w' := by
 obtain ⟨k, h⟩ := (ruleLines_ev l).rounds
 exact lunettelaw12_RuleLines.callsT k A c l true w hr hc hT h rfl
end Go.Proofs.YtjcipbdocbomjaaGreatDoor.K
