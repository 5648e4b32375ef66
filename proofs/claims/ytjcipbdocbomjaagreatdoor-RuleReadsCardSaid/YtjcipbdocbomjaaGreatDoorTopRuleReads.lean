/- Texts of this claim's proof, put together: P12 QR; conditions: as each states. -/
import Derived.Test.YtjcipbdocbomjaaGreatDoorZE
import Derived.Test.YtjcipbdocbomjaaGreatDoorZA
import Derived.Test.YtjcipbdocbomjaaGreatDoorZD
import Derived.Test.YtjcipbdocbomjaaGreatDoorZF
set_option linter.unusedVariables false
set_option linter.unusedSimpArgs false
namespace Go.Proofs.YtjcipbdocbomjaaGreatDoor.K
open Go.RowKit Go.Proofs.YtjcipbdocbomjaaGreatDoorW.PrintWords Go.Proofs.YtjcipbdocbomjaaGreatDoorW.PrintLast Go.Proofs.YtjcipbdocbomjaaGreatDoorW.PrintMore
attribute [local go_sem] max2_int min2_int max_two min_two max_three min_three max_four min_four   -- for this text's walks alone
set_option linter.unusedVariables false
set_option linter.unusedSimpArgs false
/-! ### lunettelaw12_RuleReads: function 5 -/
mutual
def lunettelaw12_RuleReads.j0 : Nat → ByteArray → Bool → Option (Bool)
 | 0, _, _ => none
 | k + 1, x0, x17 => if x17 = true then ((lunettelaw12_awake.f).bind fun t168 => (some t168)) else ((rule_Read.f k x0).bind fun bt169 => (if bt169.2.2 = 0 then (if bt169.2.1 = 0 then ((lunetteref12_Check.f k bt169.1).bind fun t174 => (if t174 = 0 then ((lunetteref12_Show.f k bt169.1).bind fun t175 => (some (t175.toList == x0.toList))) else (some false))) else (some false)) else (if (bt169.1.length : Int) = 0 then (if bt169.2.1 = 0 then (if bt169.2.2 = 122 then (some true) else (some (bt169.2.2 == 121))) else (lunettelaw12_RuleReads.l0 k x0 bt169.2.1 bt169.2.2 0 1)) else (some false))))
def lunettelaw12_RuleReads.l0 : Nat → ByteArray → Int → Int → Int → Int → Option (Bool)
 | 0, _, _, _, _, _ => none
 | k + 1, x0, x4, x5, x6, x7 => if x6 < (x0.size : Int) then (lunettelaw12_RuleReads.j2 k x0 x4 x5 x6 x7 (decide (x7 < x4))) else (lunettelaw12_RuleReads.j2 k x0 x4 x5 x6 x7 false)
def lunettelaw12_RuleReads.j2 : Nat → ByteArray → Int → Int → Int → Int → Bool → Option (Bool)
 | 0, _, _, _, _, _, _ => none
 | k + 1, x0, x4, x5, x6, x7, x59 => if x59 = true then (if 0 ≤ x6 then (if x6 < (x0.size : Int) then (if (bt x0 x6) = 10 then (lunettelaw12_RuleReads.l0 k x0 x4 x5 (wrap64 (x6 + 1)) (wrap64 (x7 + 1))) else (lunettelaw12_RuleReads.l0 k x0 x4 x5 (wrap64 (x6 + 1)) x7)) else (none)) else (none)) else (if 0 ≤ x6 then (if x6 ≤ (x0.size : Int) then ((rule_Read.f k (x0.extract 0 (x6 : Int).toNat)).bind fun bt176 => (if x5 = 120 then (if x7 = x4 then (if x6 < (x0.size : Int) then (if bt176.2.1 = 0 then (some (bt176.2.2 != 120)) else (some false)) else (some false)) else (some false)) else (some false))) else (none)) else (none))
end
def lunettelaw12_RuleReads.f (k : Nat) (a0 : ByteArray) : Option (Bool) := (lunettelaw12_awake.f).bind fun t167 => (if t167 = true then (lunettelaw12_RuleReads.j0 k a0 (decide ((a0.size : Int) > 1500))) else (lunettelaw12_RuleReads.j0 k a0 true))
set_option maxHeartbeats 8000000 in
set_option maxRecDepth 100000 in
theorem lunettelaw12_RuleReads.callsT (k : Nat) (a0 : ByteArray) (r : Bool) (w : World) (hTab : Tabs w) (h : lunettelaw12_RuleReads.f k a0 = some r) (hT : r = true) :
  Calls Tryz.prog 5 #[.string a0] w fun e w' => e = .returned (.bool r) ∧ Below w.heap.size w w' := by
 have HTB := Aside0.mk hTab
 clear hTab
 have HB := Aside0.mk (Below.refl w.heap.size w)
 have HTRUE := Aside0.mk hT
 clear hT
 have H : ((lunettelaw12_awake.f).bind fun t167 => (if t167 = true then (lunettelaw12_RuleReads.j0 k a0 (decide ((a0.size : Int) > 1500))) else (lunettelaw12_RuleReads.j0 k a0 true))) = some r := h
 clear h
 have HC2 := Aside0.mk H
 clear H
 go_enter Tryz.func5, Tryz.ntmps5
 go_upto_region 1 with (fail)
 go_cut [17] (fun v17 wc => ∃ (kq : Nat) (x17_1 : Bool), v17 = .bool x17_1 ∧ Aside0 (lunettelaw12_RuleReads.j0 kq a0 x17_1 = some r) ∧ Aside0 (kq ≤ k) ∧ Aside0 (Below w.heap.size w wc))
 case first =>
  have H := HC2.out
  clear HC2
  replace H := Option.bind_eq_some_iff.mp H
  obtain ⟨t167, A30, H⟩ := H
  replace H : (if t167 = true then (lunettelaw12_RuleReads.j0 k a0 (decide ((a0.size : Int) > 1500))) else (lunettelaw12_RuleReads.j0 k a0 true)) = some r := H
  have A3 := Aside0.mk A30
  clear A30
  by_cases c4 : t167 = true
  ·subst c4
   have H1 : (lunettelaw12_RuleReads.j0 k a0 (decide ((a0.size : Int) > 1500))) = some r := by rw [if_pos rfl] at H; exact H
   clear H
   have H := H1
   clear H1
   have H' := Aside0.mk H
   clear H
   go_wp2_with (((with_reducible refine gate_callee (f := 9) rfl ?_); refine goesL_ (some 11) rfl rfl Tryz.func9 (by kernel_rfl) rfl #[] rfl (by (try simp only [List.map_toArray, List.map_cons, List.map_nil]); (done)) ?_; (with_reducible refine (lunettelaw12_awake.calls  true _ A3.out ?sideT).mono ?_); (case sideT => exact Tabs.keep HTB.out (by repeat ((with_reducible (exact HB.out))))); rintro e w5 ⟨rfl, hb⟩; refine ⟨_, rfl, ?_⟩; have n0_ := Aside0.mk (below_step (by repeat ((with_reducible (exact HB.out)))) hb); clear HB; have HB := n0_; clear n0_; (try clear hb)))
   go_meet
   case rel => exact ⟨_, (decide ((a0.size : Int) > 1500)), (by (rfl)), H', ⟨by (omega)⟩, ⟨by repeat ((with_reducible (exact HB.out)))⟩⟩
  ·replace c4 := Bool.eq_false_iff.mpr c4
   subst c4
   have H1 : (lunettelaw12_RuleReads.j0 k a0 true) = some r := by rw [if_neg (show ¬ (false = true) by decide)] at H; exact H
   clear H
   have H := H1
   clear H1
   have H' := Aside0.mk H
   clear H
   go_wp2_with (((with_reducible refine gate_callee (f := 9) rfl ?_); refine goesL_ (some 11) rfl rfl Tryz.func9 (by kernel_rfl) rfl #[] rfl (by (try simp only [List.map_toArray, List.map_cons, List.map_nil]); (done)) ?_; (with_reducible refine (lunettelaw12_awake.calls  false _ A3.out ?sideT).mono ?_); (case sideT => exact Tabs.keep HTB.out (by repeat ((with_reducible (exact HB.out))))); rintro e w6 ⟨rfl, hb⟩; refine ⟨_, rfl, ?_⟩; have n0_ := Aside0.mk (below_step (by repeat ((with_reducible (exact HB.out)))) hb); clear HB; have HB := n0_; clear n0_; (try clear hb)))
   go_meet
   case rel => exact ⟨_, (true), (by (rfl)), H', ⟨by (omega)⟩, ⟨by repeat ((with_reducible (exact HB.out)))⟩⟩
 case rest =>
  clear HC2
  obtain ⟨kq, x17_1, rfl, HA, HJ1, HB⟩ := hcut
  cases kq with
  | zero => exact absurd HA.out (by simp [lunettelaw12_RuleReads.j0])
  | succ kj1 =>
   have H := HA.out
   clear HA
   simp only [lunettelaw12_RuleReads.j0] at H
   by_cases c7 : x17_1 = true
   ·subst c7
    have H1 : ((lunettelaw12_awake.f).bind fun t168 => (some t168)) = some r := by rw [if_pos rfl] at H; exact H
    clear H
    have H := H1
    clear H1
    replace H := Option.bind_eq_some_iff.mp H
    obtain ⟨t168, A80, H⟩ := H
    replace H : (some t168) = some r := H
    have A8 := Aside0.mk A80
    clear A80
    obtain rfl := Option.some.inj H
    go_wp2_with (((with_reducible refine gate_callee (f := 9) rfl ?_); refine goesL_ (some 18) rfl rfl Tryz.func9 (by kernel_rfl) rfl #[] rfl (by (try simp only [List.map_toArray, List.map_cons, List.map_nil]); (done)) ?_; (with_reducible refine (lunettelaw12_awake.calls  t168 _ A8.out ?sideT).mono ?_); (case sideT => exact Tabs.keep HTB.out (by repeat ((with_reducible (exact HB.out))))); rintro e w9 ⟨rfl, hb⟩; refine ⟨_, rfl, ?_⟩; have n0_ := Aside0.mk (below_step (by repeat ((with_reducible (exact HB.out)))) hb); clear HB; have HB := n0_; clear n0_; (try clear hb)))
    go_ret
    exact ⟨by (rfl), by repeat ((with_reducible (exact HB.out)))⟩
   ·replace c7 := Bool.eq_false_iff.mpr c7
    subst c7
    have H1 : ((rule_Read.f kj1 a0).bind fun bt169 => (if bt169.2.2 = 0 then (if bt169.2.1 = 0 then ((lunetteref12_Check.f kj1 bt169.1).bind fun t174 => (if t174 = 0 then ((lunetteref12_Show.f kj1 bt169.1).bind fun t175 => (some (t175.toList == a0.toList))) else (some false))) else (some false)) else (if (bt169.1.length : Int) = 0 then (if bt169.2.1 = 0 then (if bt169.2.2 = 122 then (some true) else (some (bt169.2.2 == 121))) else (lunettelaw12_RuleReads.l0 kj1 a0 bt169.2.1 bt169.2.2 0 1)) else (some false)))) = some r := by rw [if_neg (show ¬ (false = true) by decide)] at H; exact H
    clear H
    have H := H1
    clear H1
    replace H := Option.bind_eq_some_iff.mp H
    obtain ⟨⟨t169, t170, t171⟩, A100, H⟩ := H
    replace H : (if t171 = 0 then (if t170 = 0 then ((lunetteref12_Check.f kj1 t169).bind fun t174 => (if t174 = 0 then ((lunetteref12_Show.f kj1 t169).bind fun t175 => (some (t175.toList == a0.toList))) else (some false))) else (some false)) else (if (t169.length : Int) = 0 then (if t170 = 0 then (if t171 = 122 then (some true) else (some (t171 == 121))) else (lunettelaw12_RuleReads.l0 kj1 a0 t170 t171 0 1)) else (some false))) = some r := H
    have A10 := Aside0.mk A100
    clear A100
    by_cases c11 : t171 = 0
    ·rw [if_pos c11] at H
     have c11b0 : (t171 == 0) = true := beq_iff_eq.mpr c11
     have c11b1 : (t171 != 0) = false := bne_eq_false_iff_eq.mpr c11
     clear c11
     by_cases c12 : t170 = 0
     ·rw [if_pos c12] at H
      have c12b0 : (t170 == 0) = true := beq_iff_eq.mpr c12
      have c12b1 : (t170 != 0) = false := bne_eq_false_iff_eq.mpr c12
      clear c12
      replace H := Option.bind_eq_some_iff.mp H
      obtain ⟨t174, A130, H⟩ := H
      replace H : (if t174 = 0 then ((lunetteref12_Show.f kj1 t169).bind fun t175 => (some (t175.toList == a0.toList))) else (some false)) = some r := H
      have A13 := Aside0.mk A130
      clear A130
      by_cases c14 : t174 = 0
      ·rw [if_pos c14] at H
       have c14b0 : (t174 == 0) = true := beq_iff_eq.mpr c14
       have c14b1 : (t174 != 0) = false := bne_eq_false_iff_eq.mpr c14
       clear c14
       replace H := Option.bind_eq_some_iff.mp H
       obtain ⟨t175, A150, H⟩ := H
       replace H : (some (t175.toList == a0.toList)) = some r := H
       have A15 := Aside0.mk A150
       clear A150
       obtain rfl := Option.some.inj H
       go_wp2_with (first | ((with_reducible refine gate_callee (f := 14) rfl ?_); refine goesL_ (some 21) rfl rfl Tryz.func14 (by kernel_rfl) rfl #[.string a0] rfl (by (try simp only [List.map_toArray, List.map_cons, List.map_nil]); (rfl)) ?_; (with_reducible refine (rule_Read.calls kj1 a0 t169 t170 t171 _ ?sideT A10.out).mono ?_); (case sideT => exact Tabs.keep HTB.out (by repeat ((with_reducible (exact HB.out))))); rintro e w16 ⟨v172, rfl, ho0, hb⟩; refine ⟨_, rfl, ?_⟩; have n0_ := Aside0.mk (Kd.R_lower ho0 (below_size (by repeat ((with_reducible (exact HB.out)))))); have n1_ := Aside0.mk (below_step (by repeat ((with_reducible (exact HB.out)))) hb); clear HB; have HO173 := n0_; have HB := n1_; clear n0_ n1_; (try clear hb); (try clear ho0); obtain ⟨Ao17, co17, eo17⟩ := Kd.R_slice HO173.out; subst eo17) | (go_at_call 15; (with_reducible refine (lunetteref12_Check.calls kj1 _ _ t169 t174 _ ?side1 ?side2 A13.out).mono ?_); (case side1 => repeat ((exact (Kd.R_reads' HO173.out).2.2))); (case side2 => exact (Kd.R_reads' HO173.out).2.1); rintro e w18 ⟨rfl, hb⟩; have n0_ := Aside0.mk (Kd.R_below (by (with_reducible repeat ((apply Kd.R_drew))); exact HO173.out) hb); have n1_ := Aside0.mk (below_step (by repeat ((with_reducible (exact HB.out)))) hb); clear HO173; clear HB; have HO173 := n0_; have HB := n1_; clear n0_ n1_; (try clear hb)) | (go_at_call 16; (with_reducible refine (lunetteref12_Show.calls kj1 _ _ t169 t175 _ ?side1 ?side2 A15.out).mono ?_); (case side1 => repeat ((exact (Kd.R_reads' HO173.out).2.2))); (case side2 => exact (Kd.R_reads' HO173.out).2.1); rintro e w19 ⟨rfl, hb⟩; have n0_ := Aside0.mk (Kd.R_below (by (with_reducible repeat ((apply Kd.R_drew))); exact HO173.out) hb); have n1_ := Aside0.mk (below_step (by repeat ((with_reducible (exact HB.out)))) hb); clear HO173; clear HB; have HO173 := n0_; have HB := n1_; clear n0_ n1_; (try clear hb)))
       go_ret
       exact ⟨by (rfl), by repeat ((with_reducible (exact HB.out)))⟩
      ·rw [if_neg c14] at H
       have c14b0 : (t174 == 0) = false := beq_eq_false_iff_ne.mpr c14
       have c14b1 : (t174 != 0) = true := bne_iff_ne.mpr c14
       exact absurd ((Option.some.inj H).trans HTRUE.out) (by decide)
     ·rw [if_neg c12] at H
      have c12b0 : (t170 == 0) = false := beq_eq_false_iff_ne.mpr c12
      have c12b1 : (t170 != 0) = true := bne_iff_ne.mpr c12
      exact absurd ((Option.some.inj H).trans HTRUE.out) (by decide)
    ·rw [if_neg c11] at H
     have c11b0 : (t171 == 0) = false := beq_eq_false_iff_ne.mpr c11
     have c11b1 : (t171 != 0) = true := bne_iff_ne.mpr c11
     by_cases c20 : (t169.length : Int) = 0
     ·rw [if_pos c20] at H
      have c20b0 : ((t169.length : Int) == 0) = true := beq_iff_eq.mpr c20
      have c20b1 : ((t169.length : Int) != 0) = false := bne_eq_false_iff_eq.mpr c20
      clear c20
      by_cases c21 : t170 = 0
      ·rw [if_pos c21] at H
       have c21b0 : (t170 == 0) = true := beq_iff_eq.mpr c21
       have c21b1 : (t170 != 0) = false := bne_eq_false_iff_eq.mpr c21
       clear c21
       by_cases c22 : t171 = 122
       ·rw [if_pos c22] at H
        have c22b0 : (t171 == 122) = true := beq_iff_eq.mpr c22
        have c22b1 : (t171 != 122) = false := bne_eq_false_iff_eq.mpr c22
        clear c22
        obtain rfl := Option.some.inj H
        go_wp2_with (((with_reducible refine gate_callee (f := 14) rfl ?_); refine goesL_ (some 21) rfl rfl Tryz.func14 (by kernel_rfl) rfl #[.string a0] rfl (by (try simp only [List.map_toArray, List.map_cons, List.map_nil]); (rfl)) ?_; (with_reducible refine (rule_Read.calls kj1 a0 t169 t170 t171 _ ?sideT A10.out).mono ?_); (case sideT => exact Tabs.keep HTB.out (by repeat ((with_reducible (exact HB.out))))); rintro e w23 ⟨v172, rfl, ho0, hb⟩; refine ⟨_, rfl, ?_⟩; have n0_ := Aside0.mk (Kd.R_lower ho0 (below_size (by repeat ((with_reducible (exact HB.out)))))); have n1_ := Aside0.mk (below_step (by repeat ((with_reducible (exact HB.out)))) hb); clear HB; have HO173 := n0_; have HB := n1_; clear n0_ n1_; (try clear hb); (try clear ho0); obtain ⟨Ao24, co24, eo24⟩ := Kd.R_slice HO173.out; subst eo24))
        go_ret
        exact ⟨by (rfl), by repeat ((with_reducible (exact HB.out)))⟩
       ·rw [if_neg c22] at H
        have c22b0 : (t171 == 122) = false := beq_eq_false_iff_ne.mpr c22
        have c22b1 : (t171 != 122) = true := bne_iff_ne.mpr c22
        obtain rfl := Option.some.inj H
        go_wp2_with (((with_reducible refine gate_callee (f := 14) rfl ?_); refine goesL_ (some 21) rfl rfl Tryz.func14 (by kernel_rfl) rfl #[.string a0] rfl (by (try simp only [List.map_toArray, List.map_cons, List.map_nil]); (rfl)) ?_; (with_reducible refine (rule_Read.calls kj1 a0 t169 t170 t171 _ ?sideT A10.out).mono ?_); (case sideT => exact Tabs.keep HTB.out (by repeat ((with_reducible (exact HB.out))))); rintro e w25 ⟨v172, rfl, ho0, hb⟩; refine ⟨_, rfl, ?_⟩; have n0_ := Aside0.mk (Kd.R_lower ho0 (below_size (by repeat ((with_reducible (exact HB.out)))))); have n1_ := Aside0.mk (below_step (by repeat ((with_reducible (exact HB.out)))) hb); clear HB; have HO173 := n0_; have HB := n1_; clear n0_ n1_; (try clear hb); (try clear ho0); obtain ⟨Ao26, co26, eo26⟩ := Kd.R_slice HO173.out; subst eo26))
        go_ret
        exact ⟨by (rfl), by repeat ((with_reducible (exact HB.out)))⟩
      ·rw [if_neg c21] at H
       have c21b0 : (t170 == 0) = false := beq_eq_false_iff_ne.mpr c21
       have c21b1 : (t170 != 0) = true := bne_iff_ne.mpr c21
       have H' := Aside0.mk H
       clear H
       go_wp2_with (((with_reducible refine gate_callee (f := 14) rfl ?_); refine goesL_ (some 21) rfl rfl Tryz.func14 (by kernel_rfl) rfl #[.string a0] rfl (by (try simp only [List.map_toArray, List.map_cons, List.map_nil]); (rfl)) ?_; (with_reducible refine (rule_Read.calls kj1 a0 t169 t170 t171 _ ?sideT A10.out).mono ?_); (case sideT => exact Tabs.keep HTB.out (by repeat ((with_reducible (exact HB.out))))); rintro e w27 ⟨v172, rfl, ho0, hb⟩; refine ⟨_, rfl, ?_⟩; have n0_ := Aside0.mk (Kd.R_lower ho0 (below_size (by repeat ((with_reducible (exact HB.out)))))); have n1_ := Aside0.mk (below_step (by repeat ((with_reducible (exact HB.out)))) hb); clear HB; have HO173 := n0_; have HB := n1_; clear n0_ n1_; (try clear hb); (try clear ho0); obtain ⟨Ao28, co28, eo28⟩ := Kd.R_slice HO173.out; subst eo28))
       go_loopg [6, 7] kj1 (fun kq v6 v7 w' => ∃ (x6_2 : Int) (x7_2 : Int), v6 = .int .i64 x6_2 ∧ v7 = .int .i64 x7_2 ∧ Aside0 (lunettelaw12_RuleReads.l0 kq a0 t170 t171 x6_2 x7_2 = some r) ∧ Aside0 (kq ≤ kj1) ∧ Aside0 (Below w.heap.size w w'))
       case atStart => exact ⟨(0), (1), (by (rfl)), (by (rfl)), H', ⟨Nat.le_refl _⟩, ⟨by repeat ((with_reducible (exact HB.out)))⟩⟩
       case round =>
        clear H'
        try clear c11
        try clear c11b0
        try clear c11b1
        try clear c20b0
        try clear c20b1
        try clear c21
        try clear c21b0
        try clear c21b1
        obtain ⟨x6_2, x7_2, rfl, rfl, HA, HK2, HB⟩ := hrel
        cases gk with
        | zero => exact absurd HA.out (by simp [lunettelaw12_RuleReads.l0])
        | succ k2 =>
         have H := HA.out
         clear HA
         simp only [lunettelaw12_RuleReads.l0] at H
         have HC29 := Aside0.mk H
         clear H
         go_upto_region 11 with (fail)
         go_cut [59] (fun v59 wc => ∃ (kq : Nat) (x59_28 : Bool), v59 = .bool x59_28 ∧ Aside0 (lunettelaw12_RuleReads.j2 kq a0 t170 t171 x6_2 x7_2 x59_28 = some r) ∧ Aside0 (kq ≤ k2) ∧ Aside0 (Below w.heap.size w wc))
         case first =>
          have H := HC29.out
          clear HC29
          by_cases c30 : x6_2 < (a0.size : Int)
          ·rw [if_pos c30] at H
           have c30b0 : decide (x6_2 < (a0.size : Int)) = true := decide_eq_true c30
           clear c30
           ((skip))
           have H' := Aside0.mk H
           clear H
           go_wp2
           go_meet
           case rel => exact ⟨_, (decide (x7_2 < t170)), (by (rfl)), H', ⟨by have := HJ1.out; have := HK2.out; (omega)⟩, ⟨by repeat ((with_reducible (exact HB.out)))⟩⟩
          ·rw [if_neg c30] at H
           have c30b0 : decide (x6_2 < (a0.size : Int)) = false := decide_eq_false c30
           clear c30
           ((skip))
           have H' := Aside0.mk H
           clear H
           go_wp2
           go_meet
           case rel => exact ⟨_, (false), (by (rfl)), H', ⟨by have := HJ1.out; have := HK2.out; (omega)⟩, ⟨by repeat ((with_reducible (exact HB.out)))⟩⟩
         case rest =>
          clear HC29
          obtain ⟨kq, x59_28, rfl, HA, HJ28, HB⟩ := hcut
          cases kq with
          | zero => exact absurd HA.out (by simp [lunettelaw12_RuleReads.j2])
          | succ kj28 =>
           have H := HA.out
           clear HA
           simp only [lunettelaw12_RuleReads.j2] at H
           by_cases c31 : x59_28 = true
           ·subst c31
            have H1 : (if 0 ≤ x6_2 then (if x6_2 < (a0.size : Int) then (if (bt a0 x6_2) = 10 then (lunettelaw12_RuleReads.l0 kj28 a0 t170 t171 (wrap64 (x6_2 + 1)) (wrap64 (x7_2 + 1))) else (lunettelaw12_RuleReads.l0 kj28 a0 t170 t171 (wrap64 (x6_2 + 1)) x7_2)) else (none)) else (none)) = some r := by rw [if_pos rfl] at H; exact H
            clear H
            have H := H1
            clear H1
            by_cases c32 : 0 ≤ x6_2
            ·rw [if_pos c32] at H
             have c32b0 : decide (0 ≤ x6_2) = true := decide_eq_true c32
             clear c32
             by_cases c33 : x6_2 < (a0.size : Int)
             ·rw [if_pos c33] at H
              have c33b0 : decide (x6_2 < (a0.size : Int)) = true := decide_eq_true c33
              clear c33
              by_cases c35 : (bt a0 x6_2) = 10
              ·rw [if_pos c35] at H
               have c35b0 : ((bt a0 x6_2) == 10) = true := beq_iff_eq.mpr c35
               have c35b1 : ((bt a0 x6_2) != 10) = false := bne_eq_false_iff_eq.mpr c35
               clear c35
               have H' := Aside0.mk H
               clear H
               have p34 : 0 ≤ (x6_2 : Int) := of_decide_eq_true (by (with_reducible assumption))
               have q34 : x6_2 < (a0.size : Int) := of_decide_eq_true (by (with_reducible assumption))
               have hx34 := bt_at a0 x6_2
               replace p34 := eq_true p34
               replace q34 := eq_true q34
               go_wp2
               go_roundg kj28
               case measure => have := HJ1.out; have := HK2.out; have := HJ28.out; omega
               case rel => exact ⟨(wrap64 (x6_2 + 1)), (wrap64 (x7_2 + 1)), (by (rfl)), (by (rfl)), H', ⟨by have := HJ1.out; have := HK2.out; have := HJ28.out; omega⟩, ⟨by repeat ((with_reducible (exact HB.out)))⟩⟩
              ·rw [if_neg c35] at H
               have c35b0 : ((bt a0 x6_2) == 10) = false := beq_eq_false_iff_ne.mpr c35
               have c35b1 : ((bt a0 x6_2) != 10) = true := bne_iff_ne.mpr c35
               have H' := Aside0.mk H
               clear H
               have p34 : 0 ≤ (x6_2 : Int) := of_decide_eq_true (by (with_reducible assumption))
               have q34 : x6_2 < (a0.size : Int) := of_decide_eq_true (by (with_reducible assumption))
               have hx34 := bt_at a0 x6_2
               replace p34 := eq_true p34
               replace q34 := eq_true q34
               go_wp2
               go_roundg kj28
               case measure => have := HJ1.out; have := HK2.out; have := HJ28.out; omega
               case rel => exact ⟨(wrap64 (x6_2 + 1)), (x7_2), (by (rfl)), (by (rfl)), H', ⟨by have := HJ1.out; have := HK2.out; have := HJ28.out; omega⟩, ⟨by repeat ((with_reducible (exact HB.out)))⟩⟩
             ·rw [if_neg c33] at H
              exact absurd H (by simp)
            ·rw [if_neg c32] at H
             exact absurd H (by simp)
           ·replace c31 := Bool.eq_false_iff.mpr c31
            subst c31
            have H1 : (if 0 ≤ x6_2 then (if x6_2 ≤ (a0.size : Int) then ((rule_Read.f kj28 (a0.extract 0 (x6_2 : Int).toNat)).bind fun bt176 => (if t171 = 120 then (if x7_2 = t170 then (if x6_2 < (a0.size : Int) then (if bt176.2.1 = 0 then (some (bt176.2.2 != 120)) else (some false)) else (some false)) else (some false)) else (some false))) else (none)) else (none)) = some r := by rw [if_neg (show ¬ (false = true) by decide)] at H; exact H
            clear H
            have H := H1
            clear H1
            by_cases c36 : 0 ≤ x6_2
            ·rw [if_pos c36] at H
             have c36b0 := eq_true c36
             have c36b1 : decide (0 ≤ x6_2) = true := decide_eq_true c36
             clear c36
             by_cases c37 : x6_2 ≤ (a0.size : Int)
             ·rw [if_pos c37] at H
              have c37b0 := eq_true c37
              have c37b1 : decide (x6_2 ≤ (a0.size : Int)) = true := decide_eq_true c37
              replace H := Option.bind_eq_some_iff.mp H
              obtain ⟨⟨t176, t177, t178⟩, A380, H⟩ := H
              replace H : (if t171 = 120 then (if x7_2 = t170 then (if x6_2 < (a0.size : Int) then (if t177 = 0 then (some (t178 != 120)) else (some false)) else (some false)) else (some false)) else (some false)) = some r := H
              have A38 := Aside0.mk A380
              clear A380
              by_cases c39 : t171 = 120
              ·rw [if_pos c39] at H
               have c39b0 : (t171 == 120) = true := beq_iff_eq.mpr c39
               have c39b1 : (t171 != 120) = false := bne_eq_false_iff_eq.mpr c39
               clear c39
               by_cases c40 : x7_2 = t170
               ·rw [if_pos c40] at H
                have c40b0 : (x7_2 == t170) = true := beq_iff_eq.mpr c40
                have c40b1 : (x7_2 != t170) = false := bne_eq_false_iff_eq.mpr c40
                clear c40
                by_cases c41 : x6_2 < (a0.size : Int)
                ·rw [if_pos c41] at H
                 have c41b0 : decide (x6_2 < (a0.size : Int)) = true := decide_eq_true c41
                 clear c41
                 by_cases c42 : t177 = 0
                 ·rw [if_pos c42] at H
                  have c42b0 : (t177 == 0) = true := beq_iff_eq.mpr c42
                  have c42b1 : (t177 != 0) = false := bne_eq_false_iff_eq.mpr c42
                  clear c42
                  obtain rfl := Option.some.inj H
                  go_wp2_with (((with_reducible refine gate_callee (f := 14) rfl ?_); refine goesL_ (some 72) rfl rfl Tryz.func14 (by kernel_rfl) rfl #[.string (a0.extract 0 (x6_2 : Int).toNat)] rfl (by (try simp only [List.map_toArray, List.map_cons, List.map_nil]); (rfl)) ?_; (with_reducible refine (rule_Read.calls kj28 (a0.extract 0 (x6_2 : Int).toNat) t176 t177 t178 _ ?sideT A38.out).mono ?_); (case sideT => exact Tabs.keep HTB.out (by repeat ((with_reducible (exact HB.out))))); rintro e w43 ⟨v179, rfl, ho0, hb⟩; refine ⟨_, rfl, ?_⟩; have n0_ := Aside0.mk (Kd.R_lower ho0 (below_size (by repeat ((with_reducible (exact HB.out)))))); have n1_ := Aside0.mk (below_step (by repeat ((with_reducible (exact HB.out)))) hb); clear HB; have HO180 := n0_; have HB := n1_; clear n0_ n1_; (try clear hb); (try clear ho0)))
                  go_ret
                  exact ⟨by (rfl), by repeat ((with_reducible (exact HB.out)))⟩
                 ·rw [if_neg c42] at H
                  have c42b0 : (t177 == 0) = false := beq_eq_false_iff_ne.mpr c42
                  have c42b1 : (t177 != 0) = true := bne_iff_ne.mpr c42
                  exact absurd ((Option.some.inj H).trans HTRUE.out) (by decide)
                ·rw [if_neg c41] at H
                 have c41b0 : decide (x6_2 < (a0.size : Int)) = false := decide_eq_false c41
                 clear c41
                 exact absurd ((Option.some.inj H).trans HTRUE.out) (by decide)
               ·rw [if_neg c40] at H
                have c40b0 : (x7_2 == t170) = false := beq_eq_false_iff_ne.mpr c40
                have c40b1 : (x7_2 != t170) = true := bne_iff_ne.mpr c40
                exact absurd ((Option.some.inj H).trans HTRUE.out) (by decide)
              ·rw [if_neg c39] at H
               have c39b0 : (t171 == 120) = false := beq_eq_false_iff_ne.mpr c39
               have c39b1 : (t171 != 120) = true := bne_iff_ne.mpr c39
               exact absurd ((Option.some.inj H).trans HTRUE.out) (by decide)
             ·rw [if_neg c37] at H
              exact absurd H (by simp)
            ·rw [if_neg c36] at H
             exact absurd H (by simp)
     ·rw [if_neg c20] at H
      have c20b0 : ((t169.length : Int) == 0) = false := beq_eq_false_iff_ne.mpr c20
      have c20b1 : ((t169.length : Int) != 0) = true := bne_iff_ne.mpr c20
      have c20b2 : ¬ (t169 = []) := fun h_ => c20 (by rw [h_]; rfl)
      exact absurd ((Option.some.inj H).trans HTRUE.out) (by decide)
end Go.Proofs.YtjcipbdocbomjaaGreatDoor.K
namespace Go.Proofs.YtjcipbdocbomjaaGreatDoor.K
set_option linter.unusedVariables false
set_option linter.unusedSimpArgs false
open Go.RowKit Go.Proofs.YtjcipbdocbomjaaGreatDoorW.PrintWords Go.Proofs.YtjcipbdocbomjaaGreatDoorW.PrintLast Go.Proofs.YtjcipbdocbomjaaGreatDoorW.PrintMore
theorem reads_loop (s : ByteArray) (a b : List UInt8) (hs : s.data.toList = a ++ b) (hb : b ≠ []) (ha : a = [] ∨ ∃ a', a = a' ++ [10]) (hz : s.size ≤ 1500) (l' : List S30) (hI : Inv l') (hr : Ev (fun k => rule_Read.f k (mk a)) (checkR l')) (m : Nat) :
  ∀ i : Nat, i + m = a.length → Ev (fun k => lunettelaw12_RuleReads.l0 k s ((1 + a.count 10 : Nat) : Int) 120 (i : Int) ((1 + (a.take i).count 10 : Nat) : Int)) true := by
 have hsz : s.size = a.length + b.length := by rw [← data_len, hs, List.length_append]
 have hbl : 0 < b.length := List.length_pos_iff.2 hb
 have hc := List.count_le_length (a := (10 : UInt8)) (l := a)
 induction m with
 | zero =>
  intro i h
  obtain rfl : i = a.length := by omega
  rw [List.take_length]
  refine Ev.step (f := fun k => lunettelaw12_RuleReads.j2 k s ((1 + a.count 10 : Nat) : Int) 120 ((a.length : Nat) : Int) ((1 + a.count 10 : Nat) : Int) false) (fun k => ?_) ?_
  ·simp only [lunettelaw12_RuleReads.l0]
   rw [if_pos (by omega), show decide (((1 + a.count 10 : Nat) : Int) < ((1 + a.count 10 : Nat) : Int)) = false by rw [decide_eq_false_iff_not]; omega]
  ·have he : s.extract 0 (((a.length : Nat) : Int)).toNat = mk a := by
    apply data_inj
    rw [Int.toNat_natCast, Lib.extract_data, mk_data, hs, List.drop_zero, Nat.sub_zero, List.take_left]
   refine Ev.step (f := fun k => (rule_Read.f k (mk a)).bind fun bt176 => if bt176.2.1 = 0 then (some (bt176.2.2 != 120)) else (some false)) (fun k => ?_) ?_
   ·simp only [lunettelaw12_RuleReads.j2, Bool.false_eq_true, if_false]
    rw [if_pos (by omega), if_pos (by omega), he]
    congr 1
    funext r
    rw [if_pos trivial, if_pos trivial, if_pos (by omega)]
   ·refine hr.bind ?_
    have hn := (inv_form hI).1
    unfold checkR
    by_cases h0 : checkP l' = 0
    ·rw [if_pos h0]; exact Ev.now _
    ·rw [if_neg h0]
     show Ev (fun _ => if (0 : Int) = 0 then some (checkP l' != 120) else some false) true
     rw [show (checkP l' != 120) = true by rw [bne_iff_ne]; exact hn]
     exact Ev.now _
 | succ m ih =>
  intro i h
  have hi : i < a.length := by omega
  have hlt : (a.take i).count 10 < a.count 10 := by
   rcases ha with rfl | ⟨a', rfl⟩
   ·simp at hi
   ·conv => rhs; rw [← List.take_append_drop i (a' ++ [10])]
    rw [List.count_append]
    have : 0 < ((a' ++ [10]).drop i).count 10 := by
     rw [List.count_pos_iff, List.drop_append_of_le_length (by rw [List.length_append] at hi; simp at hi; omega)]
     simp
    omega
  have hle := List.count_le_length (a := (10 : UInt8)) (l := a.take i)
  rw [List.length_take] at hle
  have hN := ih (i + 1) (by omega)
  rw [count_take hi] at hN
  refine Ev.step (f := fun k => lunettelaw12_RuleReads.j2 k s ((1 + a.count 10 : Nat) : Int) 120 (i : Int) ((1 + (a.take i).count 10 : Nat) : Int) true) (fun k => ?_) ?_
  ·simp only [lunettelaw12_RuleReads.l0]
   rw [if_pos (by omega), show decide (((1 + (a.take i).count 10 : Nat) : Int) < ((1 + a.count 10 : Nat) : Int)) = true by rw [decide_eq_true_eq]; omega]
  ·refine Ev.step (fun k => ?_) hN
   simp only [lunettelaw12_RuleReads.j2, if_true]
   have hg : s.data.toList[i]'(by rw [data_len]; omega) = a[i] := by
    simp only [hs]
    exact List.getElem_append_left hi
   rw [if_pos (by omega), if_pos (by omega), bt_data s i (by omega), hg, wrap_succ (n := 2000) (by omega) (by omega), wrap_succ (n := 2000) (by omega) (by omega)]
   by_cases e : a[i] = 10
   ·rw [if_pos ((byte_ten _).2 e), if_pos e]
    rw [show 1 + (a.take i).count 10 + 1 = 1 + ((a.take i).count 10 + 1) by omega]
   ·rw [if_neg (fun h => e ((byte_ten _).1 h)), if_neg e]
    rfl
theorem ruleReads_ev (s : ByteArray) : Ev (fun k => lunettelaw12_RuleReads.f k s) true := by
 unfold lunettelaw12_RuleReads.f lunettelaw12_awake.f
 simp only [Option.bind_some, if_true]
 by_cases hz : (s.size : Int) > 1500
 ·rw [decide_eq_true hz]
  exact Ev.step (f := fun _ => some true) (fun k => by simp only [lunettelaw12_RuleReads.j0, if_true]; rfl) (Ev.now _)
 rw [decide_eq_false hz]
 have hsz : s.data.toList.length ≤ 1500 := by rw [data_len]; omega
 have start : ∀ r : List S30 × Int × Int, Ev2 (fun kl k => rule_Read.l0 kl k (mk s.data.toList) [] ((1 : Nat) : Int)) r → Ev (fun k => rule_Read.f k s) r := by
  intro r h
  rw [mk_to] at h
  exact h.both
 rcases read_l0 s.data.toList.length s.data.toList [] 1 (Nat.le_refl _) (fun k hk => by cases hk) (by rw [show showL [] = [] from rfl, List.length_nil]; omega) (by omega) with ⟨l', e1, e2, e3⟩ | ⟨a, b, c1, c2, c3, c4, l', c5, c6, c7⟩
 ·have hsl : showL l' = s.data.toList := e3
  have hlen : (showL l').length ≤ 1500 := by rw [hsl]; exact hsz
  refine Ev.step (f := fun k => (rule_Read.f k s).bind fun bt169 => (if bt169.2.2 = 0 then (if bt169.2.1 = 0 then ((lunetteref12_Check.f k bt169.1).bind fun t174 => (if t174 = 0 then ((lunetteref12_Show.f k bt169.1).bind fun t175 => (some (t175.toList == s.toList))) else (some false))) else (some false)) else (if (bt169.1.length : Int) = 0 then (if bt169.2.1 = 0 then (if bt169.2.2 = 122 then (some true) else (some (bt169.2.2 == 121))) else (lunettelaw12_RuleReads.l0 k s bt169.2.1 bt169.2.2 0 1)) else (some false)))) (fun k => by simp only [lunettelaw12_RuleReads.j0, Bool.false_eq_true, if_false]) ?_
  refine (start _ e1).bind ?_
  unfold checkR
  by_cases h0 : checkP l' = 0
  ·rw [if_pos h0]
   simp only [if_true]
   obtain ⟨o1, o2⟩ := inv_ok e2 (by omega)
   refine (refCheck_ev l' o1 o2).bind ?_
   refine Ev.congr (fun k => if_pos h0) ?_
   refine (refShow_ev l' (smallL_of e2 (by omega)) (by omega)).bind ?_
   rw [hsl, mk_to]
   simp only [beq_self_eq_true]
   exact Ev.now _
  ·rw [if_neg h0]
   refine Ev.congr (g := fun k => if checkP l' = 0 then _ else _) (fun k => if_neg h0) ?_
   simp only [List.length_nil]
   rcases (inv_form e2).2 with h | h | h
   ·exact absurd h h0
   ·rw [h]; exact Ev.now _
   ·rw [h]; exact Ev.now _
 ·have hrd : Ev (fun k => rule_Read.f k (mk a)) (checkR l') := by
   exact c7.both
  refine Ev.step (f := fun k => (rule_Read.f k s).bind fun bt169 => (if bt169.2.2 = 0 then (if bt169.2.1 = 0 then ((lunetteref12_Check.f k bt169.1).bind fun t174 => (if t174 = 0 then ((lunetteref12_Show.f k bt169.1).bind fun t175 => (some (t175.toList == s.toList))) else (some false))) else (some false)) else (if (bt169.1.length : Int) = 0 then (if bt169.2.1 = 0 then (if bt169.2.2 = 122 then (some true) else (some (bt169.2.2 == 121))) else (lunettelaw12_RuleReads.l0 k s bt169.2.1 bt169.2.2 0 1)) else (some false)))) (fun k => by simp only [lunettelaw12_RuleReads.j0, Bool.false_eq_true, if_false]) ?_
  refine (start _ c4).bind ?_
  show Ev (fun n => if (120 : Int) = 0 then _ else if (([] : List S30).length : Int) = 0 then (if ((1 + a.count 10 : Nat) : Int) = 0 then _ else lunettelaw12_RuleReads.l0 n s ((1 + a.count 10 : Nat) : Int) 120 0 1) else some false) true
  refine Ev.congr (fun k => (if_neg (by decide)).trans ((if_pos rfl).trans (if_neg (by omega)))) ?_
  have := reads_loop s a b c1 c2 c3 (by omega) l' c5 hrd a.length 0 (Nat.zero_add _)
  rw [List.take_zero] at this
  exact this
theorem ruleReads_walk (w : World) (s : ByteArray) (hs : s.size ≤ 140737488351232) (hT : Tabs w) :
  Calls Tryz.prog 5 #[.string s] w fun e w' => e = .returned (.bool true) ∧ Below w.heap.size w w' := by
 obtain ⟨k, h⟩ := (ruleReads_ev s).rounds
 exact lunettelaw12_RuleReads.callsT k s true w hT h rfl
end Go.Proofs.YtjcipbdocbomjaaGreatDoor.K
