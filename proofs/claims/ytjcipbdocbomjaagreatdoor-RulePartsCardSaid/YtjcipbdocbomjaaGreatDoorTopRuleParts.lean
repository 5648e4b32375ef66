/- Texts of this claim's proof, put together: P5 QP; conditions: as each states. -/
import Derived.Test.YtjcipbdocbomjaaGreatDoorZA
set_option linter.unusedVariables false
set_option linter.unusedSimpArgs false
open Go.RowKit Go.Proofs.YtjcipbdocbomjaaGreatDoorW.PrintWords Go.Proofs.YtjcipbdocbomjaaGreatDoorW.PrintLast Go.Proofs.YtjcipbdocbomjaaGreatDoorW.PrintMore
namespace Go.Proofs.YtjcipbdocbomjaaGreatDoor.K
attribute [local go_sem] max2_int min2_int max_two min_two max_three min_three max_four min_four
mutual
def lunettelaw12_RuleParts.j0 : Nat → List (S30) → Bool → Option (Bool)
 | 0, _, _ => none
 | k + 1, x0, x15 => if x15 = true then ((lunettelaw12_awake.f).bind fun t131 => (some t131)) else (lunettelaw12_RuleParts.l0 k x0 0)
def lunettelaw12_RuleParts.l0 : Nat → List (S30) → Int → Option (Bool)
 | 0, _, _ => none
 | k + 1, x0, x3 => if x3 < (x0.length : Int) then (lunettelaw12_RuleParts.l1 k x0 x3 0) else (some true)
def lunettelaw12_RuleParts.l1 : Nat → List (S30) → Int → Int → Option (Bool)
 | 0, _, _, _ => none
 | k + 1, x0, x3, x4 => if 0 ≤ x3 then (if x3 < (x0.length : Int) then (if x4 < (((rd_T30 x0 x3).f1).length : Int) then (if 0 ≤ x4 then (lunettelaw12_RuleParts.l2 k x0 x3 x4 0 0 0 ((rd_T35 ((rd_T30 x0 x3).f1) x4).f1.f0) ((rd_T35 ((rd_T30 x0 x3).f1) x4).f1.f1) ((rd_T35 ((rd_T30 x0 x3).f1) x4).f1.f2) ((rd_T35 ((rd_T30 x0 x3).f1) x4).f1.f3)) else (none)) else (lunettelaw12_RuleParts.l0 k x0 (wrap64 (x3 + 1)))) else (none)) else (none)
def lunettelaw12_RuleParts.l2 : Nat → List (S30) → Int → Int → Int → Int → Int → ByteArray → ByteArray → ByteArray → List (S33) → Option (Bool)
 | 0, _, _, _, _, _, _, _, _, _, _ => none
 | k + 1, x0, x3, x4, x6, x7, x8, x136000, x136001, x136002, x136003 => if x8 < (x136003.length : Int) then (if 0 ≤ x8 then ((rule_Deep.f k ((rd_T33 x136003 x8).f0) ((rd_T33 x136003 x8).f1) ((rd_T33 x136003 x8).f2) ((rd_T33 x136003 x8).f3)).bind fun t137 => ((rule_Size.f k ((rd_T33 x136003 x8).f0) ((rd_T33 x136003 x8).f1) ((rd_T33 x136003 x8).f2) ((rd_T33 x136003 x8).f3)).bind fun t139 => (lunettelaw12_RuleParts.l2 k x0 x3 x4 (mx x6 t137) (wrap64 (x7 + t139)) (wrap64 (x8 + 1)) x136000 x136001 x136002 x136003))) else (none)) else ((rule_Deep.f k x136000 x136001 x136002 x136003).bind fun t140 => (if t140 = (wrap64 (x6 + 1)) then ((rule_Size.f k x136000 x136001 x136002 x136003).bind fun t141 => (if t141 = (wrap64 (x7 + 1)) then (lunettelaw12_RuleParts.l1 k x0 x3 (wrap64 (x4 + 1))) else (some false))) else (some false)))
end
def lunettelaw12_RuleParts.f (k : Nat) (l0 : List (S30)) : Option (Bool) := (lunettelaw12_awake.f).bind fun t129 => (if t129 = true then ((lunetteref12_Few.f k l0).bind fun t130 => (lunettelaw12_RuleParts.j0 k l0 (!t130))) else (lunettelaw12_RuleParts.j0 k l0 true))
def lunettelaw12_RuleParts.T14 : Bool × List (List Nat × List Nat) := (true, [([], []), ([], []), ([1], [1]), ([], []), ([2, 3], [2, 3]), ([4], [4]), ([5], [5]), ([0, 6], [0, 6]), ([], []), ([], []), ([9], [9]), ([], []), ([10, 11], [10, 11]), ([12], [12]), ([13, 6], [13]), ([8, 14], [8, 14]), ([7, 14, 0, 1, 2, 3, 4, 5, 6, 7], [0, 7]), ([15, 16, 0, 1, 2, 3, 4, 5, 6, 7, 8, 9, 10, 11, 12, 13, 14, 15, 16], [8, 15])])
def lunettelaw12_RuleParts.B14 : List Nat := [0, 0, 2, 0, 14, 30, 62, 127, 0, 0, 512, 0, 3584, 7680, 15998, 32638, 32511, 131071]
theorem lunettelaw12_RuleParts.tab14 : rtab .any (opsOf Tryz.f4 14) = lunettelaw12_RuleParts.T14 := by kernel_rfl
theorem lunettelaw12_RuleParts.bits14 : waitsOk lunettelaw12_RuleParts.T14.2 lunettelaw12_RuleParts.B14 = true := by kernel_rfl
set_option maxHeartbeats 8000000 in
set_option maxRecDepth 100000 in
theorem lunettelaw12_RuleParts.callsT (k : Nat) (A0 : Option Addr) (c0 : Nat) (l0 : List (S30)) (r : Bool) (w : World) (hr0 : Kd.C k30 w A0 l0.length l0) (hc0 : l0.length ≤ c0) (hTab : Tabs w) (h : lunettelaw12_RuleParts.f k l0 = some r) (hT : r = true) :
  Calls Tryz.prog 4 #[.slice A0 l0.length c0] w fun e w' => e = .returned (.bool r) ∧ Below w.heap.size w w' := by
 have HTB := Aside0.mk hTab
 clear hTab
 have hu33 := Tryz.underlying33
 have HR0 := Aside0.mk hr0
 have HC0 := Aside0.mk hc0
 clear hr0 hc0
 have HB := Aside0.mk (Below.refl w.heap.size w)
 have HTRUE := Aside0.mk hT
 clear hT
 have H : ((lunettelaw12_awake.f).bind fun t129 => (if t129 = true then ((lunetteref12_Few.f k l0).bind fun t130 => (lunettelaw12_RuleParts.j0 k l0 (!t130))) else (lunettelaw12_RuleParts.j0 k l0 true))) = some r := h
 clear h
 have HC2 := Aside0.mk H
 clear H
 go_enter Tryz.func4, Tryz.ntmps4
 go_upto_region 1 with (fail)
 go_cut [15] (fun v15 wc => ∃ (kq : Nat) (x15_1 : Bool), v15 = .bool x15_1 ∧ Aside0 (lunettelaw12_RuleParts.j0 kq l0 x15_1 = some r) ∧ Aside0 (kq ≤ k) ∧ Aside0 (Below w.heap.size w wc))
 case first =>
  have H := HC2.out
  clear HC2
  replace H := Option.bind_eq_some_iff.mp H
  obtain ⟨t129, A30, H⟩ := H
  replace H : (if t129 = true then ((lunetteref12_Few.f k l0).bind fun t130 => (lunettelaw12_RuleParts.j0 k l0 (!t130))) else (lunettelaw12_RuleParts.j0 k l0 true)) = some r := H
  have A3 := Aside0.mk A30
  clear A30
  by_cases c4 : t129 = true
  ·subst c4
   have H1 : ((lunetteref12_Few.f k l0).bind fun t130 => (lunettelaw12_RuleParts.j0 k l0 (!t130))) = some r := by rw [if_pos rfl] at H; exact H
   clear H
   have H := H1
   clear H1
   replace H := Option.bind_eq_some_iff.mp H
   obtain ⟨t130, A50, H⟩ := H
   replace H : (lunettelaw12_RuleParts.j0 k l0 (!t130)) = some r := H
   have A5 := Aside0.mk A50
   clear A50
   have H' := Aside0.mk H
   clear H
   go_wp2_with (first | ((with_reducible refine gate_callee (f := 9) rfl ?_); refine goesL_ (some 9) rfl rfl Tryz.func9 (by kernel_rfl) rfl #[] rfl (by (try simp only [List.map_toArray, List.map_cons, List.map_nil]); (done)) ?_; (with_reducible refine (lunettelaw12_awake.calls  true _ A3.out ?sideT).mono ?_); (case sideT => exact Tabs.keep HTB.out (by repeat ((with_reducible (exact HB.out))))); rintro e w6 ⟨rfl, hb⟩; refine ⟨_, rfl, ?_⟩; have n0_ := Aside0.mk (below_step (by repeat ((with_reducible (exact HB.out)))) hb); clear HB; have HB := n0_; clear n0_; (try clear hb)) | (go_at_call 10; (with_reducible refine (lunetteref12_Few.calls k _ _ l0 t130 _ ?side1 ?side2 A5.out).mono ?_); (case side1 => repeat ((exact (Kd.C_below HR0.out HB.out)))); (case side2 => exact HC0.out); rintro e w7 ⟨rfl, hb⟩; have n0_ := Aside0.mk (below_step (by repeat ((with_reducible (exact HB.out)))) hb); clear HB; have HB := n0_; clear n0_; (try clear hb)))
   go_meet
   case rel => exact ⟨_, (!t130), (by (rfl)), H', ⟨by (omega)⟩, ⟨by repeat ((with_reducible (exact HB.out)))⟩⟩
  ·replace c4 := Bool.eq_false_iff.mpr c4
   subst c4
   have H1 : (lunettelaw12_RuleParts.j0 k l0 true) = some r := by rw [if_neg (show ¬ (false = true) by decide)] at H; exact H
   clear H
   have H := H1
   clear H1
   have H' := Aside0.mk H
   clear H
   go_wp2_with (((with_reducible refine gate_callee (f := 9) rfl ?_); refine goesL_ (some 9) rfl rfl Tryz.func9 (by kernel_rfl) rfl #[] rfl (by (try simp only [List.map_toArray, List.map_cons, List.map_nil]); (done)) ?_; (with_reducible refine (lunettelaw12_awake.calls  false _ A3.out ?sideT).mono ?_); (case sideT => exact Tabs.keep HTB.out (by repeat ((with_reducible (exact HB.out))))); rintro e w8 ⟨rfl, hb⟩; refine ⟨_, rfl, ?_⟩; have n0_ := Aside0.mk (below_step (by repeat ((with_reducible (exact HB.out)))) hb); clear HB; have HB := n0_; clear n0_; (try clear hb)))
   go_meet
   case rel => exact ⟨_, (true), (by (rfl)), H', ⟨by (omega)⟩, ⟨by repeat ((with_reducible (exact HB.out)))⟩⟩
 case rest =>
  clear HC2
  obtain ⟨kq, x15_1, rfl, HA, HJ1, HB⟩ := hcut
  cases kq with
  | zero => exact absurd HA.out (by simp [lunettelaw12_RuleParts.j0])
  | succ kj1 =>
   have H := HA.out
   clear HA
   simp only [lunettelaw12_RuleParts.j0] at H
   by_cases c9 : x15_1 = true
   ·subst c9
    have H1 : ((lunettelaw12_awake.f).bind fun t131 => (some t131)) = some r := by rw [if_pos rfl] at H; exact H
    clear H
    have H := H1
    clear H1
    replace H := Option.bind_eq_some_iff.mp H
    obtain ⟨t131, A100, H⟩ := H
    replace H : (some t131) = some r := H
    have A10 := Aside0.mk A100
    clear A100
    obtain rfl := Option.some.inj H
    go_wp2_with (((with_reducible refine gate_callee (f := 9) rfl ?_); refine goesL_ (some 16) rfl rfl Tryz.func9 (by kernel_rfl) rfl #[] rfl (by (try simp only [List.map_toArray, List.map_cons, List.map_nil]); (done)) ?_; (with_reducible refine (lunettelaw12_awake.calls  t131 _ A10.out ?sideT).mono ?_); (case sideT => exact Tabs.keep HTB.out (by repeat ((with_reducible (exact HB.out))))); rintro e w11 ⟨rfl, hb⟩; refine ⟨_, rfl, ?_⟩; have n0_ := Aside0.mk (below_step (by repeat ((with_reducible (exact HB.out)))) hb); clear HB; have HB := n0_; clear n0_; (try clear hb)))
    go_ret
    exact ⟨by (rfl), by repeat ((with_reducible (exact HB.out)))⟩
   ·replace c9 := Bool.eq_false_iff.mpr c9
    subst c9
    have H1 : (lunettelaw12_RuleParts.l0 kj1 l0 0) = some r := by rw [if_neg (show ¬ (false = true) by decide)] at H; exact H
    clear H
    have H := H1
    clear H1
    have H' := Aside0.mk H
    clear H
    go_wp2
    go_loopg [3] kj1 (fun kq v3 w' => ∃ (x3_2 : Int), v3 = .int .i64 x3_2 ∧ Aside0 (lunettelaw12_RuleParts.l0 kq l0 x3_2 = some r) ∧ Aside0 (kq ≤ kj1) ∧ Aside0 (Below w.heap.size w w'))
    case atStart => exact ⟨(0), (by (rfl)), H', ⟨Nat.le_refl _⟩, ⟨by repeat ((with_reducible (exact HB.out)))⟩⟩
    case round =>
     clear H'
     obtain ⟨x3_2, rfl, HA, HK2, HB⟩ := hrel
     cases gk with
     | zero => exact absurd HA.out (by simp [lunettelaw12_RuleParts.l0])
     | succ k2 =>
      have H := HA.out
      clear HA
      simp only [lunettelaw12_RuleParts.l0] at H
      by_cases c12 : x3_2 < (l0.length : Int)
      ·rw [if_pos c12] at H
       have c12b0 : decide (x3_2 < (l0.length : Int)) = true := decide_eq_true c12
       clear c12
       have H' := Aside0.mk H
       clear H
       go_wp2
       go_loopg [4] k2 (fun kq v4 w' => ∃ (x4_3 : Int), v4 = .int .i64 x4_3 ∧ Aside0 (lunettelaw12_RuleParts.l1 kq l0 x3_2 x4_3 = some r) ∧ Aside0 (kq ≤ k2) ∧ Aside0 (Below w.heap.size w w'))
       case atStart => exact ⟨(0), (by (rfl)), H', ⟨Nat.le_refl _⟩, ⟨by repeat ((with_reducible (exact HB.out)))⟩⟩
       case round =>
        clear H'
        try clear c12b0
        obtain ⟨x4_3, rfl, HA, HK3, HB⟩ := hrel
        cases gk with
        | zero => exact absurd HA.out (by simp [lunettelaw12_RuleParts.l1])
        | succ k3 =>
         have H := HA.out
         clear HA
         simp only [lunettelaw12_RuleParts.l1] at H
         by_cases c13 : 0 ≤ x3_2
         ·rw [if_pos c13] at H
          have c13b0 : decide (0 ≤ x3_2) = true := decide_eq_true c13
          clear c13
          by_cases c14 : x3_2 < (l0.length : Int)
          ·rw [if_pos c14] at H
           have c14b0 : decide (x3_2 < (l0.length : Int)) = true := decide_eq_true c14
           clear c14
           by_cases c15 : x4_3 < (((rd_T30 l0 x3_2).f1).length : Int)
           ·rw [if_pos c15] at H
            have c15b0 : decide (x4_3 < (((rd_T30 l0 x3_2).f1).length : Int)) = true := decide_eq_true c15
            clear c15
            by_cases c16 : 0 ≤ x4_3
            ·rw [if_pos c16] at H
             have c16b0 : decide (0 ≤ x4_3) = true := decide_eq_true c16
             clear c16
             have H' := Aside0.mk H
             clear H
             have p132 : 0 ≤ (x3_2 : Int) := of_decide_eq_true (by (with_reducible assumption))
             have q132 : x3_2 < (l0.length : Int) := of_decide_eq_true (by (with_reducible assumption))
             obtain ⟨ad132, A132_1, c132_1, e132, hx132_0, hx132_1, hl132_1, hi132_1⟩ := at_T30 HR0.out x3_2 p132 q132
             cases e132
             replace hx132_0 := (HB.out.cell (World.block_lt_of_cell? w _ hx132_0)).trans hx132_0
             replace hx132_1 := (HB.out.cell (World.block_lt_of_cell? w _ hx132_1)).trans hx132_1
             have HR132_1 := Aside0.mk hi132_1
             have HC132_1 := Aside0.mk hl132_1
             clear hi132_1 hl132_1
             replace p132 := eq_true p132
             replace q132 := eq_true q132
             have p133 : 0 ≤ (x3_2 : Int) := of_decide_eq_true (by (with_reducible assumption))
             have q133 : x3_2 < (l0.length : Int) := of_decide_eq_true (by (with_reducible assumption))
             obtain ⟨ad133, A133_1, c133_1, e133, hx133_0, hx133_1, hl133_1, hi133_1⟩ := at_T30 HR0.out x3_2 p133 q133
             obtain rfl : ad132 = ad133 := (by injection e133)
             replace hx133_0 := (HB.out.cell (World.block_lt_of_cell? w _ hx133_0)).trans hx133_0
             replace hx133_1 := (HB.out.cell (World.block_lt_of_cell? w _ hx133_1)).trans hx133_1
             have HR133_1 := Aside0.mk hi133_1
             have HC133_1 := Aside0.mk hl133_1
             clear hi133_1 hl133_1
             replace p133 := eq_true p133
             replace q133 := eq_true q133
             have ea_ := Option.some.inj (hx132_1.symm.trans hx133_1)
             injection ea_ with ea_ en_ ec_
             subst ea_
             subst ec_
             clear en_
             have p134 : 0 ≤ (x4_3 : Int) := of_decide_eq_true (by (with_reducible assumption))
             have q134 : x4_3 < (((rd_T30 l0 x3_2).f1).length : Int) := of_decide_eq_true (by (with_reducible assumption))
             obtain ⟨ad134, A134_4, c134_4, e134, hx134_0, hx134_1, hx134_2, hx134_3, hx134_4, hl134_4, hi134_4⟩ := at_T35 HR133_1.out x4_3 p134 q134
             cases e134
             replace hx134_0 := (HB.out.cell (World.block_lt_of_cell? w _ hx134_0)).trans hx134_0
             replace hx134_1 := (HB.out.cell (World.block_lt_of_cell? w _ hx134_1)).trans hx134_1
             replace hx134_2 := (HB.out.cell (World.block_lt_of_cell? w _ hx134_2)).trans hx134_2
             replace hx134_3 := (HB.out.cell (World.block_lt_of_cell? w _ hx134_3)).trans hx134_3
             replace hx134_4 := (HB.out.cell (World.block_lt_of_cell? w _ hx134_4)).trans hx134_4
             have HR134_4 := Aside0.mk hi134_4
             have HC134_4 := Aside0.mk hl134_4
             clear hi134_4 hl134_4
             replace p134 := eq_true p134
             replace q134 := eq_true q134
             go_wp2_with (((with_reducible refine gate_dst (N := 5) rfl ?_); refine box_event ?hg (N := 5) ?hd (cs := #[.string (⟨#[]⟩ : ByteArray), .string (⟨#[]⟩ : ByteArray), .string (⟨#[]⟩ : ByteArray), .slice none 0 0]) (t := 33) ?hr ?_; (case hd => rfl); (case hg => rfl); (case hr => (go_simp; done)); intro gb135 hg w17 hbox hb; have n0_ := Aside0.mk (below_step (by repeat ((with_reducible (exact HB.out)))) hb); have n1_ := Aside0.mk (hbox); have n2_ := Aside0.mk ((by rw [hg]; exact (below_size (by repeat ((with_reducible (exact HB.out))))) : w.heap.size ≤ gb135)); have n3_ := Aside0.mk ((by rw [hg]; exact (below_size (by repeat ((with_reducible (exact HB.out))))) : w.heap.size ≤ gb135)); clear HB; have HB := n0_; have BK135 := n1_; have GW135 := n2_; have GE135 := n3_; clear n0_ n1_ n2_ n3_; clear hb hbox hg; have hcz18_0 : w17.cell? ⟨gb135, 0, none⟩ = some (.string (⟨#[]⟩ : ByteArray)) := (blk_cell BK135.out 0).trans rfl; have hcz18_1 : w17.cell? ⟨gb135, 1, none⟩ = some (.string (⟨#[]⟩ : ByteArray)) := (blk_cell BK135.out 1).trans rfl; have hcz18_2 : w17.cell? ⟨gb135, 2, none⟩ = some (.string (⟨#[]⟩ : ByteArray)) := (blk_cell BK135.out 2).trans rfl; have hcz18_3 : w17.cell? ⟨gb135, 3, none⟩ = some (.slice none 0 0) := (blk_cell BK135.out 3).trans rfl; have hfz18_0 := blk_frozen BK135.out 0; have hfz18_1 := blk_frozen BK135.out 1; have hfz18_2 := blk_frozen BK135.out 2; have hfz18_3 := blk_frozen BK135.out 3))
             go_loopg [6, 7, 8] k3 (fun kq v6 v7 v8 w' => ∃ (x6_4 : Int) (x7_4 : Int) (x8_4 : Int), v6 = .int .i64 x6_4 ∧ v7 = .int .i64 x7_4 ∧ v8 = .int .i64 x8_4 ∧ Aside0 (lunettelaw12_RuleParts.l2 kq l0 x3_2 x4_3 x6_4 x7_4 x8_4 ((rd_T35 ((rd_T30 l0 x3_2).f1) x4_3).f1.f0) ((rd_T35 ((rd_T30 l0 x3_2).f1) x4_3).f1.f1) ((rd_T35 ((rd_T30 l0 x3_2).f1) x4_3).f1.f2) ((rd_T35 ((rd_T30 l0 x3_2).f1) x4_3).f1.f3) = some r) ∧ Aside0 (kq ≤ k3) ∧ Aside0 (w'.heap[gb135]? = some (.cells #[.string ((rd_T35 ((rd_T30 l0 x3_2).f1) x4_3).f1.f0), .string ((rd_T35 ((rd_T30 l0 x3_2).f1) x4_3).f1.f1), .string ((rd_T35 ((rd_T30 l0 x3_2).f1) x4_3).f1.f2), (.slice A134_4 ((rd_T35 ((rd_T30 l0 x3_2).f1) x4_3).f1.f3).length c134_4)] 33 (0, 0))) ∧ Aside0 (Below w.heap.size w w'))
             case atStart => exact ⟨(0), (0), (0), (by (rfl)), (by (rfl)), (by (rfl)), H', ⟨Nat.le_refl _⟩, ⟨by (with_reducible repeat ((refine blk_drew ?_))); refine blk_put (cs := #[.string ((rd_T35 ((rd_T30 l0 x3_2).f1) x4_3).f1.f0), .string ((rd_T35 ((rd_T30 l0 x3_2).f1) x4_3).f1.f1), .string ((rd_T35 ((rd_T30 l0 x3_2).f1) x4_3).f1.f2), .slice none 0 0]) ?_ 3 _ rfl; (with_reducible repeat ((refine blk_drew ?_))); refine blk_put (cs := #[.string ((rd_T35 ((rd_T30 l0 x3_2).f1) x4_3).f1.f0), .string ((rd_T35 ((rd_T30 l0 x3_2).f1) x4_3).f1.f1), .string (⟨#[]⟩ : ByteArray), .slice none 0 0]) ?_ 2 _ rfl; (with_reducible repeat ((refine blk_drew ?_))); refine blk_put (cs := #[.string ((rd_T35 ((rd_T30 l0 x3_2).f1) x4_3).f1.f0), .string (⟨#[]⟩ : ByteArray), .string (⟨#[]⟩ : ByteArray), .slice none 0 0]) ?_ 1 _ rfl; (with_reducible repeat ((refine blk_drew ?_))); refine blk_put (cs := #[.string (⟨#[]⟩ : ByteArray), .string (⟨#[]⟩ : ByteArray), .string (⟨#[]⟩ : ByteArray), .slice none 0 0]) ?_ 0 _ rfl; (with_reducible repeat ((refine blk_drew ?_))); exact BK135.out⟩, ⟨by repeat ((with_reducible first | exact HB.out | refine below_set ?_ GE135.out))⟩⟩
             case round =>
              clear H'
              try clear c13b0
              try clear c14b0
              try clear c15b0
              try clear c16b0
              try clear hcz18_0
              try clear hcz18_1
              try clear hcz18_2
              try clear hcz18_3
              try clear hfz18_0
              try clear hfz18_1
              try clear hfz18_2
              try clear hfz18_3
              try clear hx132_0
              try clear hx132_1
              try clear hx133_0
              try clear hx133_1
              try clear hx134_0
              try clear hx134_1
              try clear hx134_2
              try clear hx134_3
              try clear hx134_4
              try clear p132
              try clear p133
              try clear p134
              try clear q132
              try clear q133
              try clear q134
              obtain ⟨x6_4, x7_4, x8_4, rfl, rfl, rfl, HA, HK4, BK135, HB⟩ := hrel
              cases gk with
              | zero => exact absurd HA.out (by simp [lunettelaw12_RuleParts.l2])
              | succ k4 =>
               have H := HA.out
               clear HA
               simp only [lunettelaw12_RuleParts.l2] at H
               by_cases c19 : x8_4 < (((rd_T35 ((rd_T30 l0 x3_2).f1) x4_3).f1.f3).length : Int)
               ·rw [if_pos c19] at H
                have c19b0 : decide (x8_4 < (((rd_T35 ((rd_T30 l0 x3_2).f1) x4_3).f1.f3).length : Int)) = true := decide_eq_true c19
                clear c19
                by_cases c20 : 0 ≤ x8_4
                ·rw [if_pos c20] at H
                 have c20b0 : decide (0 ≤ x8_4) = true := decide_eq_true c20
                 clear c20
                 replace H := Option.bind_eq_some_iff.mp H
                 obtain ⟨t137, A210, H⟩ := H
                 replace H : ((rule_Size.f k4 ((rd_T33 ((rd_T35 ((rd_T30 l0 x3_2).f1) x4_3).f1.f3) x8_4).f0) ((rd_T33 ((rd_T35 ((rd_T30 l0 x3_2).f1) x4_3).f1.f3) x8_4).f1) ((rd_T33 ((rd_T35 ((rd_T30 l0 x3_2).f1) x4_3).f1.f3) x8_4).f2) ((rd_T33 ((rd_T35 ((rd_T30 l0 x3_2).f1) x4_3).f1.f3) x8_4).f3)).bind fun t139 => (lunettelaw12_RuleParts.l2 k4 l0 x3_2 x4_3 (mx x6_4 t137) (wrap64 (x7_4 + t139)) (wrap64 (x8_4 + 1)) ((rd_T35 ((rd_T30 l0 x3_2).f1) x4_3).f1.f0) ((rd_T35 ((rd_T30 l0 x3_2).f1) x4_3).f1.f1) ((rd_T35 ((rd_T30 l0 x3_2).f1) x4_3).f1.f2) ((rd_T35 ((rd_T30 l0 x3_2).f1) x4_3).f1.f3))) = some r := H
                 have A21 := Aside0.mk A210
                 clear A210
                 obtain ⟨ji22, hji22⟩ : ∃ j_ : Int, (mx x6_4 t137) = j_ := ⟨_, rfl⟩
                 replace H : ((rule_Size.f k4 ((rd_T33 ((rd_T35 ((rd_T30 l0 x3_2).f1) x4_3).f1.f3) x8_4).f0) ((rd_T33 ((rd_T35 ((rd_T30 l0 x3_2).f1) x4_3).f1.f3) x8_4).f1) ((rd_T33 ((rd_T35 ((rd_T30 l0 x3_2).f1) x4_3).f1.f3) x8_4).f2) ((rd_T33 ((rd_T35 ((rd_T30 l0 x3_2).f1) x4_3).f1.f3) x8_4).f3)).bind fun t139 => (lunettelaw12_RuleParts.l2 k4 l0 x3_2 x4_3 ji22 (wrap64 (x7_4 + t139)) (wrap64 (x8_4 + 1)) ((rd_T35 ((rd_T30 l0 x3_2).f1) x4_3).f1.f0) ((rd_T35 ((rd_T30 l0 x3_2).f1) x4_3).f1.f1) ((rd_T35 ((rd_T30 l0 x3_2).f1) x4_3).f1.f2) ((rd_T35 ((rd_T30 l0 x3_2).f1) x4_3).f1.f3))) = some r := by (rw [hji22] at H; exact H)
                 (try rw [hji22] at A21)
                 have hji22_ : (if x6_4 < t137 then t137 else x6_4) = ji22 := hji22
                 replace H := Option.bind_eq_some_iff.mp H
                 obtain ⟨t139, A230, H⟩ := H
                 replace H : (lunettelaw12_RuleParts.l2 k4 l0 x3_2 x4_3 ji22 (wrap64 (x7_4 + t139)) (wrap64 (x8_4 + 1)) ((rd_T35 ((rd_T30 l0 x3_2).f1) x4_3).f1.f0) ((rd_T35 ((rd_T30 l0 x3_2).f1) x4_3).f1.f1) ((rd_T35 ((rd_T30 l0 x3_2).f1) x4_3).f1.f2) ((rd_T35 ((rd_T30 l0 x3_2).f1) x4_3).f1.f3)) = some r := H
                 have A23 := Aside0.mk A230
                 clear A230
                 have H' := Aside0.mk H
                 clear H
                 have hcz24_0 : wr.cell? ⟨gb135, 0, none⟩ = some (.string ((rd_T35 ((rd_T30 l0 x3_2).f1) x4_3).f1.f0)) := (blk_cell BK135.out 0).trans rfl
                 have hcz24_1 : wr.cell? ⟨gb135, 1, none⟩ = some (.string ((rd_T35 ((rd_T30 l0 x3_2).f1) x4_3).f1.f1)) := (blk_cell BK135.out 1).trans rfl
                 have hcz24_2 : wr.cell? ⟨gb135, 2, none⟩ = some (.string ((rd_T35 ((rd_T30 l0 x3_2).f1) x4_3).f1.f2)) := (blk_cell BK135.out 2).trans rfl
                 have hcz24_3 : wr.cell? ⟨gb135, 3, none⟩ = some (.slice A134_4 ((rd_T35 ((rd_T30 l0 x3_2).f1) x4_3).f1.f3).length c134_4) := (blk_cell BK135.out 3).trans rfl
                 have hfz24_0 := blk_frozen BK135.out 0
                 have hfz24_1 := blk_frozen BK135.out 1
                 have hfz24_2 := blk_frozen BK135.out 2
                 have hfz24_3 := blk_frozen BK135.out 3
                 try go_wp2
                 have n0_ := Aside0.mk (blk_drew BK135.out)
                 have n1_ := Aside0.mk (below_drew1 HB.out)
                 clear BK135
                 clear HB
                 have BK135 := n0_
                 have HB := n1_
                 clear n0_ n1_
                 have p136 : 0 ≤ (x8_4 : Int) := of_decide_eq_true (by (with_reducible assumption))
                 have q136 : x8_4 < (((rd_T35 ((rd_T30 l0 x3_2).f1) x4_3).f1.f3).length : Int) := of_decide_eq_true (by (with_reducible assumption))
                 obtain ⟨ad136, A136_3, c136_3, e136, hx136_0, hx136_1, hx136_2, hx136_3, hl136_3, hi136_3⟩ := at_T33 HR134_4.out x8_4 p136 q136
                 have hw136_3 := hx136_3
                 have hw136_2 := hx136_2
                 have hw136_1 := hx136_1
                 have hw136_0 := hx136_0
                 cases e136
                 replace hx136_0 := (HB.out.cell (World.block_lt_of_cell? w _ hx136_0)).trans hx136_0
                 replace hx136_1 := (HB.out.cell (World.block_lt_of_cell? w _ hx136_1)).trans hx136_1
                 replace hx136_2 := (HB.out.cell (World.block_lt_of_cell? w _ hx136_2)).trans hx136_2
                 replace hx136_3 := (HB.out.cell (World.block_lt_of_cell? w _ hx136_3)).trans hx136_3
                 have HR136_3 := Aside0.mk hi136_3
                 have HC136_3 := Aside0.mk hl136_3
                 clear hi136_3 hl136_3
                 replace p136 := eq_true p136
                 replace q136 := eq_true q136
                 have p138 : 0 ≤ (x8_4 : Int) := of_decide_eq_true (by (with_reducible assumption))
                 have q138 : x8_4 < (((rd_T35 ((rd_T30 l0 x3_2).f1) x4_3).f1.f3).length : Int) := of_decide_eq_true (by (with_reducible assumption))
                 obtain ⟨ad138, A138_3, c138_3, e138, hx138_0, hx138_1, hx138_2, hx138_3, hl138_3, hi138_3⟩ := at_T33 HR134_4.out x8_4 p138 q138
                 have hw138_3 := hx138_3
                 have hw138_2 := hx138_2
                 have hw138_1 := hx138_1
                 have hw138_0 := hx138_0
                 obtain rfl : ad136 = ad138 := (by injection e138)
                 replace hx138_0 := (HB.out.cell (World.block_lt_of_cell? w _ hx138_0)).trans hx138_0
                 replace hx138_1 := (HB.out.cell (World.block_lt_of_cell? w _ hx138_1)).trans hx138_1
                 replace hx138_2 := (HB.out.cell (World.block_lt_of_cell? w _ hx138_2)).trans hx138_2
                 replace hx138_3 := (HB.out.cell (World.block_lt_of_cell? w _ hx138_3)).trans hx138_3
                 have HR138_3 := Aside0.mk hi138_3
                 have HC138_3 := Aside0.mk hl138_3
                 clear hi138_3 hl138_3
                 replace p138 := eq_true p138
                 replace q138 := eq_true q138
                 have ea_ := Option.some.inj (hx136_3.symm.trans hx138_3)
                 injection ea_ with ea_ en_ ec_
                 subst ea_
                 subst ec_
                 clear en_
                 refine start_ (n := 18) (S := fun w' => w'.cell? ⟨gb135, 0, none⟩ = some (.string ((rd_T35 ((rd_T30 l0 x3_2).f1) x4_3).f1.f0)) ∧ w'.cell? ⟨gb135, 1, none⟩ = some (.string ((rd_T35 ((rd_T30 l0 x3_2).f1) x4_3).f1.f1)) ∧ w'.cell? ⟨gb135, 2, none⟩ = some (.string ((rd_T35 ((rd_T30 l0 x3_2).f1) x4_3).f1.f2)) ∧ w'.cell? ⟨gb135, 3, none⟩ = some (.slice (some ad136) ((rd_T35 ((rd_T30 l0 x3_2).f1) x4_3).f1.f3).length c134_4) ∧ w'.cell? (ad136.add ((x8_4).toNat * 4)) = some (.string ((rd_T33 ((rd_T35 ((rd_T30 l0 x3_2).f1) x4_3).f1.f3) x8_4).f0)) ∧ w'.cell? ⟨(ad136.add ((x8_4).toNat * 4)).block, (ad136.add ((x8_4).toNat * 4)).off + 1, none⟩ = some (.string ((rd_T33 ((rd_T35 ((rd_T30 l0 x3_2).f1) x4_3).f1.f3) x8_4).f1)) ∧ w'.cell? ⟨(ad136.add ((x8_4).toNat * 4)).block, (ad136.add ((x8_4).toNat * 4)).off + 2, none⟩ = some (.string ((rd_T33 ((rd_T35 ((rd_T30 l0 x3_2).f1) x4_3).f1.f3) x8_4).f2)) ∧ w'.cell? ⟨(ad136.add ((x8_4).toNat * 4)).block, (ad136.add ((x8_4).toNat * 4)).off + 3, none⟩ = some (.slice A136_3 ((rd_T33 ((rd_T35 ((rd_T30 l0 x3_2).f1) x4_3).f1.f3) x8_4).f3).length c136_3) ∧ w'.cell? (ad136.add ((x8_4).toNat * 4)) = some (.string ((rd_T33 ((rd_T35 ((rd_T30 l0 x3_2).f1) x4_3).f1.f3) x8_4).f0)) ∧ w'.cell? ⟨(ad136.add ((x8_4).toNat * 4)).block, (ad136.add ((x8_4).toNat * 4)).off + 1, none⟩ = some (.string ((rd_T33 ((rd_T35 ((rd_T30 l0 x3_2).f1) x4_3).f1.f3) x8_4).f1)) ∧ w'.cell? ⟨(ad136.add ((x8_4).toNat * 4)).block, (ad136.add ((x8_4).toNat * 4)).off + 2, none⟩ = some (.string ((rd_T33 ((rd_T35 ((rd_T30 l0 x3_2).f1) x4_3).f1.f3) x8_4).f2)) ∧ w'.cell? ⟨(ad136.add ((x8_4).toNat * 4)).block, (ad136.add ((x8_4).toNat * 4)).off + 3, none⟩ = some (.slice A136_3 ((rd_T33 ((rd_T35 ((rd_T30 l0 x3_2).f1) x4_3).f1.f3) x8_4).f3).length c136_3)) (ds := []) #[false, false, false, false, false, false, false, false, false, false, false, false, false, false, false, false, false, false] (by kernel_rfl) rfl rfl ⟨(blk_cell BK135.out 0).trans rfl, (blk_cell BK135.out 1).trans rfl, (blk_cell BK135.out 2).trans rfl, (blk_cell BK135.out 3).trans rfl, ((HB.out.cell (World.block_lt_of_cell? w _ hw136_0)).trans hw136_0), ((HB.out.cell (World.block_lt_of_cell? w _ hw136_1)).trans hw136_1), ((HB.out.cell (World.block_lt_of_cell? w _ hw136_2)).trans hw136_2), ((HB.out.cell (World.block_lt_of_cell? w _ hw136_3)).trans hw136_3), ((HB.out.cell (World.block_lt_of_cell? w _ hw138_0)).trans hw138_0), ((HB.out.cell (World.block_lt_of_cell? w _ hw138_1)).trans hw138_1), ((HB.out.cell (World.block_lt_of_cell? w _ hw138_2)).trans hw138_2), ((HB.out.cell (World.block_lt_of_cell? w _ hw138_3)).trans hw138_3)⟩ (fun hHeld => ?_); refine with_tabW lunettelaw12_RuleParts.tab14 lunettelaw12_RuleParts.bits14 (fun HT_ HW_ => ?_)
                 generalize wr.drew = w25 at BK135 HB HR136_3 HR138_3 hx136_0 hx136_1 hx136_2 hx136_3 hx138_0 hx138_1 hx138_2 hx138_3 hHeld ⊢
                 refine pure_ (i := 0) (N := some 49) (v := ?_) (a' := ?_) #[true, false, false, false, false, false, false, false, false, false, false, false, false, false, false, false, false, false] rfl rfl (any_of HT_.out (by kernel_rfl)) (fun _ _ _ h => h) (Or.inl ⟨by rfl, ?_⟩) ?_ ?_
                 rotate_left
                 ·intro w'
                  go_simp
                  with_reducible rfl
                 rotate_left
                 ·simp only [Act.put, List.setIfInBounds_toArray, List.set_cons_zero, List.set_cons_succ, i64_w, i32_w]
                  rfl
                 refine pure_ (i := 1) (N := some 50) (v := ?_) (a' := ?_) #[true, true, false, false, false, false, false, false, false, false, false, false, false, false, false, false, false, false] rfl rfl (any_of HT_.out (by kernel_rfl)) (fun _ _ _ h => h) (Or.inl ⟨by rfl, ?_⟩) ?_ ?_
                 rotate_left
                 ·intro w'
                  go_simp
                  with_reducible rfl
                 rotate_left
                 ·simp only [Act.put, List.setIfInBounds_toArray, List.set_cons_zero, List.set_cons_succ, i64_w, i32_w]
                  rfl
                 refine pure_ (i := 3) (N := some 52) (v := ?_) (a' := ?_) #[true, true, false, true, false, false, false, false, false, false, false, false, false, false, false, false, false, false] rfl rfl (any_of HT_.out (by kernel_rfl)) (fun _ _ _ h => h) (Or.inl ⟨by rfl, ?_⟩) ?_ ?_
                 rotate_left
                 ·intro w'
                  go_simp
                  with_reducible rfl
                 rotate_left
                 ·simp only [Act.put, List.setIfInBounds_toArray, List.set_cons_zero, List.set_cons_succ, i64_w, i32_w]
                  rfl
                 refine pure_ (i := 8) (N := some 57) (v := ?_) (a' := ?_) #[true, true, false, true, false, false, false, false, true, false, false, false, false, false, false, false, false, false] rfl rfl (any_of HT_.out (by kernel_rfl)) (fun _ _ _ h => h) (Or.inl ⟨by rfl, ?_⟩) ?_ ?_
                 rotate_left
                 ·intro w'
                  go_simp
                  with_reducible rfl
                 rotate_left
                 ·simp only [Act.put, List.setIfInBounds_toArray, List.set_cons_zero, List.set_cons_succ, i64_w, i32_w]
                  rfl
                 refine pure_ (i := 9) (N := some 58) (v := ?_) (a' := ?_) #[true, true, false, true, false, false, false, false, true, true, false, false, false, false, false, false, false, false] rfl rfl (any_of HT_.out (by kernel_rfl)) (fun _ _ _ h => h) (Or.inl ⟨by rfl, ?_⟩) ?_ ?_
                 rotate_left
                 ·intro w'
                  go_simp
                  with_reducible rfl
                 rotate_left
                 ·simp only [Act.put, List.setIfInBounds_toArray, List.set_cons_zero, List.set_cons_succ, i64_w, i32_w]
                  rfl
                 refine pure_ (i := 11) (N := some 60) (v := ?_) (a' := ?_) #[true, true, false, true, false, false, false, false, true, true, false, true, false, false, false, false, false, false] rfl rfl (any_of HT_.out (by kernel_rfl)) (fun _ _ _ h => h) (Or.inl ⟨by rfl, ?_⟩) ?_ ?_
                 rotate_left
                 ·intro w'
                  go_simp
                  with_reducible rfl
                 rotate_left
                 ·simp only [Act.put, List.setIfInBounds_toArray, List.set_cons_zero, List.set_cons_succ, i64_w, i32_w]
                  rfl
                 refine take_ (i := 2) (N := some 51) (v := ?_) (a' := ?_) #[true, true, true, true, false, false, false, false, true, true, false, true, false, false, false, false, false, false] rfl rfl (take_ofW HT_.out HW_.out (by kernel_rfl)) (fun _ _ _ h => h) (Or.inl ⟨by rfl, ?_⟩) hHeld ?_ ?_
                 rotate_left
                 ·rintro w' ⟨s0, s1, s2, s3, s4, s5, s6, s7, s8, s9, s10, s11⟩
                  go_simp
                  with_reducible rfl
                 rotate_left
                 ·simp only [Act.put, List.setIfInBounds_toArray, List.set_cons_zero, List.set_cons_succ, i64_w, i32_w]
                  rfl
                 refine pure_ (i := 4) (N := some 53) (v := ?_) (a' := ?_) #[true, true, true, true, true, false, false, false, true, true, false, true, false, false, false, false, false, false] rfl rfl (any_of HT_.out (by kernel_rfl)) (fun _ _ _ h => h) (Or.inl ⟨by rfl, ?_⟩) ?_ ?_
                 rotate_left
                 ·intro w'
                  go_simp
                  with_reducible rfl
                 rotate_left
                 ·simp only [Act.put, List.setIfInBounds_toArray, List.set_cons_zero, List.set_cons_succ, i64_w, i32_w]
                  rfl
                 refine take_ (i := 5) (N := some 54) (v := ?_) (a' := ?_) #[true, true, true, true, true, true, false, false, true, true, false, true, false, false, false, false, false, false] rfl rfl (take_ofW HT_.out HW_.out (by kernel_rfl)) (fun _ _ _ h => h) (Or.inl ⟨by rfl, ?_⟩) hHeld ?_ ?_
                 rotate_left
                 ·rintro w' ⟨s0, s1, s2, s3, s4, s5, s6, s7, s8, s9, s10, s11⟩
                  go_simp
                  with_reducible rfl
                 rotate_left
                 ·simp only [Act.put, List.setIfInBounds_toArray, List.set_cons_zero, List.set_cons_succ, i64_w, i32_w]
                  rfl
                 refine take_ (i := 10) (N := some 59) (v := ?_) (a' := ?_) #[true, true, true, true, true, true, false, false, true, true, true, true, false, false, false, false, false, false] rfl rfl (take_ofW HT_.out HW_.out (by kernel_rfl)) (fun _ _ _ h => h) (Or.inl ⟨by rfl, ?_⟩) hHeld ?_ ?_
                 rotate_left
                 ·rintro w' ⟨s0, s1, s2, s3, s4, s5, s6, s7, s8, s9, s10, s11⟩
                  go_simp
                  with_reducible rfl
                 rotate_left
                 ·simp only [Act.put, List.setIfInBounds_toArray, List.set_cons_zero, List.set_cons_succ, i64_w, i32_w]
                  rfl
                 refine pure_ (i := 12) (N := some 61) (v := ?_) (a' := ?_) #[true, true, true, true, true, true, false, false, true, true, true, true, true, false, false, false, false, false] rfl rfl (any_of HT_.out (by kernel_rfl)) (fun _ _ _ h => h) (Or.inl ⟨by rfl, ?_⟩) ?_ ?_
                 rotate_left
                 ·intro w'
                  go_simp
                  with_reducible rfl
                 rotate_left
                 ·simp only [Act.put, List.setIfInBounds_toArray, List.set_cons_zero, List.set_cons_succ, i64_w, i32_w]
                  rfl
                 refine take_ (i := 13) (N := some 62) (v := ?_) (a' := ?_) #[true, true, true, true, true, true, false, false, true, true, true, true, true, true, false, false, false, false] rfl rfl (take_ofW HT_.out HW_.out (by kernel_rfl)) (fun _ _ _ h => h) (Or.inl ⟨by rfl, ?_⟩) hHeld ?_ ?_
                 rotate_left
                 ·rintro w' ⟨s0, s1, s2, s3, s4, s5, s6, s7, s8, s9, s10, s11⟩
                  go_simp
                  with_reducible rfl
                 rotate_left
                 ·simp only [Act.put, List.setIfInBounds_toArray, List.set_cons_zero, List.set_cons_succ, i64_w, i32_w]
                  rfl
                 refine one_ (i := 6) (N := some 55) #[true, true, true, true, true, true, true, false, true, true, true, true, true, true, false, false, false, false] rfl rfl (one_of HT_.out (by kernel_rfl)) (by decide) (fun K hK => ?_)
                 refine goes_ Tryz.func12 (by kernel_rfl) rfl #[.agg #[.string ((rd_T33 ((rd_T35 ((rd_T30 l0 x3_2).f1) x4_3).f1.f3) x8_4).f0), .string ((rd_T33 ((rd_T35 ((rd_T30 l0 x3_2).f1) x4_3).f1.f3) x8_4).f1), .string ((rd_T33 ((rd_T35 ((rd_T30 l0 x3_2).f1) x4_3).f1.f3) x8_4).f2), .slice A136_3 ((rd_T33 ((rd_T35 ((rd_T30 l0 x3_2).f1) x4_3).f1.f3) x8_4).f3).length c136_3]] (by rfl) rfl rfl (by (try simp only [List.map_toArray, List.map_cons, List.map_nil]); (rfl)) ?_
                 with_reducible refine (rule_Deep.calls k4 ((rd_T33 ((rd_T35 ((rd_T30 l0 x3_2).f1) x4_3).f1.f3) x8_4).f0) ((rd_T33 ((rd_T35 ((rd_T30 l0 x3_2).f1) x4_3).f1.f3) x8_4).f1) ((rd_T33 ((rd_T35 ((rd_T30 l0 x3_2).f1) x4_3).f1.f3) x8_4).f2) _ _ ((rd_T33 ((rd_T35 ((rd_T30 l0 x3_2).f1) x4_3).f1.f3) x8_4).f3) t137 _ ?side1 ?side2 A21.out).mono ?_
                 (case side1 => repeat ((exact (Kd.C_below HR136_3.out HB.out))))
                 (case side2 => exact HC136_3.out)
                 rintro e w26 ⟨rfl, hb⟩
                 refine ⟨_, rfl, ?_⟩
                 have n0_ := Aside0.mk (blk_below (g := gb135) (o := .cells #[.string ((rd_T35 ((rd_T30 l0 x3_2).f1) x4_3).f1.f0), .string ((rd_T35 ((rd_T30 l0 x3_2).f1) x4_3).f1.f1), .string ((rd_T35 ((rd_T30 l0 x3_2).f1) x4_3).f1.f2), .slice (some ad136) ((rd_T35 ((rd_T30 l0 x3_2).f1) x4_3).f1.f3).length c134_4] 33 (0, 0)) (by (with_reducible repeat ((refine blk_drew ?_))); exact BK135.out) hb)
                 have n1_ := Aside0.mk (below_step (by repeat ((with_reducible (exact HB.out)))) hb)
                 clear BK135
                 clear HB
                 have BK135 := n0_
                 have HB := n1_
                 clear n0_ n1_
                 (try clear hb)
                 refine hK.out _ _ ⟨(blk_cell BK135.out 0).trans rfl, (blk_cell BK135.out 1).trans rfl, (blk_cell BK135.out 2).trans rfl, (blk_cell BK135.out 3).trans rfl, ((HB.out.cell (World.block_lt_of_cell? w _ hw136_0)).trans hw136_0), ((HB.out.cell (World.block_lt_of_cell? w _ hw136_1)).trans hw136_1), ((HB.out.cell (World.block_lt_of_cell? w _ hw136_2)).trans hw136_2), ((HB.out.cell (World.block_lt_of_cell? w _ hw136_3)).trans hw136_3), ((HB.out.cell (World.block_lt_of_cell? w _ hw138_0)).trans hw138_0), ((HB.out.cell (World.block_lt_of_cell? w _ hw138_1)).trans hw138_1), ((HB.out.cell (World.block_lt_of_cell? w _ hw138_2)).trans hw138_2), ((HB.out.cell (World.block_lt_of_cell? w _ hw138_3)).trans hw138_3)⟩ (fun hHeld => ?_)
                 clear hK K
                 refine norm_ (a' := ?_) ?_ ?_
                 rotate_left
                 ·show Act.put _ (some 55) _ = _
                  simp only [Act.put, List.setIfInBounds_toArray, List.set_cons_zero, List.set_cons_succ, i64_w, i32_w]
                  rfl
                 refine pure_ (i := 7) (N := some 56) (v := ?_) (a' := ?_) #[true, true, true, true, true, true, true, true, true, true, true, true, true, true, false, false, false, false] rfl rfl (any_of HT_.out (by kernel_rfl)) (fun _ _ _ h => h) (Or.inl ⟨by rfl, ?_⟩) ?_ ?_
                 rotate_left
                 ·intro w'
                  go_simp
                  with_reducible rfl
                 rotate_left
                 ·simp only [Act.put, List.setIfInBounds_toArray, List.set_cons_zero, List.set_cons_succ, i64_w, i32_w]
                  rfl
                 refine one_ (i := 14) (N := some 63) #[true, true, true, true, true, true, true, true, true, true, true, true, true, true, true, false, false, false] rfl rfl (one_of HT_.out (by kernel_rfl)) (by decide) (fun K hK => ?_)
                 refine goes_ Tryz.func13 (by kernel_rfl) rfl #[.agg #[.string ((rd_T33 ((rd_T35 ((rd_T30 l0 x3_2).f1) x4_3).f1.f3) x8_4).f0), .string ((rd_T33 ((rd_T35 ((rd_T30 l0 x3_2).f1) x4_3).f1.f3) x8_4).f1), .string ((rd_T33 ((rd_T35 ((rd_T30 l0 x3_2).f1) x4_3).f1.f3) x8_4).f2), .slice A136_3 ((rd_T33 ((rd_T35 ((rd_T30 l0 x3_2).f1) x4_3).f1.f3) x8_4).f3).length c136_3]] (by rfl) rfl rfl (by (try simp only [List.map_toArray, List.map_cons, List.map_nil]); (rfl)) ?_
                 with_reducible refine (rule_Size.calls k4 ((rd_T33 ((rd_T35 ((rd_T30 l0 x3_2).f1) x4_3).f1.f3) x8_4).f0) ((rd_T33 ((rd_T35 ((rd_T30 l0 x3_2).f1) x4_3).f1.f3) x8_4).f1) ((rd_T33 ((rd_T35 ((rd_T30 l0 x3_2).f1) x4_3).f1.f3) x8_4).f2) _ _ ((rd_T33 ((rd_T35 ((rd_T30 l0 x3_2).f1) x4_3).f1.f3) x8_4).f3) t139 _ ?side1 ?side2 A23.out).mono ?_
                 (case side1 => repeat ((exact (Kd.C_below HR138_3.out HB.out))))
                 (case side2 => exact HC138_3.out)
                 rintro e w27 ⟨rfl, hb⟩
                 refine ⟨_, rfl, ?_⟩
                 have n0_ := Aside0.mk (blk_below (g := gb135) (o := .cells #[.string ((rd_T35 ((rd_T30 l0 x3_2).f1) x4_3).f1.f0), .string ((rd_T35 ((rd_T30 l0 x3_2).f1) x4_3).f1.f1), .string ((rd_T35 ((rd_T30 l0 x3_2).f1) x4_3).f1.f2), .slice (some ad136) ((rd_T35 ((rd_T30 l0 x3_2).f1) x4_3).f1.f3).length c134_4] 33 (0, 0)) (by (with_reducible repeat ((refine blk_drew ?_))); exact BK135.out) hb)
                 have n1_ := Aside0.mk (below_step (by repeat ((with_reducible (exact HB.out)))) hb)
                 clear BK135
                 clear HB
                 have BK135 := n0_
                 have HB := n1_
                 clear n0_ n1_
                 (try clear hb)
                 refine hK.out _ _ ⟨(blk_cell BK135.out 0).trans rfl, (blk_cell BK135.out 1).trans rfl, (blk_cell BK135.out 2).trans rfl, (blk_cell BK135.out 3).trans rfl, ((HB.out.cell (World.block_lt_of_cell? w _ hw136_0)).trans hw136_0), ((HB.out.cell (World.block_lt_of_cell? w _ hw136_1)).trans hw136_1), ((HB.out.cell (World.block_lt_of_cell? w _ hw136_2)).trans hw136_2), ((HB.out.cell (World.block_lt_of_cell? w _ hw136_3)).trans hw136_3), ((HB.out.cell (World.block_lt_of_cell? w _ hw138_0)).trans hw138_0), ((HB.out.cell (World.block_lt_of_cell? w _ hw138_1)).trans hw138_1), ((HB.out.cell (World.block_lt_of_cell? w _ hw138_2)).trans hw138_2), ((HB.out.cell (World.block_lt_of_cell? w _ hw138_3)).trans hw138_3)⟩ (fun hHeld => ?_)
                 clear hK K
                 refine norm_ (a' := ?_) ?_ ?_
                 rotate_left
                 ·show Act.put _ (some 63) _ = _
                  simp only [Act.put, List.setIfInBounds_toArray, List.set_cons_zero, List.set_cons_succ, i64_w, i32_w]
                  rfl
                 refine pure_ (i := 15) (N := some 64) (v := ?_) (a' := ?_) #[true, true, true, true, true, true, true, true, true, true, true, true, true, true, true, true, false, false] rfl rfl (any_of HT_.out (by kernel_rfl)) (fun _ _ _ h => h) (Or.inl ⟨by rfl, ?_⟩) ?_ ?_
                 rotate_left
                 ·intro w'
                  go_simp
                  with_reducible rfl
                 rotate_left
                 ·simp only [Act.put, List.setIfInBounds_toArray, List.set_cons_zero, List.set_cons_succ, i64_w, i32_w]
                  rfl
                 refine pure_ (i := 16) (N := some 6) (v := ?_) (a' := ?_) #[true, true, true, true, true, true, true, true, true, true, true, true, true, true, true, true, true, false] rfl rfl (any_of HT_.out (by kernel_rfl)) (fun _ _ _ h => h) (Or.inl ⟨by rfl, ?_⟩) ?_ ?_
                 rotate_left
                 ·intro w'
                  go_simp
                  with_reducible rfl
                 rotate_left
                 ·simp only [Act.put, List.setIfInBounds_toArray, List.set_cons_zero, List.set_cons_succ, i64_w, i32_w]
                  rfl
                 refine pure_ (i := 17) (N := some 7) (v := ?_) (a' := ?_) #[true, true, true, true, true, true, true, true, true, true, true, true, true, true, true, true, true, true] rfl rfl (any_of HT_.out (by kernel_rfl)) (fun _ _ _ h => h) (Or.inl ⟨by rfl, ?_⟩) ?_ ?_
                 rotate_left
                 ·intro w'
                  go_simp
                  with_reducible rfl
                 rotate_left
                 ·simp only [Act.put, List.setIfInBounds_toArray, List.set_cons_zero, List.set_cons_succ, i64_w, i32_w]
                  rfl
                 refine done_ (done_of HT_.out (by kernel_rfl)) ?_
                 try go_wp2
                 go_roundg k4
                 case measure => have := HJ1.out; have := HK2.out; have := HK3.out; have := HK4.out; omega
                 case rel => exact ⟨(ji22), (wrap64 (x7_4 + t139)), (wrap64 (x8_4 + 1)), (by (rfl)), (by (rfl)), (by (rfl)), H', ⟨by have := HJ1.out; have := HK2.out; have := HK3.out; have := HK4.out; omega⟩, ⟨by (with_reducible repeat ((refine blk_drew ?_))); exact BK135.out⟩, ⟨by repeat ((with_reducible (exact HB.out)))⟩⟩
                ·rw [if_neg c20] at H
                 exact absurd H (by simp)
               ·rw [if_neg c19] at H
                have c19b0 : decide (x8_4 < (((rd_T35 ((rd_T30 l0 x3_2).f1) x4_3).f1.f3).length : Int)) = false := decide_eq_false c19
                clear c19
                replace H := Option.bind_eq_some_iff.mp H
                obtain ⟨t140, A280, H⟩ := H
                replace H : (if t140 = (wrap64 (x6_4 + 1)) then ((rule_Size.f k4 ((rd_T35 ((rd_T30 l0 x3_2).f1) x4_3).f1.f0) ((rd_T35 ((rd_T30 l0 x3_2).f1) x4_3).f1.f1) ((rd_T35 ((rd_T30 l0 x3_2).f1) x4_3).f1.f2) ((rd_T35 ((rd_T30 l0 x3_2).f1) x4_3).f1.f3)).bind fun t141 => (if t141 = (wrap64 (x7_4 + 1)) then (lunettelaw12_RuleParts.l1 k4 l0 x3_2 (wrap64 (x4_3 + 1))) else (some false))) else (some false)) = some r := H
                have A28 := Aside0.mk A280
                clear A280
                by_cases c29 : t140 = (wrap64 (x6_4 + 1))
                ·rw [if_pos c29] at H
                 have c29b0 : (t140 == (wrap64 (x6_4 + 1))) = true := beq_iff_eq.mpr c29
                 have c29b1 : (t140 != (wrap64 (x6_4 + 1))) = false := bne_eq_false_iff_eq.mpr c29
                 clear c29
                 replace H := Option.bind_eq_some_iff.mp H
                 obtain ⟨t141, A300, H⟩ := H
                 replace H : (if t141 = (wrap64 (x7_4 + 1)) then (lunettelaw12_RuleParts.l1 k4 l0 x3_2 (wrap64 (x4_3 + 1))) else (some false)) = some r := H
                 have A30 := Aside0.mk A300
                 clear A300
                 by_cases c31 : t141 = (wrap64 (x7_4 + 1))
                 ·rw [if_pos c31] at H
                  have c31b0 : (t141 == (wrap64 (x7_4 + 1))) = true := beq_iff_eq.mpr c31
                  have c31b1 : (t141 != (wrap64 (x7_4 + 1))) = false := bne_eq_false_iff_eq.mpr c31
                  clear c31
                  have H' := Aside0.mk H
                  clear H
                  have hcz32_0 : wr.cell? ⟨gb135, 0, none⟩ = some (.string ((rd_T35 ((rd_T30 l0 x3_2).f1) x4_3).f1.f0)) := (blk_cell BK135.out 0).trans rfl
                  have hcz32_1 : wr.cell? ⟨gb135, 1, none⟩ = some (.string ((rd_T35 ((rd_T30 l0 x3_2).f1) x4_3).f1.f1)) := (blk_cell BK135.out 1).trans rfl
                  have hcz32_2 : wr.cell? ⟨gb135, 2, none⟩ = some (.string ((rd_T35 ((rd_T30 l0 x3_2).f1) x4_3).f1.f2)) := (blk_cell BK135.out 2).trans rfl
                  have hcz32_3 : wr.cell? ⟨gb135, 3, none⟩ = some (.slice A134_4 ((rd_T35 ((rd_T30 l0 x3_2).f1) x4_3).f1.f3).length c134_4) := (blk_cell BK135.out 3).trans rfl
                  have hfz32_0 := blk_frozen BK135.out 0
                  have hfz32_1 := blk_frozen BK135.out 1
                  have hfz32_2 := blk_frozen BK135.out 2
                  have hfz32_3 := blk_frozen BK135.out 3
                  go_wp2_with (first | ((with_reducible refine gate_callee (f := 12) rfl ?_); refine goesL_ (some 66) rfl rfl Tryz.func12 (by kernel_rfl) rfl #[.agg #[.string ((rd_T35 ((rd_T30 l0 x3_2).f1) x4_3).f1.f0), .string ((rd_T35 ((rd_T30 l0 x3_2).f1) x4_3).f1.f1), .string ((rd_T35 ((rd_T30 l0 x3_2).f1) x4_3).f1.f2), .slice A134_4 ((rd_T35 ((rd_T30 l0 x3_2).f1) x4_3).f1.f3).length c134_4]] rfl (by (try simp only [List.map_toArray, List.map_cons, List.map_nil]); (rfl)) ?_; (with_reducible refine (rule_Deep.calls k4 ((rd_T35 ((rd_T30 l0 x3_2).f1) x4_3).f1.f0) ((rd_T35 ((rd_T30 l0 x3_2).f1) x4_3).f1.f1) ((rd_T35 ((rd_T30 l0 x3_2).f1) x4_3).f1.f2) _ _ ((rd_T35 ((rd_T30 l0 x3_2).f1) x4_3).f1.f3) t140 _ ?side1 ?side2 A28.out).mono ?_); (case side1 => repeat ((exact (Kd.C_below HR134_4.out HB.out)))); (case side2 => exact HC134_4.out); rintro e w33 ⟨rfl, hb⟩; refine ⟨_, rfl, ?_⟩; have n0_ := Aside0.mk (blk_below (g := gb135) (o := .cells #[.string ((rd_T35 ((rd_T30 l0 x3_2).f1) x4_3).f1.f0), .string ((rd_T35 ((rd_T30 l0 x3_2).f1) x4_3).f1.f1), .string ((rd_T35 ((rd_T30 l0 x3_2).f1) x4_3).f1.f2), .slice A134_4 ((rd_T35 ((rd_T30 l0 x3_2).f1) x4_3).f1.f3).length c134_4] 33 (0, 0)) (by (with_reducible repeat ((refine blk_drew ?_))); exact BK135.out) hb); have n1_ := Aside0.mk (below_step (by repeat ((with_reducible (exact HB.out)))) hb); clear BK135; clear HB; have BK135 := n0_; have HB := n1_; clear n0_ n1_; (try clear hb); have hcz34_0 : w33.cell? ⟨gb135, 0, none⟩ = some (.string ((rd_T35 ((rd_T30 l0 x3_2).f1) x4_3).f1.f0)) := (blk_cell BK135.out 0).trans rfl; have hcz34_1 : w33.cell? ⟨gb135, 1, none⟩ = some (.string ((rd_T35 ((rd_T30 l0 x3_2).f1) x4_3).f1.f1)) := (blk_cell BK135.out 1).trans rfl; have hcz34_2 : w33.cell? ⟨gb135, 2, none⟩ = some (.string ((rd_T35 ((rd_T30 l0 x3_2).f1) x4_3).f1.f2)) := (blk_cell BK135.out 2).trans rfl; have hcz34_3 : w33.cell? ⟨gb135, 3, none⟩ = some (.slice A134_4 ((rd_T35 ((rd_T30 l0 x3_2).f1) x4_3).f1.f3).length c134_4) := (blk_cell BK135.out 3).trans rfl; have hfz34_0 := blk_frozen BK135.out 0; have hfz34_1 := blk_frozen BK135.out 1; have hfz34_2 := blk_frozen BK135.out 2; have hfz34_3 := blk_frozen BK135.out 3) | (go_at_call 13; (with_reducible refine (rule_Size.calls k4 ((rd_T35 ((rd_T30 l0 x3_2).f1) x4_3).f1.f0) ((rd_T35 ((rd_T30 l0 x3_2).f1) x4_3).f1.f1) ((rd_T35 ((rd_T30 l0 x3_2).f1) x4_3).f1.f2) _ _ ((rd_T35 ((rd_T30 l0 x3_2).f1) x4_3).f1.f3) t141 _ ?side1 ?side2 A30.out).mono ?_); (case side1 => repeat ((exact (Kd.C_below HR134_4.out HB.out)))); (case side2 => exact HC134_4.out); rintro e w35 ⟨rfl, hb⟩; have n0_ := Aside0.mk (blk_below (g := gb135) (o := .cells #[.string ((rd_T35 ((rd_T30 l0 x3_2).f1) x4_3).f1.f0), .string ((rd_T35 ((rd_T30 l0 x3_2).f1) x4_3).f1.f1), .string ((rd_T35 ((rd_T30 l0 x3_2).f1) x4_3).f1.f2), .slice A134_4 ((rd_T35 ((rd_T30 l0 x3_2).f1) x4_3).f1.f3).length c134_4] 33 (0, 0)) (by (with_reducible repeat ((refine blk_drew ?_))); exact BK135.out) hb); have n1_ := Aside0.mk (below_step (by repeat ((with_reducible (exact HB.out)))) hb); clear BK135; clear HB; have BK135 := n0_; have HB := n1_; clear n0_ n1_; (try clear hb)))
                  go_roundg k4
                  case measure => have := HJ1.out; have := HK2.out; have := HK3.out; have := HK4.out; omega
                  case rel => exact ⟨(wrap64 (x4_3 + 1)), (by (rfl)), H', ⟨by have := HJ1.out; have := HK2.out; have := HK3.out; have := HK4.out; omega⟩, ⟨by repeat ((with_reducible (exact HB.out)))⟩⟩
                 ·rw [if_neg c31] at H
                  have c31b0 : (t141 == (wrap64 (x7_4 + 1))) = false := beq_eq_false_iff_ne.mpr c31
                  have c31b1 : (t141 != (wrap64 (x7_4 + 1))) = true := bne_iff_ne.mpr c31
                  exact absurd ((Option.some.inj H).trans HTRUE.out) (by decide)
                ·rw [if_neg c29] at H
                 have c29b0 : (t140 == (wrap64 (x6_4 + 1))) = false := beq_eq_false_iff_ne.mpr c29
                 have c29b1 : (t140 != (wrap64 (x6_4 + 1))) = true := bne_iff_ne.mpr c29
                 exact absurd ((Option.some.inj H).trans HTRUE.out) (by decide)
            ·rw [if_neg c16] at H
             exact absurd H (by simp)
           ·rw [if_neg c15] at H
            have c15b0 : decide (x4_3 < (((rd_T30 l0 x3_2).f1).length : Int)) = false := decide_eq_false c15
            clear c15
            have H' := Aside0.mk H
            clear H
            have p132 : 0 ≤ (x3_2 : Int) := of_decide_eq_true (by (with_reducible assumption))
            have q132 : x3_2 < (l0.length : Int) := of_decide_eq_true (by (with_reducible assumption))
            obtain ⟨ad132, A132_1, c132_1, e132, hx132_0, hx132_1, hl132_1, hi132_1⟩ := at_T30 HR0.out x3_2 p132 q132
            cases e132
            replace hx132_0 := (HB.out.cell (World.block_lt_of_cell? w _ hx132_0)).trans hx132_0
            replace hx132_1 := (HB.out.cell (World.block_lt_of_cell? w _ hx132_1)).trans hx132_1
            have HR132_1 := Aside0.mk hi132_1
            have HC132_1 := Aside0.mk hl132_1
            clear hi132_1 hl132_1
            replace p132 := eq_true p132
            replace q132 := eq_true q132
            go_wp2
            go_roundg k3
            case measure => have := HJ1.out; have := HK2.out; have := HK3.out; omega
            case rel => exact ⟨(wrap64 (x3_2 + 1)), (by (rfl)), H', ⟨by have := HJ1.out; have := HK2.out; have := HK3.out; omega⟩, ⟨by repeat ((with_reducible (exact HB.out)))⟩⟩
          ·rw [if_neg c14] at H
           exact absurd H (by simp)
         ·rw [if_neg c13] at H
          exact absurd H (by simp)
      ·rw [if_neg c12] at H
       have c12b0 : decide (x3_2 < (l0.length : Int)) = false := decide_eq_false c12
       clear c12
       obtain rfl := Option.some.inj H
       go_wp2
       go_ret
       exact ⟨by (rfl), by repeat ((with_reducible (exact HB.out)))⟩
end Go.Proofs.YtjcipbdocbomjaaGreatDoor.K
namespace Go.Proofs.YtjcipbdocbomjaaGreatDoor.K
theorem size_two (x : S33) : wrap64 (x.f3.foldl (fun n y => wrap64 (n + sizeW y)) 0 + 1) = sizeW x := by
 have h : x.f3.foldl (fun n y => wrap64 (n + sizeW y)) 0 = wrap64 (((x.f3.map tsize).sum : Nat) : Int) := by
  have := fold_size x.f3 (fun y _ => sizeW_wrap y) 0
  rw [Nat.zero_add] at this
  exact (congrArg (fun z => x.f3.foldl (fun n y => wrap64 (n + sizeW y)) z) (wrap_small (a := 0) (by omega) (by omega)).symm).trans this
 rw [h, sizeW_wrap, tsize_eq, wrap_add_l, Int.add_comm]
 rfl
theorem parts_l2 (l : List S30) (x : S33) (hs : smallE x = true) (i j : Nat) (hj : j < 1000) (hN : Ev (fun k => lunettelaw12_RuleParts.l1 k l (i : Int) ((j + 1 : Nat) : Int)) true) (m : Nat) :
  ∀ (n : Nat) (d s : Int), n + m = x.f3.length → wrap64 ((x.f3.drop n).foldl (fun a y => mx a (deepW y)) d + 1) = deepW x → wrap64 ((x.f3.drop n).foldl (fun a y => wrap64 (a + sizeW y)) s + 1) = sizeW x →
   Ev (fun k => lunettelaw12_RuleParts.l2 k l (i : Int) (j : Int) d s (n : Int) x.f0 x.f1 x.f2 x.f3) true := by
 have hl := smallE_len hs
 induction m with
 | zero =>
  intro n d s h hd hz
  rw [List.drop_eq_nil_of_le (by omega), List.foldl_nil] at hd hz
  refine Ev.step (f := fun k => (rule_Deep.f k x.f0 x.f1 x.f2 x.f3).bind fun t140 => if t140 = wrap64 (d + 1) then (rule_Size.f k x.f0 x.f1 x.f2 x.f3).bind fun t141 => (if t141 = wrap64 (s + 1) then (lunettelaw12_RuleParts.l1 k l (i : Int) ((j + 1 : Nat) : Int)) else (some false)) else some false) (fun k => ?_) ?_
  ·simp only [lunettelaw12_RuleParts.l2]
   rw [if_neg (by omega), wrap_succ (n := 1000) hj (by omega)]
  ·refine (deep_ev _ x (Nat.lt_succ_self _) hs).bind ?_
   refine Ev.congr (fun k => if_pos hd.symm) ?_
   refine (size_ev _ x (Nat.lt_succ_self _) hs).bind ?_
   exact Ev.congr (fun k => if_pos hz.symm) hN
 | succ m ih =>
  intro n d s h hd hz
  have hn : n < x.f3.length := by omega
  rw [List.drop_eq_getElem_cons hn, List.foldl_cons] at hd hz
  have hy := smallE_mem hs (List.getElem_mem hn)
  refine Ev.step (f := fun k => (rule_Deep.f k x.f3[n].f0 x.f3[n].f1 x.f3[n].f2 x.f3[n].f3).bind fun t137 => (rule_Size.f k x.f3[n].f0 x.f3[n].f1 x.f3[n].f2 x.f3[n].f3).bind fun t139 => lunettelaw12_RuleParts.l2 k l (i : Int) (j : Int) (mx d t137) (wrap64 (s + t139)) ((n + 1 : Nat) : Int) x.f0 x.f1 x.f2 x.f3) (fun k => ?_) ?_
  ·simp only [lunettelaw12_RuleParts.l2]
   rw [if_pos (by omega), if_pos (by omega), rd33 hn, wrap_succ hn hl]
  ·refine (deep_ev _ x.f3[n] (Nat.lt_succ_self _) hy).bind ?_
   refine (size_ev _ x.f3[n] (Nat.lt_succ_self _) hy).bind ?_
   exact ih (n + 1) _ _ (by omega) hd hz
theorem parts_l1 (l : List S30) (i : Nat) (hi : i < l.length) (hl : l[i].f1.length ≤ 70) (hs : ∀ r ∈ l[i].f1, smallE r.f1 = true) (hN : Ev (fun k => lunettelaw12_RuleParts.l0 k l (wrap64 ((i : Int) + 1))) true) (m : Nat) :
  ∀ (j : Nat), j + m = l[i].f1.length → Ev (fun k => lunettelaw12_RuleParts.l1 k l (i : Int) (j : Int)) true := by
 induction m with
 | zero =>
  intro j h
  refine Ev.step (fun k => ?_) hN
  simp only [lunettelaw12_RuleParts.l1]
  rw [if_pos (by omega), if_pos (by omega), rd30 hi, if_neg (by omega)]
 | succ m ih =>
  intro j h
  have hj : j < l[i].f1.length := by omega
  refine Ev.step (f := fun k => lunettelaw12_RuleParts.l2 k l (i : Int) (j : Int) 0 0 ((0 : Nat) : Int) l[i].f1[j].f1.f0 l[i].f1[j].f1.f1 l[i].f1[j].f1.f2 l[i].f1[j].f1.f3) (fun k => ?_) ?_
  ·simp only [lunettelaw12_RuleParts.l1]
   rw [if_pos (by omega), if_pos (by omega), rd30 hi, if_pos (by omega), if_pos (by omega), rd35 hj]
   rfl
  ·exact parts_l2 l l[i].f1[j].f1 (hs _ (List.getElem_mem hj)) i j (by omega) (ih (j + 1) (by omega)) _ 0 0 0 (Nat.zero_add _) (deepW_eq _).symm (size_two _)
theorem parts_l0 (l : List S30) (hf : fewP l = true) (m : Nat) :
  ∀ (i : Nat), i + m = l.length → Ev (fun k => lunettelaw12_RuleParts.l0 k l (i : Int)) true := by
 have hl := fewP_len hf
 induction m with
 | zero =>
  intro i h
  refine Ev.step (f := fun _ => some true) (fun k => ?_) (Ev.now _)
  simp only [lunettelaw12_RuleParts.l0]
  rw [if_neg (by omega)]
 | succ m ih =>
  intro i h
  have hi : i < l.length := by omega
  have hk : l[i] ∈ l := List.getElem_mem hi
  refine Ev.step (f := fun k => lunettelaw12_RuleParts.l1 k l (i : Int) ((0 : Nat) : Int)) (fun k => ?_) ?_
  ·simp only [lunettelaw12_RuleParts.l0]
   rw [if_pos (by omega)]
   rfl
  ·exact parts_l1 l i hi (fewP_kind hf hk).1 (fun r hr => shortP_small _ _ (fewP_rule hf hk hr).1) (by rw [wrap_succ hi (by omega)]; exact ih (i + 1) (by omega)) _ 0 (Nat.zero_add _)
theorem ruleParts_ev (l : List S30) : Ev (fun k => lunettelaw12_RuleParts.f k l) true := by
 unfold lunettelaw12_RuleParts.f lunettelaw12_awake.f
 simp only [Option.bind_some, if_true]
 refine (few_ev l).bind ?_
 cases hf : fewP l with
 | false => exact Ev.step (f := fun _ => some true) (fun k => by simp only [lunettelaw12_RuleParts.j0, Bool.not_false, if_true]; rfl) (Ev.now _)
 | true =>
  refine Ev.step (f := fun k => lunettelaw12_RuleParts.l0 k l ((0 : Nat) : Int)) (fun k => ?_) (parts_l0 l hf l.length 0 (by omega))
  simp only [lunettelaw12_RuleParts.j0, Bool.not_true, Bool.false_eq_true, if_false]
  rfl
theorem ruleParts_walk (w : World) (A : Option Addr) (c : Nat) (l : List S30) (hr : Kd.C k30 w A l.length l) (hc : l.length ≤ c) (hT : Tabs w) :
  Calls Tryz.prog 4 #[.slice A l.length c] w fun e w' => e = .returned (.bool true) ∧ Below w.heap.size w w' := by
 obtain ⟨k, h⟩ := (ruleParts_ev l).rounds
 exact lunettelaw12_RuleParts.callsT k A c l true w hr hc hT h rfl
end Go.Proofs.YtjcipbdocbomjaaGreatDoor.K
