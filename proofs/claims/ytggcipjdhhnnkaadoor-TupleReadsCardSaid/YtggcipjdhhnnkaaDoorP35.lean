-- Written by a program of this session (wip/pp.py over the kit's print.py). Lean checks it.
import Derived.Test.YtggcipjdhhnnkaaDoorP0
import Derived.Test.YtggcipjdhhnnkaaDoorP1
import Derived.Test.YtggcipjdhhnnkaaDoorP2
import Derived.Test.YtggcipjdhhnnkaaDoorP11
import Derived.Test.YtggcipjdhhnnkaaDoorAW
import Derived.Test.YtggcipjdhhnnkaaDoorPMb
import Derived.Test.YtggcipjdhhnnkaaDoorPMf
import Derived.Test.YtggcipjdhhnnkaaDoorPMg
namespace Go.Proofs.YtggcipjdhhnnkaaDoor.K
open Go.RowKit Go.Proofs.YtggcipjdhhnnkaaDoorW.PrintWords Go.Proofs.YtggcipjdhhnnkaaDoorW.PrintLast Go.Proofs.YtggcipjdhhnnkaaDoorW.PrintMore
attribute [local go_sem] max2_int min2_int max_two min_two max_three min_three max_four min_four   -- for this text's walks alone
set_option linter.unusedVariables false
set_option linter.unusedSimpArgs false

attribute [local go_sem high] eqA24 eqA26
/-! ### lunettelaw11_TupleReads: function 8 -/
mutual
def lunettelaw11_TupleReads.j0 : Nat → ByteArray → Bool → Option (Bool)
  | 0, _, _ => none
  | k + 1, x0, x15 => if x15 = true then ((lunettelaw11_awake.f k).bind fun t346 => (some t346)) else ((tuple_Read.f x0).bind fun bt347 => ((tuple_ReadUser.f x0).bind fun bt355 => (if bt347.2.2.2.2.2.2 = 110 then (if (bt347.1.toList == ([] : List UInt8) && (bt347.2.1.toList == ([] : List UInt8) && (bt347.2.2.1.toList == ([] : List UInt8) && ((bt347.2.2.2.1.toList == ([] : List UInt8) && (bt347.2.2.2.2.1.toList == ([] : List UInt8) && (bt347.2.2.2.2.2.1.toList == ([] : List UInt8)))))))) = true then (lunettelaw11_TupleReads.j1 k x0 bt355.2.2.2 true bt355.1 bt355.2.1 bt355.2.2.1) else (if bt347.2.2.2.2.2.2 = 0 then ((lunetteref11_Check.f k bt347.1 bt347.2.1 bt347.2.2.1 bt347.2.2.2.1 bt347.2.2.2.2.1 bt347.2.2.2.2.2.1).bind fun t360 => (if t360 = true then ((lunetteref11_Show.f bt347.1 bt347.2.1 bt347.2.2.1 bt347.2.2.2.1 bt347.2.2.2.2.1 bt347.2.2.2.2.2.1).bind fun t361 => (lunettelaw11_TupleReads.j1 k x0 bt355.2.2.2 (t361.toList == x0.toList) bt355.1 bt355.2.1 bt355.2.2.1)) else (lunettelaw11_TupleReads.j1 k x0 bt355.2.2.2 false bt355.1 bt355.2.1 bt355.2.2.1))) else (lunettelaw11_TupleReads.j1 k x0 bt355.2.2.2 false bt355.1 bt355.2.1 bt355.2.2.1))) else (if bt347.2.2.2.2.2.2 = 0 then ((lunetteref11_Check.f k bt347.1 bt347.2.1 bt347.2.2.1 bt347.2.2.2.1 bt347.2.2.2.2.1 bt347.2.2.2.2.2.1).bind fun t362 => (if t362 = true then ((lunetteref11_Show.f bt347.1 bt347.2.1 bt347.2.2.1 bt347.2.2.2.1 bt347.2.2.2.2.1 bt347.2.2.2.2.2.1).bind fun t363 => (lunettelaw11_TupleReads.j1 k x0 bt355.2.2.2 (t363.toList == x0.toList) bt355.1 bt355.2.1 bt355.2.2.1)) else (lunettelaw11_TupleReads.j1 k x0 bt355.2.2.2 false bt355.1 bt355.2.1 bt355.2.2.1))) else (lunettelaw11_TupleReads.j1 k x0 bt355.2.2.2 false bt355.1 bt355.2.1 bt355.2.2.1)))))
def lunettelaw11_TupleReads.j1 : Nat → ByteArray → Int → Bool → ByteArray → ByteArray → ByteArray → Option (Bool)
  | 0, _, _, _, _, _, _ => none
  | k + 1, x0, x6, x7, x360000, x360001, x360002 => if x6 = 110 then (if (x360000.toList == ([] : List UInt8) && (x360001.toList == ([] : List UInt8) && (x360002.toList == ([] : List UInt8)))) = true then (lunettelaw11_TupleReads.j2 k x0 x7 true) else (if x6 = 0 then ((lunetteref11_User.f k x360000 x360001 x360002).bind fun t364 => (if t364 = true then ((lunetteref11_ShowUser.f x360000 x360001 x360002).bind fun t365 => (lunettelaw11_TupleReads.j2 k x0 x7 (t365.toList == x0.toList))) else (lunettelaw11_TupleReads.j2 k x0 x7 false))) else (lunettelaw11_TupleReads.j2 k x0 x7 false))) else (if x6 = 0 then ((lunetteref11_User.f k x360000 x360001 x360002).bind fun t366 => (if t366 = true then ((lunetteref11_ShowUser.f x360000 x360001 x360002).bind fun t367 => (lunettelaw11_TupleReads.j2 k x0 x7 (t367.toList == x0.toList))) else (lunettelaw11_TupleReads.j2 k x0 x7 false))) else (lunettelaw11_TupleReads.j2 k x0 x7 false))
def lunettelaw11_TupleReads.j2 : Nat → ByteArray → Bool → Bool → Option (Bool)
  | 0, _, _, _ => none
  | k + 1, x0, x7, x8 => if x7 = true then (if x8 = true then ((tuple_Name.f x0).bind fun t368 => ((lunetteref11_Name.f k x0).bind fun t369 => (if (t368 == t369) = true then ((tuple_ID.f x0).bind fun t370 => ((lunetteref11_ID.f k x0).bind fun t371 => (some (t370 == t371)))) else (some false)))) else (some false)) else (some false)
end
def lunettelaw11_TupleReads.f (k : Nat) (a0 : ByteArray) : Option (Bool) := (lunettelaw11_awake.f k).bind fun t345 => (if t345 = true then (lunettelaw11_TupleReads.j0 k a0 (decide ((a0.size : Int) > 400))) else (lunettelaw11_TupleReads.j0 k a0 true))
theorem lunettelaw11_TupleReads.mono_l : ∀ k, (∀ y0 y1, LeO (lunettelaw11_TupleReads.j0 k y0 y1) (lunettelaw11_TupleReads.j0 (k + 1) y0 y1)) ∧ (∀ y0 y1 y2 y3 y4 y5, LeO (lunettelaw11_TupleReads.j1 k y0 y1 y2 y3 y4 y5) (lunettelaw11_TupleReads.j1 (k + 1) y0 y1 y2 y3 y4 y5)) ∧ (∀ y0 y1 y2, LeO (lunettelaw11_TupleReads.j2 k y0 y1 y2) (lunettelaw11_TupleReads.j2 (k + 1) y0 y1 y2))
  | 0 => ⟨fun _ _ r h => by simp [lunettelaw11_TupleReads.j0] at h, fun _ _ _ _ _ _ r h => by simp [lunettelaw11_TupleReads.j1] at h, fun _ _ _ r h => by simp [lunettelaw11_TupleReads.j2] at h⟩
  | k + 1 => by
    obtain ⟨ih0, ih1, ih2⟩ := lunettelaw11_TupleReads.mono_l k
    refine ⟨?_, ?_, ?_⟩
    · intro y0 y1
      unfold lunettelaw11_TupleReads.j0
      repeat' first
      | (with_reducible exact ih0 _ _)
      | (with_reducible exact ih1 _ _ _ _ _ _)
      | (with_reducible exact ih2 _ _ _)
      | (with_reducible exact lunettelaw11_awake.mono _)
      | (with_reducible exact lunetteref11_Check.mono _ _ _ _ _ _ _)
      | (with_reducible exact lunetteref11_ID.mono _ _)
      | (with_reducible exact lunetteref11_Name.mono _ _)
      | (with_reducible exact lunetteref11_User.mono _ _ _ _)
      | (with_reducible exact LeO.refl _)
      | (with_reducible exact LeO.none _)
      | (with_reducible refine LeO.ite ?_ ?_)
      | (with_reducible refine LeO.bind ?_ (fun _ => ?_))
      | exact ih0 _ _
      | exact ih1 _ _ _ _ _ _
      | exact ih2 _ _ _
      | exact lunettelaw11_awake.mono _
      | exact lunetteref11_Check.mono _ _ _ _ _ _ _
      | exact lunetteref11_ID.mono _ _
      | exact lunetteref11_Name.mono _ _
      | exact lunetteref11_User.mono _ _ _ _
      | exact LeO.none _
      | refine LeO.ite ?_ ?_
      | refine LeO.bind ?_ (fun _ => ?_)
    · intro y0 y1 y2 y3 y4 y5
      unfold lunettelaw11_TupleReads.j1
      repeat' first
      | (with_reducible exact ih0 _ _)
      | (with_reducible exact ih1 _ _ _ _ _ _)
      | (with_reducible exact ih2 _ _ _)
      | (with_reducible exact lunettelaw11_awake.mono _)
      | (with_reducible exact lunetteref11_Check.mono _ _ _ _ _ _ _)
      | (with_reducible exact lunetteref11_ID.mono _ _)
      | (with_reducible exact lunetteref11_Name.mono _ _)
      | (with_reducible exact lunetteref11_User.mono _ _ _ _)
      | (with_reducible exact LeO.refl _)
      | (with_reducible exact LeO.none _)
      | (with_reducible refine LeO.ite ?_ ?_)
      | (with_reducible refine LeO.bind ?_ (fun _ => ?_))
      | exact ih0 _ _
      | exact ih1 _ _ _ _ _ _
      | exact ih2 _ _ _
      | exact lunettelaw11_awake.mono _
      | exact lunetteref11_Check.mono _ _ _ _ _ _ _
      | exact lunetteref11_ID.mono _ _
      | exact lunetteref11_Name.mono _ _
      | exact lunetteref11_User.mono _ _ _ _
      | exact LeO.none _
      | refine LeO.ite ?_ ?_
      | refine LeO.bind ?_ (fun _ => ?_)
    · intro y0 y1 y2
      unfold lunettelaw11_TupleReads.j2
      repeat' first
      | (with_reducible exact ih0 _ _)
      | (with_reducible exact ih1 _ _ _ _ _ _)
      | (with_reducible exact ih2 _ _ _)
      | (with_reducible exact lunettelaw11_awake.mono _)
      | (with_reducible exact lunetteref11_Check.mono _ _ _ _ _ _ _)
      | (with_reducible exact lunetteref11_ID.mono _ _)
      | (with_reducible exact lunetteref11_Name.mono _ _)
      | (with_reducible exact lunetteref11_User.mono _ _ _ _)
      | (with_reducible exact LeO.refl _)
      | (with_reducible exact LeO.none _)
      | (with_reducible refine LeO.ite ?_ ?_)
      | (with_reducible refine LeO.bind ?_ (fun _ => ?_))
      | exact ih0 _ _
      | exact ih1 _ _ _ _ _ _
      | exact ih2 _ _ _
      | exact lunettelaw11_awake.mono _
      | exact lunetteref11_Check.mono _ _ _ _ _ _ _
      | exact lunetteref11_ID.mono _ _
      | exact lunetteref11_Name.mono _ _
      | exact lunetteref11_User.mono _ _ _ _
      | exact LeO.none _
      | refine LeO.ite ?_ ?_
      | refine LeO.bind ?_ (fun _ => ?_)
theorem lunettelaw11_TupleReads.mono : ∀ a0 k, LeO (lunettelaw11_TupleReads.f k a0) (lunettelaw11_TupleReads.f (k + 1) a0) := by
  intro a0 k
  obtain ⟨ih0, ih1, ih2⟩ := lunettelaw11_TupleReads.mono_l k
  unfold lunettelaw11_TupleReads.f
  repeat' first
      | (with_reducible exact ih0 _ _)
      | (with_reducible exact ih1 _ _ _ _ _ _)
      | (with_reducible exact ih2 _ _ _)
      | (with_reducible exact lunettelaw11_awake.mono _)
      | (with_reducible exact lunetteref11_Check.mono _ _ _ _ _ _ _)
      | (with_reducible exact lunetteref11_ID.mono _ _)
      | (with_reducible exact lunetteref11_Name.mono _ _)
      | (with_reducible exact lunetteref11_User.mono _ _ _ _)
      | (with_reducible exact LeO.refl _)
      | (with_reducible exact LeO.none _)
      | (with_reducible refine LeO.ite ?_ ?_)
      | (with_reducible refine LeO.bind ?_ (fun _ => ?_))
      | exact ih0 _ _
      | exact ih1 _ _ _ _ _ _
      | exact ih2 _ _ _
      | exact lunettelaw11_awake.mono _
      | exact lunetteref11_Check.mono _ _ _ _ _ _ _
      | exact lunetteref11_ID.mono _ _
      | exact lunetteref11_Name.mono _ _
      | exact lunetteref11_User.mono _ _ _ _
      | exact LeO.none _
      | refine LeO.ite ?_ ?_
      | refine LeO.bind ?_ (fun _ => ?_)
set_option maxHeartbeats 8000000 in
set_option maxRecDepth 100000 in
theorem lunettelaw11_TupleReads.callsT (k : Nat) (a0 : ByteArray) (r : Bool) (w : World) (h : lunettelaw11_TupleReads.f k a0 = some r) (hT : r = true) :
    Calls Tryd.prog 8 #[.string a0] w fun e w' => e = .returned (.bool r) ∧ Below w.heap.size w w' := by
  have hu26 := Tryd.underlying26
  have hu24 := Tryd.underlying24
  have HB := Aside0.mk (Below.refl w.heap.size w)
  have HTRUE := Aside0.mk hT
  clear hT
  have H : ((lunettelaw11_awake.f k).bind fun t345 => (if t345 = true then (lunettelaw11_TupleReads.j0 k a0 (decide ((a0.size : Int) > 400))) else (lunettelaw11_TupleReads.j0 k a0 true))) = some r := h
  clear h
  have HC2 := Aside0.mk H
  clear H
  go_enter Tryd.func8, Tryd.ntmps8
  go_upto_region 1 with (fail)
  go_cut [15] (fun v15 wc => ∃ (kq : Nat) (x15_1 : Bool), v15 = .bool x15_1 ∧ Aside0 (lunettelaw11_TupleReads.j0 kq a0 x15_1 = some r) ∧ Aside0 (kq ≤ k) ∧ Aside0 (Below w.heap.size w wc))
  case first =>
    have H := HC2.out
    clear HC2
    replace H := Option.bind_eq_some_iff.mp H
    obtain ⟨t345, A30, H⟩ := H
    replace H : (if t345 = true then (lunettelaw11_TupleReads.j0 k a0 (decide ((a0.size : Int) > 400))) else (lunettelaw11_TupleReads.j0 k a0 true)) = some r := H
    have A3 := Aside0.mk A30
    clear A30
    by_cases c4 : t345 = true
    · subst c4
      have H1 : (lunettelaw11_TupleReads.j0 k a0 (decide ((a0.size : Int) > 400))) = some r := by rw [if_pos rfl] at H; exact H
      clear H
      have H := H1
      clear H1
      have H' := Aside0.mk H
      clear H
      go_wp2_with (first | ((with_reducible refine gate_callee (f := 11) rfl ?_); refine goesL_ (some 9) rfl rfl Tryd.func11 (by kernel_rfl) rfl #[] rfl (by (try simp only [List.map_toArray, List.map_cons, List.map_nil]); first | done | rfl | (simp only [List.length_drop, List.length_take]; rfl)) ?_; (with_reducible refine (lunettelaw11_awake.calls k  true _ A3.out).mono ?_); rintro e w5 ⟨rfl, hb⟩; refine ⟨_, rfl, ?_⟩; have n0_ := Aside0.mk (below_step (by repeat (first | (with_reducible first | exact HB.out | apply below_alloc | apply pw_below_drewN | apply below_drew1) | exact HB.out)) hb); clear HB; have HB := n0_; clear n0_; (try clear hb); (try clear hb2); (try clear hk); (try clear hi)))
      go_meet
      case rel => exact ⟨_, (decide ((a0.size : Int) > 400)), (by first | rfl | (simp; done) | (simp [*]; done) | ((first | rw [c21e] | rw [c52e]); first | rfl | (simp; done) | (simp [*]; done))), H', ⟨by first | omega | exact Nat.le_refl _⟩, ⟨by repeat (first | (with_reducible first | exact HB.out | apply below_alloc | apply pw_below_drewN | apply below_drew1) | exact HB.out)⟩⟩
    · replace c4 := Bool.eq_false_iff.mpr c4
      subst c4
      have H1 : (lunettelaw11_TupleReads.j0 k a0 true) = some r := by rw [if_neg (show ¬ (false = true) by decide)] at H; exact H
      clear H
      have H := H1
      clear H1
      have H' := Aside0.mk H
      clear H
      go_wp2_with (first | ((with_reducible refine gate_callee (f := 11) rfl ?_); refine goesL_ (some 9) rfl rfl Tryd.func11 (by kernel_rfl) rfl #[] rfl (by (try simp only [List.map_toArray, List.map_cons, List.map_nil]); first | done | rfl | (simp only [List.length_drop, List.length_take]; rfl)) ?_; (with_reducible refine (lunettelaw11_awake.calls k  false _ A3.out).mono ?_); rintro e w6 ⟨rfl, hb⟩; refine ⟨_, rfl, ?_⟩; have n0_ := Aside0.mk (below_step (by repeat (first | (with_reducible first | exact HB.out | apply below_alloc | apply pw_below_drewN | apply below_drew1) | exact HB.out)) hb); clear HB; have HB := n0_; clear n0_; (try clear hb); (try clear hb2); (try clear hk); (try clear hi)))
      go_meet
      case rel => exact ⟨_, (true), (by first | rfl | (simp; done) | (simp [*]; done) | ((first | rw [c21e] | rw [c52e]); first | rfl | (simp; done) | (simp [*]; done))), H', ⟨by first | omega | exact Nat.le_refl _⟩, ⟨by repeat (first | (with_reducible first | exact HB.out | apply below_alloc | apply pw_below_drewN | apply below_drew1) | exact HB.out)⟩⟩
  case rest =>
    clear HC2
    try clear c1
    try clear p2
    try clear c4
    obtain ⟨kq, x15_1, rfl, HA, HJ1, HB⟩ := hcut
    cases kq with
    | zero => exact absurd HA.out (by simp [lunettelaw11_TupleReads.j0])
    | succ kj1 =>
      have H := HA.out
      clear HA
      simp only [lunettelaw11_TupleReads.j0] at H
      by_cases c7 : x15_1 = true
      · subst c7
        have H1 : ((lunettelaw11_awake.f kj1).bind fun t346 => (some t346)) = some r := by rw [if_pos rfl] at H; exact H
        clear H
        have H := H1
        clear H1
        replace H := Option.bind_eq_some_iff.mp H
        obtain ⟨t346, A80, H⟩ := H
        replace H : (some t346) = some r := H
        have A8 := Aside0.mk A80
        clear A80
        obtain rfl := Option.some.inj H
        go_wp2_with (first | ((with_reducible refine gate_callee (f := 11) rfl ?_); refine goesL_ (some 16) rfl rfl Tryd.func11 (by kernel_rfl) rfl #[] rfl (by (try simp only [List.map_toArray, List.map_cons, List.map_nil]); first | done | rfl | (simp only [List.length_drop, List.length_take]; rfl)) ?_; (with_reducible refine (lunettelaw11_awake.calls kj1  t346 _ A8.out).mono ?_); rintro e w9 ⟨rfl, hb⟩; refine ⟨_, rfl, ?_⟩; have n0_ := Aside0.mk (below_step (by repeat (first | (with_reducible first | exact HB.out | apply below_alloc | apply pw_below_drewN | apply below_drew1) | exact HB.out)) hb); clear HB; have HB := n0_; clear n0_; (try clear hb); (try clear hb2); (try clear hk); (try clear hi)))
        go_ret
        exact ⟨by first | rfl | (simp [errW_none, errW_some] <;> rfl) | (simp [*, errW_none, errW_some] <;> rfl), by repeat (first | (with_reducible first | exact HB.out | apply below_alloc | apply pw_below_drewN | apply below_drew1) | exact HB.out)⟩
      · replace c7 := Bool.eq_false_iff.mpr c7
        subst c7
        have H1 : ((tuple_Read.f a0).bind fun bt347 => ((tuple_ReadUser.f a0).bind fun bt355 => (if bt347.2.2.2.2.2.2 = 110 then (if (bt347.1.toList == ([] : List UInt8) && (bt347.2.1.toList == ([] : List UInt8) && (bt347.2.2.1.toList == ([] : List UInt8) && ((bt347.2.2.2.1.toList == ([] : List UInt8) && (bt347.2.2.2.2.1.toList == ([] : List UInt8) && (bt347.2.2.2.2.2.1.toList == ([] : List UInt8)))))))) = true then (lunettelaw11_TupleReads.j1 kj1 a0 bt355.2.2.2 true bt355.1 bt355.2.1 bt355.2.2.1) else (if bt347.2.2.2.2.2.2 = 0 then ((lunetteref11_Check.f kj1 bt347.1 bt347.2.1 bt347.2.2.1 bt347.2.2.2.1 bt347.2.2.2.2.1 bt347.2.2.2.2.2.1).bind fun t360 => (if t360 = true then ((lunetteref11_Show.f bt347.1 bt347.2.1 bt347.2.2.1 bt347.2.2.2.1 bt347.2.2.2.2.1 bt347.2.2.2.2.2.1).bind fun t361 => (lunettelaw11_TupleReads.j1 kj1 a0 bt355.2.2.2 (t361.toList == a0.toList) bt355.1 bt355.2.1 bt355.2.2.1)) else (lunettelaw11_TupleReads.j1 kj1 a0 bt355.2.2.2 false bt355.1 bt355.2.1 bt355.2.2.1))) else (lunettelaw11_TupleReads.j1 kj1 a0 bt355.2.2.2 false bt355.1 bt355.2.1 bt355.2.2.1))) else (if bt347.2.2.2.2.2.2 = 0 then ((lunetteref11_Check.f kj1 bt347.1 bt347.2.1 bt347.2.2.1 bt347.2.2.2.1 bt347.2.2.2.2.1 bt347.2.2.2.2.2.1).bind fun t362 => (if t362 = true then ((lunetteref11_Show.f bt347.1 bt347.2.1 bt347.2.2.1 bt347.2.2.2.1 bt347.2.2.2.2.1 bt347.2.2.2.2.2.1).bind fun t363 => (lunettelaw11_TupleReads.j1 kj1 a0 bt355.2.2.2 (t363.toList == a0.toList) bt355.1 bt355.2.1 bt355.2.2.1)) else (lunettelaw11_TupleReads.j1 kj1 a0 bt355.2.2.2 false bt355.1 bt355.2.1 bt355.2.2.1))) else (lunettelaw11_TupleReads.j1 kj1 a0 bt355.2.2.2 false bt355.1 bt355.2.1 bt355.2.2.1))))) = some r := by rw [if_neg (show ¬ (false = true) by decide)] at H; exact H
        clear H
        have H := H1
        clear H1
        replace H := Option.bind_eq_some_iff.mp H
        obtain ⟨⟨t347, t348, t349, t350, t351, t352, t353⟩, A100, H⟩ := H
        replace H : ((tuple_ReadUser.f a0).bind fun bt355 => (if t353 = 110 then (if (t347.toList == ([] : List UInt8) && (t348.toList == ([] : List UInt8) && (t349.toList == ([] : List UInt8) && ((t350.toList == ([] : List UInt8) && (t351.toList == ([] : List UInt8) && (t352.toList == ([] : List UInt8)))))))) = true then (lunettelaw11_TupleReads.j1 kj1 a0 bt355.2.2.2 true bt355.1 bt355.2.1 bt355.2.2.1) else (if t353 = 0 then ((lunetteref11_Check.f kj1 t347 t348 t349 t350 t351 t352).bind fun t360 => (if t360 = true then ((lunetteref11_Show.f t347 t348 t349 t350 t351 t352).bind fun t361 => (lunettelaw11_TupleReads.j1 kj1 a0 bt355.2.2.2 (t361.toList == a0.toList) bt355.1 bt355.2.1 bt355.2.2.1)) else (lunettelaw11_TupleReads.j1 kj1 a0 bt355.2.2.2 false bt355.1 bt355.2.1 bt355.2.2.1))) else (lunettelaw11_TupleReads.j1 kj1 a0 bt355.2.2.2 false bt355.1 bt355.2.1 bt355.2.2.1))) else (if t353 = 0 then ((lunetteref11_Check.f kj1 t347 t348 t349 t350 t351 t352).bind fun t362 => (if t362 = true then ((lunetteref11_Show.f t347 t348 t349 t350 t351 t352).bind fun t363 => (lunettelaw11_TupleReads.j1 kj1 a0 bt355.2.2.2 (t363.toList == a0.toList) bt355.1 bt355.2.1 bt355.2.2.1)) else (lunettelaw11_TupleReads.j1 kj1 a0 bt355.2.2.2 false bt355.1 bt355.2.1 bt355.2.2.1))) else (lunettelaw11_TupleReads.j1 kj1 a0 bt355.2.2.2 false bt355.1 bt355.2.1 bt355.2.2.1)))) = some r := H
        have A10 := Aside0.mk A100
        clear A100
        replace H := Option.bind_eq_some_iff.mp H
        obtain ⟨⟨t355, t356, t357, t358⟩, A110, H⟩ := H
        replace H : (if t353 = 110 then (if (t347.toList == ([] : List UInt8) && (t348.toList == ([] : List UInt8) && (t349.toList == ([] : List UInt8) && ((t350.toList == ([] : List UInt8) && (t351.toList == ([] : List UInt8) && (t352.toList == ([] : List UInt8)))))))) = true then (lunettelaw11_TupleReads.j1 kj1 a0 t358 true t355 t356 t357) else (if t353 = 0 then ((lunetteref11_Check.f kj1 t347 t348 t349 t350 t351 t352).bind fun t360 => (if t360 = true then ((lunetteref11_Show.f t347 t348 t349 t350 t351 t352).bind fun t361 => (lunettelaw11_TupleReads.j1 kj1 a0 t358 (t361.toList == a0.toList) t355 t356 t357)) else (lunettelaw11_TupleReads.j1 kj1 a0 t358 false t355 t356 t357))) else (lunettelaw11_TupleReads.j1 kj1 a0 t358 false t355 t356 t357))) else (if t353 = 0 then ((lunetteref11_Check.f kj1 t347 t348 t349 t350 t351 t352).bind fun t362 => (if t362 = true then ((lunetteref11_Show.f t347 t348 t349 t350 t351 t352).bind fun t363 => (lunettelaw11_TupleReads.j1 kj1 a0 t358 (t363.toList == a0.toList) t355 t356 t357)) else (lunettelaw11_TupleReads.j1 kj1 a0 t358 false t355 t356 t357))) else (lunettelaw11_TupleReads.j1 kj1 a0 t358 false t355 t356 t357))) = some r := H
        have A11 := Aside0.mk A110
        clear A110
        have HC12 := Aside0.mk H
        clear H
        go_upto_region 5 with (first | ((with_reducible refine gate_callee (f := 23) rfl ?_); refine goesL_ (some 19) rfl rfl Tryd.func23 (by kernel_rfl) rfl #[.string a0] rfl (by (try simp only [List.map_toArray, List.map_cons, List.map_nil]); first | done | rfl | (simp only [List.length_drop, List.length_take]; rfl)) ?_; (with_reducible refine (tuple_Read.calls a0 t347 t348 t349 t350 t351 t352 t353 _ A10.out).mono ?_); rintro e w13 ⟨rfl, hb⟩; refine ⟨_, rfl, ?_⟩; have n0_ := Aside0.mk (below_step (by repeat (first | (with_reducible first | exact HB.out | apply below_alloc | apply pw_below_drewN | apply below_drew1) | exact HB.out)) hb); clear HB; have HB := n0_; clear n0_; (try clear hb); (try clear hb2); (try clear hk); (try clear hi)) | ((with_reducible refine gate_dst (N := 3) rfl ?_); (try (refine gate_guard (by rfl) ?_; dsimp only)); refine box_event ?hg (N := 3) ?hd (cs := #[.string (⟨#[]⟩ : ByteArray), .string (⟨#[]⟩ : ByteArray), .string (⟨#[]⟩ : ByteArray), .string (⟨#[]⟩ : ByteArray), .string (⟨#[]⟩ : ByteArray), .string (⟨#[]⟩ : ByteArray)]) (t := 26) ?hr ?_; (case hd => rfl); (case hg => rfl); (case hr => first | (go_simp; done) | (go_simp; rfl)); intro gb354 hg w14 hbox hb; have n0_ := Aside0.mk (below_step (by repeat (first | (with_reducible first | exact HB.out | apply below_alloc | apply pw_below_drewN | apply below_drew1) | exact HB.out)) hb); have n1_ := Aside0.mk (hbox); have n2_ := Aside0.mk ((by rw [hg]; exact (below_size (by repeat (first | (with_reducible first | exact HB.out | apply below_alloc | apply pw_below_drewN | apply below_drew1) | exact HB.out))) : w.heap.size ≤ gb354)); have n3_ := Aside0.mk ((by rw [hg]; exact (below_size (by repeat (first | (with_reducible first | exact HB.out | apply below_alloc | apply pw_below_drewN | apply below_drew1) | exact HB.out))) : w.heap.size ≤ gb354)); clear HB; have HB := n0_; have BK354 := n1_; have GW354 := n2_; have GE354 := n3_; clear n0_ n1_ n2_ n3_; clear hb hbox hg; have hcz15_0 : w14.cell? ⟨gb354, 0, none⟩ = some (.string (⟨#[]⟩ : ByteArray)) := (blk_cell BK354.out 0).trans rfl; have hcz15_1 : w14.cell? ⟨gb354, 1, none⟩ = some (.string (⟨#[]⟩ : ByteArray)) := (blk_cell BK354.out 1).trans rfl; have hcz15_2 : w14.cell? ⟨gb354, 2, none⟩ = some (.string (⟨#[]⟩ : ByteArray)) := (blk_cell BK354.out 2).trans rfl; have hcz15_3 : w14.cell? ⟨gb354, 3, none⟩ = some (.string (⟨#[]⟩ : ByteArray)) := (blk_cell BK354.out 3).trans rfl; have hcz15_4 : w14.cell? ⟨gb354, 4, none⟩ = some (.string (⟨#[]⟩ : ByteArray)) := (blk_cell BK354.out 4).trans rfl; have hcz15_5 : w14.cell? ⟨gb354, 5, none⟩ = some (.string (⟨#[]⟩ : ByteArray)) := (blk_cell BK354.out 5).trans rfl; have hfz15_0 := blk_frozen BK354.out 0; have hfz15_1 := blk_frozen BK354.out 1; have hfz15_2 := blk_frozen BK354.out 2; have hfz15_3 := blk_frozen BK354.out 3; have hfz15_4 := blk_frozen BK354.out 4; have hfz15_5 := blk_frozen BK354.out 5) | ((with_reducible refine gate_callee (f := 24) rfl ?_); refine goesL_ (some 24) rfl rfl Tryd.func24 (by kernel_rfl) rfl #[.string a0] rfl (by (try simp only [List.map_toArray, List.map_cons, List.map_nil]); first | done | rfl | (simp only [List.length_drop, List.length_take]; rfl)) ?_; (with_reducible refine (tuple_ReadUser.calls a0 t355 t356 t357 t358 _ A11.out).mono ?_); rintro e w16 ⟨rfl, hb⟩; refine ⟨_, rfl, ?_⟩; have n0_ := Aside0.mk (blk_below (g := gb354) (o := .cells #[.string t347, .string t348, .string t349, .string t350, .string t351, .string t352] 26 (0, 0)) (by (with_reducible repeat (first | refine blk_drewN ?_ _ | refine blk_drew ?_ | refine blk_alloc ?_ _)); refine blk_put (cs := #[.string t347, .string t348, .string t349, .string t350, .string t351, .string (⟨#[]⟩ : ByteArray)]) ?_ 5 _ rfl; (with_reducible repeat (first | refine blk_drewN ?_ _ | refine blk_drew ?_ | refine blk_alloc ?_ _)); refine blk_put (cs := #[.string t347, .string t348, .string t349, .string t350, .string (⟨#[]⟩ : ByteArray), .string (⟨#[]⟩ : ByteArray)]) ?_ 4 _ rfl; (with_reducible repeat (first | refine blk_drewN ?_ _ | refine blk_drew ?_ | refine blk_alloc ?_ _)); refine blk_put (cs := #[.string t347, .string t348, .string t349, .string (⟨#[]⟩ : ByteArray), .string (⟨#[]⟩ : ByteArray), .string (⟨#[]⟩ : ByteArray)]) ?_ 3 _ rfl; (with_reducible repeat (first | refine blk_drewN ?_ _ | refine blk_drew ?_ | refine blk_alloc ?_ _)); refine blk_put (cs := #[.string t347, .string t348, .string (⟨#[]⟩ : ByteArray), .string (⟨#[]⟩ : ByteArray), .string (⟨#[]⟩ : ByteArray), .string (⟨#[]⟩ : ByteArray)]) ?_ 2 _ rfl; (with_reducible repeat (first | refine blk_drewN ?_ _ | refine blk_drew ?_ | refine blk_alloc ?_ _)); refine blk_put (cs := #[.string t347, .string (⟨#[]⟩ : ByteArray), .string (⟨#[]⟩ : ByteArray), .string (⟨#[]⟩ : ByteArray), .string (⟨#[]⟩ : ByteArray), .string (⟨#[]⟩ : ByteArray)]) ?_ 1 _ rfl; (with_reducible repeat (first | refine blk_drewN ?_ _ | refine blk_drew ?_ | refine blk_alloc ?_ _)); refine blk_put (cs := #[.string (⟨#[]⟩ : ByteArray), .string (⟨#[]⟩ : ByteArray), .string (⟨#[]⟩ : ByteArray), .string (⟨#[]⟩ : ByteArray), .string (⟨#[]⟩ : ByteArray), .string (⟨#[]⟩ : ByteArray)]) ?_ 0 _ rfl; (with_reducible repeat (first | refine blk_drewN ?_ _ | refine blk_drew ?_ | refine blk_alloc ?_ _)); exact BK354.out) hb); have n1_ := Aside0.mk (below_step (by repeat (first | (with_reducible first | exact HB.out | apply below_alloc | apply pw_below_drewN | apply below_drew1 | refine below_set ?_ GE354.out) | exact HB.out)) hb); clear BK354; clear HB; have BK354 := n0_; have HB := n1_; clear n0_ n1_; (try clear hb); (try clear hb2); (try clear hk); (try clear hi)) | ((with_reducible refine gate_dst (N := 5) rfl ?_); (try (refine gate_guard (by rfl) ?_; dsimp only)); refine box_event ?hg (N := 5) ?hd (cs := #[.string (⟨#[]⟩ : ByteArray), .string (⟨#[]⟩ : ByteArray), .string (⟨#[]⟩ : ByteArray)]) (t := 24) ?hr ?_; (case hd => rfl); (case hg => rfl); (case hr => first | (go_simp; done) | (go_simp; rfl)); intro gb359 hg w17 hbox hb; have n0_ := Aside0.mk (blk_below (g := gb354) (o := .cells #[.string t347, .string t348, .string t349, .string t350, .string t351, .string t352] 26 (0, 0)) (by (with_reducible repeat (first | refine blk_drewN ?_ _ | refine blk_drew ?_ | refine blk_alloc ?_ _)); exact BK354.out) hb); have n1_ := Aside0.mk (below_step (by repeat (first | (with_reducible first | exact HB.out | apply below_alloc | apply pw_below_drewN | apply below_drew1 | refine below_set ?_ GE354.out) | exact HB.out)) hb); have n2_ := Aside0.mk (hbox); have n3_ := Aside0.mk ((by rw [hg]; exact (below_size (by repeat (first | (with_reducible first | exact HB.out | apply below_alloc | apply pw_below_drewN | apply below_drew1 | refine below_set ?_ GE354.out) | exact HB.out))) : w.heap.size ≤ gb359)); have n4_ := Aside0.mk ((by rw [hg]; exact (below_size (by repeat (first | (with_reducible first | exact HB.out | apply below_alloc | apply pw_below_drewN | apply below_drew1 | refine below_set ?_ GE354.out) | exact HB.out))) : w.heap.size ≤ gb359)); have n5_ := Aside0.mk ((by rw [hg]; exact Nat.ne_of_lt (blk_lt (g := gb354) (o := .cells #[.string t347, .string t348, .string t349, .string t350, .string t351, .string t352] 26 (0, 0)) (by (with_reducible repeat (first | refine blk_drewN ?_ _ | refine blk_drew ?_ | refine blk_alloc ?_ _)); exact BK354.out)) : gb354 ≠ gb359)); have n6_ := Aside0.mk ((by rw [hg]; exact Nat.ne_of_gt (blk_lt (g := gb354) (o := .cells #[.string t347, .string t348, .string t349, .string t350, .string t351, .string t352] 26 (0, 0)) (by (with_reducible repeat (first | refine blk_drewN ?_ _ | refine blk_drew ?_ | refine blk_alloc ?_ _)); exact BK354.out)) : gb359 ≠ gb354)); clear BK354; clear HB; have BK354 := n0_; have HB := n1_; have BK359 := n2_; have GW359 := n3_; have GE359 := n4_; have NB354_359 := n5_; have NB359_354 := n6_; clear n0_ n1_ n2_ n3_ n4_ n5_ n6_; clear hb hbox hg; have hnb18 := NB359_354.out; have hnc18 := NB354_359.out; have hcz19_0 : w17.cell? ⟨gb359, 0, none⟩ = some (.string (⟨#[]⟩ : ByteArray)) := (blk_cell BK359.out 0).trans rfl; have hcz19_1 : w17.cell? ⟨gb359, 1, none⟩ = some (.string (⟨#[]⟩ : ByteArray)) := (blk_cell BK359.out 1).trans rfl; have hcz19_2 : w17.cell? ⟨gb359, 2, none⟩ = some (.string (⟨#[]⟩ : ByteArray)) := (blk_cell BK359.out 2).trans rfl; have hfz19_0 := blk_frozen BK359.out 0; have hfz19_1 := blk_frozen BK359.out 1; have hfz19_2 := blk_frozen BK359.out 2))
        (try simp only [Act.put, List.setIfInBounds_toArray, List.set_cons_zero, List.set_cons_succ])
        go_cut [7] (fun v7 wc => ∃ (kq : Nat) (x7_11 : Bool), v7 = .bool x7_11 ∧ Aside0 (lunettelaw11_TupleReads.j1 kq a0 t358 x7_11 t355 t356 t357 = some r) ∧ Aside0 (kq ≤ kj1) ∧ Aside0 (wc.heap[gb354]? = some (.cells #[.string t347, .string t348, .string t349, .string t350, .string t351, .string t352] 26 (0, 0))) ∧ Aside0 (wc.heap[gb359]? = some (.cells #[.string t355, .string t356, .string t357] 24 (0, 0))) ∧ Aside0 (Below w.heap.size w wc))
        case first =>
          have H := HC12.out
          clear HC12
          by_cases c20 : t353 = 110
          · rw [if_pos c20] at H
            have c20b0 : (t353 == 110) = true := beq_iff_eq.mpr c20
            have c20b1 : (t353 != 110) = false := bne_eq_false_iff_eq.mpr c20
            clear c20
            (first | rw [c20b0] | (simp only [i64_w, i32_w]; rw [c20b0]) | skip)
            by_cases c21 : (t347.toList == ([] : List UInt8) && (t348.toList == ([] : List UInt8) && (t349.toList == ([] : List UInt8) && ((t350.toList == ([] : List UInt8) && (t351.toList == ([] : List UInt8) && (t352.toList == ([] : List UInt8)))))))) = true
            · rw [if_pos c21] at H
              have c21b0 : (t347.toList == ([] : List UInt8) && (t348.toList == ([] : List UInt8) && (t349.toList == ([] : List UInt8) && ((t350.toList == ([] : List UInt8) && (t351.toList == ([] : List UInt8) && (t352.toList == ([] : List UInt8)))))))) = true := c21
              have c21e : (t347.toList.isEmpty && (t348.toList.isEmpty && (t349.toList.isEmpty && ((t350.toList.isEmpty && (t351.toList.isEmpty && (t352.toList.isEmpty))))))) = true := by simpa using c21b0
              (try (have c21b1 : decide (t347.toList = ([] : List UInt8) && (t348.toList == ([] : List UInt8) && (t349.toList == ([] : List UInt8) && ((t350.toList == ([] : List UInt8) && (t351.toList == ([] : List UInt8) && (t352.toList == ([] : List UInt8)))))))) = true := by simpa using c21))
              (try (have c21b2 : (t347.toList == ([] : List UInt8) && (t348.toList == ([] : List UInt8) && (t349.toList == ([] : List UInt8) && ((t350.toList == ([] : List UInt8) && (t351.toList == ([] : List UInt8) && (t352.toList == ([] : List UInt8)))))))) = true := by simpa using c21))
              clear c21
              have H' := Aside0.mk H
              clear H
              have hnb22 := NB354_359.out
              have hnc22 := NB359_354.out
              have hcz23_0 : w17.cell? ⟨gb354, 0, none⟩ = some (.string t347) := (blk_cell BK354.out 0).trans rfl
              have hcz23_1 : w17.cell? ⟨gb354, 1, none⟩ = some (.string t348) := (blk_cell BK354.out 1).trans rfl
              have hcz23_2 : w17.cell? ⟨gb354, 2, none⟩ = some (.string t349) := (blk_cell BK354.out 2).trans rfl
              have hcz23_3 : w17.cell? ⟨gb354, 3, none⟩ = some (.string t350) := (blk_cell BK354.out 3).trans rfl
              have hcz23_4 : w17.cell? ⟨gb354, 4, none⟩ = some (.string t351) := (blk_cell BK354.out 4).trans rfl
              have hcz23_5 : w17.cell? ⟨gb354, 5, none⟩ = some (.string t352) := (blk_cell BK354.out 5).trans rfl
              have hfz23_0 := blk_frozen BK354.out 0
              have hfz23_1 := blk_frozen BK354.out 1
              have hfz23_2 := blk_frozen BK354.out 2
              have hfz23_3 := blk_frozen BK354.out 3
              have hfz23_4 := blk_frozen BK354.out 4
              have hfz23_5 := blk_frozen BK354.out 5
              go_wp2
              go_meet
              case rel => exact ⟨_, (true), (by first | rfl | (simp; done) | (simp [*]; done) | ((first | rw [c21e] | rw [c52e]); first | rfl | (simp; done) | (simp [*]; done))), H', ⟨by have := HJ1.out; first | omega | exact Nat.le_refl _⟩, ⟨by (with_reducible repeat (first | refine blk_drewN ?_ _ | refine blk_drew ?_ | refine blk_alloc ?_ _)); refine blk_far ?_ NB354_359.out _; (with_reducible repeat (first | refine blk_drewN ?_ _ | refine blk_drew ?_ | refine blk_alloc ?_ _)); refine blk_far ?_ NB354_359.out _; (with_reducible repeat (first | refine blk_drewN ?_ _ | refine blk_drew ?_ | refine blk_alloc ?_ _)); refine blk_far ?_ NB354_359.out _; (with_reducible repeat (first | refine blk_drewN ?_ _ | refine blk_drew ?_ | refine blk_alloc ?_ _)); exact BK354.out⟩, ⟨by (with_reducible repeat (first | refine blk_drewN ?_ _ | refine blk_drew ?_ | refine blk_alloc ?_ _)); refine blk_put (cs := #[.string t355, .string t356, .string (⟨#[]⟩ : ByteArray)]) ?_ 2 _ rfl; (with_reducible repeat (first | refine blk_drewN ?_ _ | refine blk_drew ?_ | refine blk_alloc ?_ _)); refine blk_put (cs := #[.string t355, .string (⟨#[]⟩ : ByteArray), .string (⟨#[]⟩ : ByteArray)]) ?_ 1 _ rfl; (with_reducible repeat (first | refine blk_drewN ?_ _ | refine blk_drew ?_ | refine blk_alloc ?_ _)); refine blk_put (cs := #[.string (⟨#[]⟩ : ByteArray), .string (⟨#[]⟩ : ByteArray), .string (⟨#[]⟩ : ByteArray)]) ?_ 0 _ rfl; (with_reducible repeat (first | refine blk_drewN ?_ _ | refine blk_drew ?_ | refine blk_alloc ?_ _)); exact BK359.out⟩, ⟨by repeat (first | (with_reducible first | exact HB.out | apply below_alloc | apply pw_below_drewN | apply below_drew1 | refine below_set ?_ GE354.out | refine below_set ?_ GE359.out) | exact HB.out)⟩⟩
            · rw [if_neg c21] at H
              have c21b0 : (t347.toList == ([] : List UInt8) && (t348.toList == ([] : List UInt8) && (t349.toList == ([] : List UInt8) && ((t350.toList == ([] : List UInt8) && (t351.toList == ([] : List UInt8) && (t352.toList == ([] : List UInt8)))))))) = false := by simpa using c21
              have c21e : (t347.toList.isEmpty && (t348.toList.isEmpty && (t349.toList.isEmpty && ((t350.toList.isEmpty && (t351.toList.isEmpty && (t352.toList.isEmpty))))))) = false := by simpa using c21b0
              (try (have c21b1 : decide (t347.toList = ([] : List UInt8) && (t348.toList == ([] : List UInt8) && (t349.toList == ([] : List UInt8) && ((t350.toList == ([] : List UInt8) && (t351.toList == ([] : List UInt8) && (t352.toList == ([] : List UInt8)))))))) = false := by simpa using c21))
              (try (have c21b2 : (t347.toList == ([] : List UInt8) && (t348.toList == ([] : List UInt8) && (t349.toList == ([] : List UInt8) && ((t350.toList == ([] : List UInt8) && (t351.toList == ([] : List UInt8) && (t352.toList == ([] : List UInt8)))))))) = false := by simpa using c21))
              (try (have c21b3 : ¬ (t347.toList = ([] : List UInt8) && (t348.toList == ([] : List UInt8) && (t349.toList == ([] : List UInt8) && ((t350.toList == ([] : List UInt8) && (t351.toList == ([] : List UInt8) && (t352.toList == ([] : List UInt8)))))))) := by simpa using c21))
              clear c21
              by_cases c24 : t353 = 0
              · rw [if_pos c24] at H
                have c24b0 : (t353 == 0) = true := beq_iff_eq.mpr c24
                have c24b1 : (t353 != 0) = false := bne_eq_false_iff_eq.mpr c24
                clear c24
                replace H := Option.bind_eq_some_iff.mp H
                obtain ⟨t360, A250, H⟩ := H
                replace H : (if t360 = true then ((lunetteref11_Show.f t347 t348 t349 t350 t351 t352).bind fun t361 => (lunettelaw11_TupleReads.j1 kj1 a0 t358 (t361.toList == a0.toList) t355 t356 t357)) else (lunettelaw11_TupleReads.j1 kj1 a0 t358 false t355 t356 t357)) = some r := H
                have A25 := Aside0.mk A250
                clear A250
                by_cases c26 : t360 = true
                · subst c26
                  have H1 : ((lunetteref11_Show.f t347 t348 t349 t350 t351 t352).bind fun t361 => (lunettelaw11_TupleReads.j1 kj1 a0 t358 (t361.toList == a0.toList) t355 t356 t357)) = some r := by rw [if_pos rfl] at H; exact H
                  clear H
                  have H := H1
                  clear H1
                  replace H := Option.bind_eq_some_iff.mp H
                  obtain ⟨t361, A270, H⟩ := H
                  replace H : (lunettelaw11_TupleReads.j1 kj1 a0 t358 (t361.toList == a0.toList) t355 t356 t357) = some r := H
                  have A27 := Aside0.mk A270
                  clear A270
                  have H' := Aside0.mk H
                  clear H
                  have hnb28 := NB354_359.out
                  have hnc28 := NB359_354.out
                  have hcz29_0 : w17.cell? ⟨gb354, 0, none⟩ = some (.string t347) := (blk_cell BK354.out 0).trans rfl
                  have hcz29_1 : w17.cell? ⟨gb354, 1, none⟩ = some (.string t348) := (blk_cell BK354.out 1).trans rfl
                  have hcz29_2 : w17.cell? ⟨gb354, 2, none⟩ = some (.string t349) := (blk_cell BK354.out 2).trans rfl
                  have hcz29_3 : w17.cell? ⟨gb354, 3, none⟩ = some (.string t350) := (blk_cell BK354.out 3).trans rfl
                  have hcz29_4 : w17.cell? ⟨gb354, 4, none⟩ = some (.string t351) := (blk_cell BK354.out 4).trans rfl
                  have hcz29_5 : w17.cell? ⟨gb354, 5, none⟩ = some (.string t352) := (blk_cell BK354.out 5).trans rfl
                  have hfz29_0 := blk_frozen BK354.out 0
                  have hfz29_1 := blk_frozen BK354.out 1
                  have hfz29_2 := blk_frozen BK354.out 2
                  have hfz29_3 := blk_frozen BK354.out 3
                  have hfz29_4 := blk_frozen BK354.out 4
                  have hfz29_5 := blk_frozen BK354.out 5
                  go_wp2_with (first | (go_at_call 13; (with_reducible refine (lunetteref11_Check.calls kj1 t347 t348 t349 t350 t351 t352 true _ A25.out).mono ?_); rintro e w30 ⟨rfl, hb⟩; have n0_ := Aside0.mk (blk_below (g := gb354) (o := .cells #[.string t347, .string t348, .string t349, .string t350, .string t351, .string t352] 26 (0, 0)) (by (with_reducible repeat (first | refine blk_drewN ?_ _ | refine blk_drew ?_ | refine blk_alloc ?_ _)); refine blk_far ?_ NB354_359.out _; (with_reducible repeat (first | refine blk_drewN ?_ _ | refine blk_drew ?_ | refine blk_alloc ?_ _)); refine blk_far ?_ NB354_359.out _; (with_reducible repeat (first | refine blk_drewN ?_ _ | refine blk_drew ?_ | refine blk_alloc ?_ _)); refine blk_far ?_ NB354_359.out _; (with_reducible repeat (first | refine blk_drewN ?_ _ | refine blk_drew ?_ | refine blk_alloc ?_ _)); exact BK354.out) hb); have n1_ := Aside0.mk (blk_below (g := gb359) (o := .cells #[.string t355, .string t356, .string t357] 24 (0, 0)) (by (with_reducible repeat (first | refine blk_drewN ?_ _ | refine blk_drew ?_ | refine blk_alloc ?_ _)); refine blk_put (cs := #[.string t355, .string t356, .string (⟨#[]⟩ : ByteArray)]) ?_ 2 _ rfl; (with_reducible repeat (first | refine blk_drewN ?_ _ | refine blk_drew ?_ | refine blk_alloc ?_ _)); refine blk_put (cs := #[.string t355, .string (⟨#[]⟩ : ByteArray), .string (⟨#[]⟩ : ByteArray)]) ?_ 1 _ rfl; (with_reducible repeat (first | refine blk_drewN ?_ _ | refine blk_drew ?_ | refine blk_alloc ?_ _)); refine blk_put (cs := #[.string (⟨#[]⟩ : ByteArray), .string (⟨#[]⟩ : ByteArray), .string (⟨#[]⟩ : ByteArray)]) ?_ 0 _ rfl; (with_reducible repeat (first | refine blk_drewN ?_ _ | refine blk_drew ?_ | refine blk_alloc ?_ _)); exact BK359.out) hb); have n2_ := Aside0.mk (below_step (by repeat (first | (with_reducible first | exact HB.out | apply below_alloc | apply pw_below_drewN | apply below_drew1 | refine below_set ?_ GE354.out | refine below_set ?_ GE359.out) | exact HB.out)) hb); clear BK354; clear BK359; clear HB; have BK354 := n0_; have BK359 := n1_; have HB := n2_; clear n0_ n1_ n2_; (try clear hb); (try clear hb2); (try clear hk); (try clear hi); have hcz31_0 : w30.cell? ⟨gb354, 0, none⟩ = some (.string t347) := (blk_cell BK354.out 0).trans rfl; have hcz31_1 : w30.cell? ⟨gb354, 1, none⟩ = some (.string t348) := (blk_cell BK354.out 1).trans rfl; have hcz31_2 : w30.cell? ⟨gb354, 2, none⟩ = some (.string t349) := (blk_cell BK354.out 2).trans rfl; have hcz31_3 : w30.cell? ⟨gb354, 3, none⟩ = some (.string t350) := (blk_cell BK354.out 3).trans rfl; have hcz31_4 : w30.cell? ⟨gb354, 4, none⟩ = some (.string t351) := (blk_cell BK354.out 4).trans rfl; have hcz31_5 : w30.cell? ⟨gb354, 5, none⟩ = some (.string t352) := (blk_cell BK354.out 5).trans rfl; have hfz31_0 := blk_frozen BK354.out 0; have hfz31_1 := blk_frozen BK354.out 1; have hfz31_2 := blk_frozen BK354.out 2; have hfz31_3 := blk_frozen BK354.out 3; have hfz31_4 := blk_frozen BK354.out 4; have hfz31_5 := blk_frozen BK354.out 5) | (go_at_call 25; (with_reducible refine (lunetteref11_Show.calls t347 t348 t349 t350 t351 t352 t361 _ A27.out).mono ?_); rintro e w32 ⟨rfl, hb⟩; have n0_ := Aside0.mk (blk_below (g := gb354) (o := .cells #[.string t347, .string t348, .string t349, .string t350, .string t351, .string t352] 26 (0, 0)) (by (with_reducible repeat (first | refine blk_drewN ?_ _ | refine blk_drew ?_ | refine blk_alloc ?_ _)); exact BK354.out) hb); have n1_ := Aside0.mk (blk_below (g := gb359) (o := .cells #[.string t355, .string t356, .string t357] 24 (0, 0)) (by (with_reducible repeat (first | refine blk_drewN ?_ _ | refine blk_drew ?_ | refine blk_alloc ?_ _)); exact BK359.out) hb); have n2_ := Aside0.mk (below_step (by repeat (first | (with_reducible first | exact HB.out | apply below_alloc | apply pw_below_drewN | apply below_drew1 | refine below_set ?_ GE354.out | refine below_set ?_ GE359.out) | exact HB.out)) hb); clear BK354; clear BK359; clear HB; have BK354 := n0_; have BK359 := n1_; have HB := n2_; clear n0_ n1_ n2_; (try clear hb); (try clear hb2); (try clear hk); (try clear hi)))
                  go_meet
                  case rel => exact ⟨_, ((t361.toList == a0.toList)), (by first | rfl | (simp; done) | (simp [*]; done) | ((first | rw [c21e] | rw [c52e]); first | rfl | (simp; done) | (simp [*]; done))), H', ⟨by have := HJ1.out; first | omega | exact Nat.le_refl _⟩, ⟨by (with_reducible repeat (first | refine blk_drewN ?_ _ | refine blk_drew ?_ | refine blk_alloc ?_ _)); exact BK354.out⟩, ⟨by (with_reducible repeat (first | refine blk_drewN ?_ _ | refine blk_drew ?_ | refine blk_alloc ?_ _)); exact BK359.out⟩, ⟨by repeat (first | (with_reducible first | exact HB.out | apply below_alloc | apply pw_below_drewN | apply below_drew1 | refine below_set ?_ GE354.out | refine below_set ?_ GE359.out) | exact HB.out)⟩⟩
                · replace c26 := Bool.eq_false_iff.mpr c26
                  subst c26
                  have H1 : (lunettelaw11_TupleReads.j1 kj1 a0 t358 false t355 t356 t357) = some r := by rw [if_neg (show ¬ (false = true) by decide)] at H; exact H
                  clear H
                  have H := H1
                  clear H1
                  have H' := Aside0.mk H
                  clear H
                  have hnb33 := NB354_359.out
                  have hnc33 := NB359_354.out
                  have hcz34_0 : w17.cell? ⟨gb354, 0, none⟩ = some (.string t347) := (blk_cell BK354.out 0).trans rfl
                  have hcz34_1 : w17.cell? ⟨gb354, 1, none⟩ = some (.string t348) := (blk_cell BK354.out 1).trans rfl
                  have hcz34_2 : w17.cell? ⟨gb354, 2, none⟩ = some (.string t349) := (blk_cell BK354.out 2).trans rfl
                  have hcz34_3 : w17.cell? ⟨gb354, 3, none⟩ = some (.string t350) := (blk_cell BK354.out 3).trans rfl
                  have hcz34_4 : w17.cell? ⟨gb354, 4, none⟩ = some (.string t351) := (blk_cell BK354.out 4).trans rfl
                  have hcz34_5 : w17.cell? ⟨gb354, 5, none⟩ = some (.string t352) := (blk_cell BK354.out 5).trans rfl
                  have hfz34_0 := blk_frozen BK354.out 0
                  have hfz34_1 := blk_frozen BK354.out 1
                  have hfz34_2 := blk_frozen BK354.out 2
                  have hfz34_3 := blk_frozen BK354.out 3
                  have hfz34_4 := blk_frozen BK354.out 4
                  have hfz34_5 := blk_frozen BK354.out 5
                  go_wp2_with (first | (go_at_call 13; (with_reducible refine (lunetteref11_Check.calls kj1 t347 t348 t349 t350 t351 t352 false _ A25.out).mono ?_); rintro e w35 ⟨rfl, hb⟩; have n0_ := Aside0.mk (blk_below (g := gb354) (o := .cells #[.string t347, .string t348, .string t349, .string t350, .string t351, .string t352] 26 (0, 0)) (by (with_reducible repeat (first | refine blk_drewN ?_ _ | refine blk_drew ?_ | refine blk_alloc ?_ _)); refine blk_far ?_ NB354_359.out _; (with_reducible repeat (first | refine blk_drewN ?_ _ | refine blk_drew ?_ | refine blk_alloc ?_ _)); refine blk_far ?_ NB354_359.out _; (with_reducible repeat (first | refine blk_drewN ?_ _ | refine blk_drew ?_ | refine blk_alloc ?_ _)); refine blk_far ?_ NB354_359.out _; (with_reducible repeat (first | refine blk_drewN ?_ _ | refine blk_drew ?_ | refine blk_alloc ?_ _)); exact BK354.out) hb); have n1_ := Aside0.mk (blk_below (g := gb359) (o := .cells #[.string t355, .string t356, .string t357] 24 (0, 0)) (by (with_reducible repeat (first | refine blk_drewN ?_ _ | refine blk_drew ?_ | refine blk_alloc ?_ _)); refine blk_put (cs := #[.string t355, .string t356, .string (⟨#[]⟩ : ByteArray)]) ?_ 2 _ rfl; (with_reducible repeat (first | refine blk_drewN ?_ _ | refine blk_drew ?_ | refine blk_alloc ?_ _)); refine blk_put (cs := #[.string t355, .string (⟨#[]⟩ : ByteArray), .string (⟨#[]⟩ : ByteArray)]) ?_ 1 _ rfl; (with_reducible repeat (first | refine blk_drewN ?_ _ | refine blk_drew ?_ | refine blk_alloc ?_ _)); refine blk_put (cs := #[.string (⟨#[]⟩ : ByteArray), .string (⟨#[]⟩ : ByteArray), .string (⟨#[]⟩ : ByteArray)]) ?_ 0 _ rfl; (with_reducible repeat (first | refine blk_drewN ?_ _ | refine blk_drew ?_ | refine blk_alloc ?_ _)); exact BK359.out) hb); have n2_ := Aside0.mk (below_step (by repeat (first | (with_reducible first | exact HB.out | apply below_alloc | apply pw_below_drewN | apply below_drew1 | refine below_set ?_ GE354.out | refine below_set ?_ GE359.out) | exact HB.out)) hb); clear BK354; clear BK359; clear HB; have BK354 := n0_; have BK359 := n1_; have HB := n2_; clear n0_ n1_ n2_; (try clear hb); (try clear hb2); (try clear hk); (try clear hi)))
                  go_meet
                  case rel => exact ⟨_, (false), (by first | rfl | (simp; done) | (simp [*]; done) | ((first | rw [c21e] | rw [c52e]); first | rfl | (simp; done) | (simp [*]; done))), H', ⟨by have := HJ1.out; first | omega | exact Nat.le_refl _⟩, ⟨by (with_reducible repeat (first | refine blk_drewN ?_ _ | refine blk_drew ?_ | refine blk_alloc ?_ _)); exact BK354.out⟩, ⟨by (with_reducible repeat (first | refine blk_drewN ?_ _ | refine blk_drew ?_ | refine blk_alloc ?_ _)); exact BK359.out⟩, ⟨by repeat (first | (with_reducible first | exact HB.out | apply below_alloc | apply pw_below_drewN | apply below_drew1 | refine below_set ?_ GE354.out | refine below_set ?_ GE359.out) | exact HB.out)⟩⟩
              · rw [if_neg c24] at H
                have c24b0 : (t353 == 0) = false := beq_eq_false_iff_ne.mpr c24
                have c24b1 : (t353 != 0) = true := bne_iff_ne.mpr c24
                have H' := Aside0.mk H
                clear H
                have hnb36 := NB354_359.out
                have hnc36 := NB359_354.out
                have hcz37_0 : w17.cell? ⟨gb354, 0, none⟩ = some (.string t347) := (blk_cell BK354.out 0).trans rfl
                have hcz37_1 : w17.cell? ⟨gb354, 1, none⟩ = some (.string t348) := (blk_cell BK354.out 1).trans rfl
                have hcz37_2 : w17.cell? ⟨gb354, 2, none⟩ = some (.string t349) := (blk_cell BK354.out 2).trans rfl
                have hcz37_3 : w17.cell? ⟨gb354, 3, none⟩ = some (.string t350) := (blk_cell BK354.out 3).trans rfl
                have hcz37_4 : w17.cell? ⟨gb354, 4, none⟩ = some (.string t351) := (blk_cell BK354.out 4).trans rfl
                have hcz37_5 : w17.cell? ⟨gb354, 5, none⟩ = some (.string t352) := (blk_cell BK354.out 5).trans rfl
                have hfz37_0 := blk_frozen BK354.out 0
                have hfz37_1 := blk_frozen BK354.out 1
                have hfz37_2 := blk_frozen BK354.out 2
                have hfz37_3 := blk_frozen BK354.out 3
                have hfz37_4 := blk_frozen BK354.out 4
                have hfz37_5 := blk_frozen BK354.out 5
                go_wp2
                go_meet
                case rel => exact ⟨_, (false), (by first | rfl | (simp; done) | (simp [*]; done) | ((first | rw [c21e] | rw [c52e]); first | rfl | (simp; done) | (simp [*]; done))), H', ⟨by have := HJ1.out; first | omega | exact Nat.le_refl _⟩, ⟨by (with_reducible repeat (first | refine blk_drewN ?_ _ | refine blk_drew ?_ | refine blk_alloc ?_ _)); refine blk_far ?_ NB354_359.out _; (with_reducible repeat (first | refine blk_drewN ?_ _ | refine blk_drew ?_ | refine blk_alloc ?_ _)); refine blk_far ?_ NB354_359.out _; (with_reducible repeat (first | refine blk_drewN ?_ _ | refine blk_drew ?_ | refine blk_alloc ?_ _)); refine blk_far ?_ NB354_359.out _; (with_reducible repeat (first | refine blk_drewN ?_ _ | refine blk_drew ?_ | refine blk_alloc ?_ _)); exact BK354.out⟩, ⟨by (with_reducible repeat (first | refine blk_drewN ?_ _ | refine blk_drew ?_ | refine blk_alloc ?_ _)); refine blk_put (cs := #[.string t355, .string t356, .string (⟨#[]⟩ : ByteArray)]) ?_ 2 _ rfl; (with_reducible repeat (first | refine blk_drewN ?_ _ | refine blk_drew ?_ | refine blk_alloc ?_ _)); refine blk_put (cs := #[.string t355, .string (⟨#[]⟩ : ByteArray), .string (⟨#[]⟩ : ByteArray)]) ?_ 1 _ rfl; (with_reducible repeat (first | refine blk_drewN ?_ _ | refine blk_drew ?_ | refine blk_alloc ?_ _)); refine blk_put (cs := #[.string (⟨#[]⟩ : ByteArray), .string (⟨#[]⟩ : ByteArray), .string (⟨#[]⟩ : ByteArray)]) ?_ 0 _ rfl; (with_reducible repeat (first | refine blk_drewN ?_ _ | refine blk_drew ?_ | refine blk_alloc ?_ _)); exact BK359.out⟩, ⟨by repeat (first | (with_reducible first | exact HB.out | apply below_alloc | apply pw_below_drewN | apply below_drew1 | refine below_set ?_ GE354.out | refine below_set ?_ GE359.out) | exact HB.out)⟩⟩
          · rw [if_neg c20] at H
            have c20b0 : (t353 == 110) = false := beq_eq_false_iff_ne.mpr c20
            have c20b1 : (t353 != 110) = true := bne_iff_ne.mpr c20
            (first | rw [c20b0] | (simp only [i64_w, i32_w]; rw [c20b0]) | skip)
            by_cases c38 : t353 = 0
            · rw [if_pos c38] at H
              have c38b0 : (t353 == 0) = true := beq_iff_eq.mpr c38
              have c38b1 : (t353 != 0) = false := bne_eq_false_iff_eq.mpr c38
              clear c38
              replace H := Option.bind_eq_some_iff.mp H
              obtain ⟨t362, A390, H⟩ := H
              replace H : (if t362 = true then ((lunetteref11_Show.f t347 t348 t349 t350 t351 t352).bind fun t363 => (lunettelaw11_TupleReads.j1 kj1 a0 t358 (t363.toList == a0.toList) t355 t356 t357)) else (lunettelaw11_TupleReads.j1 kj1 a0 t358 false t355 t356 t357)) = some r := H
              have A39 := Aside0.mk A390
              clear A390
              by_cases c40 : t362 = true
              · subst c40
                have H1 : ((lunetteref11_Show.f t347 t348 t349 t350 t351 t352).bind fun t363 => (lunettelaw11_TupleReads.j1 kj1 a0 t358 (t363.toList == a0.toList) t355 t356 t357)) = some r := by rw [if_pos rfl] at H; exact H
                clear H
                have H := H1
                clear H1
                replace H := Option.bind_eq_some_iff.mp H
                obtain ⟨t363, A410, H⟩ := H
                replace H : (lunettelaw11_TupleReads.j1 kj1 a0 t358 (t363.toList == a0.toList) t355 t356 t357) = some r := H
                have A41 := Aside0.mk A410
                clear A410
                have H' := Aside0.mk H
                clear H
                have hnb42 := NB354_359.out
                have hnc42 := NB359_354.out
                have hcz43_0 : w17.cell? ⟨gb354, 0, none⟩ = some (.string t347) := (blk_cell BK354.out 0).trans rfl
                have hcz43_1 : w17.cell? ⟨gb354, 1, none⟩ = some (.string t348) := (blk_cell BK354.out 1).trans rfl
                have hcz43_2 : w17.cell? ⟨gb354, 2, none⟩ = some (.string t349) := (blk_cell BK354.out 2).trans rfl
                have hcz43_3 : w17.cell? ⟨gb354, 3, none⟩ = some (.string t350) := (blk_cell BK354.out 3).trans rfl
                have hcz43_4 : w17.cell? ⟨gb354, 4, none⟩ = some (.string t351) := (blk_cell BK354.out 4).trans rfl
                have hcz43_5 : w17.cell? ⟨gb354, 5, none⟩ = some (.string t352) := (blk_cell BK354.out 5).trans rfl
                have hfz43_0 := blk_frozen BK354.out 0
                have hfz43_1 := blk_frozen BK354.out 1
                have hfz43_2 := blk_frozen BK354.out 2
                have hfz43_3 := blk_frozen BK354.out 3
                have hfz43_4 := blk_frozen BK354.out 4
                have hfz43_5 := blk_frozen BK354.out 5
                go_wp2_with (first | (go_at_call 13; (with_reducible refine (lunetteref11_Check.calls kj1 t347 t348 t349 t350 t351 t352 true _ A39.out).mono ?_); rintro e w44 ⟨rfl, hb⟩; have n0_ := Aside0.mk (blk_below (g := gb354) (o := .cells #[.string t347, .string t348, .string t349, .string t350, .string t351, .string t352] 26 (0, 0)) (by (with_reducible repeat (first | refine blk_drewN ?_ _ | refine blk_drew ?_ | refine blk_alloc ?_ _)); refine blk_far ?_ NB354_359.out _; (with_reducible repeat (first | refine blk_drewN ?_ _ | refine blk_drew ?_ | refine blk_alloc ?_ _)); refine blk_far ?_ NB354_359.out _; (with_reducible repeat (first | refine blk_drewN ?_ _ | refine blk_drew ?_ | refine blk_alloc ?_ _)); refine blk_far ?_ NB354_359.out _; (with_reducible repeat (first | refine blk_drewN ?_ _ | refine blk_drew ?_ | refine blk_alloc ?_ _)); exact BK354.out) hb); have n1_ := Aside0.mk (blk_below (g := gb359) (o := .cells #[.string t355, .string t356, .string t357] 24 (0, 0)) (by (with_reducible repeat (first | refine blk_drewN ?_ _ | refine blk_drew ?_ | refine blk_alloc ?_ _)); refine blk_put (cs := #[.string t355, .string t356, .string (⟨#[]⟩ : ByteArray)]) ?_ 2 _ rfl; (with_reducible repeat (first | refine blk_drewN ?_ _ | refine blk_drew ?_ | refine blk_alloc ?_ _)); refine blk_put (cs := #[.string t355, .string (⟨#[]⟩ : ByteArray), .string (⟨#[]⟩ : ByteArray)]) ?_ 1 _ rfl; (with_reducible repeat (first | refine blk_drewN ?_ _ | refine blk_drew ?_ | refine blk_alloc ?_ _)); refine blk_put (cs := #[.string (⟨#[]⟩ : ByteArray), .string (⟨#[]⟩ : ByteArray), .string (⟨#[]⟩ : ByteArray)]) ?_ 0 _ rfl; (with_reducible repeat (first | refine blk_drewN ?_ _ | refine blk_drew ?_ | refine blk_alloc ?_ _)); exact BK359.out) hb); have n2_ := Aside0.mk (below_step (by repeat (first | (with_reducible first | exact HB.out | apply below_alloc | apply pw_below_drewN | apply below_drew1 | refine below_set ?_ GE354.out | refine below_set ?_ GE359.out) | exact HB.out)) hb); clear BK354; clear BK359; clear HB; have BK354 := n0_; have BK359 := n1_; have HB := n2_; clear n0_ n1_ n2_; (try clear hb); (try clear hb2); (try clear hk); (try clear hi); have hcz45_0 : w44.cell? ⟨gb354, 0, none⟩ = some (.string t347) := (blk_cell BK354.out 0).trans rfl; have hcz45_1 : w44.cell? ⟨gb354, 1, none⟩ = some (.string t348) := (blk_cell BK354.out 1).trans rfl; have hcz45_2 : w44.cell? ⟨gb354, 2, none⟩ = some (.string t349) := (blk_cell BK354.out 2).trans rfl; have hcz45_3 : w44.cell? ⟨gb354, 3, none⟩ = some (.string t350) := (blk_cell BK354.out 3).trans rfl; have hcz45_4 : w44.cell? ⟨gb354, 4, none⟩ = some (.string t351) := (blk_cell BK354.out 4).trans rfl; have hcz45_5 : w44.cell? ⟨gb354, 5, none⟩ = some (.string t352) := (blk_cell BK354.out 5).trans rfl; have hfz45_0 := blk_frozen BK354.out 0; have hfz45_1 := blk_frozen BK354.out 1; have hfz45_2 := blk_frozen BK354.out 2; have hfz45_3 := blk_frozen BK354.out 3; have hfz45_4 := blk_frozen BK354.out 4; have hfz45_5 := blk_frozen BK354.out 5) | (go_at_call 25; (with_reducible refine (lunetteref11_Show.calls t347 t348 t349 t350 t351 t352 t363 _ A41.out).mono ?_); rintro e w46 ⟨rfl, hb⟩; have n0_ := Aside0.mk (blk_below (g := gb354) (o := .cells #[.string t347, .string t348, .string t349, .string t350, .string t351, .string t352] 26 (0, 0)) (by (with_reducible repeat (first | refine blk_drewN ?_ _ | refine blk_drew ?_ | refine blk_alloc ?_ _)); exact BK354.out) hb); have n1_ := Aside0.mk (blk_below (g := gb359) (o := .cells #[.string t355, .string t356, .string t357] 24 (0, 0)) (by (with_reducible repeat (first | refine blk_drewN ?_ _ | refine blk_drew ?_ | refine blk_alloc ?_ _)); exact BK359.out) hb); have n2_ := Aside0.mk (below_step (by repeat (first | (with_reducible first | exact HB.out | apply below_alloc | apply pw_below_drewN | apply below_drew1 | refine below_set ?_ GE354.out | refine below_set ?_ GE359.out) | exact HB.out)) hb); clear BK354; clear BK359; clear HB; have BK354 := n0_; have BK359 := n1_; have HB := n2_; clear n0_ n1_ n2_; (try clear hb); (try clear hb2); (try clear hk); (try clear hi)))
                go_meet
                case rel => exact ⟨_, ((t363.toList == a0.toList)), (by first | rfl | (simp; done) | (simp [*]; done) | ((first | rw [c21e] | rw [c52e]); first | rfl | (simp; done) | (simp [*]; done))), H', ⟨by have := HJ1.out; first | omega | exact Nat.le_refl _⟩, ⟨by (with_reducible repeat (first | refine blk_drewN ?_ _ | refine blk_drew ?_ | refine blk_alloc ?_ _)); exact BK354.out⟩, ⟨by (with_reducible repeat (first | refine blk_drewN ?_ _ | refine blk_drew ?_ | refine blk_alloc ?_ _)); exact BK359.out⟩, ⟨by repeat (first | (with_reducible first | exact HB.out | apply below_alloc | apply pw_below_drewN | apply below_drew1 | refine below_set ?_ GE354.out | refine below_set ?_ GE359.out) | exact HB.out)⟩⟩
              · replace c40 := Bool.eq_false_iff.mpr c40
                subst c40
                have H1 : (lunettelaw11_TupleReads.j1 kj1 a0 t358 false t355 t356 t357) = some r := by rw [if_neg (show ¬ (false = true) by decide)] at H; exact H
                clear H
                have H := H1
                clear H1
                have H' := Aside0.mk H
                clear H
                have hnb47 := NB354_359.out
                have hnc47 := NB359_354.out
                have hcz48_0 : w17.cell? ⟨gb354, 0, none⟩ = some (.string t347) := (blk_cell BK354.out 0).trans rfl
                have hcz48_1 : w17.cell? ⟨gb354, 1, none⟩ = some (.string t348) := (blk_cell BK354.out 1).trans rfl
                have hcz48_2 : w17.cell? ⟨gb354, 2, none⟩ = some (.string t349) := (blk_cell BK354.out 2).trans rfl
                have hcz48_3 : w17.cell? ⟨gb354, 3, none⟩ = some (.string t350) := (blk_cell BK354.out 3).trans rfl
                have hcz48_4 : w17.cell? ⟨gb354, 4, none⟩ = some (.string t351) := (blk_cell BK354.out 4).trans rfl
                have hcz48_5 : w17.cell? ⟨gb354, 5, none⟩ = some (.string t352) := (blk_cell BK354.out 5).trans rfl
                have hfz48_0 := blk_frozen BK354.out 0
                have hfz48_1 := blk_frozen BK354.out 1
                have hfz48_2 := blk_frozen BK354.out 2
                have hfz48_3 := blk_frozen BK354.out 3
                have hfz48_4 := blk_frozen BK354.out 4
                have hfz48_5 := blk_frozen BK354.out 5
                go_wp2_with (first | (go_at_call 13; (with_reducible refine (lunetteref11_Check.calls kj1 t347 t348 t349 t350 t351 t352 false _ A39.out).mono ?_); rintro e w49 ⟨rfl, hb⟩; have n0_ := Aside0.mk (blk_below (g := gb354) (o := .cells #[.string t347, .string t348, .string t349, .string t350, .string t351, .string t352] 26 (0, 0)) (by (with_reducible repeat (first | refine blk_drewN ?_ _ | refine blk_drew ?_ | refine blk_alloc ?_ _)); refine blk_far ?_ NB354_359.out _; (with_reducible repeat (first | refine blk_drewN ?_ _ | refine blk_drew ?_ | refine blk_alloc ?_ _)); refine blk_far ?_ NB354_359.out _; (with_reducible repeat (first | refine blk_drewN ?_ _ | refine blk_drew ?_ | refine blk_alloc ?_ _)); refine blk_far ?_ NB354_359.out _; (with_reducible repeat (first | refine blk_drewN ?_ _ | refine blk_drew ?_ | refine blk_alloc ?_ _)); exact BK354.out) hb); have n1_ := Aside0.mk (blk_below (g := gb359) (o := .cells #[.string t355, .string t356, .string t357] 24 (0, 0)) (by (with_reducible repeat (first | refine blk_drewN ?_ _ | refine blk_drew ?_ | refine blk_alloc ?_ _)); refine blk_put (cs := #[.string t355, .string t356, .string (⟨#[]⟩ : ByteArray)]) ?_ 2 _ rfl; (with_reducible repeat (first | refine blk_drewN ?_ _ | refine blk_drew ?_ | refine blk_alloc ?_ _)); refine blk_put (cs := #[.string t355, .string (⟨#[]⟩ : ByteArray), .string (⟨#[]⟩ : ByteArray)]) ?_ 1 _ rfl; (with_reducible repeat (first | refine blk_drewN ?_ _ | refine blk_drew ?_ | refine blk_alloc ?_ _)); refine blk_put (cs := #[.string (⟨#[]⟩ : ByteArray), .string (⟨#[]⟩ : ByteArray), .string (⟨#[]⟩ : ByteArray)]) ?_ 0 _ rfl; (with_reducible repeat (first | refine blk_drewN ?_ _ | refine blk_drew ?_ | refine blk_alloc ?_ _)); exact BK359.out) hb); have n2_ := Aside0.mk (below_step (by repeat (first | (with_reducible first | exact HB.out | apply below_alloc | apply pw_below_drewN | apply below_drew1 | refine below_set ?_ GE354.out | refine below_set ?_ GE359.out) | exact HB.out)) hb); clear BK354; clear BK359; clear HB; have BK354 := n0_; have BK359 := n1_; have HB := n2_; clear n0_ n1_ n2_; (try clear hb); (try clear hb2); (try clear hk); (try clear hi)))
                go_meet
                case rel => exact ⟨_, (false), (by first | rfl | (simp; done) | (simp [*]; done) | ((first | rw [c21e] | rw [c52e]); first | rfl | (simp; done) | (simp [*]; done))), H', ⟨by have := HJ1.out; first | omega | exact Nat.le_refl _⟩, ⟨by (with_reducible repeat (first | refine blk_drewN ?_ _ | refine blk_drew ?_ | refine blk_alloc ?_ _)); exact BK354.out⟩, ⟨by (with_reducible repeat (first | refine blk_drewN ?_ _ | refine blk_drew ?_ | refine blk_alloc ?_ _)); exact BK359.out⟩, ⟨by repeat (first | (with_reducible first | exact HB.out | apply below_alloc | apply pw_below_drewN | apply below_drew1 | refine below_set ?_ GE354.out | refine below_set ?_ GE359.out) | exact HB.out)⟩⟩
            · rw [if_neg c38] at H
              have c38b0 : (t353 == 0) = false := beq_eq_false_iff_ne.mpr c38
              have c38b1 : (t353 != 0) = true := bne_iff_ne.mpr c38
              have H' := Aside0.mk H
              clear H
              go_wp2
              go_meet
              case rel => exact ⟨_, (false), (by first | rfl | (simp; done) | (simp [*]; done) | ((first | rw [c21e] | rw [c52e]); first | rfl | (simp; done) | (simp [*]; done))), H', ⟨by have := HJ1.out; first | omega | exact Nat.le_refl _⟩, ⟨by (with_reducible repeat (first | refine blk_drewN ?_ _ | refine blk_drew ?_ | refine blk_alloc ?_ _)); refine blk_far ?_ NB354_359.out _; (with_reducible repeat (first | refine blk_drewN ?_ _ | refine blk_drew ?_ | refine blk_alloc ?_ _)); refine blk_far ?_ NB354_359.out _; (with_reducible repeat (first | refine blk_drewN ?_ _ | refine blk_drew ?_ | refine blk_alloc ?_ _)); refine blk_far ?_ NB354_359.out _; (with_reducible repeat (first | refine blk_drewN ?_ _ | refine blk_drew ?_ | refine blk_alloc ?_ _)); exact BK354.out⟩, ⟨by (with_reducible repeat (first | refine blk_drewN ?_ _ | refine blk_drew ?_ | refine blk_alloc ?_ _)); refine blk_put (cs := #[.string t355, .string t356, .string (⟨#[]⟩ : ByteArray)]) ?_ 2 _ rfl; (with_reducible repeat (first | refine blk_drewN ?_ _ | refine blk_drew ?_ | refine blk_alloc ?_ _)); refine blk_put (cs := #[.string t355, .string (⟨#[]⟩ : ByteArray), .string (⟨#[]⟩ : ByteArray)]) ?_ 1 _ rfl; (with_reducible repeat (first | refine blk_drewN ?_ _ | refine blk_drew ?_ | refine blk_alloc ?_ _)); refine blk_put (cs := #[.string (⟨#[]⟩ : ByteArray), .string (⟨#[]⟩ : ByteArray), .string (⟨#[]⟩ : ByteArray)]) ?_ 0 _ rfl; (with_reducible repeat (first | refine blk_drewN ?_ _ | refine blk_drew ?_ | refine blk_alloc ?_ _)); exact BK359.out⟩, ⟨by repeat (first | (with_reducible first | exact HB.out | apply below_alloc | apply pw_below_drewN | apply below_drew1 | refine below_set ?_ GE354.out | refine below_set ?_ GE359.out) | exact HB.out)⟩⟩
        case rest =>
          clear HC12
          try clear c1
          try clear c2
          try clear p2
          try clear c3
          try clear c4
          try clear c7
          try clear c8
          try clear c11
          try clear c18
          try clear c20
          try clear c20b0
          try clear c20b1
          try clear c21
          try clear c21b0
          try clear c21b1
          try clear c21b2
          try clear c22
          try clear c23
          try clear c24
          try clear c24b0
          try clear c24b1
          try clear c26
          try clear c28
          try clear c33
          try clear c36
          try clear c38
          try clear c38b0
          try clear c38b1
          try clear c40
          try clear c42
          try clear c47
          try clear hcz15_0
          try clear hcz15_1
          try clear hcz15_2
          try clear hcz15_3
          try clear hcz15_4
          try clear hcz15_5
          try clear hcz19_0
          try clear hcz19_1
          try clear hcz19_2
          try clear hcz23_0
          try clear hcz23_1
          try clear hcz23_2
          try clear hcz23_3
          try clear hcz23_4
          try clear hcz23_5
          try clear hcz29_0
          try clear hcz29_1
          try clear hcz29_2
          try clear hcz29_3
          try clear hcz29_4
          try clear hcz29_5
          try clear hcz31_0
          try clear hcz31_1
          try clear hcz31_2
          try clear hcz31_3
          try clear hcz31_4
          try clear hcz31_5
          try clear hcz34_0
          try clear hcz34_1
          try clear hcz34_2
          try clear hcz34_3
          try clear hcz34_4
          try clear hcz34_5
          try clear hcz37_0
          try clear hcz37_1
          try clear hcz37_2
          try clear hcz37_3
          try clear hcz37_4
          try clear hcz37_5
          try clear hcz43_0
          try clear hcz43_1
          try clear hcz43_2
          try clear hcz43_3
          try clear hcz43_4
          try clear hcz43_5
          try clear hcz45_0
          try clear hcz45_1
          try clear hcz45_2
          try clear hcz45_3
          try clear hcz45_4
          try clear hcz45_5
          try clear hcz48_0
          try clear hcz48_1
          try clear hcz48_2
          try clear hcz48_3
          try clear hcz48_4
          try clear hcz48_5
          try clear hfz15_0
          try clear hfz15_1
          try clear hfz15_2
          try clear hfz15_3
          try clear hfz15_4
          try clear hfz15_5
          try clear hfz19_0
          try clear hfz19_1
          try clear hfz19_2
          try clear hfz23_0
          try clear hfz23_1
          try clear hfz23_2
          try clear hfz23_3
          try clear hfz23_4
          try clear hfz23_5
          try clear hfz29_0
          try clear hfz29_1
          try clear hfz29_2
          try clear hfz29_3
          try clear hfz29_4
          try clear hfz29_5
          try clear hfz31_0
          try clear hfz31_1
          try clear hfz31_2
          try clear hfz31_3
          try clear hfz31_4
          try clear hfz31_5
          try clear hfz34_0
          try clear hfz34_1
          try clear hfz34_2
          try clear hfz34_3
          try clear hfz34_4
          try clear hfz34_5
          try clear hfz37_0
          try clear hfz37_1
          try clear hfz37_2
          try clear hfz37_3
          try clear hfz37_4
          try clear hfz37_5
          try clear hfz43_0
          try clear hfz43_1
          try clear hfz43_2
          try clear hfz43_3
          try clear hfz43_4
          try clear hfz43_5
          try clear hfz45_0
          try clear hfz45_1
          try clear hfz45_2
          try clear hfz45_3
          try clear hfz45_4
          try clear hfz45_5
          try clear hfz48_0
          try clear hfz48_1
          try clear hfz48_2
          try clear hfz48_3
          try clear hfz48_4
          try clear hfz48_5
          try clear p2
          obtain ⟨kq, x7_11, rfl, HA, HJ11, BK354, BK359, HB⟩ := hcut
          cases kq with
          | zero => exact absurd HA.out (by simp [lunettelaw11_TupleReads.j1])
          | succ kj11 =>
            have H := HA.out
            clear HA
            simp only [lunettelaw11_TupleReads.j1] at H
            have HC50 := Aside0.mk H
            clear H
            go_upto_region 6 with (fail)
            go_cut [8] (fun v8 wc => ∃ (kq : Nat) (x8_49 : Bool), v8 = .bool x8_49 ∧ Aside0 (lunettelaw11_TupleReads.j2 kq a0 x7_11 x8_49 = some r) ∧ Aside0 (kq ≤ kj11) ∧ Aside0 (wc.heap[gb354]? = some (.cells #[.string t347, .string t348, .string t349, .string t350, .string t351, .string t352] 26 (0, 0))) ∧ Aside0 (wc.heap[gb359]? = some (.cells #[.string t355, .string t356, .string t357] 24 (0, 0))) ∧ Aside0 (Below w.heap.size w wc))
            case first =>
              have H := HC50.out
              clear HC50
              by_cases c51 : t358 = 110
              · rw [if_pos c51] at H
                have c51b0 : (t358 == 110) = true := beq_iff_eq.mpr c51
                have c51b1 : (t358 != 110) = false := bne_eq_false_iff_eq.mpr c51
                clear c51
                (first | rw [c51b0] | (simp only [i64_w, i32_w]; rw [c51b0]) | skip)
                by_cases c52 : (t355.toList == ([] : List UInt8) && (t356.toList == ([] : List UInt8) && (t357.toList == ([] : List UInt8)))) = true
                · rw [if_pos c52] at H
                  have c52b0 : (t355.toList == ([] : List UInt8) && (t356.toList == ([] : List UInt8) && (t357.toList == ([] : List UInt8)))) = true := c52
                  have c52e : (t355.toList.isEmpty && (t356.toList.isEmpty && (t357.toList.isEmpty))) = true := by simpa using c52b0
                  (try (have c52b1 : decide (t355.toList = ([] : List UInt8) && (t356.toList == ([] : List UInt8) && (t357.toList == ([] : List UInt8)))) = true := by simpa using c52))
                  (try (have c52b2 : (t355.toList == ([] : List UInt8) && (t356.toList == ([] : List UInt8) && (t357.toList == ([] : List UInt8)))) = true := by simpa using c52))
                  clear c52
                  have H' := Aside0.mk H
                  clear H
                  have hnb53 := NB359_354.out
                  have hnc53 := NB354_359.out
                  have hcz54_0 : wc.cell? ⟨gb359, 0, none⟩ = some (.string t355) := (blk_cell BK359.out 0).trans rfl
                  have hcz54_1 : wc.cell? ⟨gb359, 1, none⟩ = some (.string t356) := (blk_cell BK359.out 1).trans rfl
                  have hcz54_2 : wc.cell? ⟨gb359, 2, none⟩ = some (.string t357) := (blk_cell BK359.out 2).trans rfl
                  have hfz54_0 := blk_frozen BK359.out 0
                  have hfz54_1 := blk_frozen BK359.out 1
                  have hfz54_2 := blk_frozen BK359.out 2
                  go_wp2
                  go_meet
                  case rel => exact ⟨_, (true), (by first | rfl | (simp; done) | (simp [*]; done) | ((first | rw [c21e] | rw [c52e]); first | rfl | (simp; done) | (simp [*]; done))), H', ⟨by have := HJ1.out; have := HJ11.out; first | omega | exact Nat.le_refl _⟩, ⟨by (with_reducible repeat (first | refine blk_drewN ?_ _ | refine blk_drew ?_ | refine blk_alloc ?_ _)); exact BK354.out⟩, ⟨by (with_reducible repeat (first | refine blk_drewN ?_ _ | refine blk_drew ?_ | refine blk_alloc ?_ _)); exact BK359.out⟩, ⟨by repeat (first | (with_reducible first | exact HB.out | apply below_alloc | apply pw_below_drewN | apply below_drew1 | refine below_set ?_ GE354.out | refine below_set ?_ GE359.out) | exact HB.out)⟩⟩
                · rw [if_neg c52] at H
                  have c52b0 : (t355.toList == ([] : List UInt8) && (t356.toList == ([] : List UInt8) && (t357.toList == ([] : List UInt8)))) = false := by simpa using c52
                  have c52e : (t355.toList.isEmpty && (t356.toList.isEmpty && (t357.toList.isEmpty))) = false := by simpa using c52b0
                  (try (have c52b1 : decide (t355.toList = ([] : List UInt8) && (t356.toList == ([] : List UInt8) && (t357.toList == ([] : List UInt8)))) = false := by simpa using c52))
                  (try (have c52b2 : (t355.toList == ([] : List UInt8) && (t356.toList == ([] : List UInt8) && (t357.toList == ([] : List UInt8)))) = false := by simpa using c52))
                  (try (have c52b3 : ¬ (t355.toList = ([] : List UInt8) && (t356.toList == ([] : List UInt8) && (t357.toList == ([] : List UInt8)))) := by simpa using c52))
                  clear c52
                  by_cases c55 : t358 = 0
                  · rw [if_pos c55] at H
                    have c55b0 : (t358 == 0) = true := beq_iff_eq.mpr c55
                    have c55b1 : (t358 != 0) = false := bne_eq_false_iff_eq.mpr c55
                    clear c55
                    replace H := Option.bind_eq_some_iff.mp H
                    obtain ⟨t364, A560, H⟩ := H
                    replace H : (if t364 = true then ((lunetteref11_ShowUser.f t355 t356 t357).bind fun t365 => (lunettelaw11_TupleReads.j2 kj11 a0 x7_11 (t365.toList == a0.toList))) else (lunettelaw11_TupleReads.j2 kj11 a0 x7_11 false)) = some r := H
                    have A56 := Aside0.mk A560
                    clear A560
                    by_cases c57 : t364 = true
                    · subst c57
                      have H1 : ((lunetteref11_ShowUser.f t355 t356 t357).bind fun t365 => (lunettelaw11_TupleReads.j2 kj11 a0 x7_11 (t365.toList == a0.toList))) = some r := by rw [if_pos rfl] at H; exact H
                      clear H
                      have H := H1
                      clear H1
                      replace H := Option.bind_eq_some_iff.mp H
                      obtain ⟨t365, A580, H⟩ := H
                      replace H : (lunettelaw11_TupleReads.j2 kj11 a0 x7_11 (t365.toList == a0.toList)) = some r := H
                      have A58 := Aside0.mk A580
                      clear A580
                      have H' := Aside0.mk H
                      clear H
                      have hnb59 := NB359_354.out
                      have hnc59 := NB354_359.out
                      have hcz60_0 : wc.cell? ⟨gb359, 0, none⟩ = some (.string t355) := (blk_cell BK359.out 0).trans rfl
                      have hcz60_1 : wc.cell? ⟨gb359, 1, none⟩ = some (.string t356) := (blk_cell BK359.out 1).trans rfl
                      have hcz60_2 : wc.cell? ⟨gb359, 2, none⟩ = some (.string t357) := (blk_cell BK359.out 2).trans rfl
                      have hfz60_0 := blk_frozen BK359.out 0
                      have hfz60_1 := blk_frozen BK359.out 1
                      have hfz60_2 := blk_frozen BK359.out 2
                      go_wp2_with (first | (go_at_call 26; (with_reducible refine (lunetteref11_User.calls kj11 t355 t356 t357 true _ A56.out).mono ?_); rintro e w61 ⟨rfl, hb⟩; have n0_ := Aside0.mk (blk_below (g := gb354) (o := .cells #[.string t347, .string t348, .string t349, .string t350, .string t351, .string t352] 26 (0, 0)) (by (with_reducible repeat (first | refine blk_drewN ?_ _ | refine blk_drew ?_ | refine blk_alloc ?_ _)); exact BK354.out) hb); have n1_ := Aside0.mk (blk_below (g := gb359) (o := .cells #[.string t355, .string t356, .string t357] 24 (0, 0)) (by (with_reducible repeat (first | refine blk_drewN ?_ _ | refine blk_drew ?_ | refine blk_alloc ?_ _)); exact BK359.out) hb); have n2_ := Aside0.mk (below_step (by repeat (first | (with_reducible first | exact HB.out | apply below_alloc | apply pw_below_drewN | apply below_drew1 | refine below_set ?_ GE354.out | refine below_set ?_ GE359.out) | exact HB.out)) hb); clear BK354; clear BK359; clear HB; have BK354 := n0_; have BK359 := n1_; have HB := n2_; clear n0_ n1_ n2_; (try clear hb); (try clear hb2); (try clear hk); (try clear hi); have hcz62_0 : w61.cell? ⟨gb359, 0, none⟩ = some (.string t355) := (blk_cell BK359.out 0).trans rfl; have hcz62_1 : w61.cell? ⟨gb359, 1, none⟩ = some (.string t356) := (blk_cell BK359.out 1).trans rfl; have hcz62_2 : w61.cell? ⟨gb359, 2, none⟩ = some (.string t357) := (blk_cell BK359.out 2).trans rfl; have hfz62_0 := blk_frozen BK359.out 0; have hfz62_1 := blk_frozen BK359.out 1; have hfz62_2 := blk_frozen BK359.out 2) | (go_at_call 27; (with_reducible refine (lunetteref11_ShowUser.calls t355 t356 t357 t365 _ A58.out).mono ?_); rintro e w63 ⟨rfl, hb⟩; have n0_ := Aside0.mk (blk_below (g := gb354) (o := .cells #[.string t347, .string t348, .string t349, .string t350, .string t351, .string t352] 26 (0, 0)) (by (with_reducible repeat (first | refine blk_drewN ?_ _ | refine blk_drew ?_ | refine blk_alloc ?_ _)); exact BK354.out) hb); have n1_ := Aside0.mk (blk_below (g := gb359) (o := .cells #[.string t355, .string t356, .string t357] 24 (0, 0)) (by (with_reducible repeat (first | refine blk_drewN ?_ _ | refine blk_drew ?_ | refine blk_alloc ?_ _)); exact BK359.out) hb); have n2_ := Aside0.mk (below_step (by repeat (first | (with_reducible first | exact HB.out | apply below_alloc | apply pw_below_drewN | apply below_drew1 | refine below_set ?_ GE354.out | refine below_set ?_ GE359.out) | exact HB.out)) hb); clear BK354; clear BK359; clear HB; have BK354 := n0_; have BK359 := n1_; have HB := n2_; clear n0_ n1_ n2_; (try clear hb); (try clear hb2); (try clear hk); (try clear hi)))
                      go_meet
                      case rel => exact ⟨_, ((t365.toList == a0.toList)), (by first | rfl | (simp; done) | (simp [*]; done) | ((first | rw [c21e] | rw [c52e]); first | rfl | (simp; done) | (simp [*]; done))), H', ⟨by have := HJ1.out; have := HJ11.out; first | omega | exact Nat.le_refl _⟩, ⟨by (with_reducible repeat (first | refine blk_drewN ?_ _ | refine blk_drew ?_ | refine blk_alloc ?_ _)); exact BK354.out⟩, ⟨by (with_reducible repeat (first | refine blk_drewN ?_ _ | refine blk_drew ?_ | refine blk_alloc ?_ _)); exact BK359.out⟩, ⟨by repeat (first | (with_reducible first | exact HB.out | apply below_alloc | apply pw_below_drewN | apply below_drew1 | refine below_set ?_ GE354.out | refine below_set ?_ GE359.out) | exact HB.out)⟩⟩
                    · replace c57 := Bool.eq_false_iff.mpr c57
                      subst c57
                      have H1 : (lunettelaw11_TupleReads.j2 kj11 a0 x7_11 false) = some r := by rw [if_neg (show ¬ (false = true) by decide)] at H; exact H
                      clear H
                      have H := H1
                      clear H1
                      have H' := Aside0.mk H
                      clear H
                      have hnb64 := NB359_354.out
                      have hnc64 := NB354_359.out
                      have hcz65_0 : wc.cell? ⟨gb359, 0, none⟩ = some (.string t355) := (blk_cell BK359.out 0).trans rfl
                      have hcz65_1 : wc.cell? ⟨gb359, 1, none⟩ = some (.string t356) := (blk_cell BK359.out 1).trans rfl
                      have hcz65_2 : wc.cell? ⟨gb359, 2, none⟩ = some (.string t357) := (blk_cell BK359.out 2).trans rfl
                      have hfz65_0 := blk_frozen BK359.out 0
                      have hfz65_1 := blk_frozen BK359.out 1
                      have hfz65_2 := blk_frozen BK359.out 2
                      go_wp2_with (first | (go_at_call 26; (with_reducible refine (lunetteref11_User.calls kj11 t355 t356 t357 false _ A56.out).mono ?_); rintro e w66 ⟨rfl, hb⟩; have n0_ := Aside0.mk (blk_below (g := gb354) (o := .cells #[.string t347, .string t348, .string t349, .string t350, .string t351, .string t352] 26 (0, 0)) (by (with_reducible repeat (first | refine blk_drewN ?_ _ | refine blk_drew ?_ | refine blk_alloc ?_ _)); exact BK354.out) hb); have n1_ := Aside0.mk (blk_below (g := gb359) (o := .cells #[.string t355, .string t356, .string t357] 24 (0, 0)) (by (with_reducible repeat (first | refine blk_drewN ?_ _ | refine blk_drew ?_ | refine blk_alloc ?_ _)); exact BK359.out) hb); have n2_ := Aside0.mk (below_step (by repeat (first | (with_reducible first | exact HB.out | apply below_alloc | apply pw_below_drewN | apply below_drew1 | refine below_set ?_ GE354.out | refine below_set ?_ GE359.out) | exact HB.out)) hb); clear BK354; clear BK359; clear HB; have BK354 := n0_; have BK359 := n1_; have HB := n2_; clear n0_ n1_ n2_; (try clear hb); (try clear hb2); (try clear hk); (try clear hi)))
                      go_meet
                      case rel => exact ⟨_, (false), (by first | rfl | (simp; done) | (simp [*]; done) | ((first | rw [c21e] | rw [c52e]); first | rfl | (simp; done) | (simp [*]; done))), H', ⟨by have := HJ1.out; have := HJ11.out; first | omega | exact Nat.le_refl _⟩, ⟨by (with_reducible repeat (first | refine blk_drewN ?_ _ | refine blk_drew ?_ | refine blk_alloc ?_ _)); exact BK354.out⟩, ⟨by (with_reducible repeat (first | refine blk_drewN ?_ _ | refine blk_drew ?_ | refine blk_alloc ?_ _)); exact BK359.out⟩, ⟨by repeat (first | (with_reducible first | exact HB.out | apply below_alloc | apply pw_below_drewN | apply below_drew1 | refine below_set ?_ GE354.out | refine below_set ?_ GE359.out) | exact HB.out)⟩⟩
                  · rw [if_neg c55] at H
                    have c55b0 : (t358 == 0) = false := beq_eq_false_iff_ne.mpr c55
                    have c55b1 : (t358 != 0) = true := bne_iff_ne.mpr c55
                    have H' := Aside0.mk H
                    clear H
                    have hnb67 := NB359_354.out
                    have hnc67 := NB354_359.out
                    have hcz68_0 : wc.cell? ⟨gb359, 0, none⟩ = some (.string t355) := (blk_cell BK359.out 0).trans rfl
                    have hcz68_1 : wc.cell? ⟨gb359, 1, none⟩ = some (.string t356) := (blk_cell BK359.out 1).trans rfl
                    have hcz68_2 : wc.cell? ⟨gb359, 2, none⟩ = some (.string t357) := (blk_cell BK359.out 2).trans rfl
                    have hfz68_0 := blk_frozen BK359.out 0
                    have hfz68_1 := blk_frozen BK359.out 1
                    have hfz68_2 := blk_frozen BK359.out 2
                    go_wp2
                    go_meet
                    case rel => exact ⟨_, (false), (by first | rfl | (simp; done) | (simp [*]; done) | ((first | rw [c21e] | rw [c52e]); first | rfl | (simp; done) | (simp [*]; done))), H', ⟨by have := HJ1.out; have := HJ11.out; first | omega | exact Nat.le_refl _⟩, ⟨by (with_reducible repeat (first | refine blk_drewN ?_ _ | refine blk_drew ?_ | refine blk_alloc ?_ _)); exact BK354.out⟩, ⟨by (with_reducible repeat (first | refine blk_drewN ?_ _ | refine blk_drew ?_ | refine blk_alloc ?_ _)); exact BK359.out⟩, ⟨by repeat (first | (with_reducible first | exact HB.out | apply below_alloc | apply pw_below_drewN | apply below_drew1 | refine below_set ?_ GE354.out | refine below_set ?_ GE359.out) | exact HB.out)⟩⟩
              · rw [if_neg c51] at H
                have c51b0 : (t358 == 110) = false := beq_eq_false_iff_ne.mpr c51
                have c51b1 : (t358 != 110) = true := bne_iff_ne.mpr c51
                (first | rw [c51b0] | (simp only [i64_w, i32_w]; rw [c51b0]) | skip)
                by_cases c69 : t358 = 0
                · rw [if_pos c69] at H
                  have c69b0 : (t358 == 0) = true := beq_iff_eq.mpr c69
                  have c69b1 : (t358 != 0) = false := bne_eq_false_iff_eq.mpr c69
                  clear c69
                  replace H := Option.bind_eq_some_iff.mp H
                  obtain ⟨t366, A700, H⟩ := H
                  replace H : (if t366 = true then ((lunetteref11_ShowUser.f t355 t356 t357).bind fun t367 => (lunettelaw11_TupleReads.j2 kj11 a0 x7_11 (t367.toList == a0.toList))) else (lunettelaw11_TupleReads.j2 kj11 a0 x7_11 false)) = some r := H
                  have A70 := Aside0.mk A700
                  clear A700
                  by_cases c71 : t366 = true
                  · subst c71
                    have H1 : ((lunetteref11_ShowUser.f t355 t356 t357).bind fun t367 => (lunettelaw11_TupleReads.j2 kj11 a0 x7_11 (t367.toList == a0.toList))) = some r := by rw [if_pos rfl] at H; exact H
                    clear H
                    have H := H1
                    clear H1
                    replace H := Option.bind_eq_some_iff.mp H
                    obtain ⟨t367, A720, H⟩ := H
                    replace H : (lunettelaw11_TupleReads.j2 kj11 a0 x7_11 (t367.toList == a0.toList)) = some r := H
                    have A72 := Aside0.mk A720
                    clear A720
                    have H' := Aside0.mk H
                    clear H
                    have hnb73 := NB359_354.out
                    have hnc73 := NB354_359.out
                    have hcz74_0 : wc.cell? ⟨gb359, 0, none⟩ = some (.string t355) := (blk_cell BK359.out 0).trans rfl
                    have hcz74_1 : wc.cell? ⟨gb359, 1, none⟩ = some (.string t356) := (blk_cell BK359.out 1).trans rfl
                    have hcz74_2 : wc.cell? ⟨gb359, 2, none⟩ = some (.string t357) := (blk_cell BK359.out 2).trans rfl
                    have hfz74_0 := blk_frozen BK359.out 0
                    have hfz74_1 := blk_frozen BK359.out 1
                    have hfz74_2 := blk_frozen BK359.out 2
                    go_wp2_with (first | (go_at_call 26; (with_reducible refine (lunetteref11_User.calls kj11 t355 t356 t357 true _ A70.out).mono ?_); rintro e w75 ⟨rfl, hb⟩; have n0_ := Aside0.mk (blk_below (g := gb354) (o := .cells #[.string t347, .string t348, .string t349, .string t350, .string t351, .string t352] 26 (0, 0)) (by (with_reducible repeat (first | refine blk_drewN ?_ _ | refine blk_drew ?_ | refine blk_alloc ?_ _)); exact BK354.out) hb); have n1_ := Aside0.mk (blk_below (g := gb359) (o := .cells #[.string t355, .string t356, .string t357] 24 (0, 0)) (by (with_reducible repeat (first | refine blk_drewN ?_ _ | refine blk_drew ?_ | refine blk_alloc ?_ _)); exact BK359.out) hb); have n2_ := Aside0.mk (below_step (by repeat (first | (with_reducible first | exact HB.out | apply below_alloc | apply pw_below_drewN | apply below_drew1 | refine below_set ?_ GE354.out | refine below_set ?_ GE359.out) | exact HB.out)) hb); clear BK354; clear BK359; clear HB; have BK354 := n0_; have BK359 := n1_; have HB := n2_; clear n0_ n1_ n2_; (try clear hb); (try clear hb2); (try clear hk); (try clear hi); have hcz76_0 : w75.cell? ⟨gb359, 0, none⟩ = some (.string t355) := (blk_cell BK359.out 0).trans rfl; have hcz76_1 : w75.cell? ⟨gb359, 1, none⟩ = some (.string t356) := (blk_cell BK359.out 1).trans rfl; have hcz76_2 : w75.cell? ⟨gb359, 2, none⟩ = some (.string t357) := (blk_cell BK359.out 2).trans rfl; have hfz76_0 := blk_frozen BK359.out 0; have hfz76_1 := blk_frozen BK359.out 1; have hfz76_2 := blk_frozen BK359.out 2) | (go_at_call 27; (with_reducible refine (lunetteref11_ShowUser.calls t355 t356 t357 t367 _ A72.out).mono ?_); rintro e w77 ⟨rfl, hb⟩; have n0_ := Aside0.mk (blk_below (g := gb354) (o := .cells #[.string t347, .string t348, .string t349, .string t350, .string t351, .string t352] 26 (0, 0)) (by (with_reducible repeat (first | refine blk_drewN ?_ _ | refine blk_drew ?_ | refine blk_alloc ?_ _)); exact BK354.out) hb); have n1_ := Aside0.mk (blk_below (g := gb359) (o := .cells #[.string t355, .string t356, .string t357] 24 (0, 0)) (by (with_reducible repeat (first | refine blk_drewN ?_ _ | refine blk_drew ?_ | refine blk_alloc ?_ _)); exact BK359.out) hb); have n2_ := Aside0.mk (below_step (by repeat (first | (with_reducible first | exact HB.out | apply below_alloc | apply pw_below_drewN | apply below_drew1 | refine below_set ?_ GE354.out | refine below_set ?_ GE359.out) | exact HB.out)) hb); clear BK354; clear BK359; clear HB; have BK354 := n0_; have BK359 := n1_; have HB := n2_; clear n0_ n1_ n2_; (try clear hb); (try clear hb2); (try clear hk); (try clear hi)))
                    go_meet
                    case rel => exact ⟨_, ((t367.toList == a0.toList)), (by first | rfl | (simp; done) | (simp [*]; done) | ((first | rw [c21e] | rw [c52e]); first | rfl | (simp; done) | (simp [*]; done))), H', ⟨by have := HJ1.out; have := HJ11.out; first | omega | exact Nat.le_refl _⟩, ⟨by (with_reducible repeat (first | refine blk_drewN ?_ _ | refine blk_drew ?_ | refine blk_alloc ?_ _)); exact BK354.out⟩, ⟨by (with_reducible repeat (first | refine blk_drewN ?_ _ | refine blk_drew ?_ | refine blk_alloc ?_ _)); exact BK359.out⟩, ⟨by repeat (first | (with_reducible first | exact HB.out | apply below_alloc | apply pw_below_drewN | apply below_drew1 | refine below_set ?_ GE354.out | refine below_set ?_ GE359.out) | exact HB.out)⟩⟩
                  · replace c71 := Bool.eq_false_iff.mpr c71
                    subst c71
                    have H1 : (lunettelaw11_TupleReads.j2 kj11 a0 x7_11 false) = some r := by rw [if_neg (show ¬ (false = true) by decide)] at H; exact H
                    clear H
                    have H := H1
                    clear H1
                    have H' := Aside0.mk H
                    clear H
                    have hnb78 := NB359_354.out
                    have hnc78 := NB354_359.out
                    have hcz79_0 : wc.cell? ⟨gb359, 0, none⟩ = some (.string t355) := (blk_cell BK359.out 0).trans rfl
                    have hcz79_1 : wc.cell? ⟨gb359, 1, none⟩ = some (.string t356) := (blk_cell BK359.out 1).trans rfl
                    have hcz79_2 : wc.cell? ⟨gb359, 2, none⟩ = some (.string t357) := (blk_cell BK359.out 2).trans rfl
                    have hfz79_0 := blk_frozen BK359.out 0
                    have hfz79_1 := blk_frozen BK359.out 1
                    have hfz79_2 := blk_frozen BK359.out 2
                    go_wp2_with (first | (go_at_call 26; (with_reducible refine (lunetteref11_User.calls kj11 t355 t356 t357 false _ A70.out).mono ?_); rintro e w80 ⟨rfl, hb⟩; have n0_ := Aside0.mk (blk_below (g := gb354) (o := .cells #[.string t347, .string t348, .string t349, .string t350, .string t351, .string t352] 26 (0, 0)) (by (with_reducible repeat (first | refine blk_drewN ?_ _ | refine blk_drew ?_ | refine blk_alloc ?_ _)); exact BK354.out) hb); have n1_ := Aside0.mk (blk_below (g := gb359) (o := .cells #[.string t355, .string t356, .string t357] 24 (0, 0)) (by (with_reducible repeat (first | refine blk_drewN ?_ _ | refine blk_drew ?_ | refine blk_alloc ?_ _)); exact BK359.out) hb); have n2_ := Aside0.mk (below_step (by repeat (first | (with_reducible first | exact HB.out | apply below_alloc | apply pw_below_drewN | apply below_drew1 | refine below_set ?_ GE354.out | refine below_set ?_ GE359.out) | exact HB.out)) hb); clear BK354; clear BK359; clear HB; have BK354 := n0_; have BK359 := n1_; have HB := n2_; clear n0_ n1_ n2_; (try clear hb); (try clear hb2); (try clear hk); (try clear hi)))
                    go_meet
                    case rel => exact ⟨_, (false), (by first | rfl | (simp; done) | (simp [*]; done) | ((first | rw [c21e] | rw [c52e]); first | rfl | (simp; done) | (simp [*]; done))), H', ⟨by have := HJ1.out; have := HJ11.out; first | omega | exact Nat.le_refl _⟩, ⟨by (with_reducible repeat (first | refine blk_drewN ?_ _ | refine blk_drew ?_ | refine blk_alloc ?_ _)); exact BK354.out⟩, ⟨by (with_reducible repeat (first | refine blk_drewN ?_ _ | refine blk_drew ?_ | refine blk_alloc ?_ _)); exact BK359.out⟩, ⟨by repeat (first | (with_reducible first | exact HB.out | apply below_alloc | apply pw_below_drewN | apply below_drew1 | refine below_set ?_ GE354.out | refine below_set ?_ GE359.out) | exact HB.out)⟩⟩
                · rw [if_neg c69] at H
                  have c69b0 : (t358 == 0) = false := beq_eq_false_iff_ne.mpr c69
                  have c69b1 : (t358 != 0) = true := bne_iff_ne.mpr c69
                  have H' := Aside0.mk H
                  clear H
                  go_wp2
                  go_meet
                  case rel => exact ⟨_, (false), (by first | rfl | (simp; done) | (simp [*]; done) | ((first | rw [c21e] | rw [c52e]); first | rfl | (simp; done) | (simp [*]; done))), H', ⟨by have := HJ1.out; have := HJ11.out; first | omega | exact Nat.le_refl _⟩, ⟨by (with_reducible repeat (first | refine blk_drewN ?_ _ | refine blk_drew ?_ | refine blk_alloc ?_ _)); exact BK354.out⟩, ⟨by (with_reducible repeat (first | refine blk_drewN ?_ _ | refine blk_drew ?_ | refine blk_alloc ?_ _)); exact BK359.out⟩, ⟨by repeat (first | (with_reducible first | exact HB.out | apply below_alloc | apply pw_below_drewN | apply below_drew1 | refine below_set ?_ GE354.out | refine below_set ?_ GE359.out) | exact HB.out)⟩⟩
            case rest =>
              clear HC50
              try clear c1
              try clear c2
              try clear p2
              try clear c3
              try clear c4
              try clear c5
              try clear c6
              try clear c7
              try clear c8
              try clear c11
              try clear c18
              try clear c20
              try clear c20b0
              try clear c20b1
              try clear c21
              try clear c21b0
              try clear c21b1
              try clear c21b2
              try clear c22
              try clear c23
              try clear c24
              try clear c24b0
              try clear c24b1
              try clear c26
              try clear c28
              try clear c33
              try clear c36
              try clear c38
              try clear c38b0
              try clear c38b1
              try clear c40
              try clear c42
              try clear c47
              try clear c51
              try clear c51b0
              try clear c51b1
              try clear c52
              try clear c52b0
              try clear c52b1
              try clear c52b2
              try clear c53
              try clear c55
              try clear c55b0
              try clear c55b1
              try clear c57
              try clear c59
              try clear c64
              try clear c67
              try clear c69
              try clear c69b0
              try clear c69b1
              try clear c71
              try clear c73
              try clear c78
              try clear hcz15_0
              try clear hcz15_1
              try clear hcz15_2
              try clear hcz15_3
              try clear hcz15_4
              try clear hcz15_5
              try clear hcz19_0
              try clear hcz19_1
              try clear hcz19_2
              try clear hcz23_0
              try clear hcz23_1
              try clear hcz23_2
              try clear hcz23_3
              try clear hcz23_4
              try clear hcz23_5
              try clear hcz29_0
              try clear hcz29_1
              try clear hcz29_2
              try clear hcz29_3
              try clear hcz29_4
              try clear hcz29_5
              try clear hcz31_0
              try clear hcz31_1
              try clear hcz31_2
              try clear hcz31_3
              try clear hcz31_4
              try clear hcz31_5
              try clear hcz34_0
              try clear hcz34_1
              try clear hcz34_2
              try clear hcz34_3
              try clear hcz34_4
              try clear hcz34_5
              try clear hcz37_0
              try clear hcz37_1
              try clear hcz37_2
              try clear hcz37_3
              try clear hcz37_4
              try clear hcz37_5
              try clear hcz43_0
              try clear hcz43_1
              try clear hcz43_2
              try clear hcz43_3
              try clear hcz43_4
              try clear hcz43_5
              try clear hcz45_0
              try clear hcz45_1
              try clear hcz45_2
              try clear hcz45_3
              try clear hcz45_4
              try clear hcz45_5
              try clear hcz48_0
              try clear hcz48_1
              try clear hcz48_2
              try clear hcz48_3
              try clear hcz48_4
              try clear hcz48_5
              try clear hcz54_0
              try clear hcz54_1
              try clear hcz54_2
              try clear hcz60_0
              try clear hcz60_1
              try clear hcz60_2
              try clear hcz62_0
              try clear hcz62_1
              try clear hcz62_2
              try clear hcz65_0
              try clear hcz65_1
              try clear hcz65_2
              try clear hcz68_0
              try clear hcz68_1
              try clear hcz68_2
              try clear hcz74_0
              try clear hcz74_1
              try clear hcz74_2
              try clear hcz76_0
              try clear hcz76_1
              try clear hcz76_2
              try clear hcz79_0
              try clear hcz79_1
              try clear hcz79_2
              try clear hfz15_0
              try clear hfz15_1
              try clear hfz15_2
              try clear hfz15_3
              try clear hfz15_4
              try clear hfz15_5
              try clear hfz19_0
              try clear hfz19_1
              try clear hfz19_2
              try clear hfz23_0
              try clear hfz23_1
              try clear hfz23_2
              try clear hfz23_3
              try clear hfz23_4
              try clear hfz23_5
              try clear hfz29_0
              try clear hfz29_1
              try clear hfz29_2
              try clear hfz29_3
              try clear hfz29_4
              try clear hfz29_5
              try clear hfz31_0
              try clear hfz31_1
              try clear hfz31_2
              try clear hfz31_3
              try clear hfz31_4
              try clear hfz31_5
              try clear hfz34_0
              try clear hfz34_1
              try clear hfz34_2
              try clear hfz34_3
              try clear hfz34_4
              try clear hfz34_5
              try clear hfz37_0
              try clear hfz37_1
              try clear hfz37_2
              try clear hfz37_3
              try clear hfz37_4
              try clear hfz37_5
              try clear hfz43_0
              try clear hfz43_1
              try clear hfz43_2
              try clear hfz43_3
              try clear hfz43_4
              try clear hfz43_5
              try clear hfz45_0
              try clear hfz45_1
              try clear hfz45_2
              try clear hfz45_3
              try clear hfz45_4
              try clear hfz45_5
              try clear hfz48_0
              try clear hfz48_1
              try clear hfz48_2
              try clear hfz48_3
              try clear hfz48_4
              try clear hfz48_5
              try clear hfz54_0
              try clear hfz54_1
              try clear hfz54_2
              try clear hfz60_0
              try clear hfz60_1
              try clear hfz60_2
              try clear hfz62_0
              try clear hfz62_1
              try clear hfz62_2
              try clear hfz65_0
              try clear hfz65_1
              try clear hfz65_2
              try clear hfz68_0
              try clear hfz68_1
              try clear hfz68_2
              try clear hfz74_0
              try clear hfz74_1
              try clear hfz74_2
              try clear hfz76_0
              try clear hfz76_1
              try clear hfz76_2
              try clear hfz79_0
              try clear hfz79_1
              try clear hfz79_2
              try clear p2
              obtain ⟨kq, x8_49, rfl, HA, HJ49, BK354, BK359, HB⟩ := hcut
              cases kq with
              | zero => exact absurd HA.out (by simp [lunettelaw11_TupleReads.j2])
              | succ kj49 =>
                have H := HA.out
                clear HA
                simp only [lunettelaw11_TupleReads.j2] at H
                by_cases c81 : x7_11 = true
                · subst c81
                  have H1 : (if x8_49 = true then ((tuple_Name.f a0).bind fun t368 => ((lunetteref11_Name.f kj49 a0).bind fun t369 => (if (t368 == t369) = true then ((tuple_ID.f a0).bind fun t370 => ((lunetteref11_ID.f kj49 a0).bind fun t371 => (some (t370 == t371)))) else (some false)))) else (some false)) = some r := by rw [if_pos rfl] at H; exact H
                  clear H
                  have H := H1
                  clear H1
                  by_cases c82 : x8_49 = true
                  · subst c82
                    have H1 : ((tuple_Name.f a0).bind fun t368 => ((lunetteref11_Name.f kj49 a0).bind fun t369 => (if (t368 == t369) = true then ((tuple_ID.f a0).bind fun t370 => ((lunetteref11_ID.f kj49 a0).bind fun t371 => (some (t370 == t371)))) else (some false)))) = some r := by rw [if_pos rfl] at H; exact H
                    clear H
                    have H := H1
                    clear H1
                    replace H := Option.bind_eq_some_iff.mp H
                    obtain ⟨t368, A830, H⟩ := H
                    replace H : ((lunetteref11_Name.f kj49 a0).bind fun t369 => (if (t368 == t369) = true then ((tuple_ID.f a0).bind fun t370 => ((lunetteref11_ID.f kj49 a0).bind fun t371 => (some (t370 == t371)))) else (some false))) = some r := H
                    have A83 := Aside0.mk A830
                    clear A830
                    replace H := Option.bind_eq_some_iff.mp H
                    obtain ⟨t369, A840, H⟩ := H
                    replace H : (if (t368 == t369) = true then ((tuple_ID.f a0).bind fun t370 => ((lunetteref11_ID.f kj49 a0).bind fun t371 => (some (t370 == t371)))) else (some false)) = some r := H
                    have A84 := Aside0.mk A840
                    clear A840
                    by_cases c85 : (t368 == t369) = true
                    · rw [if_pos c85] at H
                      have c85b0 : (t368 == t369) = true := c85
                      (try (have c85b1 : decide (t368 = t369) = true := by simpa using c85))
                      (try (have c85b2 : (t368 == t369) = true := by simpa using c85))
                      clear c85
                      replace H := Option.bind_eq_some_iff.mp H
                      obtain ⟨t370, A860, H⟩ := H
                      replace H : ((lunetteref11_ID.f kj49 a0).bind fun t371 => (some (t370 == t371))) = some r := H
                      have A86 := Aside0.mk A860
                      clear A860
                      replace H := Option.bind_eq_some_iff.mp H
                      obtain ⟨t371, A870, H⟩ := H
                      replace H : (some (t370 == t371)) = some r := H
                      have A87 := Aside0.mk A870
                      clear A870
                      obtain rfl := Option.some.inj H
                      go_wp2_with (first | (go_at_call 28; (with_reducible refine (tuple_Name.calls a0 t368 _ A83.out).mono ?_); rintro e w88 ⟨rfl, hb⟩; have n0_ := Aside0.mk (blk_below (g := gb354) (o := .cells #[.string t347, .string t348, .string t349, .string t350, .string t351, .string t352] 26 (0, 0)) (by (with_reducible repeat (first | refine blk_drewN ?_ _ | refine blk_drew ?_ | refine blk_alloc ?_ _)); exact BK354.out) hb); have n1_ := Aside0.mk (blk_below (g := gb359) (o := .cells #[.string t355, .string t356, .string t357] 24 (0, 0)) (by (with_reducible repeat (first | refine blk_drewN ?_ _ | refine blk_drew ?_ | refine blk_alloc ?_ _)); exact BK359.out) hb); have n2_ := Aside0.mk (below_step (by repeat (first | (with_reducible first | exact HB.out | apply below_alloc | apply pw_below_drewN | apply below_drew1 | refine below_set ?_ GE354.out | refine below_set ?_ GE359.out) | exact HB.out)) hb); clear BK354; clear BK359; clear HB; have BK354 := n0_; have BK359 := n1_; have HB := n2_; clear n0_ n1_ n2_; (try clear hb); (try clear hb2); (try clear hk); (try clear hi)) | (go_at_call 29; (with_reducible refine (lunetteref11_Name.calls kj49 a0 t369 _ A84.out).mono ?_); rintro e w' ⟨rfl, ⟨nd, rfl⟩⟩) | (go_at_call 30; (with_reducible refine (tuple_ID.calls a0 t370 _ A86.out).mono ?_); rintro e w89 ⟨rfl, hb⟩; have n0_ := Aside0.mk (blk_below (g := gb354) (o := .cells #[.string t347, .string t348, .string t349, .string t350, .string t351, .string t352] 26 (0, 0)) (by (with_reducible repeat (first | refine blk_drewN ?_ _ | refine blk_drew ?_ | refine blk_alloc ?_ _)); exact BK354.out) hb); have n1_ := Aside0.mk (blk_below (g := gb359) (o := .cells #[.string t355, .string t356, .string t357] 24 (0, 0)) (by (with_reducible repeat (first | refine blk_drewN ?_ _ | refine blk_drew ?_ | refine blk_alloc ?_ _)); exact BK359.out) hb); have n2_ := Aside0.mk (below_step (by repeat (first | (with_reducible first | exact HB.out | apply below_alloc | apply pw_below_drewN | apply below_drew1 | refine below_set ?_ GE354.out | refine below_set ?_ GE359.out) | exact HB.out)) hb); clear BK354; clear BK359; clear HB; have BK354 := n0_; have BK359 := n1_; have HB := n2_; clear n0_ n1_ n2_; (try clear hb); (try clear hb2); (try clear hk); (try clear hi)) | (go_at_call 31; (with_reducible refine (lunetteref11_ID.calls kj49 a0 t371 _ A87.out).mono ?_); rintro e w' ⟨rfl, ⟨nd, rfl⟩⟩))
                      go_ret
                      exact ⟨by first | rfl | (simp [errW_none, errW_some] <;> rfl) | (simp [*, errW_none, errW_some] <;> rfl), by repeat (first | (with_reducible first | exact HB.out | apply below_alloc | apply pw_below_drewN | apply below_drew1 | refine below_set ?_ GE354.out | refine below_set ?_ GE359.out) | exact HB.out)⟩
                    · rw [if_neg c85] at H
                      have c85b0 : (t368 == t369) = false := by simpa using c85
                      (try (have c85b1 : decide (t368 = t369) = false := by simpa using c85))
                      (try (have c85b2 : (t368 == t369) = false := by simpa using c85))
                      (try (have c85b3 : ¬ (t368 = t369) := by simpa using c85))
                      clear c85
                      exact absurd ((Option.some.inj H).trans HTRUE.out) (by decide)
                  · replace c82 := Bool.eq_false_iff.mpr c82
                    subst c82
                    have H1 : (some false) = some r := by rw [if_neg (show ¬ (false = true) by decide)] at H; exact H
                    clear H
                    have H := H1
                    clear H1
                    exact absurd ((Option.some.inj H).trans HTRUE.out) (by decide)
                · replace c81 := Bool.eq_false_iff.mpr c81
                  subst c81
                  have H1 : (some false) = some r := by rw [if_neg (show ¬ (false = true) by decide)] at H; exact H
                  clear H
                  have H := H1
                  clear H1
                  exact absurd ((Option.some.inj H).trans HTRUE.out) (by decide)

end Go.Proofs.YtggcipjdhhnnkaaDoor.K
