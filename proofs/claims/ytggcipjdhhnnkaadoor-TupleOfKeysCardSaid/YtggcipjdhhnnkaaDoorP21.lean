-- Written by a program of this session (wip/pp.py over the kit's print.py). Lean checks it.
import Derived.Test.YtggcipjdhhnnkaaDoorP0
import Derived.Test.YtggcipjdhhnnkaaDoorP2
import Derived.Test.YtggcipjdhhnnkaaDoorP5
import Derived.Test.YtggcipjdhhnnkaaDoorAW
import Derived.Test.YtggcipjdhhnnkaaDoorPMb
import Derived.Test.YtggcipjdhhnnkaaDoorPMc
namespace Go.Proofs.YtggcipjdhhnnkaaDoor.K
open Go.RowKit Go.Proofs.YtggcipjdhhnnkaaDoorW.PrintWords Go.Proofs.YtggcipjdhhnnkaaDoorW.PrintLast Go.Proofs.YtggcipjdhhnnkaaDoorW.PrintMore
attribute [local go_sem] max2_int min2_int max_two min_two max_three min_three max_four min_four   -- for this text's walks alone
set_option linter.unusedVariables false
set_option linter.unusedSimpArgs false

attribute [local go_sem high] eqA26
/-! ### lunettelaw11_TupleOfKeys: function 3 -/
def lunettelaw11_TupleOfKeys.j0 : Nat → ByteArray → Bool → Option (Bool)
  | 0, _, _ => none
  | k + 1, x0, x12 => if x12 = true then ((lunettelaw11_awake.f k).bind fun t233 => (some t233)) else ((tuple_OfKey.f k x0).bind fun bt234 => (if bt234.2.2.2.2.2.2.2 = 0 then ((lunetteref11_Check.f k bt234.1 bt234.2.1 bt234.2.2.1 bt234.2.2.2.1 bt234.2.2.2.2.1 bt234.2.2.2.2.2.1).bind fun t243 => (if t243 = true then (if bt234.2.2.2.2.2.2.1 = true then ((lunetteref11_Back.f k bt234.1 bt234.2.1 bt234.2.2.1 bt234.2.2.2.1 bt234.2.2.2.2.1 bt234.2.2.2.2.2.1).bind fun t244 => (some (t244.toList == x0.toList))) else ((lunetteref11_Key.f k bt234.1 bt234.2.1 bt234.2.2.1 bt234.2.2.2.1 bt234.2.2.2.2.1 bt234.2.2.2.2.2.1).bind fun t245 => (some (t245.toList == x0.toList)))) else (some false))) else (if bt234.2.2.2.2.2.2.2 = 110 then (if bt234.2.2.2.2.2.2.1 = true then (some false) else (some (bt234.1.toList == ([] : List UInt8) && (bt234.2.1.toList == ([] : List UInt8) && (bt234.2.2.1.toList == ([] : List UInt8) && ((bt234.2.2.2.1.toList == ([] : List UInt8) && (bt234.2.2.2.2.1.toList == ([] : List UInt8) && (bt234.2.2.2.2.2.1.toList == ([] : List UInt8)))))))))) else (some false))))
def lunettelaw11_TupleOfKeys.f (k : Nat) (a0 : ByteArray) : Option (Bool) := (lunettelaw11_awake.f k).bind fun t232 => (if t232 = true then (lunettelaw11_TupleOfKeys.j0 k a0 (decide ((a0.size : Int) > 400))) else (lunettelaw11_TupleOfKeys.j0 k a0 true))
theorem lunettelaw11_TupleOfKeys.mono_l : ∀ k, (∀ y0 y1, LeO (lunettelaw11_TupleOfKeys.j0 k y0 y1) (lunettelaw11_TupleOfKeys.j0 (k + 1) y0 y1))
  | 0 => fun _ _ r h => by simp [lunettelaw11_TupleOfKeys.j0] at h
  | k + 1 => by
    have ih0 := lunettelaw11_TupleOfKeys.mono_l k
    · intro y0 y1
      unfold lunettelaw11_TupleOfKeys.j0
      repeat' first
      | (with_reducible exact ih0 _ _)
      | (with_reducible exact lunettelaw11_awake.mono _)
      | (with_reducible exact lunetteref11_Back.mono _ _ _ _ _ _ _)
      | (with_reducible exact lunetteref11_Check.mono _ _ _ _ _ _ _)
      | (with_reducible exact lunetteref11_Key.mono _ _ _ _ _ _ _)
      | (with_reducible exact tuple_OfKey.mono _ _)
      | (with_reducible exact LeO.refl _)
      | (with_reducible exact LeO.none _)
      | (with_reducible refine LeO.ite ?_ ?_)
      | (with_reducible refine LeO.bind ?_ (fun _ => ?_))
      | exact ih0 _ _
      | exact lunettelaw11_awake.mono _
      | exact lunetteref11_Back.mono _ _ _ _ _ _ _
      | exact lunetteref11_Check.mono _ _ _ _ _ _ _
      | exact lunetteref11_Key.mono _ _ _ _ _ _ _
      | exact tuple_OfKey.mono _ _
      | exact LeO.none _
      | refine LeO.ite ?_ ?_
      | refine LeO.bind ?_ (fun _ => ?_)
theorem lunettelaw11_TupleOfKeys.mono : ∀ a0 k, LeO (lunettelaw11_TupleOfKeys.f k a0) (lunettelaw11_TupleOfKeys.f (k + 1) a0) := by
  intro a0 k
  have ih0 := lunettelaw11_TupleOfKeys.mono_l k
  unfold lunettelaw11_TupleOfKeys.f
  repeat' first
      | (with_reducible exact ih0 _ _)
      | (with_reducible exact lunettelaw11_awake.mono _)
      | (with_reducible exact lunetteref11_Back.mono _ _ _ _ _ _ _)
      | (with_reducible exact lunetteref11_Check.mono _ _ _ _ _ _ _)
      | (with_reducible exact lunetteref11_Key.mono _ _ _ _ _ _ _)
      | (with_reducible exact tuple_OfKey.mono _ _)
      | (with_reducible exact LeO.refl _)
      | (with_reducible exact LeO.none _)
      | (with_reducible refine LeO.ite ?_ ?_)
      | (with_reducible refine LeO.bind ?_ (fun _ => ?_))
      | exact ih0 _ _
      | exact lunettelaw11_awake.mono _
      | exact lunetteref11_Back.mono _ _ _ _ _ _ _
      | exact lunetteref11_Check.mono _ _ _ _ _ _ _
      | exact lunetteref11_Key.mono _ _ _ _ _ _ _
      | exact tuple_OfKey.mono _ _
      | exact LeO.none _
      | refine LeO.ite ?_ ?_
      | refine LeO.bind ?_ (fun _ => ?_)
set_option maxHeartbeats 8000000 in
set_option maxRecDepth 100000 in
theorem lunettelaw11_TupleOfKeys.callsT (k : Nat) (a0 : ByteArray) (r : Bool) (w : World) (h : lunettelaw11_TupleOfKeys.f k a0 = some r) (hT : r = true) :
    Calls Tryd.prog 3 #[.string a0] w fun e w' => e = .returned (.bool r) ∧ Below w.heap.size w w' := by
  have hu26 := Tryd.underlying26
  have HB := Aside0.mk (Below.refl w.heap.size w)
  have HTRUE := Aside0.mk hT
  clear hT
  have H : ((lunettelaw11_awake.f k).bind fun t232 => (if t232 = true then (lunettelaw11_TupleOfKeys.j0 k a0 (decide ((a0.size : Int) > 400))) else (lunettelaw11_TupleOfKeys.j0 k a0 true))) = some r := h
  clear h
  have HC2 := Aside0.mk H
  clear H
  go_enter Tryd.func3, Tryd.ntmps3
  go_upto_region 1 with (fail)
  go_cut [12] (fun v12 wc => ∃ (kq : Nat) (x12_1 : Bool), v12 = .bool x12_1 ∧ Aside0 (lunettelaw11_TupleOfKeys.j0 kq a0 x12_1 = some r) ∧ Aside0 (kq ≤ k) ∧ Aside0 (Below w.heap.size w wc))
  case first =>
    have H := HC2.out
    clear HC2
    replace H := Option.bind_eq_some_iff.mp H
    obtain ⟨t232, A30, H⟩ := H
    replace H : (if t232 = true then (lunettelaw11_TupleOfKeys.j0 k a0 (decide ((a0.size : Int) > 400))) else (lunettelaw11_TupleOfKeys.j0 k a0 true)) = some r := H
    have A3 := Aside0.mk A30
    clear A30
    by_cases c4 : t232 = true
    · subst c4
      have H1 : (lunettelaw11_TupleOfKeys.j0 k a0 (decide ((a0.size : Int) > 400))) = some r := by rw [if_pos rfl] at H; exact H
      clear H
      have H := H1
      clear H1
      have H' := Aside0.mk H
      clear H
      go_wp2_with (first | ((with_reducible refine gate_callee (f := 11) rfl ?_); refine goesL_ (some 6) rfl rfl Tryd.func11 (by kernel_rfl) rfl #[] rfl (by (try simp only [List.map_toArray, List.map_cons, List.map_nil]); first | done | rfl | (simp only [List.length_drop, List.length_take]; rfl)) ?_; (with_reducible refine (lunettelaw11_awake.calls k  true _ A3.out).mono ?_); rintro e w5 ⟨rfl, hb⟩; refine ⟨_, rfl, ?_⟩; have n0_ := Aside0.mk (below_step (by repeat (first | (with_reducible first | exact HB.out | apply below_alloc | apply pw_below_drewN | apply below_drew1) | exact HB.out)) hb); clear HB; have HB := n0_; clear n0_; (try clear hb); (try clear hb2); (try clear hk); (try clear hi)))
      go_meet
      case rel => exact ⟨_, (decide ((a0.size : Int) > 400)), (by first | rfl | (simp; done) | (simp [*]; done)), H', ⟨by first | omega | exact Nat.le_refl _⟩, ⟨by repeat (first | (with_reducible first | exact HB.out | apply below_alloc | apply pw_below_drewN | apply below_drew1) | exact HB.out)⟩⟩
    · replace c4 := Bool.eq_false_iff.mpr c4
      subst c4
      have H1 : (lunettelaw11_TupleOfKeys.j0 k a0 true) = some r := by rw [if_neg (show ¬ (false = true) by decide)] at H; exact H
      clear H
      have H := H1
      clear H1
      have H' := Aside0.mk H
      clear H
      go_wp2_with (first | ((with_reducible refine gate_callee (f := 11) rfl ?_); refine goesL_ (some 6) rfl rfl Tryd.func11 (by kernel_rfl) rfl #[] rfl (by (try simp only [List.map_toArray, List.map_cons, List.map_nil]); first | done | rfl | (simp only [List.length_drop, List.length_take]; rfl)) ?_; (with_reducible refine (lunettelaw11_awake.calls k  false _ A3.out).mono ?_); rintro e w6 ⟨rfl, hb⟩; refine ⟨_, rfl, ?_⟩; have n0_ := Aside0.mk (below_step (by repeat (first | (with_reducible first | exact HB.out | apply below_alloc | apply pw_below_drewN | apply below_drew1) | exact HB.out)) hb); clear HB; have HB := n0_; clear n0_; (try clear hb); (try clear hb2); (try clear hk); (try clear hi)))
      go_meet
      case rel => exact ⟨_, (true), (by first | rfl | (simp; done) | (simp [*]; done)), H', ⟨by first | omega | exact Nat.le_refl _⟩, ⟨by repeat (first | (with_reducible first | exact HB.out | apply below_alloc | apply pw_below_drewN | apply below_drew1) | exact HB.out)⟩⟩
  case rest =>
    clear HC2
    try clear c1
    try clear p2
    try clear c3
    try clear c4
    obtain ⟨kq, x12_1, rfl, HA, HJ1, HB⟩ := hcut
    cases kq with
    | zero => exact absurd HA.out (by simp [lunettelaw11_TupleOfKeys.j0])
    | succ kj1 =>
      have H := HA.out
      clear HA
      simp only [lunettelaw11_TupleOfKeys.j0] at H
      by_cases c7 : x12_1 = true
      · subst c7
        have H1 : ((lunettelaw11_awake.f kj1).bind fun t233 => (some t233)) = some r := by rw [if_pos rfl] at H; exact H
        clear H
        have H := H1
        clear H1
        replace H := Option.bind_eq_some_iff.mp H
        obtain ⟨t233, A80, H⟩ := H
        replace H : (some t233) = some r := H
        have A8 := Aside0.mk A80
        clear A80
        obtain rfl := Option.some.inj H
        go_wp2_with (first | ((with_reducible refine gate_callee (f := 11) rfl ?_); refine goesL_ (some 13) rfl rfl Tryd.func11 (by kernel_rfl) rfl #[] rfl (by (try simp only [List.map_toArray, List.map_cons, List.map_nil]); first | done | rfl | (simp only [List.length_drop, List.length_take]; rfl)) ?_; (with_reducible refine (lunettelaw11_awake.calls kj1  t233 _ A8.out).mono ?_); rintro e w9 ⟨rfl, hb⟩; refine ⟨_, rfl, ?_⟩; have n0_ := Aside0.mk (below_step (by repeat (first | (with_reducible first | exact HB.out | apply below_alloc | apply pw_below_drewN | apply below_drew1) | exact HB.out)) hb); clear HB; have HB := n0_; clear n0_; (try clear hb); (try clear hb2); (try clear hk); (try clear hi)))
        go_ret
        exact ⟨by first | rfl | (simp [errW_none, errW_some] <;> rfl) | (simp [*, errW_none, errW_some] <;> rfl), by repeat (first | (with_reducible first | exact HB.out | apply below_alloc | apply pw_below_drewN | apply below_drew1) | exact HB.out)⟩
      · replace c7 := Bool.eq_false_iff.mpr c7
        subst c7
        have H1 : ((tuple_OfKey.f kj1 a0).bind fun bt234 => (if bt234.2.2.2.2.2.2.2 = 0 then ((lunetteref11_Check.f kj1 bt234.1 bt234.2.1 bt234.2.2.1 bt234.2.2.2.1 bt234.2.2.2.2.1 bt234.2.2.2.2.2.1).bind fun t243 => (if t243 = true then (if bt234.2.2.2.2.2.2.1 = true then ((lunetteref11_Back.f kj1 bt234.1 bt234.2.1 bt234.2.2.1 bt234.2.2.2.1 bt234.2.2.2.2.1 bt234.2.2.2.2.2.1).bind fun t244 => (some (t244.toList == a0.toList))) else ((lunetteref11_Key.f kj1 bt234.1 bt234.2.1 bt234.2.2.1 bt234.2.2.2.1 bt234.2.2.2.2.1 bt234.2.2.2.2.2.1).bind fun t245 => (some (t245.toList == a0.toList)))) else (some false))) else (if bt234.2.2.2.2.2.2.2 = 110 then (if bt234.2.2.2.2.2.2.1 = true then (some false) else (some (bt234.1.toList == ([] : List UInt8) && (bt234.2.1.toList == ([] : List UInt8) && (bt234.2.2.1.toList == ([] : List UInt8) && ((bt234.2.2.2.1.toList == ([] : List UInt8) && (bt234.2.2.2.2.1.toList == ([] : List UInt8) && (bt234.2.2.2.2.2.1.toList == ([] : List UInt8)))))))))) else (some false)))) = some r := by rw [if_neg (show ¬ (false = true) by decide)] at H; exact H
        clear H
        have H := H1
        clear H1
        replace H := Option.bind_eq_some_iff.mp H
        obtain ⟨⟨t234, t235, t236, t237, t238, t239, t240, t241⟩, A100, H⟩ := H
        replace H : (if t241 = 0 then ((lunetteref11_Check.f kj1 t234 t235 t236 t237 t238 t239).bind fun t243 => (if t243 = true then (if t240 = true then ((lunetteref11_Back.f kj1 t234 t235 t236 t237 t238 t239).bind fun t244 => (some (t244.toList == a0.toList))) else ((lunetteref11_Key.f kj1 t234 t235 t236 t237 t238 t239).bind fun t245 => (some (t245.toList == a0.toList)))) else (some false))) else (if t241 = 110 then (if t240 = true then (some false) else (some (t234.toList == ([] : List UInt8) && (t235.toList == ([] : List UInt8) && (t236.toList == ([] : List UInt8) && ((t237.toList == ([] : List UInt8) && (t238.toList == ([] : List UInt8) && (t239.toList == ([] : List UInt8)))))))))) else (some false))) = some r := H
        have A10 := Aside0.mk A100
        clear A100
        by_cases c11 : t241 = 0
        · rw [if_pos c11] at H
          have c11b0 : (t241 == 0) = true := beq_iff_eq.mpr c11
          have c11b1 : (t241 != 0) = false := bne_eq_false_iff_eq.mpr c11
          clear c11
          replace H := Option.bind_eq_some_iff.mp H
          obtain ⟨t243, A120, H⟩ := H
          replace H : (if t243 = true then (if t240 = true then ((lunetteref11_Back.f kj1 t234 t235 t236 t237 t238 t239).bind fun t244 => (some (t244.toList == a0.toList))) else ((lunetteref11_Key.f kj1 t234 t235 t236 t237 t238 t239).bind fun t245 => (some (t245.toList == a0.toList)))) else (some false)) = some r := H
          have A12 := Aside0.mk A120
          clear A120
          by_cases c13 : t243 = true
          · subst c13
            have H1 : (if t240 = true then ((lunetteref11_Back.f kj1 t234 t235 t236 t237 t238 t239).bind fun t244 => (some (t244.toList == a0.toList))) else ((lunetteref11_Key.f kj1 t234 t235 t236 t237 t238 t239).bind fun t245 => (some (t245.toList == a0.toList)))) = some r := by rw [if_pos rfl] at H; exact H
            clear H
            have H := H1
            clear H1
            by_cases c14 : t240 = true
            · subst c14
              have H1 : ((lunetteref11_Back.f kj1 t234 t235 t236 t237 t238 t239).bind fun t244 => (some (t244.toList == a0.toList))) = some r := by rw [if_pos rfl] at H; exact H
              clear H
              have H := H1
              clear H1
              replace H := Option.bind_eq_some_iff.mp H
              obtain ⟨t244, A150, H⟩ := H
              replace H : (some (t244.toList == a0.toList)) = some r := H
              have A15 := Aside0.mk A150
              clear A150
              obtain rfl := Option.some.inj H
              go_wp2_with (first | ((with_reducible refine gate_callee (f := 12) rfl ?_); refine goesL_ (some 16) rfl rfl Tryd.func12 (by kernel_rfl) rfl #[.string a0] rfl (by (try simp only [List.map_toArray, List.map_cons, List.map_nil]); first | done | rfl | (simp only [List.length_drop, List.length_take]; rfl)) ?_; (with_reducible refine (tuple_OfKey.calls kj1 a0 t234 t235 t236 t237 t238 t239 true t241 _ A10.out).mono ?_); rintro e w16 ⟨rfl, hb⟩; refine ⟨_, rfl, ?_⟩; have n0_ := Aside0.mk (below_step (by repeat (first | (with_reducible first | exact HB.out | apply below_alloc | apply pw_below_drewN | apply below_drew1) | exact HB.out)) hb); clear HB; have HB := n0_; clear n0_; (try clear hb); (try clear hb2); (try clear hk); (try clear hi)) | ((with_reducible refine gate_dst (N := 3) rfl ?_); (try (refine gate_guard (by rfl) ?_; dsimp only)); refine box_event ?hg (N := 3) ?hd (cs := #[.string (⟨#[]⟩ : ByteArray), .string (⟨#[]⟩ : ByteArray), .string (⟨#[]⟩ : ByteArray), .string (⟨#[]⟩ : ByteArray), .string (⟨#[]⟩ : ByteArray), .string (⟨#[]⟩ : ByteArray)]) (t := 26) ?hr ?_; (case hd => rfl); (case hg => rfl); (case hr => first | (go_simp; done) | (go_simp; rfl)); intro gb242 hg w17 hbox hb; have n0_ := Aside0.mk (below_step (by repeat (first | (with_reducible first | exact HB.out | apply below_alloc | apply pw_below_drewN | apply below_drew1) | exact HB.out)) hb); have n1_ := Aside0.mk (hbox); have n2_ := Aside0.mk ((by rw [hg]; exact (below_size (by repeat (first | (with_reducible first | exact HB.out | apply below_alloc | apply pw_below_drewN | apply below_drew1) | exact HB.out))) : w.heap.size ≤ gb242)); have n3_ := Aside0.mk ((by rw [hg]; exact (below_size (by repeat (first | (with_reducible first | exact HB.out | apply below_alloc | apply pw_below_drewN | apply below_drew1) | exact HB.out))) : w.heap.size ≤ gb242)); clear HB; have HB := n0_; have BK242 := n1_; have GW242 := n2_; have GE242 := n3_; clear n0_ n1_ n2_ n3_; clear hb hbox hg; have hcz18_0 : w17.cell? ⟨gb242, 0, none⟩ = some (.string (⟨#[]⟩ : ByteArray)) := (blk_cell BK242.out 0).trans rfl; have hcz18_1 : w17.cell? ⟨gb242, 1, none⟩ = some (.string (⟨#[]⟩ : ByteArray)) := (blk_cell BK242.out 1).trans rfl; have hcz18_2 : w17.cell? ⟨gb242, 2, none⟩ = some (.string (⟨#[]⟩ : ByteArray)) := (blk_cell BK242.out 2).trans rfl; have hcz18_3 : w17.cell? ⟨gb242, 3, none⟩ = some (.string (⟨#[]⟩ : ByteArray)) := (blk_cell BK242.out 3).trans rfl; have hcz18_4 : w17.cell? ⟨gb242, 4, none⟩ = some (.string (⟨#[]⟩ : ByteArray)) := (blk_cell BK242.out 4).trans rfl; have hcz18_5 : w17.cell? ⟨gb242, 5, none⟩ = some (.string (⟨#[]⟩ : ByteArray)) := (blk_cell BK242.out 5).trans rfl; have hfz18_0 := blk_frozen BK242.out 0; have hfz18_1 := blk_frozen BK242.out 1; have hfz18_2 := blk_frozen BK242.out 2; have hfz18_3 := blk_frozen BK242.out 3; have hfz18_4 := blk_frozen BK242.out 4; have hfz18_5 := blk_frozen BK242.out 5) | ((with_reducible refine gate_callee (f := 13) rfl ?_); refine goesL_ (some 34) rfl rfl Tryd.func13 (by kernel_rfl) rfl #[.agg #[.string t234, .string t235, .string t236, .string t237, .string t238, .string t239]] rfl (by (try simp only [List.map_toArray, List.map_cons, List.map_nil]); first | done | rfl | (simp only [List.length_drop, List.length_take]; rfl)) ?_; (with_reducible refine (lunetteref11_Check.calls kj1 t234 t235 t236 t237 t238 t239 true _ A12.out).mono ?_); rintro e w19 ⟨rfl, hb⟩; refine ⟨_, rfl, ?_⟩; have n0_ := Aside0.mk (blk_below (g := gb242) (o := .cells #[.string t234, .string t235, .string t236, .string t237, .string t238, .string t239] 26 (0, 0)) (by (with_reducible repeat (first | refine blk_drewN ?_ _ | refine blk_drew ?_ | refine blk_alloc ?_ _)); refine blk_put (cs := #[.string t234, .string t235, .string t236, .string t237, .string t238, .string (⟨#[]⟩ : ByteArray)]) ?_ 5 _ rfl; (with_reducible repeat (first | refine blk_drewN ?_ _ | refine blk_drew ?_ | refine blk_alloc ?_ _)); refine blk_put (cs := #[.string t234, .string t235, .string t236, .string t237, .string (⟨#[]⟩ : ByteArray), .string (⟨#[]⟩ : ByteArray)]) ?_ 4 _ rfl; (with_reducible repeat (first | refine blk_drewN ?_ _ | refine blk_drew ?_ | refine blk_alloc ?_ _)); refine blk_put (cs := #[.string t234, .string t235, .string t236, .string (⟨#[]⟩ : ByteArray), .string (⟨#[]⟩ : ByteArray), .string (⟨#[]⟩ : ByteArray)]) ?_ 3 _ rfl; (with_reducible repeat (first | refine blk_drewN ?_ _ | refine blk_drew ?_ | refine blk_alloc ?_ _)); refine blk_put (cs := #[.string t234, .string t235, .string (⟨#[]⟩ : ByteArray), .string (⟨#[]⟩ : ByteArray), .string (⟨#[]⟩ : ByteArray), .string (⟨#[]⟩ : ByteArray)]) ?_ 2 _ rfl; (with_reducible repeat (first | refine blk_drewN ?_ _ | refine blk_drew ?_ | refine blk_alloc ?_ _)); refine blk_put (cs := #[.string t234, .string (⟨#[]⟩ : ByteArray), .string (⟨#[]⟩ : ByteArray), .string (⟨#[]⟩ : ByteArray), .string (⟨#[]⟩ : ByteArray), .string (⟨#[]⟩ : ByteArray)]) ?_ 1 _ rfl; (with_reducible repeat (first | refine blk_drewN ?_ _ | refine blk_drew ?_ | refine blk_alloc ?_ _)); refine blk_put (cs := #[.string (⟨#[]⟩ : ByteArray), .string (⟨#[]⟩ : ByteArray), .string (⟨#[]⟩ : ByteArray), .string (⟨#[]⟩ : ByteArray), .string (⟨#[]⟩ : ByteArray), .string (⟨#[]⟩ : ByteArray)]) ?_ 0 _ rfl; (with_reducible repeat (first | refine blk_drewN ?_ _ | refine blk_drew ?_ | refine blk_alloc ?_ _)); exact BK242.out) hb); have n1_ := Aside0.mk (below_step (by repeat (first | (with_reducible first | exact HB.out | apply below_alloc | apply pw_below_drewN | apply below_drew1 | refine below_set ?_ GE242.out) | exact HB.out)) hb); clear BK242; clear HB; have BK242 := n0_; have HB := n1_; clear n0_ n1_; (try clear hb); (try clear hb2); (try clear hk); (try clear hi); have hcz20_0 : w19.cell? ⟨gb242, 0, none⟩ = some (.string t234) := (blk_cell BK242.out 0).trans rfl; have hcz20_1 : w19.cell? ⟨gb242, 1, none⟩ = some (.string t235) := (blk_cell BK242.out 1).trans rfl; have hcz20_2 : w19.cell? ⟨gb242, 2, none⟩ = some (.string t236) := (blk_cell BK242.out 2).trans rfl; have hcz20_3 : w19.cell? ⟨gb242, 3, none⟩ = some (.string t237) := (blk_cell BK242.out 3).trans rfl; have hcz20_4 : w19.cell? ⟨gb242, 4, none⟩ = some (.string t238) := (blk_cell BK242.out 4).trans rfl; have hcz20_5 : w19.cell? ⟨gb242, 5, none⟩ = some (.string t239) := (blk_cell BK242.out 5).trans rfl; have hfz20_0 := blk_frozen BK242.out 0; have hfz20_1 := blk_frozen BK242.out 1; have hfz20_2 := blk_frozen BK242.out 2; have hfz20_3 := blk_frozen BK242.out 3; have hfz20_4 := blk_frozen BK242.out 4; have hfz20_5 := blk_frozen BK242.out 5) | ((with_reducible refine gate_callee (f := 14) rfl ?_); refine goesL_ (some 38) rfl rfl Tryd.func14 (by kernel_rfl) rfl #[.agg #[.string t234, .string t235, .string t236, .string t237, .string t238, .string t239]] rfl (by (try simp only [List.map_toArray, List.map_cons, List.map_nil]); first | done | rfl | (simp only [List.length_drop, List.length_take]; rfl)) ?_; (with_reducible refine (lunetteref11_Back.calls kj1 t234 t235 t236 t237 t238 t239 t244 _ A15.out).mono ?_); rintro e w21 ⟨rfl, hb⟩; refine ⟨_, rfl, ?_⟩; have n0_ := Aside0.mk (blk_below (g := gb242) (o := .cells #[.string t234, .string t235, .string t236, .string t237, .string t238, .string t239] 26 (0, 0)) (by (with_reducible repeat (first | refine blk_drewN ?_ _ | refine blk_drew ?_ | refine blk_alloc ?_ _)); exact BK242.out) hb); have n1_ := Aside0.mk (below_step (by repeat (first | (with_reducible first | exact HB.out | apply below_alloc | apply pw_below_drewN | apply below_drew1 | refine below_set ?_ GE242.out) | exact HB.out)) hb); clear BK242; clear HB; have BK242 := n0_; have HB := n1_; clear n0_ n1_; (try clear hb); (try clear hb2); (try clear hk); (try clear hi)))
              go_ret
              exact ⟨by first | rfl | (simp [errW_none, errW_some] <;> rfl) | (simp [*, errW_none, errW_some] <;> rfl), by repeat (first | (with_reducible first | exact HB.out | apply below_alloc | apply pw_below_drewN | apply below_drew1 | refine below_set ?_ GE242.out) | exact HB.out)⟩
            · replace c14 := Bool.eq_false_iff.mpr c14
              subst c14
              have H1 : ((lunetteref11_Key.f kj1 t234 t235 t236 t237 t238 t239).bind fun t245 => (some (t245.toList == a0.toList))) = some r := by rw [if_neg (show ¬ (false = true) by decide)] at H; exact H
              clear H
              have H := H1
              clear H1
              replace H := Option.bind_eq_some_iff.mp H
              obtain ⟨t245, A220, H⟩ := H
              replace H : (some (t245.toList == a0.toList)) = some r := H
              have A22 := Aside0.mk A220
              clear A220
              obtain rfl := Option.some.inj H
              go_wp2_with (first | ((with_reducible refine gate_callee (f := 12) rfl ?_); refine goesL_ (some 16) rfl rfl Tryd.func12 (by kernel_rfl) rfl #[.string a0] rfl (by (try simp only [List.map_toArray, List.map_cons, List.map_nil]); first | done | rfl | (simp only [List.length_drop, List.length_take]; rfl)) ?_; (with_reducible refine (tuple_OfKey.calls kj1 a0 t234 t235 t236 t237 t238 t239 false t241 _ A10.out).mono ?_); rintro e w23 ⟨rfl, hb⟩; refine ⟨_, rfl, ?_⟩; have n0_ := Aside0.mk (below_step (by repeat (first | (with_reducible first | exact HB.out | apply below_alloc | apply pw_below_drewN | apply below_drew1) | exact HB.out)) hb); clear HB; have HB := n0_; clear n0_; (try clear hb); (try clear hb2); (try clear hk); (try clear hi)) | ((with_reducible refine gate_dst (N := 3) rfl ?_); (try (refine gate_guard (by rfl) ?_; dsimp only)); refine box_event ?hg (N := 3) ?hd (cs := #[.string (⟨#[]⟩ : ByteArray), .string (⟨#[]⟩ : ByteArray), .string (⟨#[]⟩ : ByteArray), .string (⟨#[]⟩ : ByteArray), .string (⟨#[]⟩ : ByteArray), .string (⟨#[]⟩ : ByteArray)]) (t := 26) ?hr ?_; (case hd => rfl); (case hg => rfl); (case hr => first | (go_simp; done) | (go_simp; rfl)); intro gb242 hg w24 hbox hb; have n0_ := Aside0.mk (below_step (by repeat (first | (with_reducible first | exact HB.out | apply below_alloc | apply pw_below_drewN | apply below_drew1) | exact HB.out)) hb); have n1_ := Aside0.mk (hbox); have n2_ := Aside0.mk ((by rw [hg]; exact (below_size (by repeat (first | (with_reducible first | exact HB.out | apply below_alloc | apply pw_below_drewN | apply below_drew1) | exact HB.out))) : w.heap.size ≤ gb242)); have n3_ := Aside0.mk ((by rw [hg]; exact (below_size (by repeat (first | (with_reducible first | exact HB.out | apply below_alloc | apply pw_below_drewN | apply below_drew1) | exact HB.out))) : w.heap.size ≤ gb242)); clear HB; have HB := n0_; have BK242 := n1_; have GW242 := n2_; have GE242 := n3_; clear n0_ n1_ n2_ n3_; clear hb hbox hg; have hcz25_0 : w24.cell? ⟨gb242, 0, none⟩ = some (.string (⟨#[]⟩ : ByteArray)) := (blk_cell BK242.out 0).trans rfl; have hcz25_1 : w24.cell? ⟨gb242, 1, none⟩ = some (.string (⟨#[]⟩ : ByteArray)) := (blk_cell BK242.out 1).trans rfl; have hcz25_2 : w24.cell? ⟨gb242, 2, none⟩ = some (.string (⟨#[]⟩ : ByteArray)) := (blk_cell BK242.out 2).trans rfl; have hcz25_3 : w24.cell? ⟨gb242, 3, none⟩ = some (.string (⟨#[]⟩ : ByteArray)) := (blk_cell BK242.out 3).trans rfl; have hcz25_4 : w24.cell? ⟨gb242, 4, none⟩ = some (.string (⟨#[]⟩ : ByteArray)) := (blk_cell BK242.out 4).trans rfl; have hcz25_5 : w24.cell? ⟨gb242, 5, none⟩ = some (.string (⟨#[]⟩ : ByteArray)) := (blk_cell BK242.out 5).trans rfl; have hfz25_0 := blk_frozen BK242.out 0; have hfz25_1 := blk_frozen BK242.out 1; have hfz25_2 := blk_frozen BK242.out 2; have hfz25_3 := blk_frozen BK242.out 3; have hfz25_4 := blk_frozen BK242.out 4; have hfz25_5 := blk_frozen BK242.out 5) | ((with_reducible refine gate_callee (f := 13) rfl ?_); refine goesL_ (some 34) rfl rfl Tryd.func13 (by kernel_rfl) rfl #[.agg #[.string t234, .string t235, .string t236, .string t237, .string t238, .string t239]] rfl (by (try simp only [List.map_toArray, List.map_cons, List.map_nil]); first | done | rfl | (simp only [List.length_drop, List.length_take]; rfl)) ?_; (with_reducible refine (lunetteref11_Check.calls kj1 t234 t235 t236 t237 t238 t239 true _ A12.out).mono ?_); rintro e w26 ⟨rfl, hb⟩; refine ⟨_, rfl, ?_⟩; have n0_ := Aside0.mk (blk_below (g := gb242) (o := .cells #[.string t234, .string t235, .string t236, .string t237, .string t238, .string t239] 26 (0, 0)) (by (with_reducible repeat (first | refine blk_drewN ?_ _ | refine blk_drew ?_ | refine blk_alloc ?_ _)); refine blk_put (cs := #[.string t234, .string t235, .string t236, .string t237, .string t238, .string (⟨#[]⟩ : ByteArray)]) ?_ 5 _ rfl; (with_reducible repeat (first | refine blk_drewN ?_ _ | refine blk_drew ?_ | refine blk_alloc ?_ _)); refine blk_put (cs := #[.string t234, .string t235, .string t236, .string t237, .string (⟨#[]⟩ : ByteArray), .string (⟨#[]⟩ : ByteArray)]) ?_ 4 _ rfl; (with_reducible repeat (first | refine blk_drewN ?_ _ | refine blk_drew ?_ | refine blk_alloc ?_ _)); refine blk_put (cs := #[.string t234, .string t235, .string t236, .string (⟨#[]⟩ : ByteArray), .string (⟨#[]⟩ : ByteArray), .string (⟨#[]⟩ : ByteArray)]) ?_ 3 _ rfl; (with_reducible repeat (first | refine blk_drewN ?_ _ | refine blk_drew ?_ | refine blk_alloc ?_ _)); refine blk_put (cs := #[.string t234, .string t235, .string (⟨#[]⟩ : ByteArray), .string (⟨#[]⟩ : ByteArray), .string (⟨#[]⟩ : ByteArray), .string (⟨#[]⟩ : ByteArray)]) ?_ 2 _ rfl; (with_reducible repeat (first | refine blk_drewN ?_ _ | refine blk_drew ?_ | refine blk_alloc ?_ _)); refine blk_put (cs := #[.string t234, .string (⟨#[]⟩ : ByteArray), .string (⟨#[]⟩ : ByteArray), .string (⟨#[]⟩ : ByteArray), .string (⟨#[]⟩ : ByteArray), .string (⟨#[]⟩ : ByteArray)]) ?_ 1 _ rfl; (with_reducible repeat (first | refine blk_drewN ?_ _ | refine blk_drew ?_ | refine blk_alloc ?_ _)); refine blk_put (cs := #[.string (⟨#[]⟩ : ByteArray), .string (⟨#[]⟩ : ByteArray), .string (⟨#[]⟩ : ByteArray), .string (⟨#[]⟩ : ByteArray), .string (⟨#[]⟩ : ByteArray), .string (⟨#[]⟩ : ByteArray)]) ?_ 0 _ rfl; (with_reducible repeat (first | refine blk_drewN ?_ _ | refine blk_drew ?_ | refine blk_alloc ?_ _)); exact BK242.out) hb); have n1_ := Aside0.mk (below_step (by repeat (first | (with_reducible first | exact HB.out | apply below_alloc | apply pw_below_drewN | apply below_drew1 | refine below_set ?_ GE242.out) | exact HB.out)) hb); clear BK242; clear HB; have BK242 := n0_; have HB := n1_; clear n0_ n1_; (try clear hb); (try clear hb2); (try clear hk); (try clear hi); have hcz27_0 : w26.cell? ⟨gb242, 0, none⟩ = some (.string t234) := (blk_cell BK242.out 0).trans rfl; have hcz27_1 : w26.cell? ⟨gb242, 1, none⟩ = some (.string t235) := (blk_cell BK242.out 1).trans rfl; have hcz27_2 : w26.cell? ⟨gb242, 2, none⟩ = some (.string t236) := (blk_cell BK242.out 2).trans rfl; have hcz27_3 : w26.cell? ⟨gb242, 3, none⟩ = some (.string t237) := (blk_cell BK242.out 3).trans rfl; have hcz27_4 : w26.cell? ⟨gb242, 4, none⟩ = some (.string t238) := (blk_cell BK242.out 4).trans rfl; have hcz27_5 : w26.cell? ⟨gb242, 5, none⟩ = some (.string t239) := (blk_cell BK242.out 5).trans rfl; have hfz27_0 := blk_frozen BK242.out 0; have hfz27_1 := blk_frozen BK242.out 1; have hfz27_2 := blk_frozen BK242.out 2; have hfz27_3 := blk_frozen BK242.out 3; have hfz27_4 := blk_frozen BK242.out 4; have hfz27_5 := blk_frozen BK242.out 5) | ((with_reducible refine gate_callee (f := 15) rfl ?_); refine goesL_ (some 42) rfl rfl Tryd.func15 (by kernel_rfl) rfl #[.agg #[.string t234, .string t235, .string t236, .string t237, .string t238, .string t239]] rfl (by (try simp only [List.map_toArray, List.map_cons, List.map_nil]); first | done | rfl | (simp only [List.length_drop, List.length_take]; rfl)) ?_; (with_reducible refine (lunetteref11_Key.calls kj1 t234 t235 t236 t237 t238 t239 t245 _ A22.out).mono ?_); rintro e w28 ⟨rfl, hb⟩; refine ⟨_, rfl, ?_⟩; have n0_ := Aside0.mk (blk_below (g := gb242) (o := .cells #[.string t234, .string t235, .string t236, .string t237, .string t238, .string t239] 26 (0, 0)) (by (with_reducible repeat (first | refine blk_drewN ?_ _ | refine blk_drew ?_ | refine blk_alloc ?_ _)); exact BK242.out) hb); have n1_ := Aside0.mk (below_step (by repeat (first | (with_reducible first | exact HB.out | apply below_alloc | apply pw_below_drewN | apply below_drew1 | refine below_set ?_ GE242.out) | exact HB.out)) hb); clear BK242; clear HB; have BK242 := n0_; have HB := n1_; clear n0_ n1_; (try clear hb); (try clear hb2); (try clear hk); (try clear hi)))
              go_ret
              exact ⟨by first | rfl | (simp [errW_none, errW_some] <;> rfl) | (simp [*, errW_none, errW_some] <;> rfl), by repeat (first | (with_reducible first | exact HB.out | apply below_alloc | apply pw_below_drewN | apply below_drew1 | refine below_set ?_ GE242.out) | exact HB.out)⟩
          · replace c13 := Bool.eq_false_iff.mpr c13
            subst c13
            have H1 : (some false) = some r := by rw [if_neg (show ¬ (false = true) by decide)] at H; exact H
            clear H
            have H := H1
            clear H1
            exact absurd ((Option.some.inj H).trans HTRUE.out) (by decide)
        · rw [if_neg c11] at H
          have c11b0 : (t241 == 0) = false := beq_eq_false_iff_ne.mpr c11
          have c11b1 : (t241 != 0) = true := bne_iff_ne.mpr c11
          by_cases c29 : t241 = 110
          · rw [if_pos c29] at H
            have c29b0 : (t241 == 110) = true := beq_iff_eq.mpr c29
            have c29b1 : (t241 != 110) = false := bne_eq_false_iff_eq.mpr c29
            clear c29
            by_cases c30 : t240 = true
            · subst c30
              have H1 : (some false) = some r := by rw [if_pos rfl] at H; exact H
              clear H
              have H := H1
              clear H1
              exact absurd ((Option.some.inj H).trans HTRUE.out) (by decide)
            · replace c30 := Bool.eq_false_iff.mpr c30
              subst c30
              have H1 : (some (t234.toList == ([] : List UInt8) && (t235.toList == ([] : List UInt8) && (t236.toList == ([] : List UInt8) && ((t237.toList == ([] : List UInt8) && (t238.toList == ([] : List UInt8) && (t239.toList == ([] : List UInt8))))))))) = some r := by rw [if_neg (show ¬ (false = true) by decide)] at H; exact H
              clear H
              have H := H1
              clear H1
              obtain rfl := Option.some.inj H
              go_wp2_with (first | ((with_reducible refine gate_callee (f := 12) rfl ?_); refine goesL_ (some 16) rfl rfl Tryd.func12 (by kernel_rfl) rfl #[.string a0] rfl (by (try simp only [List.map_toArray, List.map_cons, List.map_nil]); first | done | rfl | (simp only [List.length_drop, List.length_take]; rfl)) ?_; (with_reducible refine (tuple_OfKey.calls kj1 a0 t234 t235 t236 t237 t238 t239 false t241 _ A10.out).mono ?_); rintro e w31 ⟨rfl, hb⟩; refine ⟨_, rfl, ?_⟩; have n0_ := Aside0.mk (below_step (by repeat (first | (with_reducible first | exact HB.out | apply below_alloc | apply pw_below_drewN | apply below_drew1) | exact HB.out)) hb); clear HB; have HB := n0_; clear n0_; (try clear hb); (try clear hb2); (try clear hk); (try clear hi)) | ((with_reducible refine gate_dst (N := 3) rfl ?_); (try (refine gate_guard (by rfl) ?_; dsimp only)); refine box_event ?hg (N := 3) ?hd (cs := #[.string (⟨#[]⟩ : ByteArray), .string (⟨#[]⟩ : ByteArray), .string (⟨#[]⟩ : ByteArray), .string (⟨#[]⟩ : ByteArray), .string (⟨#[]⟩ : ByteArray), .string (⟨#[]⟩ : ByteArray)]) (t := 26) ?hr ?_; (case hd => rfl); (case hg => rfl); (case hr => first | (go_simp; done) | (go_simp; rfl)); intro gb242 hg w32 hbox hb; have n0_ := Aside0.mk (below_step (by repeat (first | (with_reducible first | exact HB.out | apply below_alloc | apply pw_below_drewN | apply below_drew1) | exact HB.out)) hb); have n1_ := Aside0.mk (hbox); have n2_ := Aside0.mk ((by rw [hg]; exact (below_size (by repeat (first | (with_reducible first | exact HB.out | apply below_alloc | apply pw_below_drewN | apply below_drew1) | exact HB.out))) : w.heap.size ≤ gb242)); have n3_ := Aside0.mk ((by rw [hg]; exact (below_size (by repeat (first | (with_reducible first | exact HB.out | apply below_alloc | apply pw_below_drewN | apply below_drew1) | exact HB.out))) : w.heap.size ≤ gb242)); clear HB; have HB := n0_; have BK242 := n1_; have GW242 := n2_; have GE242 := n3_; clear n0_ n1_ n2_ n3_; clear hb hbox hg; have hcz33_0 : w32.cell? ⟨gb242, 0, none⟩ = some (.string (⟨#[]⟩ : ByteArray)) := (blk_cell BK242.out 0).trans rfl; have hcz33_1 : w32.cell? ⟨gb242, 1, none⟩ = some (.string (⟨#[]⟩ : ByteArray)) := (blk_cell BK242.out 1).trans rfl; have hcz33_2 : w32.cell? ⟨gb242, 2, none⟩ = some (.string (⟨#[]⟩ : ByteArray)) := (blk_cell BK242.out 2).trans rfl; have hcz33_3 : w32.cell? ⟨gb242, 3, none⟩ = some (.string (⟨#[]⟩ : ByteArray)) := (blk_cell BK242.out 3).trans rfl; have hcz33_4 : w32.cell? ⟨gb242, 4, none⟩ = some (.string (⟨#[]⟩ : ByteArray)) := (blk_cell BK242.out 4).trans rfl; have hcz33_5 : w32.cell? ⟨gb242, 5, none⟩ = some (.string (⟨#[]⟩ : ByteArray)) := (blk_cell BK242.out 5).trans rfl; have hfz33_0 := blk_frozen BK242.out 0; have hfz33_1 := blk_frozen BK242.out 1; have hfz33_2 := blk_frozen BK242.out 2; have hfz33_3 := blk_frozen BK242.out 3; have hfz33_4 := blk_frozen BK242.out 4; have hfz33_5 := blk_frozen BK242.out 5))
              go_ret
              exact ⟨by first | rfl | (simp [errW_none, errW_some] <;> rfl) | (simp [*, errW_none, errW_some] <;> rfl), by repeat (first | (with_reducible first | exact HB.out | apply below_alloc | apply pw_below_drewN | apply below_drew1 | refine below_set ?_ GE242.out) | exact HB.out)⟩
          · rw [if_neg c29] at H
            have c29b0 : (t241 == 110) = false := beq_eq_false_iff_ne.mpr c29
            have c29b1 : (t241 != 110) = true := bne_iff_ne.mpr c29
            exact absurd ((Option.some.inj H).trans HTRUE.out) (by decide)

end Go.Proofs.YtggcipjdhhnnkaaDoor.K
