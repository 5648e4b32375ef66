/- Texts of this claim's proof, put together: XE; conditions: as each states. -/
import Derived.Test.YtjcipbdocbomjaaGreatDoorZ4
set_option linter.unusedVariables false
set_option linter.unusedSimpArgs false
open Go.RowKit Go.Proofs.YtjcipbdocbomjaaGreatDoorW.PrintWords Go.Proofs.YtjcipbdocbomjaaGreatDoorW.PrintLast Go.Proofs.YtjcipbdocbomjaaGreatDoorW.PrintMore
namespace Go.Proofs.YtjcipbdocbomjaaGreatDoor.K
attribute [local go_sem] max2_int min2_int max_two min_two max_three min_three max_four min_four
mutual
def rule_parser_expr.j0 : Nat → List ByteArray → Bool → ByteArray → ByteArray → ByteArray → Option (ByteArray × ByteArray × ByteArray × (List (S33)) × List ByteArray × Bool)
 | 0, _, _, _, _, _ => none
 | k + 1, x1000, x1001, x110000, x110001, x110002 => rule_parser_expr.l0 k x1000 x1001 x110000 x110001 x110002 ([] : List (S33))
def rule_parser_expr.l0 : Nat → List ByteArray → Bool → ByteArray → ByteArray → ByteArray → List (S33) → Option (ByteArray × ByteArray × ByteArray × (List (S33)) × List ByteArray × Bool)
 | 0, _, _, _, _, _, _ => none
 | k + 1, x1000, x1001, x110000, x110001, x110002, x110003 => if x110000.toList = ([102, 114, 111, 109] : List UInt8) then (rule_parser_expr.j2 k false x1000 x1001 x110000 x110001 x110002 x110003) else (if x1001 = true then (if (x1000.length : Int) > 0 then (if 0 < (x1000.length : Int) then (rule_parser_expr.j2 k ((rdOf ByteArray.empty x1000 0).toList != ([41] : List UInt8)) x1000 x1001 x110000 x110001 x110002 x110003) else (none)) else (rule_parser_expr.j2 k false x1000 x1001 x110000 x110001 x110002 x110003)) else (rule_parser_expr.j2 k false x1000 x1001 x110000 x110001 x110002 x110003))
def rule_parser_expr.j2 : Nat → Bool → List ByteArray → Bool → ByteArray → ByteArray → ByteArray → List (S33) → Option (ByteArray × ByteArray × ByteArray × (List (S33)) × List ByteArray × Bool)
 | 0, _, _, _, _, _, _, _ => none
 | k + 1, x79, x1000, x1001, x110000, x110001, x110002, x110003 => if x79 = true then ((rule_parser_expr.f k x1000 x1001).bind fun bt119 => (if x110003.length < 1954687338268 then (rule_parser_expr.l0 k bt119.2.2.2.2.1 bt119.2.2.2.2.2 x110000 x110001 x110002 (x110003 ++ [(⟨bt119.1, bt119.2.1, bt119.2.2.1, bt119.2.2.2.1⟩ : S33)])) else (none))) else (if x1001 = true then ((parser_next.f x1000 x1001).bind fun bt130 => (if bt130.1.toList = ([41] : List UInt8) then ((rule_form.f k x110000 x110001 x110002 x110003).bind fun t133 => (if t133 = true then (if x110000.toList = ([116, 104, 105, 115] : List UInt8) then (some (x110000, x110001, x110002, x110003, bt130.2.1, false)) else (some (x110000, x110001, x110002, x110003, bt130.2.1, (x110000.toList != ([114, 101, 108] : List UInt8))))) else (some (x110000, x110001, x110002, x110003, bt130.2.1, false)))) else (some (x110000, x110001, x110002, x110003, bt130.2.1, false)))) else (some (x110000, x110001, x110002, x110003, x1000, false)))
def rule_parser_expr.f : Nat → List ByteArray → Bool → Option (ByteArray × ByteArray × ByteArray × (List (S33)) × List ByteArray × Bool)
 | 0, _, _ => none
 | k + 1, s0_0, s0_1 => (parser_next.f s0_0 s0_1).bind fun bt102 => (if bt102.1.toList = ([40] : List UInt8) then ((parser_next.f bt102.2.1 bt102.2.2).bind fun bt106 => (if bt106.1.toList = ([102, 114, 111, 109] : List UInt8) then ((parser_next.f bt106.2.1 bt106.2.2).bind fun bt110 => ((parser_next.f bt110.2.1 bt110.2.2).bind fun bt113 => (if bt113.2.2 = true then ((rule_word.f bt110.1).bind fun t116 => (if t116 = true then ((rule_word.f bt113.1).bind fun t117 => (rule_parser_expr.j0 k bt113.2.1 t117 bt106.1 bt113.1 bt110.1)) else (rule_parser_expr.j0 k bt113.2.1 false bt106.1 bt113.1 bt110.1))) else (rule_parser_expr.j0 k bt113.2.1 false bt106.1 bt113.1 bt110.1)))) else (rule_parser_expr.j0 k bt106.2.1 bt106.2.2 bt106.1 (⟨#[]⟩ : ByteArray) (⟨#[]⟩ : ByteArray)))) else (if bt102.2.2 = true then ((rule_word.f bt102.1).bind fun t105 => (if bt102.1.toList = ([116, 104, 105, 115] : List UInt8) then (some ((⟨#[116, 104, 105, 115]⟩ : ByteArray), (⟨#[]⟩ : ByteArray), (⟨#[]⟩ : ByteArray), ([] : List (S33)), bt102.2.1, t105)) else (some ((⟨#[114, 101, 108]⟩ : ByteArray), bt102.1, (⟨#[]⟩ : ByteArray), ([] : List (S33)), bt102.2.1, t105)))) else (if bt102.1.toList = ([116, 104, 105, 115] : List UInt8) then (some ((⟨#[116, 104, 105, 115]⟩ : ByteArray), (⟨#[]⟩ : ByteArray), (⟨#[]⟩ : ByteArray), ([] : List (S33)), bt102.2.1, false)) else (some ((⟨#[114, 101, 108]⟩ : ByteArray), bt102.1, (⟨#[]⟩ : ByteArray), ([] : List (S33)), bt102.2.1, false)))))
end
def rule_parser_expr.T12 : Bool × List (List Nat × List Nat) := (true, [([], []), ([0], [0]), ([], []), ([2], [2]), ([3], [3]), ([1, 4, 3], [1, 4]), ([0, 1, 2, 3, 4, 5], []), ([6, 5, 5, 0, 1, 2, 3, 4, 5], [5, 6])])
def rule_parser_expr.B12 : List Nat := [0, 1, 0, 4, 12, 31, 63, 127]
theorem rule_parser_expr.tab12 : rtab .any (opsOf Tryz.f75 12) = rule_parser_expr.T12 := by kernel_rfl
theorem rule_parser_expr.bits12 : waitsOk rule_parser_expr.T12.2 rule_parser_expr.B12 = true := by kernel_rfl
set_option maxHeartbeats 8000000 in
set_option maxRecDepth 100000 in
theorem rule_parser_expr.calls (k : Nat) : ∀ (g : Nat) (s0_0 : List ByteArray) (s0_1 : Bool) (r1 : ByteArray) (r2 : ByteArray) (r3 : ByteArray) (r4 : List (S33)) (r5 : List ByteArray) (r6 : Bool) (w0 w : World) (hI : IsS96 w0 w g s0_0 s0_1) (hB : Below w0.heap.size w0 w) (h : rule_parser_expr.f k s0_0 s0_1 = some (r1, r2, r3, r4, r5, r6)),
  Calls Tryz.prog 75 #[.pointer (some ⟨g, 0, none⟩)] w fun e w' => ∃ v3_ : Value, e = .returned (.agg #[.string r1, .string r2, .string r3, v3_]) ∧ Kd.R k33 33 w' w.heap.size (fun _ => True) v3_ r4 ∧ IsS96 w0 w' g r5 r6 ∧ Below w0.heap.size w0 w' ∧ KeepBut w w' g none := by
 induction k using Nat.strongRecOn with
 | _ k ih =>
 intro g s0_0 s0_1 r1 r2 r3 r4 r5 r6 w0 w hI hB h
 cases k with
 | zero => exact absurd h (by simp [rule_parser_expr.f])
 | succ k =>
 simp only [rule_parser_expr.f] at h
 have hu33 := Tryz.underlying33
 have HI0 := Aside0.mk hI
 have HK := Aside0.mk (KeepBut.refl w g none)
 have HL := Aside0.mk hB.size
 clear hI
 have HW0 := Aside0.mk hB.size
 have HB := Aside0.mk hB
 clear hB
 have H : ((parser_next.f s0_0 s0_1).bind fun bt102 => (if bt102.1.toList = ([40] : List UInt8) then ((parser_next.f bt102.2.1 bt102.2.2).bind fun bt106 => (if bt106.1.toList = ([102, 114, 111, 109] : List UInt8) then ((parser_next.f bt106.2.1 bt106.2.2).bind fun bt110 => ((parser_next.f bt110.2.1 bt110.2.2).bind fun bt113 => (if bt113.2.2 = true then ((rule_word.f bt110.1).bind fun t116 => (if t116 = true then ((rule_word.f bt113.1).bind fun t117 => (rule_parser_expr.j0 k bt113.2.1 t117 bt106.1 bt113.1 bt110.1)) else (rule_parser_expr.j0 k bt113.2.1 false bt106.1 bt113.1 bt110.1))) else (rule_parser_expr.j0 k bt113.2.1 false bt106.1 bt113.1 bt110.1)))) else (rule_parser_expr.j0 k bt106.2.1 bt106.2.2 bt106.1 (⟨#[]⟩ : ByteArray) (⟨#[]⟩ : ByteArray)))) else (if bt102.2.2 = true then ((rule_word.f bt102.1).bind fun t105 => (if bt102.1.toList = ([116, 104, 105, 115] : List UInt8) then (some ((⟨#[116, 104, 105, 115]⟩ : ByteArray), (⟨#[]⟩ : ByteArray), (⟨#[]⟩ : ByteArray), ([] : List (S33)), bt102.2.1, t105)) else (some ((⟨#[114, 101, 108]⟩ : ByteArray), bt102.1, (⟨#[]⟩ : ByteArray), ([] : List (S33)), bt102.2.1, t105)))) else (if bt102.1.toList = ([116, 104, 105, 115] : List UInt8) then (some ((⟨#[116, 104, 105, 115]⟩ : ByteArray), (⟨#[]⟩ : ByteArray), (⟨#[]⟩ : ByteArray), ([] : List (S33)), bt102.2.1, false)) else (some ((⟨#[114, 101, 108]⟩ : ByteArray), bt102.1, (⟨#[]⟩ : ByteArray), ([] : List (S33)), bt102.2.1, false)))))) = some (r1, r2, r3, r4, r5, r6) := h
 clear h
 replace H := Option.bind_eq_some_iff.mp H
 obtain ⟨⟨t102, t103, t104⟩, A20, H⟩ := H
 replace H : (if t102.toList = ([40] : List UInt8) then ((parser_next.f t103 t104).bind fun bt106 => (if bt106.1.toList = ([102, 114, 111, 109] : List UInt8) then ((parser_next.f bt106.2.1 bt106.2.2).bind fun bt110 => ((parser_next.f bt110.2.1 bt110.2.2).bind fun bt113 => (if bt113.2.2 = true then ((rule_word.f bt110.1).bind fun t116 => (if t116 = true then ((rule_word.f bt113.1).bind fun t117 => (rule_parser_expr.j0 k bt113.2.1 t117 bt106.1 bt113.1 bt110.1)) else (rule_parser_expr.j0 k bt113.2.1 false bt106.1 bt113.1 bt110.1))) else (rule_parser_expr.j0 k bt113.2.1 false bt106.1 bt113.1 bt110.1)))) else (rule_parser_expr.j0 k bt106.2.1 bt106.2.2 bt106.1 (⟨#[]⟩ : ByteArray) (⟨#[]⟩ : ByteArray)))) else (if t104 = true then ((rule_word.f t102).bind fun t105 => (if t102.toList = ([116, 104, 105, 115] : List UInt8) then (some ((⟨#[116, 104, 105, 115]⟩ : ByteArray), (⟨#[]⟩ : ByteArray), (⟨#[]⟩ : ByteArray), ([] : List (S33)), t103, t105)) else (some ((⟨#[114, 101, 108]⟩ : ByteArray), t102, (⟨#[]⟩ : ByteArray), ([] : List (S33)), t103, t105)))) else (if t102.toList = ([116, 104, 105, 115] : List UInt8) then (some ((⟨#[116, 104, 105, 115]⟩ : ByteArray), (⟨#[]⟩ : ByteArray), (⟨#[]⟩ : ByteArray), ([] : List (S33)), t103, false)) else (some ((⟨#[114, 101, 108]⟩ : ByteArray), t102, (⟨#[]⟩ : ByteArray), ([] : List (S33)), t103, false))))) = some (r1, r2, r3, r4, r5, r6) := H
 have A2 := Aside0.mk A20
 clear A20
 by_cases c3 : t102.toList = ([40] : List UInt8)
 ·rw [if_pos c3] at H
  have c3b0 : (t102.toList == ([40] : List UInt8)) = true := beq_iff_eq.mpr c3
  have c3b1 : (t102.toList != ([40] : List UInt8)) = false := bne_eq_false_iff_eq.mpr c3
  clear c3
  replace H := Option.bind_eq_some_iff.mp H
  obtain ⟨⟨t106, t107, t108⟩, A40, H⟩ := H
  replace H : (if t106.toList = ([102, 114, 111, 109] : List UInt8) then ((parser_next.f t107 t108).bind fun bt110 => ((parser_next.f bt110.2.1 bt110.2.2).bind fun bt113 => (if bt113.2.2 = true then ((rule_word.f bt110.1).bind fun t116 => (if t116 = true then ((rule_word.f bt113.1).bind fun t117 => (rule_parser_expr.j0 k bt113.2.1 t117 t106 bt113.1 bt110.1)) else (rule_parser_expr.j0 k bt113.2.1 false t106 bt113.1 bt110.1))) else (rule_parser_expr.j0 k bt113.2.1 false t106 bt113.1 bt110.1)))) else (rule_parser_expr.j0 k t107 t108 t106 (⟨#[]⟩ : ByteArray) (⟨#[]⟩ : ByteArray))) = some (r1, r2, r3, r4, r5, r6) := H
  have A4 := Aside0.mk A40
  clear A40
  have HC5 := Aside0.mk H
  clear H
  go_enter Tryz.func75, Tryz.ntmps75
  go_upto_if 30 with (first | ((with_reducible refine gate_dst (N := 2) rfl ?_); (try (refine gate_guard (by rfl) ?_; dsimp only)); refine box_event ?hg (N := 2) ?hd (cs := #[.string (⟨#[]⟩ : ByteArray), .string (⟨#[]⟩ : ByteArray), .string (⟨#[]⟩ : ByteArray), .slice none 0 0]) (t := 33) ?hr ?_; (case hd => rfl); (case hg => rfl); (case hr => (go_simp; done)); intro gb101 hg w6 hbox hb; have n0_ := Aside0.mk (IsS96.below (by repeat ((with_reducible (exact HI0.out)))) hb); have n1_ := Aside0.mk (KeepBut.trans (by repeat ((with_reducible (exact HK.out)))) (KeepBut.of_below hb g none) (.inl rfl)); have n2_ := Aside0.mk (below_step (by repeat ((with_reducible (exact HB.out)))) hb); have n3_ := Aside0.mk (hbox); have n4_ := Aside0.mk ((by rw [hg]; exact (keep_size (w := w) (g := g) (row := none) (by repeat ((with_reducible (exact HK.out))))) : w.heap.size ≤ gb101)); have n5_ := Aside0.mk ((Nat.le_trans HW0.out (by rw [hg]; exact (keep_size (w := w) (g := g) (row := none) (by repeat ((with_reducible (exact HK.out))))) : w.heap.size ≤ gb101) : w0.heap.size ≤ gb101)); have n6_ := Aside0.mk ((by rw [hg]; exact Nat.ne_of_lt (IsS96.lt (show IsS96 w0 _ g s0_0 s0_1 from by repeat ((with_reducible (exact HI0.out))))) : g ≠ gb101)); have n7_ := Aside0.mk ((by rw [hg]; exact Nat.ne_of_gt (IsS96.lt (show IsS96 w0 _ g s0_0 s0_1 from by repeat ((with_reducible (exact HI0.out))))) : gb101 ≠ g)); clear HI0; clear HK; clear HB; have HI0 := n0_; have HK := n1_; have HB := n2_; have BK101 := n3_; have GW101 := n4_; have GE101 := n5_; have NB0_101 := n6_; have NB101_0 := n7_; clear n0_ n1_ n2_ n3_ n4_ n5_ n6_ n7_; clear hb hbox hg) | ((with_reducible refine gate_callee (f := 89) rfl ?_); refine goesL_ (some 6) rfl rfl Tryz.func89 (by kernel_rfl) rfl #[.pointer (some ⟨g, 0, none⟩)] rfl (by (try simp only [List.map_toArray, List.map_cons, List.map_nil]); (rfl)) ?_; (with_reducible refine (parser_next.calls g s0_0 s0_1 t102 t103 t104 w0 _ ?side1 ?side2 A2.out).mono ?_); (case side1 => repeat ((with_reducible (exact HI0.out)))); (case side2 => repeat ((with_reducible (exact HB.out)))); rintro e w7 ⟨rfl, hi, hb, hk⟩; refine ⟨_, rfl, ?_⟩; have n0_ := Aside0.mk (KeepBut.blk hk (g' := gb101) (o := .cells #[.string (⟨#[]⟩ : ByteArray), .string (⟨#[]⟩ : ByteArray), .string (⟨#[]⟩ : ByteArray), .slice none 0 0] 33 (0, 0)) (by (with_reducible repeat ((refine blk_drew ?_))); exact BK101.out) NB101_0.out (by simp)); have n1_ := Aside0.mk (KeepBut.trans (by repeat ((with_reducible (exact HK.out)))) hk (.inl rfl)); have n2_ := Aside0.mk (hb); have n3_ := Aside0.mk (hi); clear BK101; clear HK; clear HB; clear HI0; have BK101 := n0_; have HK := n1_; have HB := n2_; have HI0 := n3_; clear n0_ n1_ n2_ n3_; (try clear hb); (try clear hk); (try clear hi)) | ((with_reducible refine gate_callee (f := 89) rfl ?_); refine goesL_ (some 26) rfl rfl Tryz.func89 (by kernel_rfl) rfl #[.pointer (some ⟨g, 0, none⟩)] rfl (by (try simp only [List.map_toArray, List.map_cons, List.map_nil]); (rfl)) ?_; (with_reducible refine (parser_next.calls g t103 t104 t106 t107 t108 w0 _ ?side1 ?side2 A4.out).mono ?_); (case side1 => repeat ((with_reducible (exact HI0.out)))); (case side2 => repeat ((with_reducible (exact HB.out)))); rintro e w8 ⟨rfl, hi, hb, hk⟩; refine ⟨_, rfl, ?_⟩; have n0_ := Aside0.mk (KeepBut.blk hk (g' := gb101) (o := .cells #[.string (⟨#[]⟩ : ByteArray), .string (⟨#[]⟩ : ByteArray), .string (⟨#[]⟩ : ByteArray), .slice none 0 0] 33 (0, 0)) (by (with_reducible repeat ((refine blk_drew ?_))); exact BK101.out) NB101_0.out (by simp)); have n1_ := Aside0.mk (KeepBut.trans (by repeat ((with_reducible (exact HK.out)))) hk (.inl rfl)); have n2_ := Aside0.mk (hb); have n3_ := Aside0.mk (hi); clear BK101; clear HK; clear HB; clear HI0; have BK101 := n0_; have HK := n1_; have HB := n2_; have HI0 := n3_; clear n0_ n1_ n2_ n3_; (try clear hb); (try clear hk); (try clear hi)) | ((with_reducible refine gate_dst (N := 4) rfl ?_); (try (refine gate_guard (by rfl) ?_; dsimp only)); refine box_event ?hg (N := 4) ?hd (cs := #[.string (⟨#[]⟩ : ByteArray), .string (⟨#[]⟩ : ByteArray), .string (⟨#[]⟩ : ByteArray), .slice none 0 0]) (t := 33) ?hr ?_; (case hd => rfl); (case hg => rfl); (case hr => (go_simp; done)); intro gb109 hg w9 hbox hb; have n0_ := Aside0.mk (IsS96.below (by repeat ((with_reducible (exact HI0.out)))) hb); have n1_ := Aside0.mk (blk_below (g := gb101) (o := .cells #[.string (⟨#[]⟩ : ByteArray), .string (⟨#[]⟩ : ByteArray), .string (⟨#[]⟩ : ByteArray), .slice none 0 0] 33 (0, 0)) (by (with_reducible repeat ((refine blk_drew ?_))); exact BK101.out) hb); have n2_ := Aside0.mk (KeepBut.trans (by repeat ((with_reducible (exact HK.out)))) (KeepBut.of_below hb g none) (.inl rfl)); have n3_ := Aside0.mk (below_step (by repeat ((with_reducible (exact HB.out)))) hb); have n4_ := Aside0.mk (hbox); have n5_ := Aside0.mk ((by rw [hg]; exact (keep_size (w := w) (g := g) (row := none) (by repeat ((with_reducible (exact HK.out))))) : w.heap.size ≤ gb109)); have n6_ := Aside0.mk ((Nat.le_trans HW0.out (by rw [hg]; exact (keep_size (w := w) (g := g) (row := none) (by repeat ((with_reducible (exact HK.out))))) : w.heap.size ≤ gb109) : w0.heap.size ≤ gb109)); have n7_ := Aside0.mk ((by rw [hg]; exact Nat.ne_of_lt (blk_lt (g := gb101) (o := .cells #[.string (⟨#[]⟩ : ByteArray), .string (⟨#[]⟩ : ByteArray), .string (⟨#[]⟩ : ByteArray), .slice none 0 0] 33 (0, 0)) (by (with_reducible repeat ((refine blk_drew ?_))); exact BK101.out)) : gb101 ≠ gb109)); have n8_ := Aside0.mk ((by rw [hg]; exact Nat.ne_of_gt (blk_lt (g := gb101) (o := .cells #[.string (⟨#[]⟩ : ByteArray), .string (⟨#[]⟩ : ByteArray), .string (⟨#[]⟩ : ByteArray), .slice none 0 0] 33 (0, 0)) (by (with_reducible repeat ((refine blk_drew ?_))); exact BK101.out)) : gb109 ≠ gb101)); have n9_ := Aside0.mk ((by rw [hg]; exact Nat.ne_of_lt (IsS96.lt (show IsS96 w0 _ g t107 t108 from by repeat ((with_reducible (exact HI0.out))))) : g ≠ gb109)); have n10_ := Aside0.mk ((by rw [hg]; exact Nat.ne_of_gt (IsS96.lt (show IsS96 w0 _ g t107 t108 from by repeat ((with_reducible (exact HI0.out))))) : gb109 ≠ g)); clear HI0; clear BK101; clear HK; clear HB; have HI0 := n0_; have BK101 := n1_; have HK := n2_; have HB := n3_; have BK109 := n4_; have GW109 := n5_; have GE109 := n6_; have NB101_109 := n7_; have NB109_101 := n8_; have NB0_109 := n9_; have NB109_0 := n10_; clear n0_ n1_ n2_ n3_ n4_ n5_ n6_ n7_ n8_ n9_ n10_; clear hb hbox hg; have hnb10 := NB109_101.out; have hnc10 := NB101_109.out; have hnb11 := NB109_0.out; have hnc11 := NB0_109.out; have hcz12_0 : w9.cell? ⟨gb109, 0, none⟩ = some (.string (⟨#[]⟩ : ByteArray)) := (blk_cell BK109.out 0).trans rfl; have hcz12_1 : w9.cell? ⟨gb109, 1, none⟩ = some (.string (⟨#[]⟩ : ByteArray)) := (blk_cell BK109.out 1).trans rfl; have hcz12_2 : w9.cell? ⟨gb109, 2, none⟩ = some (.string (⟨#[]⟩ : ByteArray)) := (blk_cell BK109.out 2).trans rfl; have hcz12_3 : w9.cell? ⟨gb109, 3, none⟩ = some (.slice none 0 0) := (blk_cell BK109.out 3).trans rfl; have hfz12_0 := blk_frozen BK109.out 0; have hfz12_1 := blk_frozen BK109.out 1; have hfz12_2 := blk_frozen BK109.out 2; have hfz12_3 := blk_frozen BK109.out 3))
  (try simp only [Act.put, List.setIfInBounds_toArray, List.set_cons_zero, List.set_cons_succ])
  go_cut [] (fun wc => ∃ (kq : Nat) (x1000_4 : List ByteArray) (x1001_4 : Bool) (x110001_4 : ByteArray) (x110002_4 : ByteArray) (u1000 : Value), Aside0 (rule_parser_expr.j0 kq x1000_4 x1001_4 t106 x110001_4 x110002_4 = some (r1, r2, r3, r4, r5, r6)) ∧ Aside0 (kq ≤ k) ∧ Aside0 (wc.heap[gb101]? = some (.cells #[.string (⟨#[]⟩ : ByteArray), .string (⟨#[]⟩ : ByteArray), .string (⟨#[]⟩ : ByteArray), (.slice none 0 0)] 33 (0, 0))) ∧ Aside0 (wc.heap[gb109]? = some (.cells #[.string t106, .string x110001_4, .string x110002_4, (.slice none 0 0)] 33 (0, 0))) ∧ Aside0 (IsS96 w0 wc g x1000_4 x1001_4) ∧ Aside0 (KeepBut w wc g none) ∧ Aside0 (Below w0.heap.size w0 wc))
  case first =>
   have H := HC5.out
   clear HC5
   by_cases c13 : t106.toList = ([102, 114, 111, 109] : List UInt8)
   ·rw [if_pos c13] at H
    have c13b0 : (t106.toList == ([102, 114, 111, 109] : List UInt8)) = true := beq_iff_eq.mpr c13
    have c13b1 : (t106.toList != ([102, 114, 111, 109] : List UInt8)) = false := bne_eq_false_iff_eq.mpr c13
    clear c13
    ((rw [c13b0]))
    replace H := Option.bind_eq_some_iff.mp H
    obtain ⟨⟨t110, t111, t112⟩, A140, H⟩ := H
    replace H : ((parser_next.f t111 t112).bind fun bt113 => (if bt113.2.2 = true then ((rule_word.f t110).bind fun t116 => (if t116 = true then ((rule_word.f bt113.1).bind fun t117 => (rule_parser_expr.j0 k bt113.2.1 t117 t106 bt113.1 t110)) else (rule_parser_expr.j0 k bt113.2.1 false t106 bt113.1 t110))) else (rule_parser_expr.j0 k bt113.2.1 false t106 bt113.1 t110))) = some (r1, r2, r3, r4, r5, r6) := H
    have A14 := Aside0.mk A140
    clear A140
    replace H := Option.bind_eq_some_iff.mp H
    obtain ⟨⟨t113, t114, t115⟩, A150, H⟩ := H
    replace H : (if t115 = true then ((rule_word.f t110).bind fun t116 => (if t116 = true then ((rule_word.f t113).bind fun t117 => (rule_parser_expr.j0 k t114 t117 t106 t113 t110)) else (rule_parser_expr.j0 k t114 false t106 t113 t110))) else (rule_parser_expr.j0 k t114 false t106 t113 t110)) = some (r1, r2, r3, r4, r5, r6) := H
    have A15 := Aside0.mk A150
    clear A150
    by_cases c16 : t115 = true
    ·subst c16
     have H1 : ((rule_word.f t110).bind fun t116 => (if t116 = true then ((rule_word.f t113).bind fun t117 => (rule_parser_expr.j0 k t114 t117 t106 t113 t110)) else (rule_parser_expr.j0 k t114 false t106 t113 t110))) = some (r1, r2, r3, r4, r5, r6) := by rw [if_pos rfl] at H; exact H
     clear H
     have H := H1
     clear H1
     replace H := Option.bind_eq_some_iff.mp H
     obtain ⟨t116, A170, H⟩ := H
     replace H : (if t116 = true then ((rule_word.f t113).bind fun t117 => (rule_parser_expr.j0 k t114 t117 t106 t113 t110)) else (rule_parser_expr.j0 k t114 false t106 t113 t110)) = some (r1, r2, r3, r4, r5, r6) := H
     have A17 := Aside0.mk A170
     clear A170
     by_cases c18 : t116 = true
     ·subst c18
      have H1 : ((rule_word.f t113).bind fun t117 => (rule_parser_expr.j0 k t114 t117 t106 t113 t110)) = some (r1, r2, r3, r4, r5, r6) := by rw [if_pos rfl] at H; exact H
      clear H
      have H := H1
      clear H1
      replace H := Option.bind_eq_some_iff.mp H
      obtain ⟨t117, A190, H⟩ := H
      replace H : (rule_parser_expr.j0 k t114 t117 t106 t113 t110) = some (r1, r2, r3, r4, r5, r6) := H
      have A19 := Aside0.mk A190
      clear A190
      have H' := Aside0.mk H
      clear H
      go_wp2_with (first | ((with_reducible refine gate_callee (f := 89) rfl ?_); refine goesL_ (some 32) rfl rfl Tryz.func89 (by kernel_rfl) rfl #[.pointer (some ⟨g, 0, none⟩)] rfl (by (try simp only [List.map_toArray, List.map_cons, List.map_nil]); (rfl)) ?_; (with_reducible refine (parser_next.calls g t107 t108 t110 t111 t112 w0 _ ?side1 ?side2 A14.out).mono ?_); (case side1 => repeat ((with_reducible first | exact HI0.out | refine IsS96.far ?_ NB0_109.out _))); (case side2 => repeat ((with_reducible first | exact HB.out | refine below_set ?_ GE109.out))); rintro e w20 ⟨rfl, hi, hb, hk⟩; refine ⟨_, rfl, ?_⟩; have n0_ := Aside0.mk (KeepBut.blk hk (g' := gb101) (o := .cells #[.string (⟨#[]⟩ : ByteArray), .string (⟨#[]⟩ : ByteArray), .string (⟨#[]⟩ : ByteArray), .slice none 0 0] 33 (0, 0)) (by (with_reducible repeat ((refine blk_drew ?_))); refine blk_far ?_ NB101_109.out _; (with_reducible repeat ((refine blk_drew ?_))); refine blk_far ?_ NB101_109.out _; (with_reducible repeat ((refine blk_drew ?_))); refine blk_far ?_ NB101_109.out _; (with_reducible repeat ((refine blk_drew ?_))); refine blk_far ?_ NB101_109.out _; (with_reducible repeat ((refine blk_drew ?_))); exact BK101.out) NB101_0.out (by simp)); have n1_ := Aside0.mk (KeepBut.blk hk (g' := gb109) (o := .cells #[.string t106, .string (⟨#[]⟩ : ByteArray), .string (⟨#[]⟩ : ByteArray), .slice none 0 0] 33 (0, 0)) (by (with_reducible repeat ((refine blk_drew ?_))); refine blk_put (cs := #[.string t106, .string (⟨#[]⟩ : ByteArray), .string (⟨#[]⟩ : ByteArray), .slice none 0 0]) ?_ 3 _ rfl; (with_reducible repeat ((refine blk_drew ?_))); refine blk_put (cs := #[.string t106, .string (⟨#[]⟩ : ByteArray), .string (⟨#[]⟩ : ByteArray), .slice none 0 0]) ?_ 2 _ rfl; (with_reducible repeat ((refine blk_drew ?_))); refine blk_put (cs := #[.string t106, .string (⟨#[]⟩ : ByteArray), .string (⟨#[]⟩ : ByteArray), .slice none 0 0]) ?_ 1 _ rfl; (with_reducible repeat ((refine blk_drew ?_))); refine blk_put (cs := #[.string (⟨#[]⟩ : ByteArray), .string (⟨#[]⟩ : ByteArray), .string (⟨#[]⟩ : ByteArray), .slice none 0 0]) ?_ 0 _ rfl; (with_reducible repeat ((refine blk_drew ?_))); exact BK109.out) NB109_0.out (by simp)); have n2_ := Aside0.mk (KeepBut.trans (by repeat ((with_reducible first | exact HK.out | refine keep_far ?_ GW109.out _))) hk (.inl rfl)); have n3_ := Aside0.mk (hb); have n4_ := Aside0.mk (hi); clear BK101; clear BK109; clear HK; clear HB; clear HI0; have BK101 := n0_; have BK109 := n1_; have HK := n2_; have HB := n3_; have HI0 := n4_; clear n0_ n1_ n2_ n3_ n4_; (try clear hb); (try clear hk); (try clear hi)) | ((with_reducible refine gate_callee (f := 89) rfl ?_); refine goesL_ (some 34) rfl rfl Tryz.func89 (by kernel_rfl) rfl #[.pointer (some ⟨g, 0, none⟩)] rfl (by (try simp only [List.map_toArray, List.map_cons, List.map_nil]); (rfl)) ?_; (with_reducible refine (parser_next.calls g t111 t112 t113 t114 true w0 _ ?side1 ?side2 A15.out).mono ?_); (case side1 => repeat ((with_reducible (exact HI0.out)))); (case side2 => repeat ((with_reducible (exact HB.out)))); rintro e w21 ⟨rfl, hi, hb, hk⟩; refine ⟨_, rfl, ?_⟩; have n0_ := Aside0.mk (KeepBut.blk hk (g' := gb101) (o := .cells #[.string (⟨#[]⟩ : ByteArray), .string (⟨#[]⟩ : ByteArray), .string (⟨#[]⟩ : ByteArray), .slice none 0 0] 33 (0, 0)) (by (with_reducible repeat ((refine blk_drew ?_))); exact BK101.out) NB101_0.out (by simp)); have n1_ := Aside0.mk (KeepBut.blk hk (g' := gb109) (o := .cells #[.string t106, .string (⟨#[]⟩ : ByteArray), .string (⟨#[]⟩ : ByteArray), .slice none 0 0] 33 (0, 0)) (by (with_reducible repeat ((refine blk_drew ?_))); exact BK109.out) NB109_0.out (by simp)); have n2_ := Aside0.mk (KeepBut.trans (by repeat ((with_reducible (exact HK.out)))) hk (.inl rfl)); have n3_ := Aside0.mk (hb); have n4_ := Aside0.mk (hi); clear BK101; clear BK109; clear HK; clear HB; clear HI0; have BK101 := n0_; have BK109 := n1_; have HK := n2_; have HB := n3_; have HI0 := n4_; clear n0_ n1_ n2_ n3_ n4_; (try clear hb); (try clear hk); (try clear hi); have hnb22 := NB109_101.out; have hnc22 := NB101_109.out; have hnb23 := NB109_0.out; have hnc23 := NB0_109.out; have hcz24_0 : w21.cell? ⟨gb109, 0, none⟩ = some (.string t106) := (blk_cell BK109.out 0).trans rfl; have hcz24_1 : w21.cell? ⟨gb109, 1, none⟩ = some (.string (⟨#[]⟩ : ByteArray)) := (blk_cell BK109.out 1).trans rfl; have hcz24_2 : w21.cell? ⟨gb109, 2, none⟩ = some (.string (⟨#[]⟩ : ByteArray)) := (blk_cell BK109.out 2).trans rfl; have hcz24_3 : w21.cell? ⟨gb109, 3, none⟩ = some (.slice none 0 0) := (blk_cell BK109.out 3).trans rfl; have hfz24_0 := blk_frozen BK109.out 0; have hfz24_1 := blk_frozen BK109.out 1; have hfz24_2 := blk_frozen BK109.out 2; have hfz24_3 := blk_frozen BK109.out 3; obtain ⟨ASz25_0, cSz25_0, HGz25, hgz25, HSz25_0⟩ := HI0.out; have hcz25_0 := cellS96_0 HGz25; have hcz25_1 := cellS96_1 HGz25; have hfz25_0 := blk_frozen HGz25 0; have hfz25_1 := blk_frozen HGz25 1; clear HGz25 hgz25) | (go_at_call 53; (with_reducible refine (rule_word.calls t110 true _ A17.out).mono ?_); rintro e w26 ⟨rfl, hb⟩; have n0_ := Aside0.mk (IsS96.below (show IsS96 w0 ((w21.setCell ⟨gb109, 2, none⟩ (.string t110)).setCell ⟨gb109, 1, none⟩ (.string t113)) g t114 true from by repeat ((with_reducible first | exact HI0.out | refine IsS96.far ?_ NB0_109.out _))) hb); have n1_ := Aside0.mk (blk_below (g := gb101) (o := .cells #[.string (⟨#[]⟩ : ByteArray), .string (⟨#[]⟩ : ByteArray), .string (⟨#[]⟩ : ByteArray), .slice none 0 0] 33 (0, 0)) (by (with_reducible repeat ((refine blk_drew ?_))); refine blk_far ?_ NB101_109.out _; (with_reducible repeat ((refine blk_drew ?_))); refine blk_far ?_ NB101_109.out _; (with_reducible repeat ((refine blk_drew ?_))); exact BK101.out) hb); have n2_ := Aside0.mk (blk_below (g := gb109) (o := .cells #[.string t106, .string t113, .string t110, .slice none 0 0] 33 (0, 0)) (by (with_reducible repeat ((refine blk_drew ?_))); refine blk_put (cs := #[.string t106, .string (⟨#[]⟩ : ByteArray), .string t110, .slice none 0 0]) ?_ 1 _ rfl; (with_reducible repeat ((refine blk_drew ?_))); refine blk_put (cs := #[.string t106, .string (⟨#[]⟩ : ByteArray), .string (⟨#[]⟩ : ByteArray), .slice none 0 0]) ?_ 2 _ rfl; (with_reducible repeat ((refine blk_drew ?_))); exact BK109.out) hb); have n3_ := Aside0.mk (KeepBut.trans (by repeat ((with_reducible first | exact HK.out | refine keep_far ?_ GW109.out _))) (KeepBut.of_below hb g none) (.inl rfl)); have n4_ := Aside0.mk (below_step (by repeat ((with_reducible first | exact HB.out | refine below_set ?_ GE109.out))) hb); clear HI0; clear BK101; clear BK109; clear HK; clear HB; have HI0 := n0_; have BK101 := n1_; have BK109 := n2_; have HK := n3_; have HB := n4_; clear n0_ n1_ n2_ n3_ n4_; (try clear hb); have hcz27_0 : w26.cell? ⟨gb109, 0, none⟩ = some (.string t106) := (blk_cell BK109.out 0).trans rfl; have hcz27_1 : w26.cell? ⟨gb109, 1, none⟩ = some (.string t113) := (blk_cell BK109.out 1).trans rfl; have hcz27_2 : w26.cell? ⟨gb109, 2, none⟩ = some (.string t110) := (blk_cell BK109.out 2).trans rfl; have hcz27_3 : w26.cell? ⟨gb109, 3, none⟩ = some (.slice none 0 0) := (blk_cell BK109.out 3).trans rfl; have hfz27_0 := blk_frozen BK109.out 0; have hfz27_1 := blk_frozen BK109.out 1; have hfz27_2 := blk_frozen BK109.out 2; have hfz27_3 := blk_frozen BK109.out 3) | (go_at_call 53; (with_reducible refine (rule_word.calls t113 t117 _ A19.out).mono ?_); rintro e w28 ⟨rfl, hb⟩; have n0_ := Aside0.mk (IsS96.below (by repeat ((with_reducible (exact HI0.out)))) hb); have n1_ := Aside0.mk (blk_below (g := gb101) (o := .cells #[.string (⟨#[]⟩ : ByteArray), .string (⟨#[]⟩ : ByteArray), .string (⟨#[]⟩ : ByteArray), .slice none 0 0] 33 (0, 0)) (by (with_reducible repeat ((refine blk_drew ?_))); exact BK101.out) hb); have n2_ := Aside0.mk (blk_below (g := gb109) (o := .cells #[.string t106, .string t113, .string t110, .slice none 0 0] 33 (0, 0)) (by (with_reducible repeat ((refine blk_drew ?_))); exact BK109.out) hb); have n3_ := Aside0.mk (KeepBut.trans (by repeat ((with_reducible (exact HK.out)))) (KeepBut.of_below hb g none) (.inl rfl)); have n4_ := Aside0.mk (below_step (by repeat ((with_reducible (exact HB.out)))) hb); clear HI0; clear BK101; clear BK109; clear HK; clear HB; have HI0 := n0_; have BK101 := n1_; have BK109 := n2_; have HK := n3_; have HB := n4_; clear n0_ n1_ n2_ n3_ n4_; (try clear hb); obtain ⟨ASz29_0, cSz29_0, HGz29, hgz29, HSz29_0⟩ := HI0.out; have hcz29_0 := cellS96_0 HGz29; have hcz29_1 := cellS96_1 HGz29; have hfz29_0 := blk_frozen HGz29 0; have hfz29_1 := blk_frozen HGz29 1; clear HGz29 hgz29))
      go_meet
      case rel => exact ⟨_, (t114), (t117), (t113), (t110), (Value.nilIface), H', ⟨by (omega)⟩, ⟨by (with_reducible repeat ((refine blk_drew ?_))); refine blk_far ?_ NB101_0.out _; (with_reducible repeat ((refine blk_drew ?_))); exact BK101.out⟩, ⟨by (with_reducible repeat ((refine blk_drew ?_))); refine blk_far ?_ NB109_0.out _; (with_reducible repeat ((refine blk_drew ?_))); exact BK109.out⟩, ⟨by repeat ((with_reducible first | exact HI0.out | apply IsS96.set_1))⟩, ⟨by repeat ((with_reducible first | exact HK.out | apply KeepBut.set_))⟩, ⟨by repeat ((with_reducible first | exact HB.out | refine below_set ?_ (IsS96.ge HI0.out)))⟩⟩
     ·replace c18 := Bool.eq_false_iff.mpr c18
      subst c18
      have H1 : (rule_parser_expr.j0 k t114 false t106 t113 t110) = some (r1, r2, r3, r4, r5, r6) := by rw [if_neg (show ¬ (false = true) by decide)] at H; exact H
      clear H
      have H := H1
      clear H1
      have H' := Aside0.mk H
      clear H
      go_wp2_with (first | ((with_reducible refine gate_callee (f := 89) rfl ?_); refine goesL_ (some 32) rfl rfl Tryz.func89 (by kernel_rfl) rfl #[.pointer (some ⟨g, 0, none⟩)] rfl (by (try simp only [List.map_toArray, List.map_cons, List.map_nil]); (rfl)) ?_; (with_reducible refine (parser_next.calls g t107 t108 t110 t111 t112 w0 _ ?side1 ?side2 A14.out).mono ?_); (case side1 => repeat ((with_reducible first | exact HI0.out | refine IsS96.far ?_ NB0_109.out _))); (case side2 => repeat ((with_reducible first | exact HB.out | refine below_set ?_ GE109.out))); rintro e w30 ⟨rfl, hi, hb, hk⟩; refine ⟨_, rfl, ?_⟩; have n0_ := Aside0.mk (KeepBut.blk hk (g' := gb101) (o := .cells #[.string (⟨#[]⟩ : ByteArray), .string (⟨#[]⟩ : ByteArray), .string (⟨#[]⟩ : ByteArray), .slice none 0 0] 33 (0, 0)) (by (with_reducible repeat ((refine blk_drew ?_))); refine blk_far ?_ NB101_109.out _; (with_reducible repeat ((refine blk_drew ?_))); refine blk_far ?_ NB101_109.out _; (with_reducible repeat ((refine blk_drew ?_))); refine blk_far ?_ NB101_109.out _; (with_reducible repeat ((refine blk_drew ?_))); refine blk_far ?_ NB101_109.out _; (with_reducible repeat ((refine blk_drew ?_))); exact BK101.out) NB101_0.out (by simp)); have n1_ := Aside0.mk (KeepBut.blk hk (g' := gb109) (o := .cells #[.string t106, .string (⟨#[]⟩ : ByteArray), .string (⟨#[]⟩ : ByteArray), .slice none 0 0] 33 (0, 0)) (by (with_reducible repeat ((refine blk_drew ?_))); refine blk_put (cs := #[.string t106, .string (⟨#[]⟩ : ByteArray), .string (⟨#[]⟩ : ByteArray), .slice none 0 0]) ?_ 3 _ rfl; (with_reducible repeat ((refine blk_drew ?_))); refine blk_put (cs := #[.string t106, .string (⟨#[]⟩ : ByteArray), .string (⟨#[]⟩ : ByteArray), .slice none 0 0]) ?_ 2 _ rfl; (with_reducible repeat ((refine blk_drew ?_))); refine blk_put (cs := #[.string t106, .string (⟨#[]⟩ : ByteArray), .string (⟨#[]⟩ : ByteArray), .slice none 0 0]) ?_ 1 _ rfl; (with_reducible repeat ((refine blk_drew ?_))); refine blk_put (cs := #[.string (⟨#[]⟩ : ByteArray), .string (⟨#[]⟩ : ByteArray), .string (⟨#[]⟩ : ByteArray), .slice none 0 0]) ?_ 0 _ rfl; (with_reducible repeat ((refine blk_drew ?_))); exact BK109.out) NB109_0.out (by simp)); have n2_ := Aside0.mk (KeepBut.trans (by repeat ((with_reducible first | exact HK.out | refine keep_far ?_ GW109.out _))) hk (.inl rfl)); have n3_ := Aside0.mk (hb); have n4_ := Aside0.mk (hi); clear BK101; clear BK109; clear HK; clear HB; clear HI0; have BK101 := n0_; have BK109 := n1_; have HK := n2_; have HB := n3_; have HI0 := n4_; clear n0_ n1_ n2_ n3_ n4_; (try clear hb); (try clear hk); (try clear hi)) | ((with_reducible refine gate_callee (f := 89) rfl ?_); refine goesL_ (some 34) rfl rfl Tryz.func89 (by kernel_rfl) rfl #[.pointer (some ⟨g, 0, none⟩)] rfl (by (try simp only [List.map_toArray, List.map_cons, List.map_nil]); (rfl)) ?_; (with_reducible refine (parser_next.calls g t111 t112 t113 t114 true w0 _ ?side1 ?side2 A15.out).mono ?_); (case side1 => repeat ((with_reducible (exact HI0.out)))); (case side2 => repeat ((with_reducible (exact HB.out)))); rintro e w31 ⟨rfl, hi, hb, hk⟩; refine ⟨_, rfl, ?_⟩; have n0_ := Aside0.mk (KeepBut.blk hk (g' := gb101) (o := .cells #[.string (⟨#[]⟩ : ByteArray), .string (⟨#[]⟩ : ByteArray), .string (⟨#[]⟩ : ByteArray), .slice none 0 0] 33 (0, 0)) (by (with_reducible repeat ((refine blk_drew ?_))); exact BK101.out) NB101_0.out (by simp)); have n1_ := Aside0.mk (KeepBut.blk hk (g' := gb109) (o := .cells #[.string t106, .string (⟨#[]⟩ : ByteArray), .string (⟨#[]⟩ : ByteArray), .slice none 0 0] 33 (0, 0)) (by (with_reducible repeat ((refine blk_drew ?_))); exact BK109.out) NB109_0.out (by simp)); have n2_ := Aside0.mk (KeepBut.trans (by repeat ((with_reducible (exact HK.out)))) hk (.inl rfl)); have n3_ := Aside0.mk (hb); have n4_ := Aside0.mk (hi); clear BK101; clear BK109; clear HK; clear HB; clear HI0; have BK101 := n0_; have BK109 := n1_; have HK := n2_; have HB := n3_; have HI0 := n4_; clear n0_ n1_ n2_ n3_ n4_; (try clear hb); (try clear hk); (try clear hi); have hnb32 := NB109_101.out; have hnc32 := NB101_109.out; have hnb33 := NB109_0.out; have hnc33 := NB0_109.out; have hcz34_0 : w31.cell? ⟨gb109, 0, none⟩ = some (.string t106) := (blk_cell BK109.out 0).trans rfl; have hcz34_1 : w31.cell? ⟨gb109, 1, none⟩ = some (.string (⟨#[]⟩ : ByteArray)) := (blk_cell BK109.out 1).trans rfl; have hcz34_2 : w31.cell? ⟨gb109, 2, none⟩ = some (.string (⟨#[]⟩ : ByteArray)) := (blk_cell BK109.out 2).trans rfl; have hcz34_3 : w31.cell? ⟨gb109, 3, none⟩ = some (.slice none 0 0) := (blk_cell BK109.out 3).trans rfl; have hfz34_0 := blk_frozen BK109.out 0; have hfz34_1 := blk_frozen BK109.out 1; have hfz34_2 := blk_frozen BK109.out 2; have hfz34_3 := blk_frozen BK109.out 3; obtain ⟨ASz35_0, cSz35_0, HGz35, hgz35, HSz35_0⟩ := HI0.out; have hcz35_0 := cellS96_0 HGz35; have hcz35_1 := cellS96_1 HGz35; have hfz35_0 := blk_frozen HGz35 0; have hfz35_1 := blk_frozen HGz35 1; clear HGz35 hgz35) | (go_at_call 53; (with_reducible refine (rule_word.calls t110 false _ A17.out).mono ?_); rintro e w36 ⟨rfl, hb⟩; have n0_ := Aside0.mk (IsS96.below (show IsS96 w0 ((w31.setCell ⟨gb109, 2, none⟩ (.string t110)).setCell ⟨gb109, 1, none⟩ (.string t113)) g t114 true from by repeat ((with_reducible first | exact HI0.out | refine IsS96.far ?_ NB0_109.out _))) hb); have n1_ := Aside0.mk (blk_below (g := gb101) (o := .cells #[.string (⟨#[]⟩ : ByteArray), .string (⟨#[]⟩ : ByteArray), .string (⟨#[]⟩ : ByteArray), .slice none 0 0] 33 (0, 0)) (by (with_reducible repeat ((refine blk_drew ?_))); refine blk_far ?_ NB101_109.out _; (with_reducible repeat ((refine blk_drew ?_))); refine blk_far ?_ NB101_109.out _; (with_reducible repeat ((refine blk_drew ?_))); exact BK101.out) hb); have n2_ := Aside0.mk (blk_below (g := gb109) (o := .cells #[.string t106, .string t113, .string t110, .slice none 0 0] 33 (0, 0)) (by (with_reducible repeat ((refine blk_drew ?_))); refine blk_put (cs := #[.string t106, .string (⟨#[]⟩ : ByteArray), .string t110, .slice none 0 0]) ?_ 1 _ rfl; (with_reducible repeat ((refine blk_drew ?_))); refine blk_put (cs := #[.string t106, .string (⟨#[]⟩ : ByteArray), .string (⟨#[]⟩ : ByteArray), .slice none 0 0]) ?_ 2 _ rfl; (with_reducible repeat ((refine blk_drew ?_))); exact BK109.out) hb); have n3_ := Aside0.mk (KeepBut.trans (by repeat ((with_reducible first | exact HK.out | refine keep_far ?_ GW109.out _))) (KeepBut.of_below hb g none) (.inl rfl)); have n4_ := Aside0.mk (below_step (by repeat ((with_reducible first | exact HB.out | refine below_set ?_ GE109.out))) hb); clear HI0; clear BK101; clear BK109; clear HK; clear HB; have HI0 := n0_; have BK101 := n1_; have BK109 := n2_; have HK := n3_; have HB := n4_; clear n0_ n1_ n2_ n3_ n4_; (try clear hb); obtain ⟨ASz37_0, cSz37_0, HGz37, hgz37, HSz37_0⟩ := HI0.out; have hcz37_0 := cellS96_0 HGz37; have hcz37_1 := cellS96_1 HGz37; have hfz37_0 := blk_frozen HGz37 0; have hfz37_1 := blk_frozen HGz37 1; clear HGz37 hgz37))
      go_meet
      case rel => exact ⟨_, (t114), (false), (t113), (t110), (Value.nilIface), H', ⟨by (omega)⟩, ⟨by (with_reducible repeat ((refine blk_drew ?_))); refine blk_far ?_ NB101_0.out _; (with_reducible repeat ((refine blk_drew ?_))); exact BK101.out⟩, ⟨by (with_reducible repeat ((refine blk_drew ?_))); refine blk_far ?_ NB109_0.out _; (with_reducible repeat ((refine blk_drew ?_))); exact BK109.out⟩, ⟨by repeat ((with_reducible first | exact HI0.out | apply IsS96.set_1))⟩, ⟨by repeat ((with_reducible first | exact HK.out | apply KeepBut.set_))⟩, ⟨by repeat ((with_reducible first | exact HB.out | refine below_set ?_ (IsS96.ge HI0.out)))⟩⟩
    ·replace c16 := Bool.eq_false_iff.mpr c16
     subst c16
     have H1 : (rule_parser_expr.j0 k t114 false t106 t113 t110) = some (r1, r2, r3, r4, r5, r6) := by rw [if_neg (show ¬ (false = true) by decide)] at H; exact H
     clear H
     have H := H1
     clear H1
     have H' := Aside0.mk H
     clear H
     go_wp2_with (first | ((with_reducible refine gate_callee (f := 89) rfl ?_); refine goesL_ (some 32) rfl rfl Tryz.func89 (by kernel_rfl) rfl #[.pointer (some ⟨g, 0, none⟩)] rfl (by (try simp only [List.map_toArray, List.map_cons, List.map_nil]); (rfl)) ?_; (with_reducible refine (parser_next.calls g t107 t108 t110 t111 t112 w0 _ ?side1 ?side2 A14.out).mono ?_); (case side1 => repeat ((with_reducible first | exact HI0.out | refine IsS96.far ?_ NB0_109.out _))); (case side2 => repeat ((with_reducible first | exact HB.out | refine below_set ?_ GE109.out))); rintro e w38 ⟨rfl, hi, hb, hk⟩; refine ⟨_, rfl, ?_⟩; have n0_ := Aside0.mk (KeepBut.blk hk (g' := gb101) (o := .cells #[.string (⟨#[]⟩ : ByteArray), .string (⟨#[]⟩ : ByteArray), .string (⟨#[]⟩ : ByteArray), .slice none 0 0] 33 (0, 0)) (by (with_reducible repeat ((refine blk_drew ?_))); refine blk_far ?_ NB101_109.out _; (with_reducible repeat ((refine blk_drew ?_))); refine blk_far ?_ NB101_109.out _; (with_reducible repeat ((refine blk_drew ?_))); refine blk_far ?_ NB101_109.out _; (with_reducible repeat ((refine blk_drew ?_))); refine blk_far ?_ NB101_109.out _; (with_reducible repeat ((refine blk_drew ?_))); exact BK101.out) NB101_0.out (by simp)); have n1_ := Aside0.mk (KeepBut.blk hk (g' := gb109) (o := .cells #[.string t106, .string (⟨#[]⟩ : ByteArray), .string (⟨#[]⟩ : ByteArray), .slice none 0 0] 33 (0, 0)) (by (with_reducible repeat ((refine blk_drew ?_))); refine blk_put (cs := #[.string t106, .string (⟨#[]⟩ : ByteArray), .string (⟨#[]⟩ : ByteArray), .slice none 0 0]) ?_ 3 _ rfl; (with_reducible repeat ((refine blk_drew ?_))); refine blk_put (cs := #[.string t106, .string (⟨#[]⟩ : ByteArray), .string (⟨#[]⟩ : ByteArray), .slice none 0 0]) ?_ 2 _ rfl; (with_reducible repeat ((refine blk_drew ?_))); refine blk_put (cs := #[.string t106, .string (⟨#[]⟩ : ByteArray), .string (⟨#[]⟩ : ByteArray), .slice none 0 0]) ?_ 1 _ rfl; (with_reducible repeat ((refine blk_drew ?_))); refine blk_put (cs := #[.string (⟨#[]⟩ : ByteArray), .string (⟨#[]⟩ : ByteArray), .string (⟨#[]⟩ : ByteArray), .slice none 0 0]) ?_ 0 _ rfl; (with_reducible repeat ((refine blk_drew ?_))); exact BK109.out) NB109_0.out (by simp)); have n2_ := Aside0.mk (KeepBut.trans (by repeat ((with_reducible first | exact HK.out | refine keep_far ?_ GW109.out _))) hk (.inl rfl)); have n3_ := Aside0.mk (hb); have n4_ := Aside0.mk (hi); clear BK101; clear BK109; clear HK; clear HB; clear HI0; have BK101 := n0_; have BK109 := n1_; have HK := n2_; have HB := n3_; have HI0 := n4_; clear n0_ n1_ n2_ n3_ n4_; (try clear hb); (try clear hk); (try clear hi)) | ((with_reducible refine gate_callee (f := 89) rfl ?_); refine goesL_ (some 34) rfl rfl Tryz.func89 (by kernel_rfl) rfl #[.pointer (some ⟨g, 0, none⟩)] rfl (by (try simp only [List.map_toArray, List.map_cons, List.map_nil]); (rfl)) ?_; (with_reducible refine (parser_next.calls g t111 t112 t113 t114 false w0 _ ?side1 ?side2 A15.out).mono ?_); (case side1 => repeat ((with_reducible (exact HI0.out)))); (case side2 => repeat ((with_reducible (exact HB.out)))); rintro e w39 ⟨rfl, hi, hb, hk⟩; refine ⟨_, rfl, ?_⟩; have n0_ := Aside0.mk (KeepBut.blk hk (g' := gb101) (o := .cells #[.string (⟨#[]⟩ : ByteArray), .string (⟨#[]⟩ : ByteArray), .string (⟨#[]⟩ : ByteArray), .slice none 0 0] 33 (0, 0)) (by (with_reducible repeat ((refine blk_drew ?_))); exact BK101.out) NB101_0.out (by simp)); have n1_ := Aside0.mk (KeepBut.blk hk (g' := gb109) (o := .cells #[.string t106, .string (⟨#[]⟩ : ByteArray), .string (⟨#[]⟩ : ByteArray), .slice none 0 0] 33 (0, 0)) (by (with_reducible repeat ((refine blk_drew ?_))); exact BK109.out) NB109_0.out (by simp)); have n2_ := Aside0.mk (KeepBut.trans (by repeat ((with_reducible (exact HK.out)))) hk (.inl rfl)); have n3_ := Aside0.mk (hb); have n4_ := Aside0.mk (hi); clear BK101; clear BK109; clear HK; clear HB; clear HI0; have BK101 := n0_; have BK109 := n1_; have HK := n2_; have HB := n3_; have HI0 := n4_; clear n0_ n1_ n2_ n3_ n4_; (try clear hb); (try clear hk); (try clear hi); have hnb40 := NB109_101.out; have hnc40 := NB101_109.out; have hnb41 := NB109_0.out; have hnc41 := NB0_109.out; have hcz42_0 : w39.cell? ⟨gb109, 0, none⟩ = some (.string t106) := (blk_cell BK109.out 0).trans rfl; have hcz42_1 : w39.cell? ⟨gb109, 1, none⟩ = some (.string (⟨#[]⟩ : ByteArray)) := (blk_cell BK109.out 1).trans rfl; have hcz42_2 : w39.cell? ⟨gb109, 2, none⟩ = some (.string (⟨#[]⟩ : ByteArray)) := (blk_cell BK109.out 2).trans rfl; have hcz42_3 : w39.cell? ⟨gb109, 3, none⟩ = some (.slice none 0 0) := (blk_cell BK109.out 3).trans rfl; have hfz42_0 := blk_frozen BK109.out 0; have hfz42_1 := blk_frozen BK109.out 1; have hfz42_2 := blk_frozen BK109.out 2; have hfz42_3 := blk_frozen BK109.out 3; obtain ⟨ASz43_0, cSz43_0, HGz43, hgz43, HSz43_0⟩ := HI0.out; have hcz43_0 := cellS96_0 HGz43; have hcz43_1 := cellS96_1 HGz43; have hfz43_0 := blk_frozen HGz43 0; have hfz43_1 := blk_frozen HGz43 1; clear HGz43 hgz43))
     go_meet
     case rel => exact ⟨_, (t114), (false), (t113), (t110), (Value.nilIface), H', ⟨by (omega)⟩, ⟨by (with_reducible repeat ((refine blk_drew ?_))); refine blk_far ?_ NB101_0.out _; (with_reducible repeat ((refine blk_drew ?_))); refine blk_far ?_ NB101_109.out _; (with_reducible repeat ((refine blk_drew ?_))); refine blk_far ?_ NB101_109.out _; (with_reducible repeat ((refine blk_drew ?_))); exact BK101.out⟩, ⟨by (with_reducible repeat ((refine blk_drew ?_))); refine blk_far ?_ NB109_0.out _; (with_reducible repeat ((refine blk_drew ?_))); refine blk_put (cs := #[.string t106, .string (⟨#[]⟩ : ByteArray), .string t110, .slice none 0 0]) ?_ 1 _ rfl; (with_reducible repeat ((refine blk_drew ?_))); refine blk_put (cs := #[.string t106, .string (⟨#[]⟩ : ByteArray), .string (⟨#[]⟩ : ByteArray), .slice none 0 0]) ?_ 2 _ rfl; (with_reducible repeat ((refine blk_drew ?_))); exact BK109.out⟩, ⟨by exact IsS96.set_1 (IsS96.far (IsS96.far HI0.out NB0_109.out _) NB0_109.out _) _⟩, ⟨by repeat ((with_reducible first | exact HK.out | apply KeepBut.set_ | refine keep_far ?_ GW109.out _))⟩, ⟨by repeat ((with_reducible first | exact HB.out | refine below_set ?_ (IsS96.ge HI0.out) | refine below_set ?_ GE109.out))⟩⟩
   ·rw [if_neg c13] at H
    have c13b0 : (t106.toList == ([102, 114, 111, 109] : List UInt8)) = false := beq_eq_false_iff_ne.mpr c13
    have c13b1 : (t106.toList != ([102, 114, 111, 109] : List UInt8)) = true := bne_iff_ne.mpr c13
    ((rw [c13b0]))
    have H' := Aside0.mk H
    clear H
    go_wp2
    go_meet
    case rel => exact ⟨_, (t107), (t108), ((⟨#[]⟩ : ByteArray)), ((⟨#[]⟩ : ByteArray)), (Value.nilIface), H', ⟨by (omega)⟩, ⟨by (with_reducible repeat ((refine blk_drew ?_))); refine blk_far ?_ NB101_109.out _; (with_reducible repeat ((refine blk_drew ?_))); refine blk_far ?_ NB101_109.out _; (with_reducible repeat ((refine blk_drew ?_))); refine blk_far ?_ NB101_109.out _; (with_reducible repeat ((refine blk_drew ?_))); refine blk_far ?_ NB101_109.out _; (with_reducible repeat ((refine blk_drew ?_))); exact BK101.out⟩, ⟨by (with_reducible repeat ((refine blk_drew ?_))); refine blk_put (cs := #[.string t106, .string (⟨#[]⟩ : ByteArray), .string (⟨#[]⟩ : ByteArray), .slice none 0 0]) ?_ 3 _ rfl; (with_reducible repeat ((refine blk_drew ?_))); refine blk_put (cs := #[.string t106, .string (⟨#[]⟩ : ByteArray), .string (⟨#[]⟩ : ByteArray), .slice none 0 0]) ?_ 2 _ rfl; (with_reducible repeat ((refine blk_drew ?_))); refine blk_put (cs := #[.string t106, .string (⟨#[]⟩ : ByteArray), .string (⟨#[]⟩ : ByteArray), .slice none 0 0]) ?_ 1 _ rfl; (with_reducible repeat ((refine blk_drew ?_))); refine blk_put (cs := #[.string (⟨#[]⟩ : ByteArray), .string (⟨#[]⟩ : ByteArray), .string (⟨#[]⟩ : ByteArray), .slice none 0 0]) ?_ 0 _ rfl; (with_reducible repeat ((refine blk_drew ?_))); exact BK109.out⟩, ⟨by repeat ((with_reducible first | exact HI0.out | refine IsS96.far ?_ NB0_109.out _))⟩, ⟨by repeat ((with_reducible first | exact HK.out | refine keep_far ?_ GW109.out _))⟩, ⟨by repeat ((with_reducible first | exact HB.out | refine below_set ?_ GE109.out))⟩⟩
  case rest =>
   clear HC5
   try clear c3b0
   try clear c3b1
   try clear hcz12_0
   try clear hcz12_1
   try clear hcz12_2
   try clear hcz12_3
   try clear hfz12_0
   try clear hfz12_1
   try clear hfz12_2
   try clear hfz12_3
   obtain ⟨kq, x1000_4, x1001_4, x110001_4, x110002_4, u1000, HA, HJ4, BK101, BK109, HI0, HK, HB⟩ := hcut
   cases kq with
   | zero => exact absurd HA.out (by simp [rule_parser_expr.j0])
   | succ kj4 =>
    have H := HA.out
    clear HA
    simp only [rule_parser_expr.j0] at H
    have H' := Aside0.mk H
    clear H
    go_wp2
    go_loopg [] kj4 (fun kq w' => ∃ (x1000_2 : List ByteArray) (x1001_2 : Bool) (x110003_2 : List (S33)) (u1000 : Value) (u110003 : Value), Aside0 (rule_parser_expr.l0 kq x1000_2 x1001_2 t106 x110001_4 x110002_4 x110003_2 = some (r1, r2, r3, r4, r5, r6)) ∧ Aside0 (kq ≤ kj4) ∧ Aside0 (Kd.R k33 33 w' w.heap.size (fun k_ => k_ ≠ gb101 ∧ k_ ≠ gb109) u110003 x110003_2) ∧ Aside0 (w'.heap[gb101]? = some (.cells #[.string (⟨#[]⟩ : ByteArray), .string (⟨#[]⟩ : ByteArray), .string (⟨#[]⟩ : ByteArray), (.slice none 0 0)] 33 (0, 0))) ∧ Aside0 (w'.heap[gb109]? = some (.cells #[.string t106, .string x110001_4, .string x110002_4, u110003] 33 (0, 0))) ∧ Aside0 (IsS96 w0 w' g x1000_2 x1001_2) ∧ Aside0 (KeepBut w w' g none) ∧ Aside0 (Below w0.heap.size w0 w'))
    case atStart => exact ⟨(x1000_4), (x1001_4), (([] : List (S33))), (Value.nilIface), (.slice none 0 0), H', ⟨Nat.le_refl _⟩, ⟨by (exact Kd.R_nil _ _ _ _ _)⟩, ⟨by (with_reducible repeat ((refine blk_drew ?_))); exact BK101.out⟩, ⟨by (with_reducible repeat ((refine blk_drew ?_))); exact BK109.out⟩, ⟨by repeat ((with_reducible (exact HI0.out)))⟩, ⟨by repeat ((with_reducible (exact HK.out)))⟩, ⟨by repeat ((with_reducible (exact HB.out)))⟩⟩
    case round =>
     clear H'
     obtain ⟨x1000_2, x1001_2, x110003_2, u1000, u110003, HA, HK2, HO_110003, BK101, BK109, HI0, HK, HB⟩ := hrel
     cases gk with
     | zero => exact absurd HA.out (by simp [rule_parser_expr.l0])
     | succ k2 =>
      have H := HA.out
      clear HA
      simp only [rule_parser_expr.l0] at H
      have HC44 := Aside0.mk H
      clear H
      go_upto_region 11 with (fail)
      go_cut [79] (fun v79 wc => ∃ (kq : Nat) (x79_43 : Bool), v79 = .bool x79_43 ∧ Aside0 (rule_parser_expr.j2 kq x79_43 x1000_2 x1001_2 t106 x110001_4 x110002_4 x110003_2 = some (r1, r2, r3, r4, r5, r6)) ∧ Aside0 (kq ≤ k2) ∧ Aside0 (Kd.R k33 33 wc w.heap.size (fun k_ => k_ ≠ gb101 ∧ k_ ≠ gb109) u110003 x110003_2) ∧ Aside0 (wc.heap[gb101]? = some (.cells #[.string (⟨#[]⟩ : ByteArray), .string (⟨#[]⟩ : ByteArray), .string (⟨#[]⟩ : ByteArray), (.slice none 0 0)] 33 (0, 0))) ∧ Aside0 (wc.heap[gb109]? = some (.cells #[.string t106, .string x110001_4, .string x110002_4, u110003] 33 (0, 0))) ∧ Aside0 (IsS96 w0 wc g x1000_2 x1001_2) ∧ Aside0 (KeepBut w wc g none) ∧ Aside0 (Below w0.heap.size w0 wc))
      case first =>
       have H := HC44.out
       clear HC44
       by_cases c45 : t106.toList = ([102, 114, 111, 109] : List UInt8)
       ·rw [if_pos c45] at H
        have c45b0 : (t106.toList == ([102, 114, 111, 109] : List UInt8)) = true := beq_iff_eq.mpr c45
        have c45b1 : (t106.toList != ([102, 114, 111, 109] : List UInt8)) = false := bne_eq_false_iff_eq.mpr c45
        clear c45
        ((skip))
        have H' := Aside0.mk H
        clear H
        have hnb46 := NB109_101.out
        have hnc46 := NB101_109.out
        have hnb47 := NB109_0.out
        have hnc47 := NB0_109.out
        have hcz48_0 : wr.cell? ⟨gb109, 0, none⟩ = some (.string t106) := (blk_cell BK109.out 0).trans rfl
        have hcz48_1 : wr.cell? ⟨gb109, 1, none⟩ = some (.string x110001_4) := (blk_cell BK109.out 1).trans rfl
        have hcz48_2 : wr.cell? ⟨gb109, 2, none⟩ = some (.string x110002_4) := (blk_cell BK109.out 2).trans rfl
        have hcz48_3 : wr.cell? ⟨gb109, 3, none⟩ = some (u110003) := (blk_cell BK109.out 3).trans rfl
        have hfz48_0 := blk_frozen BK109.out 0
        have hfz48_1 := blk_frozen BK109.out 1
        have hfz48_2 := blk_frozen BK109.out 2
        have hfz48_3 := blk_frozen BK109.out 3
        go_wp2
        go_meet
        case rel => exact ⟨_, (false), (by (rfl)), H', ⟨by have := HJ4.out; have := HK2.out; (omega)⟩, ⟨by (with_reducible repeat ((apply Kd.R_drew))); exact HO_110003.out⟩, ⟨by (with_reducible repeat ((refine blk_drew ?_))); exact BK101.out⟩, ⟨by (with_reducible repeat ((refine blk_drew ?_))); exact BK109.out⟩, ⟨by repeat ((with_reducible (exact HI0.out)))⟩, ⟨by repeat ((with_reducible (exact HK.out)))⟩, ⟨by repeat ((with_reducible (exact HB.out)))⟩⟩
       ·rw [if_neg c45] at H
        have c45b0 : (t106.toList == ([102, 114, 111, 109] : List UInt8)) = false := beq_eq_false_iff_ne.mpr c45
        have c45b1 : (t106.toList != ([102, 114, 111, 109] : List UInt8)) = true := bne_iff_ne.mpr c45
        ((skip))
        by_cases c49 : x1001_2 = true
        ·subst c49
         have H1 : (if (x1000_2.length : Int) > 0 then (if 0 < (x1000_2.length : Int) then (rule_parser_expr.j2 k2 ((rdOf ByteArray.empty x1000_2 0).toList != ([41] : List UInt8)) x1000_2 true t106 x110001_4 x110002_4 x110003_2) else (none)) else (rule_parser_expr.j2 k2 false x1000_2 true t106 x110001_4 x110002_4 x110003_2)) = some (r1, r2, r3, r4, r5, r6) := by rw [if_pos rfl] at H; exact H
         clear H
         have H := H1
         clear H1
         by_cases c50 : (x1000_2.length : Int) > 0
         ·rw [if_pos c50] at H
          have c50b0 : decide (0 < (x1000_2.length : Int)) = true := decide_eq_true c50
          have c50b1 : decide (0 < x1000_2.length) = true := decide_eq_true (by omega)
          clear c50
          by_cases c51 : 0 < (x1000_2.length : Int)
          ·rw [if_pos c51] at H
           have c51b0 : decide (0 < (x1000_2.length : Int)) = true := decide_eq_true c51
           have c51b1 : decide (0 < x1000_2.length) = true := decide_eq_true (by omega)
           clear c51
           have H' := Aside0.mk H
           clear H
           have hnb52 := NB109_101.out
           have hnc52 := NB101_109.out
           have hnb53 := NB109_0.out
           have hnc53 := NB0_109.out
           have hcz54_0 : wr.cell? ⟨gb109, 0, none⟩ = some (.string t106) := (blk_cell BK109.out 0).trans rfl
           have hcz54_1 : wr.cell? ⟨gb109, 1, none⟩ = some (.string x110001_4) := (blk_cell BK109.out 1).trans rfl
           have hcz54_2 : wr.cell? ⟨gb109, 2, none⟩ = some (.string x110002_4) := (blk_cell BK109.out 2).trans rfl
           have hcz54_3 : wr.cell? ⟨gb109, 3, none⟩ = some (u110003) := (blk_cell BK109.out 3).trans rfl
           have hfz54_0 := blk_frozen BK109.out 0
           have hfz54_1 := blk_frozen BK109.out 1
           have hfz54_2 := blk_frozen BK109.out 2
           have hfz54_3 := blk_frozen BK109.out 3
           obtain ⟨ASz55_0, cSz55_0, HGz55, hgz55, HSz55_0⟩ := HI0.out
           have hcz55_0 := cellS96_0 HGz55
           have hcz55_1 := cellS96_1 HGz55
           have hfz55_0 := blk_frozen HGz55 0
           have hfz55_1 := blk_frozen HGz55 1
           clear HGz55 hgz55
           have p118 : 0 ≤ (0 : Int) := (by omega)
           have q118 : 0 < (x1000_2.length : Int) := of_decide_eq_true (by (with_reducible assumption))
           obtain ⟨ad118, e118, hx118_0⟩ := Kd.at_string HSz55_0 0 p118 q118
           cases e118
           have qi118 : (0 < x1000_2.length) = True := eq_true (by omega)
           (try rw [show ((0 : Int)).toNat = 0 from rfl] at hx118_0)
           (try rw [Addr.add_zero'] at hx118_0)
           replace hx118_0 := pw_cell_below HB.out hx118_0
           replace p118 := eq_true p118
           replace q118 := eq_true q118
           go_wp2
           go_meet
           case rel => exact ⟨_, (((rdOf ByteArray.empty x1000_2 0).toList != ([41] : List UInt8))), (by (rfl)), H', ⟨by have := HJ4.out; have := HK2.out; (omega)⟩, ⟨by (with_reducible repeat ((apply Kd.R_drew))); exact HO_110003.out⟩, ⟨by (with_reducible repeat ((refine blk_drew ?_))); exact BK101.out⟩, ⟨by (with_reducible repeat ((refine blk_drew ?_))); exact BK109.out⟩, ⟨by repeat ((with_reducible (exact HI0.out)))⟩, ⟨by repeat ((with_reducible (exact HK.out)))⟩, ⟨by repeat ((with_reducible (exact HB.out)))⟩⟩
          ·rw [if_neg c51] at H
           exact absurd H (by simp)
         ·rw [if_neg c50] at H
          have c50b0 : decide (0 < (x1000_2.length : Int)) = false := decide_eq_false c50
          have c50b1 : decide (0 < x1000_2.length) = false := decide_eq_false (by omega)
          clear c50
          have H' := Aside0.mk H
          clear H
          have hnb56 := NB109_101.out
          have hnc56 := NB101_109.out
          have hnb57 := NB109_0.out
          have hnc57 := NB0_109.out
          have hcz58_0 : wr.cell? ⟨gb109, 0, none⟩ = some (.string t106) := (blk_cell BK109.out 0).trans rfl
          have hcz58_1 : wr.cell? ⟨gb109, 1, none⟩ = some (.string x110001_4) := (blk_cell BK109.out 1).trans rfl
          have hcz58_2 : wr.cell? ⟨gb109, 2, none⟩ = some (.string x110002_4) := (blk_cell BK109.out 2).trans rfl
          have hcz58_3 : wr.cell? ⟨gb109, 3, none⟩ = some (u110003) := (blk_cell BK109.out 3).trans rfl
          have hfz58_0 := blk_frozen BK109.out 0
          have hfz58_1 := blk_frozen BK109.out 1
          have hfz58_2 := blk_frozen BK109.out 2
          have hfz58_3 := blk_frozen BK109.out 3
          obtain ⟨ASz59_0, cSz59_0, HGz59, hgz59, HSz59_0⟩ := HI0.out
          have hcz59_0 := cellS96_0 HGz59
          have hcz59_1 := cellS96_1 HGz59
          have hfz59_0 := blk_frozen HGz59 0
          have hfz59_1 := blk_frozen HGz59 1
          clear HGz59 hgz59
          go_wp2
          go_meet
          case rel => exact ⟨_, (false), (by (rfl)), H', ⟨by have := HJ4.out; have := HK2.out; (omega)⟩, ⟨by (with_reducible repeat ((apply Kd.R_drew))); exact HO_110003.out⟩, ⟨by (with_reducible repeat ((refine blk_drew ?_))); exact BK101.out⟩, ⟨by (with_reducible repeat ((refine blk_drew ?_))); exact BK109.out⟩, ⟨by repeat ((with_reducible (exact HI0.out)))⟩, ⟨by repeat ((with_reducible (exact HK.out)))⟩, ⟨by repeat ((with_reducible (exact HB.out)))⟩⟩
        ·replace c49 := Bool.eq_false_iff.mpr c49
         subst c49
         have H1 : (rule_parser_expr.j2 k2 false x1000_2 false t106 x110001_4 x110002_4 x110003_2) = some (r1, r2, r3, r4, r5, r6) := by rw [if_neg (show ¬ (false = true) by decide)] at H; exact H
         clear H
         have H := H1
         clear H1
         have H' := Aside0.mk H
         clear H
         have hnb60 := NB109_101.out
         have hnc60 := NB101_109.out
         have hnb61 := NB109_0.out
         have hnc61 := NB0_109.out
         have hcz62_0 : wr.cell? ⟨gb109, 0, none⟩ = some (.string t106) := (blk_cell BK109.out 0).trans rfl
         have hcz62_1 : wr.cell? ⟨gb109, 1, none⟩ = some (.string x110001_4) := (blk_cell BK109.out 1).trans rfl
         have hcz62_2 : wr.cell? ⟨gb109, 2, none⟩ = some (.string x110002_4) := (blk_cell BK109.out 2).trans rfl
         have hcz62_3 : wr.cell? ⟨gb109, 3, none⟩ = some (u110003) := (blk_cell BK109.out 3).trans rfl
         have hfz62_0 := blk_frozen BK109.out 0
         have hfz62_1 := blk_frozen BK109.out 1
         have hfz62_2 := blk_frozen BK109.out 2
         have hfz62_3 := blk_frozen BK109.out 3
         obtain ⟨ASz63_0, cSz63_0, HGz63, hgz63, HSz63_0⟩ := HI0.out
         have hcz63_0 := cellS96_0 HGz63
         have hcz63_1 := cellS96_1 HGz63
         have hfz63_0 := blk_frozen HGz63 0
         have hfz63_1 := blk_frozen HGz63 1
         clear HGz63 hgz63
         go_wp2
         go_meet
         case rel => exact ⟨_, (false), (by (rfl)), H', ⟨by have := HJ4.out; have := HK2.out; (omega)⟩, ⟨by (with_reducible repeat ((apply Kd.R_drew))); exact HO_110003.out⟩, ⟨by (with_reducible repeat ((refine blk_drew ?_))); exact BK101.out⟩, ⟨by (with_reducible repeat ((refine blk_drew ?_))); exact BK109.out⟩, ⟨by repeat ((with_reducible (exact HI0.out)))⟩, ⟨by repeat ((with_reducible (exact HK.out)))⟩, ⟨by repeat ((with_reducible (exact HB.out)))⟩⟩
      case rest =>
       clear HC44
       obtain ⟨kq, x79_43, rfl, HA, HJ43, HO_110003, BK101, BK109, HI0, HK, HB⟩ := hcut
       cases kq with
       | zero => exact absurd HA.out (by simp [rule_parser_expr.j2])
       | succ kj43 =>
        have H := HA.out
        clear HA
        simp only [rule_parser_expr.j2] at H
        by_cases c64 : x79_43 = true
        ·subst c64
         have H1 : ((rule_parser_expr.f kj43 x1000_2 x1001_2).bind fun bt119 => (if x110003_2.length < 1954687338268 then (rule_parser_expr.l0 kj43 bt119.2.2.2.2.1 bt119.2.2.2.2.2 t106 x110001_4 x110002_4 (x110003_2 ++ [(⟨bt119.1, bt119.2.1, bt119.2.2.1, bt119.2.2.2.1⟩ : S33)])) else (none))) = some (r1, r2, r3, r4, r5, r6) := by rw [if_pos rfl] at H; exact H
         clear H
         have H := H1
         clear H1
         replace H := Option.bind_eq_some_iff.mp H
         obtain ⟨⟨t119, t120, t121, t122, t125, t126⟩, A650, H⟩ := H
         replace H : (if x110003_2.length < 1954687338268 then (rule_parser_expr.l0 kj43 t125 t126 t106 x110001_4 x110002_4 (x110003_2 ++ [(⟨t119, t120, t121, t122⟩ : S33)])) else (none)) = some (r1, r2, r3, r4, r5, r6) := H
         have A65 := Aside0.mk A650
         clear A650
         by_cases c66 : x110003_2.length < 1954687338268
         ·rw [if_pos c66] at H
          have LMc66 := Aside0.mk c66
          clear c66
          obtain ⟨y127, hy127⟩ : ∃ y_ : List (S33), y_ = (x110003_2 ++ [(⟨t119, t120, t121, t122⟩ : S33)]) := ⟨_, rfl⟩
          replace H : (rule_parser_expr.l0 kj43 t125 t126 t106 x110001_4 x110002_4 y127) = some (r1, r2, r3, r4, r5, r6) := by (rw [hy127]; with_reducible exact H)
          have Ny127 := Aside0.mk hy127
          clear hy127
          have H' := Aside0.mk H
          clear H
          try go_wp2
          have n0_ := Aside0.mk (Kd.R_drew HO_110003.out)
          have n1_ := Aside0.mk (blk_drew BK101.out)
          have n2_ := Aside0.mk (blk_drew BK109.out)
          have n3_ := Aside0.mk (IsS96.drew HI0.out)
          have n4_ := Aside0.mk (keep_drew HK.out)
          have n5_ := Aside0.mk (below_drew1 HB.out)
          clear HO_110003
          clear BK101
          clear BK109
          clear HI0
          clear HK
          clear HB
          have HO_110003 := n0_
          have BK101 := n1_
          have BK109 := n2_
          have HI0 := n3_
          have HK := n4_
          have HB := n5_
          clear n0_ n1_ n2_ n3_ n4_ n5_
          refine start_ (n := 8) (S := fun w' => w'.cell? ⟨gb109, 0, none⟩ = some (.string t106) ∧ w'.cell? ⟨gb109, 1, none⟩ = some (.string x110001_4) ∧ w'.cell? ⟨gb109, 2, none⟩ = some (.string x110002_4) ∧ w'.cell? ⟨gb109, 3, none⟩ = some (u110003)) (ds := [7]) #[false, false, false, false, false, false, false, false] (by kernel_rfl) rfl rfl ⟨(blk_cell BK109.out 0).trans rfl, (blk_cell BK109.out 1).trans rfl, (blk_cell BK109.out 2).trans rfl, (blk_cell BK109.out 3).trans rfl⟩ (fun hHeld => ?_); refine with_tabW rule_parser_expr.tab12 rule_parser_expr.bits12 (fun HT_ HW_ => ?_)
          generalize wc.drew = w67 at HO_110003 BK101 BK109 HI0 HK HB hHeld ⊢
          refine pure_ (i := 0) (N := some 80) (v := ?_) (a' := ?_) #[true, false, false, false, false, false, false, false] rfl rfl (any_of HT_.out (by kernel_rfl)) (fun _ _ _ h => h) (Or.inl ⟨by rfl, ?_⟩) ?_ ?_
          rotate_left
          ·intro w'
           go_simp
           with_reducible rfl
          rotate_left
          ·simp only [Act.put, List.setIfInBounds_toArray, List.set_cons_zero, List.set_cons_succ, i64_w, i32_w]
           rfl
          refine pure_ (i := 2) (N := some 82) (v := ?_) (a' := ?_) #[true, false, true, false, false, false, false, false] rfl rfl (any_of HT_.out (by kernel_rfl)) (fun _ _ _ h => h) (Or.inl ⟨by rfl, ?_⟩) ?_ ?_
          rotate_left
          ·intro w'
           go_simp
           with_reducible rfl
          rotate_left
          ·simp only [Act.put, List.setIfInBounds_toArray, List.set_cons_zero, List.set_cons_succ, i64_w, i32_w]
           rfl
          refine take_ (i := 1) (N := some 81) (v := ?_) (a' := ?_) #[true, true, true, false, false, false, false, false] rfl rfl (take_ofW HT_.out HW_.out (by kernel_rfl)) (fun _ _ _ h => h) (Or.inl ⟨by rfl, ?_⟩) hHeld ?_ ?_
          rotate_left
          ·rintro w' ⟨s0, s1, s2, s3⟩
           go_simp
           with_reducible rfl
          rotate_left
          ·simp only [Act.put, List.setIfInBounds_toArray, List.set_cons_zero, List.set_cons_succ, i64_w, i32_w]
           rfl
          refine one_ (i := 3) (N := some 83) #[true, true, true, true, false, false, false, false] rfl rfl (one_of HT_.out (by kernel_rfl)) (by decide) (fun K hK => ?_)
          refine goes_ Tryz.func75 (by kernel_rfl) rfl #[.pointer (some ⟨g, 0, none⟩)] (by rfl) rfl rfl (by (try simp only [List.map_toArray, List.map_cons, List.map_nil]); (rfl)) ?_
          with_reducible refine (ih kj43 (by have := HJ4.out; have := HK2.out; have := HJ43.out; omega) g x1000_2 x1001_2 t119 t120 t121 t122 t125 t126 w0 _ ?side1 ?side2 A65.out).mono ?_
          (case side1 => repeat ((with_reducible (exact HI0.out))))
          (case side2 => repeat ((with_reducible (exact HB.out))))
          rintro e w68 ⟨v123, rfl, ho0, hi, hb, hk⟩
          refine ⟨_, rfl, ?_⟩
          have n0_ := Aside0.mk (Kd.R_mono (Kd.R_told (Kd.R_oldK (IsS96.apart (show IsS96 w0 _ g x1000_2 x1001_2 from by repeat ((with_reducible (exact HI0.out)))) (by (with_reducible repeat ((apply Kd.R_drew))); exact HO_110003.out) (by decide)) hk) (Kd.R_base ho0)) (fun _ h_ => h_.1))
          have n1_ := Aside0.mk (KeepBut.blk hk (g' := gb101) (o := .cells #[.string (⟨#[]⟩ : ByteArray), .string (⟨#[]⟩ : ByteArray), .string (⟨#[]⟩ : ByteArray), .slice none 0 0] 33 (0, 0)) (by (with_reducible repeat ((refine blk_drew ?_))); exact BK101.out) NB101_0.out (by simp))
          have n2_ := Aside0.mk (KeepBut.blk hk (g' := gb109) (o := .cells #[.string t106, .string x110001_4, .string x110002_4, u110003] 33 (0, 0)) (by (with_reducible repeat ((refine blk_drew ?_))); exact BK109.out) NB109_0.out (by simp))
          have n3_ := Aside0.mk (Kd.R_lower (Kd.R_newB (Kd.R_newB (Kd.R_new' ho0 (Kd.R_lt (by (with_reducible repeat ((apply Kd.R_drew))); exact HO_110003.out))) (g := gb101) (o := .cells #[.string (⟨#[]⟩ : ByteArray), .string (⟨#[]⟩ : ByteArray), .string (⟨#[]⟩ : ByteArray), .slice none 0 0] 33 (0, 0)) (by (with_reducible repeat ((refine blk_drew ?_))); exact BK101.out)) (g := gb109) (o := .cells #[.string t106, .string x110001_4, .string x110002_4, u110003] 33 (0, 0)) (by (with_reducible repeat ((refine blk_drew ?_))); exact BK109.out)) (keep_size (w := w) (g := g) (row := none) (by repeat ((with_reducible (exact HK.out))))))
          have n4_ := Aside0.mk (KeepBut.trans (by repeat ((with_reducible (exact HK.out)))) hk (.inl rfl))
          have n5_ := Aside0.mk (hb)
          have n6_ := Aside0.mk (hi)
          clear HO_110003
          clear BK101
          clear BK109
          clear HK
          clear HB
          clear HI0
          have HO_110003 := n0_
          have BK101 := n1_
          have BK109 := n2_
          have HO124 := n3_
          have HK := n4_
          have HB := n5_
          have HI0 := n6_
          clear n0_ n1_ n2_ n3_ n4_ n5_ n6_
          (try clear hb)
          (try clear hk)
          (try clear hi)
          (try clear ho0)
          obtain ⟨Ao70, co70, eo70⟩ := Kd.R_slice HO124.out
          ((subst eo70))
          refine hK.out _ _ ⟨(blk_cell BK109.out 0).trans rfl, (blk_cell BK109.out 1).trans rfl, (blk_cell BK109.out 2).trans rfl, (blk_cell BK109.out 3).trans rfl⟩ (fun hHeld => ?_)
          clear hK K
          refine norm_ (a' := ?_) ?_ ?_
          rotate_left
          ·show Act.put _ (some 83) _ = _
           simp only [Act.put, List.setIfInBounds_toArray, List.set_cons_zero, List.set_cons_succ, i64_w, i32_w]
           rfl
          refine one_ (i := 4) (N := some 84) #[true, true, true, true, true, false, false, false] rfl rfl (one_of HT_.out (by kernel_rfl)) (by decide) (fun K hK => ?_)
          refine value_ (w1 := ?_) (v := ?_) (by rfl) rfl ?_ ?_
          rotate_left 2
          ·go_simp
           constructor
           ·rfl
           ·rfl
          refine hK.out _ _ ⟨(blk_cell (blk_alloc BK109.out _) 0).trans rfl, (blk_cell (blk_alloc BK109.out _) 1).trans rfl, (blk_cell (blk_alloc BK109.out _) 2).trans rfl, (blk_cell (blk_alloc BK109.out _) 3).trans rfl⟩ (fun hHeld => ?_)
          clear hK K
          refine norm_ (a' := ?_) ?_ ?_
          rotate_left
          ·show Act.put _ (some 84) _ = _
           simp only [Act.put, List.setIfInBounds_toArray, List.set_cons_zero, List.set_cons_succ, i64_w, i32_w]
           rfl
          refine one_ (i := 5) (N := some 85) #[true, true, true, true, true, true, false, false] rfl rfl (one_of HT_.out (by kernel_rfl)) (by decide) (fun K hK => ?_)
          refine Kd.R_append_step k33 w.heap.size (by rfl) (.tmp 81) (.tmp 84) 31 33 (.agg #[(.string ⟨#[]⟩), (.string ⟨#[]⟩), (.string ⟨#[]⟩), (.slice none 0 0)]) 72 rfl Tryz.underlying31 info33 rfl (by decide) (by omega) u110003 x110003_2 (⟨t119, t120, t121, t122⟩ : S33) [.string t119, .string t120, .string t121, .slice Ao70 t122.length co70] (fun k_ => k_ ≠ gb101 ∧ k_ ≠ gb109) (fun k_ => ((fun k_ => k_ ≠ gb101 ∧ k_ ≠ gb109)) k_ ∧ some k_ ≠ (u110003 : Value).ownBlock) rfl rfl ?aP (fun _ hk => hk) ?aF ?aO (Below.refl _ _) ?aS ?aL ?_
          (case aP => exact k33_mkM _ _ _ (⟨t119, t120, t121, t122⟩ : S33) (Kd.R_mono (HO124.out) (fun k_ hk => ⟨⟨hk.1.2, hk.2⟩, hk.1.1.2⟩)))
          (case aF => exact (fun k_ hk => ⟨Kd.freshB (g := gb101) (o := .cells #[.string (⟨#[]⟩ : ByteArray), .string (⟨#[]⟩ : ByteArray), .string (⟨#[]⟩ : ByteArray), .slice none 0 0] 33 (0, 0)) (by (with_reducible repeat ((refine blk_drew ?_))); exact BK101.out) k_ hk, Kd.freshB (g := gb109) (o := .cells #[.string t106, .string x110001_4, .string x110002_4, u110003] 33 (0, 0)) (by (with_reducible repeat ((refine blk_drew ?_))); exact BK109.out) k_ hk⟩))
          (case aO => exact (by (with_reducible repeat ((apply Kd.R_drew))); exact Kd.R_mono HO_110003.out (fun _ hk => ⟨hk.1.1, hk.1.2⟩)))
          (case aS => exact (keep_size (w := w) (g := g) (row := none) (by repeat ((with_reducible (exact HK.out))))))
          (case aL => have := LMc66.out; omega)
          intro v128 w69 ho hb hg hat
          rw [← Ny127.out] at ho
          have n0_ := Aside0.mk (blk_grown (g := gb101) (o := .cells #[.string (⟨#[]⟩ : ByteArray), .string (⟨#[]⟩ : ByteArray), .string (⟨#[]⟩ : ByteArray), .slice none 0 0] 33 (0, 0)) (by (with_reducible repeat ((refine blk_drew ?_))); exact BK101.out) hg (Kd.R_away HO_110003.out (fun _ hk => hk.1.1)))
          have n1_ := Aside0.mk (blk_grown (g := gb109) (o := .cells #[.string t106, .string x110001_4, .string x110002_4, u110003] 33 (0, 0)) (by (with_reducible repeat ((refine blk_drew ?_))); exact BK109.out) hg (Kd.R_away HO_110003.out (fun _ hk => hk.1.2)))
          have n2_ := Aside0.mk (IsS96.grown (by repeat ((with_reducible (exact HI0.out)))) hg (IsS96.own_ne HI0.out HO_110003.out (by decide)))
          have n3_ := Aside0.mk (below_weaken (by repeat ((with_reducible (exact HB.out)))) HL.out hb)
          have n4_ := Aside0.mk (KeepBut.trans (by repeat ((with_reducible (exact HK.out)))) (KeepBut.of_grown hg g) (Kd.R_base2 HO_110003.out))
          have n5_ := Aside0.mk (ho)
          clear BK101
          clear BK109
          clear HI0
          clear HB
          clear HK
          clear HO_110003
          clear HO124
          have BK101 := n0_
          have BK109 := n1_
          have HI0 := n2_
          have HB := n3_
          have HK := n4_
          have HO129 := n5_
          clear n0_ n1_ n2_ n3_ n4_ n5_
          clear ho hb hg hat
          obtain ⟨Ao71, co71, eo71⟩ := Kd.R_slice HO129.out
          ((subst eo71))
          refine hK.out _ _ ⟨(blk_cell BK109.out 0).trans rfl, (blk_cell BK109.out 1).trans rfl, (blk_cell BK109.out 2).trans rfl, (blk_cell BK109.out 3).trans rfl⟩ (fun hHeld => ?_)
          clear hK K
          refine norm_ (a' := ?_) ?_ ?_
          rotate_left
          ·show Act.put _ (some 85) _ = _
           simp only [Act.put, List.setIfInBounds_toArray, List.set_cons_zero, List.set_cons_succ, i64_w, i32_w]
           rfl
          refine pure_ (i := 6) (N := some 86) (v := ?_) (a' := ?_) #[true, true, true, true, true, true, true, false] rfl rfl (any_of HT_.out (by kernel_rfl)) (fun _ _ _ h => h) (Or.inl ⟨by rfl, ?_⟩) ?_ ?_
          rotate_left
          ·intro w'
           go_simp
           with_reducible rfl
          rotate_left
          ·simp only [Act.put, List.setIfInBounds_toArray, List.set_cons_zero, List.set_cons_succ, i64_w, i32_w]
           rfl
          refine last_ (i := 7) (N := none) #[true, true, true, true, true, true, true, true] rfl rfl (one_of HT_.out (by kernel_rfl)) (by decide) (fun K hK => ?_)
          have hs72 : w69.cell? ⟨gb109, 3, none⟩ = some (u110003) := (blk_cell BK109.out 3).trans rfl
          have hfs72 := blk_frozen BK109.out 3
          have hns72_0 := NB101_109.out
          have hms72_0 := NB109_101.out
          refine skip_ (w1 := ?_) (by rfl) rfl ?_ ?_
          rotate_left
          ·go_simp
           rfl
          refine hK.out _ _ ?_
          clear hK K
          refine done_ (done_of HT_.out (by kernel_rfl)) ?_
          try go_wp2
          go_roundg kj43
          case measure => have := HJ4.out; have := HK2.out; have := HJ43.out; omega
          case rel => exact ⟨(t125), (t126), (y127), (Value.nilIface), (.slice Ao71 y127.length co71), H', ⟨by have := HJ4.out; have := HK2.out; have := HJ43.out; omega⟩, ⟨by (with_reducible repeat ((apply Kd.R_drew))); exact Kd.R_mono (Kd.R_far (p := ⟨gb109, 3, none⟩) (Kd.R_mono HO129.out (fun k_ hk => (⟨hk, hk.2⟩ : _ ∧ k_ ≠ gb109))) (fun _ hk => hk.2) (.slice Ao71 y127.length co71)) (fun _ hk => ⟨hk.1.1, hk.1.2⟩)⟩, ⟨by (with_reducible repeat ((refine blk_drew ?_))); refine blk_far ?_ NB101_109.out _; (with_reducible repeat ((refine blk_drew ?_))); exact BK101.out⟩, ⟨by (with_reducible repeat ((refine blk_drew ?_))); refine blk_put (cs := #[.string t106, .string x110001_4, .string x110002_4, u110003]) ?_ 3 _ rfl; (with_reducible repeat ((refine blk_drew ?_))); exact BK109.out⟩, ⟨by repeat ((with_reducible first | exact HI0.out | refine IsS96.far ?_ NB0_109.out _))⟩, ⟨by repeat ((with_reducible first | exact HK.out | refine keep_far ?_ GW109.out _))⟩, ⟨by repeat ((with_reducible first | exact HB.out | refine below_set ?_ GE109.out))⟩⟩
         ·rw [if_neg c66] at H
          exact absurd H (by simp)
        ·replace c64 := Bool.eq_false_iff.mpr c64
         subst c64
         have H1 : (if x1001_2 = true then ((parser_next.f x1000_2 x1001_2).bind fun bt130 => (if bt130.1.toList = ([41] : List UInt8) then ((rule_form.f kj43 t106 x110001_4 x110002_4 x110003_2).bind fun t133 => (if t133 = true then (if t106.toList = ([116, 104, 105, 115] : List UInt8) then (some (t106, x110001_4, x110002_4, x110003_2, bt130.2.1, false)) else (some (t106, x110001_4, x110002_4, x110003_2, bt130.2.1, (t106.toList != ([114, 101, 108] : List UInt8))))) else (some (t106, x110001_4, x110002_4, x110003_2, bt130.2.1, false)))) else (some (t106, x110001_4, x110002_4, x110003_2, bt130.2.1, false)))) else (some (t106, x110001_4, x110002_4, x110003_2, x1000_2, false))) = some (r1, r2, r3, r4, r5, r6) := by rw [if_neg (show ¬ (false = true) by decide)] at H; exact H
         clear H
         have H := H1
         clear H1
         by_cases c73 : x1001_2 = true
         ·subst c73
          have H1 : ((parser_next.f x1000_2 true).bind fun bt130 => (if bt130.1.toList = ([41] : List UInt8) then ((rule_form.f kj43 t106 x110001_4 x110002_4 x110003_2).bind fun t133 => (if t133 = true then (if t106.toList = ([116, 104, 105, 115] : List UInt8) then (some (t106, x110001_4, x110002_4, x110003_2, bt130.2.1, false)) else (some (t106, x110001_4, x110002_4, x110003_2, bt130.2.1, (t106.toList != ([114, 101, 108] : List UInt8))))) else (some (t106, x110001_4, x110002_4, x110003_2, bt130.2.1, false)))) else (some (t106, x110001_4, x110002_4, x110003_2, bt130.2.1, false)))) = some (r1, r2, r3, r4, r5, r6) := by rw [if_pos rfl] at H; exact H
          clear H
          have H := H1
          clear H1
          replace H := Option.bind_eq_some_iff.mp H
          obtain ⟨⟨t130, t131, t132⟩, A740, H⟩ := H
          replace H : (if t130.toList = ([41] : List UInt8) then ((rule_form.f kj43 t106 x110001_4 x110002_4 x110003_2).bind fun t133 => (if t133 = true then (if t106.toList = ([116, 104, 105, 115] : List UInt8) then (some (t106, x110001_4, x110002_4, x110003_2, t131, false)) else (some (t106, x110001_4, x110002_4, x110003_2, t131, (t106.toList != ([114, 101, 108] : List UInt8))))) else (some (t106, x110001_4, x110002_4, x110003_2, t131, false)))) else (some (t106, x110001_4, x110002_4, x110003_2, t131, false))) = some (r1, r2, r3, r4, r5, r6) := H
          have A74 := Aside0.mk A740
          clear A740
          by_cases c75 : t130.toList = ([41] : List UInt8)
          ·rw [if_pos c75] at H
           have c75b0 : (t130.toList == ([41] : List UInt8)) = true := beq_iff_eq.mpr c75
           have c75b1 : (t130.toList != ([41] : List UInt8)) = false := bne_eq_false_iff_eq.mpr c75
           clear c75
           replace H := Option.bind_eq_some_iff.mp H
           obtain ⟨t133, A760, H⟩ := H
           replace H : (if t133 = true then (if t106.toList = ([116, 104, 105, 115] : List UInt8) then (some (t106, x110001_4, x110002_4, x110003_2, t131, false)) else (some (t106, x110001_4, x110002_4, x110003_2, t131, (t106.toList != ([114, 101, 108] : List UInt8))))) else (some (t106, x110001_4, x110002_4, x110003_2, t131, false))) = some (r1, r2, r3, r4, r5, r6) := H
           have A76 := Aside0.mk A760
           clear A760
           by_cases c77 : t133 = true
           ·subst c77
            have H1 : (if t106.toList = ([116, 104, 105, 115] : List UInt8) then (some (t106, x110001_4, x110002_4, x110003_2, t131, false)) else (some (t106, x110001_4, x110002_4, x110003_2, t131, (t106.toList != ([114, 101, 108] : List UInt8))))) = some (r1, r2, r3, r4, r5, r6) := by rw [if_pos rfl] at H; exact H
            clear H
            have H := H1
            clear H1
            by_cases c78 : t106.toList = ([116, 104, 105, 115] : List UInt8)
            ·rw [if_pos c78] at H
             have c78b0 : (t106.toList == ([116, 104, 105, 115] : List UInt8)) = true := beq_iff_eq.mpr c78
             have c78b1 : (t106.toList != ([116, 104, 105, 115] : List UInt8)) = false := bne_eq_false_iff_eq.mpr c78
             clear c78
             simp only [Option.some.injEq, Prod.mk.injEq] at H
             obtain ⟨rfl, rfl, rfl, rfl, rfl, rfl⟩ := H
             obtain ⟨ASz79_0, cSz79_0, HGz79, hgz79, HSz79_0⟩ := HI0.out
             have hcz79_0 := cellS96_0 HGz79
             have hcz79_1 := cellS96_1 HGz79
             have hfz79_0 := blk_frozen HGz79 0
             have hfz79_1 := blk_frozen HGz79 1
             clear HGz79 hgz79
             go_wp2_with (first | (go_at_call 89; (with_reducible refine (parser_next.calls g x1000_2 true t130 t131 t132 w0 _ ?side1 ?side2 A74.out).mono ?_); (case side1 => repeat ((with_reducible (exact HI0.out)))); (case side2 => repeat ((with_reducible (exact HB.out)))); rintro e w80 ⟨rfl, hi, hb, hk⟩; have n0_ := Aside0.mk (Kd.R_mono (Kd.R_keep (IsS96.apart (show IsS96 w0 _ g x1000_2 true from by repeat ((with_reducible (exact HI0.out)))) (by (with_reducible repeat ((apply Kd.R_drew))); exact HO_110003.out) (by decide)) hk (fun _ h => h.2)) (fun _ h => h.1)); have n1_ := Aside0.mk (KeepBut.blk hk (g' := gb101) (o := .cells #[.string (⟨#[]⟩ : ByteArray), .string (⟨#[]⟩ : ByteArray), .string (⟨#[]⟩ : ByteArray), .slice none 0 0] 33 (0, 0)) (by (with_reducible repeat ((refine blk_drew ?_))); exact BK101.out) NB101_0.out (by simp)); have n2_ := Aside0.mk (KeepBut.blk hk (g' := gb109) (o := .cells #[.string t106, .string x110001_4, .string x110002_4, u110003] 33 (0, 0)) (by (with_reducible repeat ((refine blk_drew ?_))); exact BK109.out) NB109_0.out (by simp)); have n3_ := Aside0.mk (KeepBut.trans (by repeat ((with_reducible (exact HK.out)))) hk (.inl rfl)); have n4_ := Aside0.mk (hb); have n5_ := Aside0.mk (hi); clear HO_110003; clear BK101; clear BK109; clear HK; clear HB; clear HI0; have HO_110003 := n0_; have BK101 := n1_; have BK109 := n2_; have HK := n3_; have HB := n4_; have HI0 := n5_; clear n0_ n1_ n2_ n3_ n4_ n5_; (try clear hb); (try clear hk); (try clear hi); have hnb81 := NB109_101.out; have hnc81 := NB101_109.out; have hnb82 := NB109_0.out; have hnc82 := NB0_109.out; have hcz83_0 : w80.cell? ⟨gb109, 0, none⟩ = some (.string t106) := (blk_cell BK109.out 0).trans rfl; have hcz83_1 : w80.cell? ⟨gb109, 1, none⟩ = some (.string x110001_4) := (blk_cell BK109.out 1).trans rfl; have hcz83_2 : w80.cell? ⟨gb109, 2, none⟩ = some (.string x110002_4) := (blk_cell BK109.out 2).trans rfl; have hcz83_3 : w80.cell? ⟨gb109, 3, none⟩ = some (u110003) := (blk_cell BK109.out 3).trans rfl; have hfz83_0 := blk_frozen BK109.out 0; have hfz83_1 := blk_frozen BK109.out 1; have hfz83_2 := blk_frozen BK109.out 2; have hfz83_3 := blk_frozen BK109.out 3; obtain ⟨Ao84, co84, eo84⟩ := Kd.R_slice HO_110003.out; subst eo84) | (go_at_call 46; (with_reducible refine (rule_form.calls kj43 t106 x110001_4 x110002_4 _ _ x110003_2 true _ ?side1 ?side2 A76.out).mono ?_); (case side1 => repeat ((exact (Kd.R_reads' HO_110003.out).2.2))); (case side2 => exact (Kd.R_reads' HO_110003.out).2.1); rintro e w85 ⟨rfl, hb⟩; have n0_ := Aside0.mk (Kd.R_below (by (with_reducible repeat ((apply Kd.R_drew))); exact HO_110003.out) hb); have n1_ := Aside0.mk (blk_below (g := gb101) (o := .cells #[.string (⟨#[]⟩ : ByteArray), .string (⟨#[]⟩ : ByteArray), .string (⟨#[]⟩ : ByteArray), .slice none 0 0] 33 (0, 0)) (by (with_reducible repeat ((refine blk_drew ?_))); exact BK101.out) hb); have n2_ := Aside0.mk (blk_below (g := gb109) (o := .cells #[.string t106, .string x110001_4, .string x110002_4, .slice Ao84 x110003_2.length co84] 33 (0, 0)) (by (with_reducible repeat ((refine blk_drew ?_))); exact BK109.out) hb); have n3_ := Aside0.mk (IsS96.below (by repeat ((with_reducible (exact HI0.out)))) hb); have n4_ := Aside0.mk (KeepBut.trans (by repeat ((with_reducible (exact HK.out)))) (KeepBut.of_below hb g none) (.inl rfl)); have n5_ := Aside0.mk (below_step (by repeat ((with_reducible (exact HB.out)))) hb); clear HO_110003; clear BK101; clear BK109; clear HI0; clear HK; clear HB; have HO_110003 := n0_; have BK101 := n1_; have BK109 := n2_; have HI0 := n3_; have HK := n4_; have HB := n5_; clear n0_ n1_ n2_ n3_ n4_ n5_; (try clear hb); have hcz86_0 : w85.cell? ⟨gb109, 0, none⟩ = some (.string t106) := (blk_cell BK109.out 0).trans rfl; have hcz86_1 : w85.cell? ⟨gb109, 1, none⟩ = some (.string x110001_4) := (blk_cell BK109.out 1).trans rfl; have hcz86_2 : w85.cell? ⟨gb109, 2, none⟩ = some (.string x110002_4) := (blk_cell BK109.out 2).trans rfl; have hcz86_3 : w85.cell? ⟨gb109, 3, none⟩ = some (.slice Ao84 x110003_2.length co84) := (blk_cell BK109.out 3).trans rfl; have hfz86_0 := blk_frozen BK109.out 0; have hfz86_1 := blk_frozen BK109.out 1; have hfz86_2 := blk_frozen BK109.out 2; have hfz86_3 := blk_frozen BK109.out 3; obtain ⟨ASz87_0, cSz87_0, HGz87, hgz87, HSz87_0⟩ := HI0.out; have hcz87_0 := cellS96_0 HGz87; have hcz87_1 := cellS96_1 HGz87; have hfz87_0 := blk_frozen HGz87 0; have hfz87_1 := blk_frozen HGz87 1; clear HGz87 hgz87; have hnb88 := NB101_0.out; have hnc88 := NB0_101.out; have hcz89_0 : w85.cell? ⟨gb101, 0, none⟩ = some (.string (⟨#[]⟩ : ByteArray)) := (blk_cell BK101.out 0).trans rfl; have hcz89_1 : w85.cell? ⟨gb101, 1, none⟩ = some (.string (⟨#[]⟩ : ByteArray)) := (blk_cell BK101.out 1).trans rfl; have hcz89_2 : w85.cell? ⟨gb101, 2, none⟩ = some (.string (⟨#[]⟩ : ByteArray)) := (blk_cell BK101.out 2).trans rfl; have hcz89_3 : w85.cell? ⟨gb101, 3, none⟩ = some (.slice none 0 0) := (blk_cell BK101.out 3).trans rfl; have hfz89_0 := blk_frozen BK101.out 0; have hfz89_1 := blk_frozen BK101.out 1; have hfz89_2 := blk_frozen BK101.out 2; have hfz89_3 := blk_frozen BK101.out 3))
             refine bodyPost_ret (results_cell_row rfl _ _ gb101 33 #[.string t106, .string x110001_4, .string x110002_4, .slice Ao84 x110003_2.length co84] (0, 0) _ rfl (by (with_reducible repeat ((refine blk_drew ?_))); refine blk_put (cs := #[.string t106, .string x110001_4, .string x110002_4, .slice none 0 0]) ?_ 3 _ rfl; (with_reducible repeat ((refine blk_drew ?_))); refine blk_put (cs := #[.string t106, .string x110001_4, .string (⟨#[]⟩ : ByteArray), .slice none 0 0]) ?_ 2 _ rfl; (with_reducible repeat ((refine blk_drew ?_))); refine blk_put (cs := #[.string t106, .string (⟨#[]⟩ : ByteArray), .string (⟨#[]⟩ : ByteArray), .slice none 0 0]) ?_ 1 _ rfl; (with_reducible repeat ((refine blk_drew ?_))); refine blk_put (cs := #[.string (⟨#[]⟩ : ByteArray), .string (⟨#[]⟩ : ByteArray), .string (⟨#[]⟩ : ByteArray), .slice none 0 0]) ?_ 0 _ rfl; (with_reducible repeat ((refine blk_drew ?_))); refine blk_far ?_ NB101_0.out _; (with_reducible repeat ((refine blk_drew ?_))); exact BK101.out) Tryz.underlying33 rfl (by kernel_rfl)) rfl ?_
             exact ⟨_, by (rfl), by (with_reducible repeat ((apply Kd.R_drew))); exact Kd.R_mono (Kd.R_far (p := ⟨gb101, 3, none⟩) (Kd.R_far (p := ⟨gb101, 2, none⟩) (Kd.R_far (p := ⟨gb101, 1, none⟩) (Kd.R_far (p := ⟨gb101, 0, none⟩) (Kd.R_far (p := ⟨g, 1, none⟩) (Kd.R_mono (IsS96.apart HI0.out HO_110003.out (by decide)) (fun k_ hk => (⟨hk, hk.1.1⟩ : _ ∧ k_ ≠ gb101))) (fun _ hk => hk.1.2) (.bool false)) (fun _ hk => hk.2) (.string t106)) (fun _ hk => hk.2) (.string x110001_4)) (fun _ hk => hk.2) (.string x110002_4)) (fun _ hk => hk.2) (.slice Ao84 x110003_2.length co84)) (fun _ hk => trivial), by repeat ((with_reducible first | exact HI0.out | apply IsS96.set_1 | refine IsS96.far ?_ NB0_101.out _)), by repeat ((with_reducible first | exact HB.out | refine below_set ?_ (IsS96.ge HI0.out) | refine below_set ?_ GE101.out)), by repeat ((with_reducible first | exact HK.out | apply KeepBut.set_ | refine keep_far ?_ GW101.out _))⟩
            ·rw [if_neg c78] at H
             have c78b0 : (t106.toList == ([116, 104, 105, 115] : List UInt8)) = false := beq_eq_false_iff_ne.mpr c78
             have c78b1 : (t106.toList != ([116, 104, 105, 115] : List UInt8)) = true := bne_iff_ne.mpr c78
             simp only [Option.some.injEq, Prod.mk.injEq] at H
             obtain ⟨rfl, rfl, rfl, rfl, rfl, rfl⟩ := H
             obtain ⟨ASz90_0, cSz90_0, HGz90, hgz90, HSz90_0⟩ := HI0.out
             have hcz90_0 := cellS96_0 HGz90
             have hcz90_1 := cellS96_1 HGz90
             have hfz90_0 := blk_frozen HGz90 0
             have hfz90_1 := blk_frozen HGz90 1
             clear HGz90 hgz90
             go_wp2_with (first | (go_at_call 89; (with_reducible refine (parser_next.calls g x1000_2 true t130 t131 t132 w0 _ ?side1 ?side2 A74.out).mono ?_); (case side1 => repeat ((with_reducible (exact HI0.out)))); (case side2 => repeat ((with_reducible (exact HB.out)))); rintro e w91 ⟨rfl, hi, hb, hk⟩; have n0_ := Aside0.mk (Kd.R_mono (Kd.R_keep (IsS96.apart (show IsS96 w0 _ g x1000_2 true from by repeat ((with_reducible (exact HI0.out)))) (by (with_reducible repeat ((apply Kd.R_drew))); exact HO_110003.out) (by decide)) hk (fun _ h => h.2)) (fun _ h => h.1)); have n1_ := Aside0.mk (KeepBut.blk hk (g' := gb101) (o := .cells #[.string (⟨#[]⟩ : ByteArray), .string (⟨#[]⟩ : ByteArray), .string (⟨#[]⟩ : ByteArray), .slice none 0 0] 33 (0, 0)) (by (with_reducible repeat ((refine blk_drew ?_))); exact BK101.out) NB101_0.out (by simp)); have n2_ := Aside0.mk (KeepBut.blk hk (g' := gb109) (o := .cells #[.string t106, .string x110001_4, .string x110002_4, u110003] 33 (0, 0)) (by (with_reducible repeat ((refine blk_drew ?_))); exact BK109.out) NB109_0.out (by simp)); have n3_ := Aside0.mk (KeepBut.trans (by repeat ((with_reducible (exact HK.out)))) hk (.inl rfl)); have n4_ := Aside0.mk (hb); have n5_ := Aside0.mk (hi); clear HO_110003; clear BK101; clear BK109; clear HK; clear HB; clear HI0; have HO_110003 := n0_; have BK101 := n1_; have BK109 := n2_; have HK := n3_; have HB := n4_; have HI0 := n5_; clear n0_ n1_ n2_ n3_ n4_ n5_; (try clear hb); (try clear hk); (try clear hi); have hnb92 := NB109_101.out; have hnc92 := NB101_109.out; have hnb93 := NB109_0.out; have hnc93 := NB0_109.out; have hcz94_0 : w91.cell? ⟨gb109, 0, none⟩ = some (.string t106) := (blk_cell BK109.out 0).trans rfl; have hcz94_1 : w91.cell? ⟨gb109, 1, none⟩ = some (.string x110001_4) := (blk_cell BK109.out 1).trans rfl; have hcz94_2 : w91.cell? ⟨gb109, 2, none⟩ = some (.string x110002_4) := (blk_cell BK109.out 2).trans rfl; have hcz94_3 : w91.cell? ⟨gb109, 3, none⟩ = some (u110003) := (blk_cell BK109.out 3).trans rfl; have hfz94_0 := blk_frozen BK109.out 0; have hfz94_1 := blk_frozen BK109.out 1; have hfz94_2 := blk_frozen BK109.out 2; have hfz94_3 := blk_frozen BK109.out 3; obtain ⟨Ao95, co95, eo95⟩ := Kd.R_slice HO_110003.out; subst eo95) | (go_at_call 46; (with_reducible refine (rule_form.calls kj43 t106 x110001_4 x110002_4 _ _ x110003_2 true _ ?side1 ?side2 A76.out).mono ?_); (case side1 => repeat ((exact (Kd.R_reads' HO_110003.out).2.2))); (case side2 => exact (Kd.R_reads' HO_110003.out).2.1); rintro e w96 ⟨rfl, hb⟩; have n0_ := Aside0.mk (Kd.R_below (by (with_reducible repeat ((apply Kd.R_drew))); exact HO_110003.out) hb); have n1_ := Aside0.mk (blk_below (g := gb101) (o := .cells #[.string (⟨#[]⟩ : ByteArray), .string (⟨#[]⟩ : ByteArray), .string (⟨#[]⟩ : ByteArray), .slice none 0 0] 33 (0, 0)) (by (with_reducible repeat ((refine blk_drew ?_))); exact BK101.out) hb); have n2_ := Aside0.mk (blk_below (g := gb109) (o := .cells #[.string t106, .string x110001_4, .string x110002_4, .slice Ao95 x110003_2.length co95] 33 (0, 0)) (by (with_reducible repeat ((refine blk_drew ?_))); exact BK109.out) hb); have n3_ := Aside0.mk (IsS96.below (by repeat ((with_reducible (exact HI0.out)))) hb); have n4_ := Aside0.mk (KeepBut.trans (by repeat ((with_reducible (exact HK.out)))) (KeepBut.of_below hb g none) (.inl rfl)); have n5_ := Aside0.mk (below_step (by repeat ((with_reducible (exact HB.out)))) hb); clear HO_110003; clear BK101; clear BK109; clear HI0; clear HK; clear HB; have HO_110003 := n0_; have BK101 := n1_; have BK109 := n2_; have HI0 := n3_; have HK := n4_; have HB := n5_; clear n0_ n1_ n2_ n3_ n4_ n5_; (try clear hb); have hcz97_0 : w96.cell? ⟨gb109, 0, none⟩ = some (.string t106) := (blk_cell BK109.out 0).trans rfl; have hcz97_1 : w96.cell? ⟨gb109, 1, none⟩ = some (.string x110001_4) := (blk_cell BK109.out 1).trans rfl; have hcz97_2 : w96.cell? ⟨gb109, 2, none⟩ = some (.string x110002_4) := (blk_cell BK109.out 2).trans rfl; have hcz97_3 : w96.cell? ⟨gb109, 3, none⟩ = some (.slice Ao95 x110003_2.length co95) := (blk_cell BK109.out 3).trans rfl; have hfz97_0 := blk_frozen BK109.out 0; have hfz97_1 := blk_frozen BK109.out 1; have hfz97_2 := blk_frozen BK109.out 2; have hfz97_3 := blk_frozen BK109.out 3; obtain ⟨ASz98_0, cSz98_0, HGz98, hgz98, HSz98_0⟩ := HI0.out; have hcz98_0 := cellS96_0 HGz98; have hcz98_1 := cellS96_1 HGz98; have hfz98_0 := blk_frozen HGz98 0; have hfz98_1 := blk_frozen HGz98 1; clear HGz98 hgz98; have hnb99 := NB101_0.out; have hnc99 := NB0_101.out; have hcz100_0 : w96.cell? ⟨gb101, 0, none⟩ = some (.string (⟨#[]⟩ : ByteArray)) := (blk_cell BK101.out 0).trans rfl; have hcz100_1 : w96.cell? ⟨gb101, 1, none⟩ = some (.string (⟨#[]⟩ : ByteArray)) := (blk_cell BK101.out 1).trans rfl; have hcz100_2 : w96.cell? ⟨gb101, 2, none⟩ = some (.string (⟨#[]⟩ : ByteArray)) := (blk_cell BK101.out 2).trans rfl; have hcz100_3 : w96.cell? ⟨gb101, 3, none⟩ = some (.slice none 0 0) := (blk_cell BK101.out 3).trans rfl; have hfz100_0 := blk_frozen BK101.out 0; have hfz100_1 := blk_frozen BK101.out 1; have hfz100_2 := blk_frozen BK101.out 2; have hfz100_3 := blk_frozen BK101.out 3))
             refine bodyPost_ret (results_cell_row rfl _ _ gb101 33 #[.string t106, .string x110001_4, .string x110002_4, .slice Ao95 x110003_2.length co95] (0, 0) _ rfl (by (with_reducible repeat ((refine blk_drew ?_))); refine blk_put (cs := #[.string t106, .string x110001_4, .string x110002_4, .slice none 0 0]) ?_ 3 _ rfl; (with_reducible repeat ((refine blk_drew ?_))); refine blk_put (cs := #[.string t106, .string x110001_4, .string (⟨#[]⟩ : ByteArray), .slice none 0 0]) ?_ 2 _ rfl; (with_reducible repeat ((refine blk_drew ?_))); refine blk_put (cs := #[.string t106, .string (⟨#[]⟩ : ByteArray), .string (⟨#[]⟩ : ByteArray), .slice none 0 0]) ?_ 1 _ rfl; (with_reducible repeat ((refine blk_drew ?_))); refine blk_put (cs := #[.string (⟨#[]⟩ : ByteArray), .string (⟨#[]⟩ : ByteArray), .string (⟨#[]⟩ : ByteArray), .slice none 0 0]) ?_ 0 _ rfl; (with_reducible repeat ((refine blk_drew ?_))); refine blk_far ?_ NB101_0.out _; (with_reducible repeat ((refine blk_drew ?_))); exact BK101.out) Tryz.underlying33 rfl (by kernel_rfl)) rfl ?_
             exact ⟨_, by (rfl), by (with_reducible repeat ((apply Kd.R_drew))); exact Kd.R_mono (Kd.R_far (p := ⟨gb101, 3, none⟩) (Kd.R_far (p := ⟨gb101, 2, none⟩) (Kd.R_far (p := ⟨gb101, 1, none⟩) (Kd.R_far (p := ⟨gb101, 0, none⟩) (Kd.R_far (p := ⟨g, 1, none⟩) (Kd.R_mono (IsS96.apart HI0.out HO_110003.out (by decide)) (fun k_ hk => (⟨hk, hk.1.1⟩ : _ ∧ k_ ≠ gb101))) (fun _ hk => hk.1.2) (.bool (t106.toList != ([114, 101, 108] : List UInt8)))) (fun _ hk => hk.2) (.string t106)) (fun _ hk => hk.2) (.string x110001_4)) (fun _ hk => hk.2) (.string x110002_4)) (fun _ hk => hk.2) (.slice Ao95 x110003_2.length co95)) (fun _ hk => trivial), by (with_reducible repeat ((refine IsS96.far ?_ NB0_101.out _))); exact IsS96.set_1 HI0.out _, by repeat ((with_reducible first | exact HB.out | refine below_set ?_ (IsS96.ge HI0.out) | refine below_set ?_ GE101.out)), by repeat ((with_reducible first | exact HK.out | apply KeepBut.set_ | refine keep_far ?_ GW101.out _))⟩
           ·replace c77 := Bool.eq_false_iff.mpr c77
            subst c77
            have H1 : (some (t106, x110001_4, x110002_4, x110003_2, t131, false)) = some (r1, r2, r3, r4, r5, r6) := by rw [if_neg (show ¬ (false = true) by decide)] at H; exact H
            clear H
            have H := H1
            clear H1
            simp only [Option.some.injEq, Prod.mk.injEq] at H
            obtain ⟨rfl, rfl, rfl, rfl, rfl, rfl⟩ := H
            obtain ⟨ASz101_0, cSz101_0, HGz101, hgz101, HSz101_0⟩ := HI0.out
            have hcz101_0 := cellS96_0 HGz101
            have hcz101_1 := cellS96_1 HGz101
            have hfz101_0 := blk_frozen HGz101 0
            have hfz101_1 := blk_frozen HGz101 1
            clear HGz101 hgz101
            go_wp2_with (first | (go_at_call 89; (with_reducible refine (parser_next.calls g x1000_2 true t130 t131 t132 w0 _ ?side1 ?side2 A74.out).mono ?_); (case side1 => repeat ((with_reducible (exact HI0.out)))); (case side2 => repeat ((with_reducible (exact HB.out)))); rintro e w102 ⟨rfl, hi, hb, hk⟩; have n0_ := Aside0.mk (Kd.R_mono (Kd.R_keep (IsS96.apart (show IsS96 w0 _ g x1000_2 true from by repeat ((with_reducible (exact HI0.out)))) (by (with_reducible repeat ((apply Kd.R_drew))); exact HO_110003.out) (by decide)) hk (fun _ h => h.2)) (fun _ h => h.1)); have n1_ := Aside0.mk (KeepBut.blk hk (g' := gb101) (o := .cells #[.string (⟨#[]⟩ : ByteArray), .string (⟨#[]⟩ : ByteArray), .string (⟨#[]⟩ : ByteArray), .slice none 0 0] 33 (0, 0)) (by (with_reducible repeat ((refine blk_drew ?_))); exact BK101.out) NB101_0.out (by simp)); have n2_ := Aside0.mk (KeepBut.blk hk (g' := gb109) (o := .cells #[.string t106, .string x110001_4, .string x110002_4, u110003] 33 (0, 0)) (by (with_reducible repeat ((refine blk_drew ?_))); exact BK109.out) NB109_0.out (by simp)); have n3_ := Aside0.mk (KeepBut.trans (by repeat ((with_reducible (exact HK.out)))) hk (.inl rfl)); have n4_ := Aside0.mk (hb); have n5_ := Aside0.mk (hi); clear HO_110003; clear BK101; clear BK109; clear HK; clear HB; clear HI0; have HO_110003 := n0_; have BK101 := n1_; have BK109 := n2_; have HK := n3_; have HB := n4_; have HI0 := n5_; clear n0_ n1_ n2_ n3_ n4_ n5_; (try clear hb); (try clear hk); (try clear hi); have hnb103 := NB109_101.out; have hnc103 := NB101_109.out; have hnb104 := NB109_0.out; have hnc104 := NB0_109.out; have hcz105_0 : w102.cell? ⟨gb109, 0, none⟩ = some (.string t106) := (blk_cell BK109.out 0).trans rfl; have hcz105_1 : w102.cell? ⟨gb109, 1, none⟩ = some (.string x110001_4) := (blk_cell BK109.out 1).trans rfl; have hcz105_2 : w102.cell? ⟨gb109, 2, none⟩ = some (.string x110002_4) := (blk_cell BK109.out 2).trans rfl; have hcz105_3 : w102.cell? ⟨gb109, 3, none⟩ = some (u110003) := (blk_cell BK109.out 3).trans rfl; have hfz105_0 := blk_frozen BK109.out 0; have hfz105_1 := blk_frozen BK109.out 1; have hfz105_2 := blk_frozen BK109.out 2; have hfz105_3 := blk_frozen BK109.out 3; obtain ⟨Ao106, co106, eo106⟩ := Kd.R_slice HO_110003.out; subst eo106) | (go_at_call 46; (with_reducible refine (rule_form.calls kj43 t106 x110001_4 x110002_4 _ _ x110003_2 false _ ?side1 ?side2 A76.out).mono ?_); (case side1 => repeat ((exact (Kd.R_reads' HO_110003.out).2.2))); (case side2 => exact (Kd.R_reads' HO_110003.out).2.1); rintro e w107 ⟨rfl, hb⟩; have n0_ := Aside0.mk (Kd.R_below (by (with_reducible repeat ((apply Kd.R_drew))); exact HO_110003.out) hb); have n1_ := Aside0.mk (blk_below (g := gb101) (o := .cells #[.string (⟨#[]⟩ : ByteArray), .string (⟨#[]⟩ : ByteArray), .string (⟨#[]⟩ : ByteArray), .slice none 0 0] 33 (0, 0)) (by (with_reducible repeat ((refine blk_drew ?_))); exact BK101.out) hb); have n2_ := Aside0.mk (blk_below (g := gb109) (o := .cells #[.string t106, .string x110001_4, .string x110002_4, .slice Ao106 x110003_2.length co106] 33 (0, 0)) (by (with_reducible repeat ((refine blk_drew ?_))); exact BK109.out) hb); have n3_ := Aside0.mk (IsS96.below (by repeat ((with_reducible (exact HI0.out)))) hb); have n4_ := Aside0.mk (KeepBut.trans (by repeat ((with_reducible (exact HK.out)))) (KeepBut.of_below hb g none) (.inl rfl)); have n5_ := Aside0.mk (below_step (by repeat ((with_reducible (exact HB.out)))) hb); clear HO_110003; clear BK101; clear BK109; clear HI0; clear HK; clear HB; have HO_110003 := n0_; have BK101 := n1_; have BK109 := n2_; have HI0 := n3_; have HK := n4_; have HB := n5_; clear n0_ n1_ n2_ n3_ n4_ n5_; (try clear hb); obtain ⟨ASz108_0, cSz108_0, HGz108, hgz108, HSz108_0⟩ := HI0.out; have hcz108_0 := cellS96_0 HGz108; have hcz108_1 := cellS96_1 HGz108; have hfz108_0 := blk_frozen HGz108 0; have hfz108_1 := blk_frozen HGz108 1; clear HGz108 hgz108; have hcz109_0 : w107.cell? ⟨gb109, 0, none⟩ = some (.string t106) := (blk_cell BK109.out 0).trans rfl; have hcz109_1 : w107.cell? ⟨gb109, 1, none⟩ = some (.string x110001_4) := (blk_cell BK109.out 1).trans rfl; have hcz109_2 : w107.cell? ⟨gb109, 2, none⟩ = some (.string x110002_4) := (blk_cell BK109.out 2).trans rfl; have hcz109_3 : w107.cell? ⟨gb109, 3, none⟩ = some (.slice Ao106 x110003_2.length co106) := (blk_cell BK109.out 3).trans rfl; have hfz109_0 := blk_frozen BK109.out 0; have hfz109_1 := blk_frozen BK109.out 1; have hfz109_2 := blk_frozen BK109.out 2; have hfz109_3 := blk_frozen BK109.out 3; have hnb110 := NB101_0.out; have hnc110 := NB0_101.out; have hcz111_0 : w107.cell? ⟨gb101, 0, none⟩ = some (.string (⟨#[]⟩ : ByteArray)) := (blk_cell BK101.out 0).trans rfl; have hcz111_1 : w107.cell? ⟨gb101, 1, none⟩ = some (.string (⟨#[]⟩ : ByteArray)) := (blk_cell BK101.out 1).trans rfl; have hcz111_2 : w107.cell? ⟨gb101, 2, none⟩ = some (.string (⟨#[]⟩ : ByteArray)) := (blk_cell BK101.out 2).trans rfl; have hcz111_3 : w107.cell? ⟨gb101, 3, none⟩ = some (.slice none 0 0) := (blk_cell BK101.out 3).trans rfl; have hfz111_0 := blk_frozen BK101.out 0; have hfz111_1 := blk_frozen BK101.out 1; have hfz111_2 := blk_frozen BK101.out 2; have hfz111_3 := blk_frozen BK101.out 3))
            refine bodyPost_ret (results_cell_row rfl _ _ gb101 33 #[.string t106, .string x110001_4, .string x110002_4, .slice Ao106 x110003_2.length co106] (0, 0) _ rfl (by (with_reducible repeat ((refine blk_drew ?_))); refine blk_put (cs := #[.string t106, .string x110001_4, .string x110002_4, .slice none 0 0]) ?_ 3 _ rfl; (with_reducible repeat ((refine blk_drew ?_))); refine blk_put (cs := #[.string t106, .string x110001_4, .string (⟨#[]⟩ : ByteArray), .slice none 0 0]) ?_ 2 _ rfl; (with_reducible repeat ((refine blk_drew ?_))); refine blk_put (cs := #[.string t106, .string (⟨#[]⟩ : ByteArray), .string (⟨#[]⟩ : ByteArray), .slice none 0 0]) ?_ 1 _ rfl; (with_reducible repeat ((refine blk_drew ?_))); refine blk_put (cs := #[.string (⟨#[]⟩ : ByteArray), .string (⟨#[]⟩ : ByteArray), .string (⟨#[]⟩ : ByteArray), .slice none 0 0]) ?_ 0 _ rfl; (with_reducible repeat ((refine blk_drew ?_))); refine blk_far ?_ NB101_0.out _; (with_reducible repeat ((refine blk_drew ?_))); exact BK101.out) Tryz.underlying33 rfl (by kernel_rfl)) rfl ?_
            exact ⟨_, by (rfl), by (with_reducible repeat ((apply Kd.R_drew))); exact Kd.R_mono (Kd.R_far (p := ⟨gb101, 3, none⟩) (Kd.R_far (p := ⟨gb101, 2, none⟩) (Kd.R_far (p := ⟨gb101, 1, none⟩) (Kd.R_far (p := ⟨gb101, 0, none⟩) (Kd.R_far (p := ⟨g, 1, none⟩) (Kd.R_mono (IsS96.apart HI0.out HO_110003.out (by decide)) (fun k_ hk => (⟨hk, hk.1.1⟩ : _ ∧ k_ ≠ gb101))) (fun _ hk => hk.1.2) (.bool false)) (fun _ hk => hk.2) (.string t106)) (fun _ hk => hk.2) (.string x110001_4)) (fun _ hk => hk.2) (.string x110002_4)) (fun _ hk => hk.2) (.slice Ao106 x110003_2.length co106)) (fun _ hk => trivial), by repeat ((with_reducible first | exact HI0.out | apply IsS96.set_1 | refine IsS96.far ?_ NB0_101.out _)), by repeat ((with_reducible first | exact HB.out | refine below_set ?_ (IsS96.ge HI0.out) | refine below_set ?_ GE101.out)), by repeat ((with_reducible first | exact HK.out | apply KeepBut.set_ | refine keep_far ?_ GW101.out _))⟩
          ·rw [if_neg c75] at H
           have c75b0 : (t130.toList == ([41] : List UInt8)) = false := beq_eq_false_iff_ne.mpr c75
           have c75b1 : (t130.toList != ([41] : List UInt8)) = true := bne_iff_ne.mpr c75
           simp only [Option.some.injEq, Prod.mk.injEq] at H
           obtain ⟨rfl, rfl, rfl, rfl, rfl, rfl⟩ := H
           obtain ⟨ASz112_0, cSz112_0, HGz112, hgz112, HSz112_0⟩ := HI0.out
           have hcz112_0 := cellS96_0 HGz112
           have hcz112_1 := cellS96_1 HGz112
           have hfz112_0 := blk_frozen HGz112 0
           have hfz112_1 := blk_frozen HGz112 1
           clear HGz112 hgz112
           go_wp2_with ((go_at_call 89; (with_reducible refine (parser_next.calls g x1000_2 true t130 t131 t132 w0 _ ?side1 ?side2 A74.out).mono ?_); (case side1 => repeat ((with_reducible (exact HI0.out)))); (case side2 => repeat ((with_reducible (exact HB.out)))); rintro e w113 ⟨rfl, hi, hb, hk⟩; have n0_ := Aside0.mk (Kd.R_mono (Kd.R_keep (IsS96.apart (show IsS96 w0 _ g x1000_2 true from by repeat ((with_reducible (exact HI0.out)))) (by (with_reducible repeat ((apply Kd.R_drew))); exact HO_110003.out) (by decide)) hk (fun _ h => h.2)) (fun _ h => h.1)); have n1_ := Aside0.mk (KeepBut.blk hk (g' := gb101) (o := .cells #[.string (⟨#[]⟩ : ByteArray), .string (⟨#[]⟩ : ByteArray), .string (⟨#[]⟩ : ByteArray), .slice none 0 0] 33 (0, 0)) (by (with_reducible repeat ((refine blk_drew ?_))); exact BK101.out) NB101_0.out (by simp)); have n2_ := Aside0.mk (KeepBut.blk hk (g' := gb109) (o := .cells #[.string t106, .string x110001_4, .string x110002_4, u110003] 33 (0, 0)) (by (with_reducible repeat ((refine blk_drew ?_))); exact BK109.out) NB109_0.out (by simp)); have n3_ := Aside0.mk (KeepBut.trans (by repeat ((with_reducible (exact HK.out)))) hk (.inl rfl)); have n4_ := Aside0.mk (hb); have n5_ := Aside0.mk (hi); clear HO_110003; clear BK101; clear BK109; clear HK; clear HB; clear HI0; have HO_110003 := n0_; have BK101 := n1_; have BK109 := n2_; have HK := n3_; have HB := n4_; have HI0 := n5_; clear n0_ n1_ n2_ n3_ n4_ n5_; (try clear hb); (try clear hk); (try clear hi); obtain ⟨ASz114_0, cSz114_0, HGz114, hgz114, HSz114_0⟩ := HI0.out; have hcz114_0 := cellS96_0 HGz114; have hcz114_1 := cellS96_1 HGz114; have hfz114_0 := blk_frozen HGz114 0; have hfz114_1 := blk_frozen HGz114 1; clear HGz114 hgz114; have hnb115 := NB109_101.out; have hnc115 := NB101_109.out; have hnb116 := NB109_0.out; have hnc116 := NB0_109.out; have hcz117_0 : w113.cell? ⟨gb109, 0, none⟩ = some (.string t106) := (blk_cell BK109.out 0).trans rfl; have hcz117_1 : w113.cell? ⟨gb109, 1, none⟩ = some (.string x110001_4) := (blk_cell BK109.out 1).trans rfl; have hcz117_2 : w113.cell? ⟨gb109, 2, none⟩ = some (.string x110002_4) := (blk_cell BK109.out 2).trans rfl; have hcz117_3 : w113.cell? ⟨gb109, 3, none⟩ = some (u110003) := (blk_cell BK109.out 3).trans rfl; have hfz117_0 := blk_frozen BK109.out 0; have hfz117_1 := blk_frozen BK109.out 1; have hfz117_2 := blk_frozen BK109.out 2; have hfz117_3 := blk_frozen BK109.out 3; have hnb118 := NB101_0.out; have hnc118 := NB0_101.out; have hcz119_0 : w113.cell? ⟨gb101, 0, none⟩ = some (.string (⟨#[]⟩ : ByteArray)) := (blk_cell BK101.out 0).trans rfl; have hcz119_1 : w113.cell? ⟨gb101, 1, none⟩ = some (.string (⟨#[]⟩ : ByteArray)) := (blk_cell BK101.out 1).trans rfl; have hcz119_2 : w113.cell? ⟨gb101, 2, none⟩ = some (.string (⟨#[]⟩ : ByteArray)) := (blk_cell BK101.out 2).trans rfl; have hcz119_3 : w113.cell? ⟨gb101, 3, none⟩ = some (.slice none 0 0) := (blk_cell BK101.out 3).trans rfl; have hfz119_0 := blk_frozen BK101.out 0; have hfz119_1 := blk_frozen BK101.out 1; have hfz119_2 := blk_frozen BK101.out 2; have hfz119_3 := blk_frozen BK101.out 3; obtain ⟨Ao120, co120, eo120⟩ := Kd.R_slice HO_110003.out; subst eo120))
           refine bodyPost_ret (results_cell_row rfl _ _ gb101 33 #[.string t106, .string x110001_4, .string x110002_4, .slice Ao120 x110003_2.length co120] (0, 0) _ rfl (by (with_reducible repeat ((refine blk_drew ?_))); refine blk_put (cs := #[.string t106, .string x110001_4, .string x110002_4, .slice none 0 0]) ?_ 3 _ rfl; (with_reducible repeat ((refine blk_drew ?_))); refine blk_put (cs := #[.string t106, .string x110001_4, .string (⟨#[]⟩ : ByteArray), .slice none 0 0]) ?_ 2 _ rfl; (with_reducible repeat ((refine blk_drew ?_))); refine blk_put (cs := #[.string t106, .string (⟨#[]⟩ : ByteArray), .string (⟨#[]⟩ : ByteArray), .slice none 0 0]) ?_ 1 _ rfl; (with_reducible repeat ((refine blk_drew ?_))); refine blk_put (cs := #[.string (⟨#[]⟩ : ByteArray), .string (⟨#[]⟩ : ByteArray), .string (⟨#[]⟩ : ByteArray), .slice none 0 0]) ?_ 0 _ rfl; (with_reducible repeat ((refine blk_drew ?_))); refine blk_far ?_ NB101_0.out _; (with_reducible repeat ((refine blk_drew ?_))); exact BK101.out) Tryz.underlying33 rfl (by kernel_rfl)) rfl ?_
           exact ⟨_, by (rfl), by (with_reducible repeat ((apply Kd.R_drew))); exact Kd.R_mono (Kd.R_far (p := ⟨gb101, 3, none⟩) (Kd.R_far (p := ⟨gb101, 2, none⟩) (Kd.R_far (p := ⟨gb101, 1, none⟩) (Kd.R_far (p := ⟨gb101, 0, none⟩) (Kd.R_far (p := ⟨g, 1, none⟩) (Kd.R_mono (IsS96.apart HI0.out HO_110003.out (by decide)) (fun k_ hk => (⟨hk, hk.1.1⟩ : _ ∧ k_ ≠ gb101))) (fun _ hk => hk.1.2) (.bool false)) (fun _ hk => hk.2) (.string t106)) (fun _ hk => hk.2) (.string x110001_4)) (fun _ hk => hk.2) (.string x110002_4)) (fun _ hk => hk.2) (.slice Ao120 x110003_2.length co120)) (fun _ hk => trivial), by repeat ((with_reducible first | exact HI0.out | apply IsS96.set_1 | refine IsS96.far ?_ NB0_101.out _)), by repeat ((with_reducible first | exact HB.out | refine below_set ?_ (IsS96.ge HI0.out) | refine below_set ?_ GE101.out)), by repeat ((with_reducible first | exact HK.out | apply KeepBut.set_ | refine keep_far ?_ GW101.out _))⟩
         ·replace c73 := Bool.eq_false_iff.mpr c73
          subst c73
          have H1 : (some (t106, x110001_4, x110002_4, x110003_2, x1000_2, false)) = some (r1, r2, r3, r4, r5, r6) := by rw [if_neg (show ¬ (false = true) by decide)] at H; exact H
          clear H
          have H := H1
          clear H1
          simp only [Option.some.injEq, Prod.mk.injEq] at H
          obtain ⟨rfl, rfl, rfl, rfl, rfl, rfl⟩ := H
          obtain ⟨ASz121_0, cSz121_0, HGz121, hgz121, HSz121_0⟩ := HI0.out
          have hcz121_0 := cellS96_0 HGz121
          have hcz121_1 := cellS96_1 HGz121
          have hfz121_0 := blk_frozen HGz121 0
          have hfz121_1 := blk_frozen HGz121 1
          clear HGz121 hgz121
          have hnb122 := NB109_101.out
          have hnc122 := NB101_109.out
          have hnb123 := NB109_0.out
          have hnc123 := NB0_109.out
          have hcz124_0 : wc.cell? ⟨gb109, 0, none⟩ = some (.string t106) := (blk_cell BK109.out 0).trans rfl
          have hcz124_1 : wc.cell? ⟨gb109, 1, none⟩ = some (.string x110001_4) := (blk_cell BK109.out 1).trans rfl
          have hcz124_2 : wc.cell? ⟨gb109, 2, none⟩ = some (.string x110002_4) := (blk_cell BK109.out 2).trans rfl
          have hcz124_3 : wc.cell? ⟨gb109, 3, none⟩ = some (u110003) := (blk_cell BK109.out 3).trans rfl
          have hfz124_0 := blk_frozen BK109.out 0
          have hfz124_1 := blk_frozen BK109.out 1
          have hfz124_2 := blk_frozen BK109.out 2
          have hfz124_3 := blk_frozen BK109.out 3
          have hnb125 := NB101_0.out
          have hnc125 := NB0_101.out
          have hcz126_0 : wc.cell? ⟨gb101, 0, none⟩ = some (.string (⟨#[]⟩ : ByteArray)) := (blk_cell BK101.out 0).trans rfl
          have hcz126_1 : wc.cell? ⟨gb101, 1, none⟩ = some (.string (⟨#[]⟩ : ByteArray)) := (blk_cell BK101.out 1).trans rfl
          have hcz126_2 : wc.cell? ⟨gb101, 2, none⟩ = some (.string (⟨#[]⟩ : ByteArray)) := (blk_cell BK101.out 2).trans rfl
          have hcz126_3 : wc.cell? ⟨gb101, 3, none⟩ = some (.slice none 0 0) := (blk_cell BK101.out 3).trans rfl
          have hfz126_0 := blk_frozen BK101.out 0
          have hfz126_1 := blk_frozen BK101.out 1
          have hfz126_2 := blk_frozen BK101.out 2
          have hfz126_3 := blk_frozen BK101.out 3
          obtain ⟨Ao127, co127, eo127⟩ := Kd.R_slice HO_110003.out
          subst eo127
          go_wp2
          refine bodyPost_ret (results_cell_row rfl _ _ gb101 33 #[.string t106, .string x110001_4, .string x110002_4, .slice Ao127 x110003_2.length co127] (0, 0) _ rfl (by (with_reducible repeat ((refine blk_drew ?_))); refine blk_put (cs := #[.string t106, .string x110001_4, .string x110002_4, .slice none 0 0]) ?_ 3 _ rfl; (with_reducible repeat ((refine blk_drew ?_))); refine blk_put (cs := #[.string t106, .string x110001_4, .string (⟨#[]⟩ : ByteArray), .slice none 0 0]) ?_ 2 _ rfl; (with_reducible repeat ((refine blk_drew ?_))); refine blk_put (cs := #[.string t106, .string (⟨#[]⟩ : ByteArray), .string (⟨#[]⟩ : ByteArray), .slice none 0 0]) ?_ 1 _ rfl; (with_reducible repeat ((refine blk_drew ?_))); refine blk_put (cs := #[.string (⟨#[]⟩ : ByteArray), .string (⟨#[]⟩ : ByteArray), .string (⟨#[]⟩ : ByteArray), .slice none 0 0]) ?_ 0 _ rfl; (with_reducible repeat ((refine blk_drew ?_))); refine blk_far ?_ NB101_0.out _; (with_reducible repeat ((refine blk_drew ?_))); exact BK101.out) Tryz.underlying33 rfl (by kernel_rfl)) rfl ?_
          exact ⟨_, by (rfl), by (with_reducible repeat ((apply Kd.R_drew))); exact Kd.R_mono (Kd.R_far (p := ⟨gb101, 3, none⟩) (Kd.R_far (p := ⟨gb101, 2, none⟩) (Kd.R_far (p := ⟨gb101, 1, none⟩) (Kd.R_far (p := ⟨gb101, 0, none⟩) (Kd.R_far (p := ⟨g, 1, none⟩) (Kd.R_mono (IsS96.apart HI0.out HO_110003.out (by decide)) (fun k_ hk => (⟨hk, hk.1.1⟩ : _ ∧ k_ ≠ gb101))) (fun _ hk => hk.1.2) (.bool false)) (fun _ hk => hk.2) (.string t106)) (fun _ hk => hk.2) (.string x110001_4)) (fun _ hk => hk.2) (.string x110002_4)) (fun _ hk => hk.2) (.slice Ao127 x110003_2.length co127)) (fun _ hk => trivial), by repeat ((with_reducible first | exact HI0.out | apply IsS96.set_1 | refine IsS96.far ?_ NB0_101.out _)), by repeat ((with_reducible first | exact HB.out | refine below_set ?_ (IsS96.ge HI0.out) | refine below_set ?_ GE101.out)), by repeat ((with_reducible first | exact HK.out | apply KeepBut.set_ | refine keep_far ?_ GW101.out _))⟩
 ·rw [if_neg c3] at H
  have c3b0 : (t102.toList == ([40] : List UInt8)) = false := beq_eq_false_iff_ne.mpr c3
  have c3b1 : (t102.toList != ([40] : List UInt8)) = true := bne_iff_ne.mpr c3
  by_cases c128 : t104 = true
  ·subst c128
   have H1 : ((rule_word.f t102).bind fun t105 => (if t102.toList = ([116, 104, 105, 115] : List UInt8) then (some ((⟨#[116, 104, 105, 115]⟩ : ByteArray), (⟨#[]⟩ : ByteArray), (⟨#[]⟩ : ByteArray), ([] : List (S33)), t103, t105)) else (some ((⟨#[114, 101, 108]⟩ : ByteArray), t102, (⟨#[]⟩ : ByteArray), ([] : List (S33)), t103, t105)))) = some (r1, r2, r3, r4, r5, r6) := by rw [if_pos rfl] at H; exact H
   clear H
   have H := H1
   clear H1
   replace H := Option.bind_eq_some_iff.mp H
   obtain ⟨t105, A1290, H⟩ := H
   replace H : (if t102.toList = ([116, 104, 105, 115] : List UInt8) then (some ((⟨#[116, 104, 105, 115]⟩ : ByteArray), (⟨#[]⟩ : ByteArray), (⟨#[]⟩ : ByteArray), ([] : List (S33)), t103, t105)) else (some ((⟨#[114, 101, 108]⟩ : ByteArray), t102, (⟨#[]⟩ : ByteArray), ([] : List (S33)), t103, t105))) = some (r1, r2, r3, r4, r5, r6) := H
   have A129 := Aside0.mk A1290
   clear A1290
   by_cases c130 : t102.toList = ([116, 104, 105, 115] : List UInt8)
   ·rw [if_pos c130] at H
    have c130b0 : (t102.toList == ([116, 104, 105, 115] : List UInt8)) = true := beq_iff_eq.mpr c130
    have c130b1 : (t102.toList != ([116, 104, 105, 115] : List UInt8)) = false := bne_eq_false_iff_eq.mpr c130
    clear c130
    simp only [Option.some.injEq, Prod.mk.injEq] at H
    obtain ⟨rfl, rfl, rfl, rfl, rfl, rfl⟩ := H
    go_enter Tryz.func75, Tryz.ntmps75
    go_wp2_with (first | ((with_reducible refine gate_dst (N := 2) rfl ?_); (try (refine gate_guard (by rfl) ?_; dsimp only)); refine box_event ?hg (N := 2) ?hd (cs := #[.string (⟨#[]⟩ : ByteArray), .string (⟨#[]⟩ : ByteArray), .string (⟨#[]⟩ : ByteArray), .slice none 0 0]) (t := 33) ?hr ?_; (case hd => rfl); (case hg => rfl); (case hr => (go_simp; done)); intro gb101 hg w131 hbox hb; have n0_ := Aside0.mk (IsS96.below (by repeat ((with_reducible (exact HI0.out)))) hb); have n1_ := Aside0.mk (KeepBut.trans (by repeat ((with_reducible (exact HK.out)))) (KeepBut.of_below hb g none) (.inl rfl)); have n2_ := Aside0.mk (below_step (by repeat ((with_reducible (exact HB.out)))) hb); have n3_ := Aside0.mk (hbox); have n4_ := Aside0.mk ((by rw [hg]; exact (keep_size (w := w) (g := g) (row := none) (by repeat ((with_reducible (exact HK.out))))) : w.heap.size ≤ gb101)); have n5_ := Aside0.mk ((Nat.le_trans HW0.out (by rw [hg]; exact (keep_size (w := w) (g := g) (row := none) (by repeat ((with_reducible (exact HK.out))))) : w.heap.size ≤ gb101) : w0.heap.size ≤ gb101)); have n6_ := Aside0.mk ((by rw [hg]; exact Nat.ne_of_lt (IsS96.lt (show IsS96 w0 _ g s0_0 s0_1 from by repeat ((with_reducible (exact HI0.out))))) : g ≠ gb101)); have n7_ := Aside0.mk ((by rw [hg]; exact Nat.ne_of_gt (IsS96.lt (show IsS96 w0 _ g s0_0 s0_1 from by repeat ((with_reducible (exact HI0.out))))) : gb101 ≠ g)); clear HI0; clear HK; clear HB; have HI0 := n0_; have HK := n1_; have HB := n2_; have BK101 := n3_; have GW101 := n4_; have GE101 := n5_; have NB0_101 := n6_; have NB101_0 := n7_; clear n0_ n1_ n2_ n3_ n4_ n5_ n6_ n7_; clear hb hbox hg) | ((with_reducible refine gate_callee (f := 89) rfl ?_); refine goesL_ (some 6) rfl rfl Tryz.func89 (by kernel_rfl) rfl #[.pointer (some ⟨g, 0, none⟩)] rfl (by (try simp only [List.map_toArray, List.map_cons, List.map_nil]); (rfl)) ?_; (with_reducible refine (parser_next.calls g s0_0 s0_1 t102 t103 true w0 _ ?side1 ?side2 A2.out).mono ?_); (case side1 => repeat ((with_reducible (exact HI0.out)))); (case side2 => repeat ((with_reducible (exact HB.out)))); rintro e w132 ⟨rfl, hi, hb, hk⟩; refine ⟨_, rfl, ?_⟩; have n0_ := Aside0.mk (KeepBut.blk hk (g' := gb101) (o := .cells #[.string (⟨#[]⟩ : ByteArray), .string (⟨#[]⟩ : ByteArray), .string (⟨#[]⟩ : ByteArray), .slice none 0 0] 33 (0, 0)) (by (with_reducible repeat ((refine blk_drew ?_))); exact BK101.out) NB101_0.out (by simp)); have n1_ := Aside0.mk (KeepBut.trans (by repeat ((with_reducible (exact HK.out)))) hk (.inl rfl)); have n2_ := Aside0.mk (hb); have n3_ := Aside0.mk (hi); clear BK101; clear HK; clear HB; clear HI0; have BK101 := n0_; have HK := n1_; have HB := n2_; have HI0 := n3_; clear n0_ n1_ n2_ n3_; (try clear hb); (try clear hk); (try clear hi); obtain ⟨ASz133_0, cSz133_0, HGz133, hgz133, HSz133_0⟩ := HI0.out; have hcz133_0 := cellS96_0 HGz133; have hcz133_1 := cellS96_1 HGz133; have hfz133_0 := blk_frozen HGz133 0; have hfz133_1 := blk_frozen HGz133 1; clear HGz133 hgz133) | (go_at_call 53; (with_reducible refine (rule_word.calls t102 t105 _ A129.out).mono ?_); rintro e w134 ⟨rfl, hb⟩; have n0_ := Aside0.mk (IsS96.below (by repeat ((with_reducible (exact HI0.out)))) hb); have n1_ := Aside0.mk (blk_below (g := gb101) (o := .cells #[.string (⟨#[]⟩ : ByteArray), .string (⟨#[]⟩ : ByteArray), .string (⟨#[]⟩ : ByteArray), .slice none 0 0] 33 (0, 0)) (by (with_reducible repeat ((refine blk_drew ?_))); exact BK101.out) hb); have n2_ := Aside0.mk (KeepBut.trans (by repeat ((with_reducible (exact HK.out)))) (KeepBut.of_below hb g none) (.inl rfl)); have n3_ := Aside0.mk (below_step (by repeat ((with_reducible (exact HB.out)))) hb); clear HI0; clear BK101; clear HK; clear HB; have HI0 := n0_; have BK101 := n1_; have HK := n2_; have HB := n3_; clear n0_ n1_ n2_ n3_; (try clear hb); obtain ⟨ASz135_0, cSz135_0, HGz135, hgz135, HSz135_0⟩ := HI0.out; have hcz135_0 := cellS96_0 HGz135; have hcz135_1 := cellS96_1 HGz135; have hfz135_0 := blk_frozen HGz135 0; have hfz135_1 := blk_frozen HGz135 1; clear HGz135 hgz135; have hnb136 := NB101_0.out; have hnc136 := NB0_101.out; have hcz137_0 : w134.cell? ⟨gb101, 0, none⟩ = some (.string (⟨#[]⟩ : ByteArray)) := (blk_cell BK101.out 0).trans rfl; have hcz137_1 : w134.cell? ⟨gb101, 1, none⟩ = some (.string (⟨#[]⟩ : ByteArray)) := (blk_cell BK101.out 1).trans rfl; have hcz137_2 : w134.cell? ⟨gb101, 2, none⟩ = some (.string (⟨#[]⟩ : ByteArray)) := (blk_cell BK101.out 2).trans rfl; have hcz137_3 : w134.cell? ⟨gb101, 3, none⟩ = some (.slice none 0 0) := (blk_cell BK101.out 3).trans rfl; have hfz137_0 := blk_frozen BK101.out 0; have hfz137_1 := blk_frozen BK101.out 1; have hfz137_2 := blk_frozen BK101.out 2; have hfz137_3 := blk_frozen BK101.out 3))
    refine bodyPost_ret (results_cell_row rfl _ _ gb101 33 #[.string (⟨#[116, 104, 105, 115]⟩ : ByteArray), .string (⟨#[]⟩ : ByteArray), .string (⟨#[]⟩ : ByteArray), .slice none 0 0] (0, 0) _ rfl (by (with_reducible repeat ((refine blk_drew ?_))); refine blk_put (cs := #[.string (⟨#[116, 104, 105, 115]⟩ : ByteArray), .string (⟨#[]⟩ : ByteArray), .string (⟨#[]⟩ : ByteArray), .slice none 0 0]) ?_ 3 _ rfl; (with_reducible repeat ((refine blk_drew ?_))); refine blk_put (cs := #[.string (⟨#[116, 104, 105, 115]⟩ : ByteArray), .string (⟨#[]⟩ : ByteArray), .string (⟨#[]⟩ : ByteArray), .slice none 0 0]) ?_ 2 _ rfl; (with_reducible repeat ((refine blk_drew ?_))); refine blk_put (cs := #[.string (⟨#[116, 104, 105, 115]⟩ : ByteArray), .string (⟨#[]⟩ : ByteArray), .string (⟨#[]⟩ : ByteArray), .slice none 0 0]) ?_ 1 _ rfl; (with_reducible repeat ((refine blk_drew ?_))); refine blk_put (cs := #[.string (⟨#[]⟩ : ByteArray), .string (⟨#[]⟩ : ByteArray), .string (⟨#[]⟩ : ByteArray), .slice none 0 0]) ?_ 0 _ rfl; (with_reducible repeat ((refine blk_drew ?_))); refine blk_far ?_ NB101_0.out _; (with_reducible repeat ((refine blk_drew ?_))); exact BK101.out) Tryz.underlying33 rfl (by kernel_rfl)) rfl ?_
    exact ⟨_, by (rfl), by (exact Kd.R_nil _ _ _ _ _), by repeat ((with_reducible first | exact HI0.out | apply IsS96.set_1 | refine IsS96.far ?_ NB0_101.out _)), by repeat ((with_reducible first | exact HB.out | refine below_set ?_ (IsS96.ge HI0.out) | refine below_set ?_ GE101.out)), by repeat ((with_reducible first | exact HK.out | apply KeepBut.set_ | refine keep_far ?_ GW101.out _))⟩
   ·rw [if_neg c130] at H
    have c130b0 : (t102.toList == ([116, 104, 105, 115] : List UInt8)) = false := beq_eq_false_iff_ne.mpr c130
    have c130b1 : (t102.toList != ([116, 104, 105, 115] : List UInt8)) = true := bne_iff_ne.mpr c130
    simp only [Option.some.injEq, Prod.mk.injEq] at H
    obtain ⟨rfl, rfl, rfl, rfl, rfl, rfl⟩ := H
    go_enter Tryz.func75, Tryz.ntmps75
    go_wp2_with (first | ((with_reducible refine gate_dst (N := 2) rfl ?_); (try (refine gate_guard (by rfl) ?_; dsimp only)); refine box_event ?hg (N := 2) ?hd (cs := #[.string (⟨#[]⟩ : ByteArray), .string (⟨#[]⟩ : ByteArray), .string (⟨#[]⟩ : ByteArray), .slice none 0 0]) (t := 33) ?hr ?_; (case hd => rfl); (case hg => rfl); (case hr => (go_simp; done)); intro gb101 hg w138 hbox hb; have n0_ := Aside0.mk (IsS96.below (by repeat ((with_reducible (exact HI0.out)))) hb); have n1_ := Aside0.mk (KeepBut.trans (by repeat ((with_reducible (exact HK.out)))) (KeepBut.of_below hb g none) (.inl rfl)); have n2_ := Aside0.mk (below_step (by repeat ((with_reducible (exact HB.out)))) hb); have n3_ := Aside0.mk (hbox); have n4_ := Aside0.mk ((by rw [hg]; exact (keep_size (w := w) (g := g) (row := none) (by repeat ((with_reducible (exact HK.out))))) : w.heap.size ≤ gb101)); have n5_ := Aside0.mk ((Nat.le_trans HW0.out (by rw [hg]; exact (keep_size (w := w) (g := g) (row := none) (by repeat ((with_reducible (exact HK.out))))) : w.heap.size ≤ gb101) : w0.heap.size ≤ gb101)); have n6_ := Aside0.mk ((by rw [hg]; exact Nat.ne_of_lt (IsS96.lt (show IsS96 w0 _ g s0_0 s0_1 from by repeat ((with_reducible (exact HI0.out))))) : g ≠ gb101)); have n7_ := Aside0.mk ((by rw [hg]; exact Nat.ne_of_gt (IsS96.lt (show IsS96 w0 _ g s0_0 s0_1 from by repeat ((with_reducible (exact HI0.out))))) : gb101 ≠ g)); clear HI0; clear HK; clear HB; have HI0 := n0_; have HK := n1_; have HB := n2_; have BK101 := n3_; have GW101 := n4_; have GE101 := n5_; have NB0_101 := n6_; have NB101_0 := n7_; clear n0_ n1_ n2_ n3_ n4_ n5_ n6_ n7_; clear hb hbox hg) | ((with_reducible refine gate_callee (f := 89) rfl ?_); refine goesL_ (some 6) rfl rfl Tryz.func89 (by kernel_rfl) rfl #[.pointer (some ⟨g, 0, none⟩)] rfl (by (try simp only [List.map_toArray, List.map_cons, List.map_nil]); (rfl)) ?_; (with_reducible refine (parser_next.calls g s0_0 s0_1 t102 t103 true w0 _ ?side1 ?side2 A2.out).mono ?_); (case side1 => repeat ((with_reducible (exact HI0.out)))); (case side2 => repeat ((with_reducible (exact HB.out)))); rintro e w139 ⟨rfl, hi, hb, hk⟩; refine ⟨_, rfl, ?_⟩; have n0_ := Aside0.mk (KeepBut.blk hk (g' := gb101) (o := .cells #[.string (⟨#[]⟩ : ByteArray), .string (⟨#[]⟩ : ByteArray), .string (⟨#[]⟩ : ByteArray), .slice none 0 0] 33 (0, 0)) (by (with_reducible repeat ((refine blk_drew ?_))); exact BK101.out) NB101_0.out (by simp)); have n1_ := Aside0.mk (KeepBut.trans (by repeat ((with_reducible (exact HK.out)))) hk (.inl rfl)); have n2_ := Aside0.mk (hb); have n3_ := Aside0.mk (hi); clear BK101; clear HK; clear HB; clear HI0; have BK101 := n0_; have HK := n1_; have HB := n2_; have HI0 := n3_; clear n0_ n1_ n2_ n3_; (try clear hb); (try clear hk); (try clear hi); obtain ⟨ASz140_0, cSz140_0, HGz140, hgz140, HSz140_0⟩ := HI0.out; have hcz140_0 := cellS96_0 HGz140; have hcz140_1 := cellS96_1 HGz140; have hfz140_0 := blk_frozen HGz140 0; have hfz140_1 := blk_frozen HGz140 1; clear HGz140 hgz140) | (go_at_call 53; (with_reducible refine (rule_word.calls t102 t105 _ A129.out).mono ?_); rintro e w141 ⟨rfl, hb⟩; have n0_ := Aside0.mk (IsS96.below (by repeat ((with_reducible (exact HI0.out)))) hb); have n1_ := Aside0.mk (blk_below (g := gb101) (o := .cells #[.string (⟨#[]⟩ : ByteArray), .string (⟨#[]⟩ : ByteArray), .string (⟨#[]⟩ : ByteArray), .slice none 0 0] 33 (0, 0)) (by (with_reducible repeat ((refine blk_drew ?_))); exact BK101.out) hb); have n2_ := Aside0.mk (KeepBut.trans (by repeat ((with_reducible (exact HK.out)))) (KeepBut.of_below hb g none) (.inl rfl)); have n3_ := Aside0.mk (below_step (by repeat ((with_reducible (exact HB.out)))) hb); clear HI0; clear BK101; clear HK; clear HB; have HI0 := n0_; have BK101 := n1_; have HK := n2_; have HB := n3_; clear n0_ n1_ n2_ n3_; (try clear hb); obtain ⟨ASz142_0, cSz142_0, HGz142, hgz142, HSz142_0⟩ := HI0.out; have hcz142_0 := cellS96_0 HGz142; have hcz142_1 := cellS96_1 HGz142; have hfz142_0 := blk_frozen HGz142 0; have hfz142_1 := blk_frozen HGz142 1; clear HGz142 hgz142; have hnb143 := NB101_0.out; have hnc143 := NB0_101.out; have hcz144_0 : w141.cell? ⟨gb101, 0, none⟩ = some (.string (⟨#[]⟩ : ByteArray)) := (blk_cell BK101.out 0).trans rfl; have hcz144_1 : w141.cell? ⟨gb101, 1, none⟩ = some (.string (⟨#[]⟩ : ByteArray)) := (blk_cell BK101.out 1).trans rfl; have hcz144_2 : w141.cell? ⟨gb101, 2, none⟩ = some (.string (⟨#[]⟩ : ByteArray)) := (blk_cell BK101.out 2).trans rfl; have hcz144_3 : w141.cell? ⟨gb101, 3, none⟩ = some (.slice none 0 0) := (blk_cell BK101.out 3).trans rfl; have hfz144_0 := blk_frozen BK101.out 0; have hfz144_1 := blk_frozen BK101.out 1; have hfz144_2 := blk_frozen BK101.out 2; have hfz144_3 := blk_frozen BK101.out 3))
    refine bodyPost_ret (results_cell_row rfl _ _ gb101 33 #[.string (⟨#[114, 101, 108]⟩ : ByteArray), .string t102, .string (⟨#[]⟩ : ByteArray), .slice none 0 0] (0, 0) _ rfl (by (with_reducible repeat ((refine blk_drew ?_))); refine blk_put (cs := #[.string (⟨#[114, 101, 108]⟩ : ByteArray), .string t102, .string (⟨#[]⟩ : ByteArray), .slice none 0 0]) ?_ 3 _ rfl; (with_reducible repeat ((refine blk_drew ?_))); refine blk_put (cs := #[.string (⟨#[114, 101, 108]⟩ : ByteArray), .string t102, .string (⟨#[]⟩ : ByteArray), .slice none 0 0]) ?_ 2 _ rfl; (with_reducible repeat ((refine blk_drew ?_))); refine blk_put (cs := #[.string (⟨#[114, 101, 108]⟩ : ByteArray), .string (⟨#[]⟩ : ByteArray), .string (⟨#[]⟩ : ByteArray), .slice none 0 0]) ?_ 1 _ rfl; (with_reducible repeat ((refine blk_drew ?_))); refine blk_put (cs := #[.string (⟨#[]⟩ : ByteArray), .string (⟨#[]⟩ : ByteArray), .string (⟨#[]⟩ : ByteArray), .slice none 0 0]) ?_ 0 _ rfl; (with_reducible repeat ((refine blk_drew ?_))); refine blk_far ?_ NB101_0.out _; (with_reducible repeat ((refine blk_drew ?_))); exact BK101.out) Tryz.underlying33 rfl (by kernel_rfl)) rfl ?_
    exact ⟨_, by (rfl), by (exact Kd.R_nil _ _ _ _ _), by repeat ((with_reducible first | exact HI0.out | apply IsS96.set_1 | refine IsS96.far ?_ NB0_101.out _)), by repeat ((with_reducible first | exact HB.out | refine below_set ?_ (IsS96.ge HI0.out) | refine below_set ?_ GE101.out)), by repeat ((with_reducible first | exact HK.out | apply KeepBut.set_ | refine keep_far ?_ GW101.out _))⟩
  ·replace c128 := Bool.eq_false_iff.mpr c128
   subst c128
   have H1 : (if t102.toList = ([116, 104, 105, 115] : List UInt8) then (some ((⟨#[116, 104, 105, 115]⟩ : ByteArray), (⟨#[]⟩ : ByteArray), (⟨#[]⟩ : ByteArray), ([] : List (S33)), t103, false)) else (some ((⟨#[114, 101, 108]⟩ : ByteArray), t102, (⟨#[]⟩ : ByteArray), ([] : List (S33)), t103, false))) = some (r1, r2, r3, r4, r5, r6) := by rw [if_neg (show ¬ (false = true) by decide)] at H; exact H
   clear H
   have H := H1
   clear H1
   by_cases c145 : t102.toList = ([116, 104, 105, 115] : List UInt8)
   ·rw [if_pos c145] at H
    have c145b0 : (t102.toList == ([116, 104, 105, 115] : List UInt8)) = true := beq_iff_eq.mpr c145
    have c145b1 : (t102.toList != ([116, 104, 105, 115] : List UInt8)) = false := bne_eq_false_iff_eq.mpr c145
    clear c145
    simp only [Option.some.injEq, Prod.mk.injEq] at H
    obtain ⟨rfl, rfl, rfl, rfl, rfl, rfl⟩ := H
    go_enter Tryz.func75, Tryz.ntmps75
    go_wp2_with (first | ((with_reducible refine gate_dst (N := 2) rfl ?_); (try (refine gate_guard (by rfl) ?_; dsimp only)); refine box_event ?hg (N := 2) ?hd (cs := #[.string (⟨#[]⟩ : ByteArray), .string (⟨#[]⟩ : ByteArray), .string (⟨#[]⟩ : ByteArray), .slice none 0 0]) (t := 33) ?hr ?_; (case hd => rfl); (case hg => rfl); (case hr => (go_simp; done)); intro gb101 hg w146 hbox hb; have n0_ := Aside0.mk (IsS96.below (by repeat ((with_reducible (exact HI0.out)))) hb); have n1_ := Aside0.mk (KeepBut.trans (by repeat ((with_reducible (exact HK.out)))) (KeepBut.of_below hb g none) (.inl rfl)); have n2_ := Aside0.mk (below_step (by repeat ((with_reducible (exact HB.out)))) hb); have n3_ := Aside0.mk (hbox); have n4_ := Aside0.mk ((by rw [hg]; exact (keep_size (w := w) (g := g) (row := none) (by repeat ((with_reducible (exact HK.out))))) : w.heap.size ≤ gb101)); have n5_ := Aside0.mk ((Nat.le_trans HW0.out (by rw [hg]; exact (keep_size (w := w) (g := g) (row := none) (by repeat ((with_reducible (exact HK.out))))) : w.heap.size ≤ gb101) : w0.heap.size ≤ gb101)); have n6_ := Aside0.mk ((by rw [hg]; exact Nat.ne_of_lt (IsS96.lt (show IsS96 w0 _ g s0_0 s0_1 from by repeat ((with_reducible (exact HI0.out))))) : g ≠ gb101)); have n7_ := Aside0.mk ((by rw [hg]; exact Nat.ne_of_gt (IsS96.lt (show IsS96 w0 _ g s0_0 s0_1 from by repeat ((with_reducible (exact HI0.out))))) : gb101 ≠ g)); clear HI0; clear HK; clear HB; have HI0 := n0_; have HK := n1_; have HB := n2_; have BK101 := n3_; have GW101 := n4_; have GE101 := n5_; have NB0_101 := n6_; have NB101_0 := n7_; clear n0_ n1_ n2_ n3_ n4_ n5_ n6_ n7_; clear hb hbox hg) | ((with_reducible refine gate_callee (f := 89) rfl ?_); refine goesL_ (some 6) rfl rfl Tryz.func89 (by kernel_rfl) rfl #[.pointer (some ⟨g, 0, none⟩)] rfl (by (try simp only [List.map_toArray, List.map_cons, List.map_nil]); (rfl)) ?_; (with_reducible refine (parser_next.calls g s0_0 s0_1 t102 t103 false w0 _ ?side1 ?side2 A2.out).mono ?_); (case side1 => repeat ((with_reducible (exact HI0.out)))); (case side2 => repeat ((with_reducible (exact HB.out)))); rintro e w147 ⟨rfl, hi, hb, hk⟩; refine ⟨_, rfl, ?_⟩; have n0_ := Aside0.mk (KeepBut.blk hk (g' := gb101) (o := .cells #[.string (⟨#[]⟩ : ByteArray), .string (⟨#[]⟩ : ByteArray), .string (⟨#[]⟩ : ByteArray), .slice none 0 0] 33 (0, 0)) (by (with_reducible repeat ((refine blk_drew ?_))); exact BK101.out) NB101_0.out (by simp)); have n1_ := Aside0.mk (KeepBut.trans (by repeat ((with_reducible (exact HK.out)))) hk (.inl rfl)); have n2_ := Aside0.mk (hb); have n3_ := Aside0.mk (hi); clear BK101; clear HK; clear HB; clear HI0; have BK101 := n0_; have HK := n1_; have HB := n2_; have HI0 := n3_; clear n0_ n1_ n2_ n3_; (try clear hb); (try clear hk); (try clear hi); obtain ⟨ASz148_0, cSz148_0, HGz148, hgz148, HSz148_0⟩ := HI0.out; have hcz148_0 := cellS96_0 HGz148; have hcz148_1 := cellS96_1 HGz148; have hfz148_0 := blk_frozen HGz148 0; have hfz148_1 := blk_frozen HGz148 1; clear HGz148 hgz148; have hnb149 := NB101_0.out; have hnc149 := NB0_101.out; have hcz150_0 : w147.cell? ⟨gb101, 0, none⟩ = some (.string (⟨#[]⟩ : ByteArray)) := (blk_cell BK101.out 0).trans rfl; have hcz150_1 : w147.cell? ⟨gb101, 1, none⟩ = some (.string (⟨#[]⟩ : ByteArray)) := (blk_cell BK101.out 1).trans rfl; have hcz150_2 : w147.cell? ⟨gb101, 2, none⟩ = some (.string (⟨#[]⟩ : ByteArray)) := (blk_cell BK101.out 2).trans rfl; have hcz150_3 : w147.cell? ⟨gb101, 3, none⟩ = some (.slice none 0 0) := (blk_cell BK101.out 3).trans rfl; have hfz150_0 := blk_frozen BK101.out 0; have hfz150_1 := blk_frozen BK101.out 1; have hfz150_2 := blk_frozen BK101.out 2; have hfz150_3 := blk_frozen BK101.out 3))
    refine bodyPost_ret (results_cell_row rfl _ _ gb101 33 #[.string (⟨#[116, 104, 105, 115]⟩ : ByteArray), .string (⟨#[]⟩ : ByteArray), .string (⟨#[]⟩ : ByteArray), .slice none 0 0] (0, 0) _ rfl (by (with_reducible repeat ((refine blk_drew ?_))); refine blk_put (cs := #[.string (⟨#[116, 104, 105, 115]⟩ : ByteArray), .string (⟨#[]⟩ : ByteArray), .string (⟨#[]⟩ : ByteArray), .slice none 0 0]) ?_ 3 _ rfl; (with_reducible repeat ((refine blk_drew ?_))); refine blk_put (cs := #[.string (⟨#[116, 104, 105, 115]⟩ : ByteArray), .string (⟨#[]⟩ : ByteArray), .string (⟨#[]⟩ : ByteArray), .slice none 0 0]) ?_ 2 _ rfl; (with_reducible repeat ((refine blk_drew ?_))); refine blk_put (cs := #[.string (⟨#[116, 104, 105, 115]⟩ : ByteArray), .string (⟨#[]⟩ : ByteArray), .string (⟨#[]⟩ : ByteArray), .slice none 0 0]) ?_ 1 _ rfl; (with_reducible repeat ((refine blk_drew ?_))); refine blk_put (cs := #[.string (⟨#[]⟩ : ByteArray), .string (⟨#[]⟩ : ByteArray), .string (⟨#[]⟩ : ByteArray), .slice none 0 0]) ?_ 0 _ rfl; (with_reducible repeat ((refine blk_drew ?_))); refine blk_far ?_ NB101_0.out _; (with_reducible repeat ((refine blk_drew ?_))); exact BK101.out) Tryz.underlying33 rfl (by kernel_rfl)) rfl ?_
    exact ⟨_, by (rfl), by (exact Kd.R_nil _ _ _ _ _), by repeat ((with_reducible first | exact HI0.out | apply IsS96.set_1 | refine IsS96.far ?_ NB0_101.out _)), by repeat ((with_reducible first | exact HB.out | refine below_set ?_ (IsS96.ge HI0.out) | refine below_set ?_ GE101.out)), by repeat ((with_reducible first | exact HK.out | apply KeepBut.set_ | refine keep_far ?_ GW101.out _))⟩
   ·rw [if_neg c145] at H
    have c145b0 : (t102.toList == ([116, 104, 105, 115] : List UInt8)) = false := beq_eq_false_iff_ne.mpr c145
    have c145b1 : (t102.toList != ([116, 104, 105, 115] : List UInt8)) = true := bne_iff_ne.mpr c145
    simp only [Option.some.injEq, Prod.mk.injEq] at H
    obtain ⟨rfl, rfl, rfl, rfl, rfl, rfl⟩ := H
    go_enter Tryz.func75, Tryz.ntmps75
    go_wp2_with (first | ((with_reducible refine gate_dst (N := 2) rfl ?_); (try (refine gate_guard (by rfl) ?_; dsimp only)); refine box_event ?hg (N := 2) ?hd (cs := #[.string (⟨#[]⟩ : ByteArray), .string (⟨#[]⟩ : ByteArray), .string (⟨#[]⟩ : ByteArray), .slice none 0 0]) (t := 33) ?hr ?_; (case hd => rfl); (case hg => rfl); (case hr => (go_simp; done)); intro gb101 hg w151 hbox hb; have n0_ := Aside0.mk (IsS96.below (by repeat ((with_reducible (exact HI0.out)))) hb); have n1_ := Aside0.mk (KeepBut.trans (by repeat ((with_reducible (exact HK.out)))) (KeepBut.of_below hb g none) (.inl rfl)); have n2_ := Aside0.mk (below_step (by repeat ((with_reducible (exact HB.out)))) hb); have n3_ := Aside0.mk (hbox); have n4_ := Aside0.mk ((by rw [hg]; exact (keep_size (w := w) (g := g) (row := none) (by repeat ((with_reducible (exact HK.out))))) : w.heap.size ≤ gb101)); have n5_ := Aside0.mk ((Nat.le_trans HW0.out (by rw [hg]; exact (keep_size (w := w) (g := g) (row := none) (by repeat ((with_reducible (exact HK.out))))) : w.heap.size ≤ gb101) : w0.heap.size ≤ gb101)); have n6_ := Aside0.mk ((by rw [hg]; exact Nat.ne_of_lt (IsS96.lt (show IsS96 w0 _ g s0_0 s0_1 from by repeat ((with_reducible (exact HI0.out))))) : g ≠ gb101)); have n7_ := Aside0.mk ((by rw [hg]; exact Nat.ne_of_gt (IsS96.lt (show IsS96 w0 _ g s0_0 s0_1 from by repeat ((with_reducible (exact HI0.out))))) : gb101 ≠ g)); clear HI0; clear HK; clear HB; have HI0 := n0_; have HK := n1_; have HB := n2_; have BK101 := n3_; have GW101 := n4_; have GE101 := n5_; have NB0_101 := n6_; have NB101_0 := n7_; clear n0_ n1_ n2_ n3_ n4_ n5_ n6_ n7_; clear hb hbox hg) | ((with_reducible refine gate_callee (f := 89) rfl ?_); refine goesL_ (some 6) rfl rfl Tryz.func89 (by kernel_rfl) rfl #[.pointer (some ⟨g, 0, none⟩)] rfl (by (try simp only [List.map_toArray, List.map_cons, List.map_nil]); (rfl)) ?_; (with_reducible refine (parser_next.calls g s0_0 s0_1 t102 t103 false w0 _ ?side1 ?side2 A2.out).mono ?_); (case side1 => repeat ((with_reducible (exact HI0.out)))); (case side2 => repeat ((with_reducible (exact HB.out)))); rintro e w152 ⟨rfl, hi, hb, hk⟩; refine ⟨_, rfl, ?_⟩; have n0_ := Aside0.mk (KeepBut.blk hk (g' := gb101) (o := .cells #[.string (⟨#[]⟩ : ByteArray), .string (⟨#[]⟩ : ByteArray), .string (⟨#[]⟩ : ByteArray), .slice none 0 0] 33 (0, 0)) (by (with_reducible repeat ((refine blk_drew ?_))); exact BK101.out) NB101_0.out (by simp)); have n1_ := Aside0.mk (KeepBut.trans (by repeat ((with_reducible (exact HK.out)))) hk (.inl rfl)); have n2_ := Aside0.mk (hb); have n3_ := Aside0.mk (hi); clear BK101; clear HK; clear HB; clear HI0; have BK101 := n0_; have HK := n1_; have HB := n2_; have HI0 := n3_; clear n0_ n1_ n2_ n3_; (try clear hb); (try clear hk); (try clear hi); obtain ⟨ASz153_0, cSz153_0, HGz153, hgz153, HSz153_0⟩ := HI0.out; have hcz153_0 := cellS96_0 HGz153; have hcz153_1 := cellS96_1 HGz153; have hfz153_0 := blk_frozen HGz153 0; have hfz153_1 := blk_frozen HGz153 1; clear HGz153 hgz153; have hnb154 := NB101_0.out; have hnc154 := NB0_101.out; have hcz155_0 : w152.cell? ⟨gb101, 0, none⟩ = some (.string (⟨#[]⟩ : ByteArray)) := (blk_cell BK101.out 0).trans rfl; have hcz155_1 : w152.cell? ⟨gb101, 1, none⟩ = some (.string (⟨#[]⟩ : ByteArray)) := (blk_cell BK101.out 1).trans rfl; have hcz155_2 : w152.cell? ⟨gb101, 2, none⟩ = some (.string (⟨#[]⟩ : ByteArray)) := (blk_cell BK101.out 2).trans rfl; have hcz155_3 : w152.cell? ⟨gb101, 3, none⟩ = some (.slice none 0 0) := (blk_cell BK101.out 3).trans rfl; have hfz155_0 := blk_frozen BK101.out 0; have hfz155_1 := blk_frozen BK101.out 1; have hfz155_2 := blk_frozen BK101.out 2; have hfz155_3 := blk_frozen BK101.out 3))
    refine bodyPost_ret (results_cell_row rfl _ _ gb101 33 #[.string (⟨#[114, 101, 108]⟩ : ByteArray), .string t102, .string (⟨#[]⟩ : ByteArray), .slice none 0 0] (0, 0) _ rfl (by (with_reducible repeat ((refine blk_drew ?_))); refine blk_put (cs := #[.string (⟨#[114, 101, 108]⟩ : ByteArray), .string t102, .string (⟨#[]⟩ : ByteArray), .slice none 0 0]) ?_ 3 _ rfl; (with_reducible repeat ((refine blk_drew ?_))); refine blk_put (cs := #[.string (⟨#[114, 101, 108]⟩ : ByteArray), .string t102, .string (⟨#[]⟩ : ByteArray), .slice none 0 0]) ?_ 2 _ rfl; (with_reducible repeat ((refine blk_drew ?_))); refine blk_put (cs := #[.string (⟨#[114, 101, 108]⟩ : ByteArray), .string (⟨#[]⟩ : ByteArray), .string (⟨#[]⟩ : ByteArray), .slice none 0 0]) ?_ 1 _ rfl; (with_reducible repeat ((refine blk_drew ?_))); refine blk_put (cs := #[.string (⟨#[]⟩ : ByteArray), .string (⟨#[]⟩ : ByteArray), .string (⟨#[]⟩ : ByteArray), .slice none 0 0]) ?_ 0 _ rfl; (with_reducible repeat ((refine blk_drew ?_))); refine blk_far ?_ NB101_0.out _; (with_reducible repeat ((refine blk_drew ?_))); exact BK101.out) Tryz.underlying33 rfl (by kernel_rfl)) rfl ?_
    exact ⟨_, by (rfl), by (exact Kd.R_nil _ _ _ _ _), by repeat ((with_reducible first | exact HI0.out | apply IsS96.set_1 | refine IsS96.far ?_ NB0_101.out _)), by repeat ((with_reducible first | exact HB.out | refine below_set ?_ (IsS96.ge HI0.out) | refine below_set ?_ GE101.out)), by repeat ((with_reducible first | exact HK.out | apply KeepBut.set_ | refine keep_far ?_ GW101.out _))⟩
end Go.Proofs.YtjcipbdocbomjaaGreatDoor.K
