/- Texts of this claim's proof, put together: HAw; conditions: as each states. -/
import Derived.Test.YtjcipbdocbomjaaGreatDoorZ7
import Derived.Test.YtjcipbdocbomjaaGreatDoorZ8
import Derived.Test.YtjcipbdocbomjaaGreatDoorZ4
import Derived.Test.YtjcipbdocbomjaaGreatDoorZ2
set_option linter.unusedVariables false
set_option linter.unusedSimpArgs false
open Go.RowKit Go.Proofs.YtjcipbdocbomjaaGreatDoorW.PrintWords Go.Proofs.YtjcipbdocbomjaaGreatDoorW.PrintLast Go.Proofs.YtjcipbdocbomjaaGreatDoorW.PrintMore
namespace Go.Proofs.YtjcipbdocbomjaaGreatDoor.K
def xThis : S33 := ⟨⟨#[116, 104, 105, 115]⟩, ⟨#[]⟩, ⟨#[]⟩, []⟩
def xRel : S33 := ⟨⟨#[114, 101, 108]⟩, ⟨#[111, 119, 110, 101, 114]⟩, ⟨#[]⟩, []⟩
def xFrom : S33 := ⟨⟨#[102, 114, 111, 109]⟩, ⟨#[118, 105, 101, 119, 101, 114]⟩, ⟨#[112, 97, 114, 101, 110, 116]⟩, []⟩
def xOr : S33 := ⟨⟨#[111, 114]⟩, ⟨#[]⟩, ⟨#[]⟩, [xThis, xRel, xFrom]⟩
def awL : List S30 := [⟨⟨#[100, 111, 99]⟩, [⟨⟨#[111, 119, 110, 101, 114]⟩, xThis⟩, ⟨⟨#[118, 105, 101, 119, 101, 114]⟩, xOr⟩, ⟨⟨#[112, 97, 114, 101, 110, 116]⟩, xThis⟩]⟩]
def awS : ByteArray := ⟨#[107, 105, 110, 100, 32, 100, 111, 99, 10, 111, 119, 110, 101, 114, 32, 61, 32, 116, 104, 105, 115, 10, 118, 105, 101, 119, 101, 114, 32, 61, 32, 40, 111, 114, 32, 116, 104, 105, 115, 32, 111, 119, 110, 101, 114, 32, 40, 102, 114, 111, 109, 32, 112, 97, 114, 101, 110, 116, 32, 118, 105, 101, 119, 101, 114, 41, 41, 10, 112, 97, 114, 101, 110, 116, 32, 61, 32, 116, 104, 105, 115, 10]⟩
theorem C_lit {α : Type} {d : Kd α} (W : World) (e : TypeId) {ps : List α} {inner : List Value} (hr : Reps (d.K W) d.sz ps inner) (hm : ps.length ≤ 9223372036854775807) :
  Kd.C d (W.alloc (.cells inner.toArray e)) (some ⟨W.heap.size, 0, none⟩) ps.length ps := by
 obtain ⟨A, c, he, hl, h⟩ := OwnRow.reads (OwnRow.lit (e := e) W 0 hr (Nat.zero_le _) hm)
 injection he with h1 h2 h3
 subst h1
 exact h.imp_ (Below.refl _ _) (fun _ _ hp => d.K_below (below_alloc (Below.refl _ _) _) hp)
def awO0 : Obj := .cells #[.string ⟨#[116, 104, 105, 115]⟩, .string ⟨#[]⟩, .string ⟨#[]⟩, .slice none 0 0, .string ⟨#[114, 101, 108]⟩, .string ⟨#[111, 119, 110, 101, 114]⟩, .string ⟨#[]⟩, .slice none 0 0, .string ⟨#[102, 114, 111, 109]⟩, .string ⟨#[118, 105, 101, 119, 101, 114]⟩, .string ⟨#[112, 97, 114, 101, 110, 116]⟩, .slice none 0 0] 33
def awO1 (g : Nat) : Obj := .cells #[.string ⟨#[111, 114]⟩, .string ⟨#[]⟩, .string ⟨#[]⟩, .slice (some ⟨g, 0, none⟩) 3 3] 33
def awO2 (g : Nat) : Obj := .cells #[.string ⟨#[111, 119, 110, 101, 114]⟩, .string ⟨#[116, 104, 105, 115]⟩, .string ⟨#[]⟩, .string ⟨#[]⟩, .slice none 0 0, .string ⟨#[118, 105, 101, 119, 101, 114]⟩, .string ⟨#[111, 114]⟩, .string ⟨#[]⟩, .string ⟨#[]⟩, .slice (some ⟨g, 0, none⟩) 3 3, .string ⟨#[112, 97, 114, 101, 110, 116]⟩, .string ⟨#[116, 104, 105, 115]⟩, .string ⟨#[]⟩, .string ⟨#[]⟩, .slice none 0 0] 35
def awO3 (g : Nat) : Obj := .cells #[.string ⟨#[100, 111, 99]⟩, .slice (some ⟨g, 0, none⟩) 3 3] 30
def awW (w : World) : World := (((w.alloc awO0).alloc (awO1 w.heap.size)).alloc (awO2 w.heap.size)).alloc (awO3 (w.heap.size + 1 + 1))
def awR1 : S35 := ⟨⟨#[111, 119, 110, 101, 114]⟩, xThis⟩
def awR2 : S35 := ⟨⟨#[118, 105, 101, 119, 101, 114]⟩, xOr⟩
def awR3 : S35 := ⟨⟨#[112, 97, 114, 101, 110, 116]⟩, xThis⟩
theorem C_none {α : Type} (d : Kd α) (w : World) : Kd.C d w none 0 [] := ⟨rfl, by omega, fun h => absurd h (by omega)⟩
theorem aw_lit (w : World) : Kd.C k33 (awW w) (some ⟨w.heap.size, 0, none⟩) 3 [xThis, xRel, xFrom] ∧ Kd.C k30 (awW w) (some ⟨w.heap.size + 1 + 1 + 1, 0, none⟩) 1 awL ∧ Below w.heap.size w (awW w) ∧ (awW w).heap[w.heap.size + 1]? = some (.cells #[.string ⟨#[111, 114]⟩, .string ⟨#[]⟩, .string ⟨#[]⟩, .slice (some ⟨w.heap.size, 0, none⟩) 3 3] 33 (0, 0)) := by
 have s1 : (w.alloc awO0).heap.size = w.heap.size + 1 := alloc_size _ _
 have s2 : ((w.alloc awO0).alloc (awO1 w.heap.size)).heap.size = w.heap.size + 1 + 1 := by rw [alloc_size, s1]
 have s3 : (((w.alloc awO0).alloc (awO1 w.heap.size)).alloc (awO2 w.heap.size)).heap.size = w.heap.size + 1 + 1 + 1 := by rw [alloc_size, s2]
 have b1 : Below (w.alloc awO0).heap.size (w.alloc awO0) ((w.alloc awO0).alloc (awO1 w.heap.size)) := below_alloc (Below.refl _ _) _
 have b2 : Below ((w.alloc awO0).alloc (awO1 w.heap.size)).heap.size ((w.alloc awO0).alloc (awO1 w.heap.size)) (((w.alloc awO0).alloc (awO1 w.heap.size)).alloc (awO2 w.heap.size)) := below_alloc (Below.refl _ _) _
 have b3 : Below (((w.alloc awO0).alloc (awO1 w.heap.size)).alloc (awO2 w.heap.size)).heap.size (((w.alloc awO0).alloc (awO1 w.heap.size)).alloc (awO2 w.heap.size)) (awW w) := below_alloc (Below.refl _ _) _
 have c1 : Kd.C k33 (w.alloc awO0) (some ⟨w.heap.size, 0, none⟩) 3 [xThis, xRel, xFrom] :=
  C_lit w 33 (ps := [xThis, xRel, xFrom]) (Reps.c4 (k33_mk w xThis (by decide) (C_none _ _)) (Reps.c4 (k33_mk w xRel (by decide) (C_none _ _)) (Reps.c4 (k33_mk w xFrom (by decide) (C_none _ _)) (Reps.none _ _)))) (by decide)
 have c1' := Kd.C_below c1 b1
 have z0 := C_none k33 ((w.alloc awO0).alloc (awO1 w.heap.size))
 have c2 : Kd.C k35 (((w.alloc awO0).alloc (awO1 w.heap.size)).alloc (awO2 w.heap.size)) (some ⟨((w.alloc awO0).alloc (awO1 w.heap.size)).heap.size, 0, none⟩) 3 [awR1, awR2, awR3] :=
  C_lit _ 35 (ps := [awR1, awR2, awR3]) (Reps.c5 (k35_mk _ awR1 (A4 := none) (c4 := 0) (by decide) z0) (Reps.c5 (k35_mk _ awR2 (A4 := some ⟨w.heap.size, 0, none⟩) (c4 := 3) (by decide) c1') (Reps.c5 (k35_mk _ awR3 (A4 := none) (c4 := 0) (by decide) z0) (Reps.none _ _)))) (by decide)
 rw [s2] at c2
 have c3 : Kd.C k30 (awW w) (some ⟨(((w.alloc awO0).alloc (awO1 w.heap.size)).alloc (awO2 w.heap.size)).heap.size, 0, none⟩) 1 awL :=
  C_lit _ 30 (ps := awL) (Reps.c2 (k30_mk _ ⟨⟨#[100, 111, 99]⟩, [awR1, awR2, awR3]⟩ (A1 := some ⟨w.heap.size + 1 + 1, 0, none⟩) (c1 := 3) (by decide) c2) (Reps.none _ _)) (by decide)
 rw [s3] at c3
 have h1 := blk_new (w.alloc awO0) (awO1 w.heap.size)
 rw [s1] at h1
 exact ⟨Kd.C_below (Kd.C_below c1' b2) b3, c3, below_alloc (below_alloc (below_alloc (below_alloc (Below.refl _ _) _) _) _) _, blk_below (blk_below h1 b2) b3⟩
set_option maxHeartbeats 4000000 in
set_option maxRecDepth 100000 in
theorem awake_true (w : World) (hT : Tabs w) : Calls Tryz.prog 9 #[] w fun e w' => e = .returned (.bool true) ∧ Below w.heap.size w w' := by
 obtain ⟨cOr, cL, hBw, hOr⟩ := aw_lit w
 obtain ⟨w1, hw1⟩ : ∃ w1, awW w = w1 := ⟨_, rfl⟩
 obtain ⟨g0, hg0⟩ : ∃ g0, w.heap.size = g0 := ⟨_, rfl⟩
 obtain ⟨g1, hg1⟩ : ∃ g1, g0 + 1 = g1 := ⟨_, rfl⟩
 obtain ⟨g3, hg3⟩ : ∃ g3, g0 + 1 + 1 + 1 = g3 := ⟨_, rfl⟩
 have hTw : ∀ W, Below w1.heap.size w1 W → Tabs W := fun W hW => hT.keep (below_step (by rw [← hw1]; exact hBw) hW)
 rw [hw1, hg0] at cOr cL hOr
 rw [hg3] at cL
 rw [hg1] at hOr
 have HBW := Aside0.mk (show Below w.heap.size w w1 by rw [← hw1]; exact hBw)
 have kShow : ∀ W, Below w1.heap.size w1 W → Calls Tryz.prog 11 #[.slice (some ⟨g3, 0, none⟩) 1 1] W fun e w' => e = .returned (.tuple #[.string awS, .int .i64 0]) ∧ Below W.heap.size W w' :=
  fun W hW => rule_Show.calls (some ⟨g3, 0, none⟩) 1 awL awS 0 W (Kd.C_below cL hW) (by decide) (by kernel_rfl) (hTw W hW).words
 have kRead : ∀ W, Below w1.heap.size w1 W → Calls Tryz.prog 14 #[.string awS] W fun e w' => ∃ A c, e = .returned (.tuple #[.slice A 1 c, .int .i64 0, .int .i64 0]) ∧ Kd.C k30 w' A 1 awL ∧ Below W.heap.size W w' := by
  intro W hW
  refine (rule_Read.calls 60 awS awL 0 0 W (hTw W hW) (by kernel_rfl)).mono ?_
  rintro e w' ⟨v, rfl, hR, hb⟩
  obtain ⟨A, c, rfl, _, hC⟩ := Kd.R_reads hR
  exact ⟨A, c, rfl, hC, hb⟩
 have kFind : ∀ W, Below w1.heap.size w1 W → Calls Tryz.prog 17 #[.slice (some ⟨g3, 0, none⟩) 1 1, .string ⟨#[100, 111, 99]⟩, .string ⟨#[118, 105, 101, 119, 101, 114]⟩] W fun e w' => ∃ A c, e = .returned (.tuple #[.agg #[.string ⟨#[111, 114]⟩, .string ⟨#[]⟩, .string ⟨#[]⟩, .slice A 3 c], .bool true]) ∧ 3 ≤ c ∧ Kd.C k33 w' A 3 [xThis, xRel, xFrom] ∧ Below W.heap.size W w' := by
  intro W hW
  refine (rule_Find.calls (some ⟨g3, 0, none⟩) 1 awL ⟨#[100, 111, 99]⟩ ⟨#[118, 105, 101, 119, 101, 114]⟩ ⟨#[111, 114]⟩ ⟨#[]⟩ ⟨#[]⟩ [xThis, xRel, xFrom] true W (Kd.C_below cL hW) (by decide) (by kernel_rfl)).mono ?_
  rintro e w' ⟨v, rfl, hR, hb⟩
  obtain ⟨A, c, rfl, hc, hC⟩ := Kd.R_reads hR
  exact ⟨A, c, rfl, hc, hC, hb⟩
 have kAlike : ∀ A c W, Below w1.heap.size w1 W → Kd.C k30 W A 1 awL → Calls Tryz.prog 24 #[.slice (some ⟨g3, 0, none⟩) 1 1, .slice A 1 c] W fun e w' => e = .returned (.bool true) ∧ Below W.heap.size W w' := by
  intro A c W hW hC
  refine alike_true 30 (some ⟨g3, 0, none⟩) A 1 c awL W (Kd.C_below cL hW) hC (by decide) ?_ ?_
  ·intro x h0 h1
   have hx : x = 0 := by have : (awL.length : Int) = 1 := rfl; omega
   subst hx; decide
  ·intro x y h0 h1 h2 h3
   have hx : x = 0 := by have : (awL.length : Int) = 1 := rfl; omega
   subst hx
   have hy : y = 0 ∨ y = 1 ∨ y = 2 := by have : ((rd_T30 awL 0).f1.length : Int) = 3 := rfl; omega
   rcases hy with rfl | rfl | rfl <;> decide +kernel
 have kSame : ∀ A c W, 3 ≤ c → Below w1.heap.size w1 W → Kd.C k33 W A 3 [xThis, xRel, xFrom] → Calls Tryz.prog 19 #[.agg #[.string ⟨#[111, 114]⟩, .string ⟨#[]⟩, .string ⟨#[]⟩, .slice A 3 c], .agg #[.string ⟨#[111, 114]⟩, .string ⟨#[]⟩, .string ⟨#[]⟩, .slice (some ⟨g0, 0, none⟩) 3 3]] W fun e w' => e = .returned (.bool true) ∧ Below W.heap.size W w' :=
  fun A c W hc hW hC => lunetteref12_Same.calls 30 ⟨#[111, 114]⟩ ⟨#[]⟩ ⟨#[]⟩ A c [xThis, xRel, xFrom] ⟨#[111, 114]⟩ ⟨#[]⟩ ⟨#[]⟩ (some ⟨g0, 0, none⟩) 3 [xThis, xRel, xFrom] true W hC hc (Kd.C_below cOr hW) (by decide) (by kernel_rfl)
 have kDeep : ∀ W, Below w1.heap.size w1 W → Calls Tryz.prog 12 #[.agg #[.string ⟨#[111, 114]⟩, .string ⟨#[]⟩, .string ⟨#[]⟩, .slice (some ⟨g0, 0, none⟩) 3 3]] W fun e w' => e = .returned (.int .i64 2) ∧ Below W.heap.size W w' :=
  fun W hW => rule_Deep.calls 30 ⟨#[111, 114]⟩ ⟨#[]⟩ ⟨#[]⟩ (some ⟨g0, 0, none⟩) 3 [xThis, xRel, xFrom] 2 W (Kd.C_below cOr hW) (by decide) (by kernel_rfl)
 have kSize : ∀ W, Below w1.heap.size w1 W → Calls Tryz.prog 13 #[.agg #[.string ⟨#[111, 114]⟩, .string ⟨#[]⟩, .string ⟨#[]⟩, .slice (some ⟨g0, 0, none⟩) 3 3]] W fun e w' => e = .returned (.int .i64 4) ∧ Below W.heap.size W w' :=
  fun W hW => rule_Size.calls 30 ⟨#[111, 114]⟩ ⟨#[]⟩ ⟨#[]⟩ (some ⟨g0, 0, none⟩) 3 [xThis, xRel, xFrom] 4 W (Kd.C_below cOr hW) (by decide) (by kernel_rfl)
 have kBut : ∀ W, Below w1.heap.size w1 W → Calls Tryz.prog 23 #[.slice (some ⟨g3, 0, none⟩) 1 1] W fun e w' => e = .returned (.bool false) ∧ Below W.heap.size W w' :=
  fun W hW => rule_But.calls (some ⟨g3, 0, none⟩) 1 awL false W (Kd.C_below cL hW) (by decide) (by kernel_rfl)
 have kCheck : ∀ W, Below w1.heap.size w1 W → Calls Tryz.prog 22 #[.slice (some ⟨g3, 0, none⟩) 1 1] W fun e w' => e = .returned (.int .i64 0) ∧ Below W.heap.size W w' :=
  fun W hW => rule_Check.calls (some ⟨g3, 0, none⟩) 1 awL 0 W (Kd.C_below cL hW) (by decide) (by kernel_rfl) (hTw W hW).words
 have hWW : (((w.alloc awO0).alloc (awO1 g0)).alloc (awO2 g0)).alloc (awO3 (g1 + 1)) = w1 := by rw [← hw1, ← hg1, ← hg0]; rfl
 clear hT hTw cOr cL hBw hw1
 have HOR := Aside0.mk hOr
 clear hOr
 have KSH := Aside0.mk kShow
 have KRE := Aside0.mk kRead
 have KFI := Aside0.mk kFind
 have KAL := Aside0.mk kAlike
 have KSA := Aside0.mk kSame
 have KDE := Aside0.mk kDeep
 have KSI := Aside0.mk kSize
 have KBU := Aside0.mk kBut
 have KCH := Aside0.mk kCheck
 have HWW := Aside0.mk hWW
 have HG := Aside0.mk (And.intro hg0 (And.intro hg1 hg3))
 clear kShow kRead kFind kAlike kSame kDeep kSize kBut kCheck hWW hg0 hg1 hg3
 have hS : (awS.toList == ([107, 105, 110, 100, 32, 100, 111, 99, 10, 111, 119, 110, 101, 114, 32, 61, 32, 116, 104, 105, 115, 10, 118, 105, 101, 119, 101, 114, 32, 61, 32, 40, 111, 114, 32, 116, 104, 105, 115, 32, 111, 119, 110, 101, 114, 32, 40, 102, 114, 111, 109, 32, 112, 97, 114, 101, 110, 116, 32, 118, 105, 101, 119, 101, 114, 41, 41, 10, 112, 97, 114, 101, 110, 116, 32, 61, 32, 116, 104, 105, 115, 10] : List UInt8)) = true := by decide +kernel
 go_enter Tryz.func9, Tryz.ntmps9
 go_upto_region 3 with fail
 rw [HG.out.1, HG.out.2.2, HG.out.2.1]
 change Code.wp _ _ _ _ ((((w.alloc awO0).alloc (awO1 g0)).alloc (awO2 g0)).alloc (awO3 (g1 + 1)))
 rw [HWW.out]
 clear HWW
 have hz0 : w1.cell? ⟨g1, 0, none⟩ = some (.string ⟨#[111, 114]⟩) := (blk_cell HOR.out 0).trans rfl
 clear hz0
 go_upto_region 6 with (first | (go_at_call 11; refine (KSH.out _ (Below.refl _ _)).mono ?_; rintro e w2 ⟨rfl, h2⟩; have HB := Aside0.mk h2; clear KSH h2) | (go_at_call 14; refine (KRE.out _ HB.out).mono ?_; rintro e w3 ⟨A5, c5, rfl, C5, h3⟩; replace HB := Aside0.mk (below_step HB.out h3); have HC5 := Aside0.mk C5; clear KRE h3 C5) | (go_at_call 17; refine (KFI.out _ HB.out).mono ?_; rintro e w4 ⟨A8, c8, rfl, l8, C8, h4⟩; replace HB := Aside0.mk (below_step HB.out h4); replace HC5 := Aside0.mk (Kd.C_below HC5.out h4); have HC8 := Aside0.mk C8; have HL8 := Aside0.mk l8; have BK8 := Aside0.mk (blk_new w4 (.cells #[.string ⟨#[111, 114]⟩, .string ⟨#[]⟩, .string ⟨#[]⟩, .slice A8 3 c8] 33 (0, 0))); clear KFI h4 C8 l8))
 go_wp2_with (first | (go_at_call 24; refine (KAL.out _ _ _ (below_alloc HB.out _) (Kd.C_alloc HC5.out _)).mono ?_; rintro e w5 ⟨rfl, h5⟩; replace HB := Aside0.mk (below_step (below_alloc HB.out _) h5); replace HC8 := Aside0.mk (Kd.C_below (Kd.C_alloc HC8.out _) h5); replace BK8 := Aside0.mk (blk_below BK8.out h5); have BK1 := Aside0.mk (blk_below HOR.out HB.out); have z0 : w5.cell? ⟨g1, 0, none⟩ = some (.string ⟨#[111, 114]⟩) := (blk_cell BK1.out 0).trans rfl; have z1 : w5.cell? ⟨g1, 1, none⟩ = some (.string ⟨#[]⟩) := (blk_cell BK1.out 1).trans rfl; have z2 : w5.cell? ⟨g1, 2, none⟩ = some (.string ⟨#[]⟩) := (blk_cell BK1.out 2).trans rfl; have z3 : w5.cell? ⟨g1, 3, none⟩ = some (.slice (some ⟨g0, 0, none⟩) 3 3) := (blk_cell BK1.out 3).trans rfl; have y0 : w5.cell? ⟨w4.heap.size, 0, none⟩ = some (.string ⟨#[111, 114]⟩) := (blk_cell BK8.out 0).trans rfl; have y1 : w5.cell? ⟨w4.heap.size, 1, none⟩ = some (.string ⟨#[]⟩) := (blk_cell BK8.out 1).trans rfl; have y2 : w5.cell? ⟨w4.heap.size, 2, none⟩ = some (.string ⟨#[]⟩) := (blk_cell BK8.out 2).trans rfl; have y3 : w5.cell? ⟨w4.heap.size, 3, none⟩ = some (.slice (A8) 3 c8) := (blk_cell BK8.out 3).trans rfl; clear KAL h5 HC5) | (go_at_call 19; refine (KSA.out _ _ _ HL8.out HB.out HC8.out).mono ?_; rintro e w6 ⟨rfl, h6⟩; replace HB := Aside0.mk (below_step HB.out h6); have BK1 := Aside0.mk (blk_below HOR.out HB.out); have x0 : w6.cell? ⟨g1, 0, none⟩ = some (.string ⟨#[111, 114]⟩) := (blk_cell BK1.out 0).trans rfl; have x1 : w6.cell? ⟨g1, 1, none⟩ = some (.string ⟨#[]⟩) := (blk_cell BK1.out 1).trans rfl; have x2 : w6.cell? ⟨g1, 2, none⟩ = some (.string ⟨#[]⟩) := (blk_cell BK1.out 2).trans rfl; have x3 : w6.cell? ⟨g1, 3, none⟩ = some (.slice (some ⟨g0, 0, none⟩) 3 3) := (blk_cell BK1.out 3).trans rfl; clear KSA h6) | (go_at_call 12; refine (KDE.out _ HB.out).mono ?_; rintro e w7 ⟨rfl, h7⟩; replace HB := Aside0.mk (below_step HB.out h7); have BK1 := Aside0.mk (blk_below HOR.out HB.out); have v0 : w7.cell? ⟨g1, 0, none⟩ = some (.string ⟨#[111, 114]⟩) := (blk_cell BK1.out 0).trans rfl; have v1 : w7.cell? ⟨g1, 1, none⟩ = some (.string ⟨#[]⟩) := (blk_cell BK1.out 1).trans rfl; have v2 : w7.cell? ⟨g1, 2, none⟩ = some (.string ⟨#[]⟩) := (blk_cell BK1.out 2).trans rfl; have v3 : w7.cell? ⟨g1, 3, none⟩ = some (.slice (some ⟨g0, 0, none⟩) 3 3) := (blk_cell BK1.out 3).trans rfl; clear KDE h7) | (go_at_call 13; refine (KSI.out _ HB.out).mono ?_; rintro e w8 ⟨rfl, h8⟩; replace HB := Aside0.mk (below_step HB.out h8); clear KSI h8) | (go_at_call 23; refine (KBU.out _ HB.out).mono ?_; rintro e w9 ⟨rfl, h9⟩; replace HB := Aside0.mk (below_step HB.out h9); clear KBU h9) | (go_at_call 22; refine (KCH.out _ HB.out).mono ?_; rintro e w10 ⟨rfl, h10⟩; replace HB := Aside0.mk (below_step HB.out h10); clear KCH h10))
 go_ret
 exact ⟨rfl, below_step HBW.out HB.out⟩
def lunettelaw12_awake.f : Option Bool := some true
theorem lunettelaw12_awake.calls (r : Bool) (w : World) (h : lunettelaw12_awake.f = some r) (hT : Tabs w) : Calls Tryz.prog 9 #[] w fun e w' => e = .returned (.bool r) ∧ Below w.heap.size w w' := by
 injection h with h
 subst h
 exact awake_true w hT
end Go.Proofs.YtjcipbdocbomjaaGreatDoor.K
