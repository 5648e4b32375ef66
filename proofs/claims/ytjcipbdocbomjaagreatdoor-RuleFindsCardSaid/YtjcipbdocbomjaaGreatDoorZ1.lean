/- Texts of this claim's proof, put together: KD KS Shelf V0; conditions: as each states. -/
import Derived.Test.YtjcipbdocbomjaaGreatDoorProg
import Derived.Below
import Derived.Deep.Draws
import Derived.Deep.AppendLies
import Derived.Maps.AppendAt
import Derived.OwnWalk
import Derived.Laws.BytesArg
import Derived.Laws.MakeOwn
import Derived.Laws.OwnMore
import Derived.Deep.OwnRows
import Derived.Tactics
import Derived.Lib.ConvBytes
import Derived.Laws.Slices
import Derived.WalkKit
import Derived.KernelRfl
import Derived.RowKit3
import Derived.Deep.LoopGhost
import Derived.Deep.QuietTactic
import Derived.BigQuiet
import Derived.WideLaws
import Derived.Deep.DeepCutAuto
import Derived.Deep.CutBlock
import Derived.Deep.RegionHeld3
import Derived.Laws.Rows
import Derived.Lib.AppendStr
import Derived.ArgAppend
import Derived.Laws.IdiomCopy
import Derived.OrdersHeld
import Derived.Laws.BitsLemmas
import Derived.RowKit
import Derived.Test.YtjcipbdocbomjaaGreatDoorWWords
import Derived.Test.YtjcipbdocbomjaaGreatDoorWLast
import Derived.Test.YtjcipbdocbomjaaGreatDoorWTab
import Derived.Test.YtjcipbdocbomjaaGreatDoorWFour
import Derived.Test.YtjcipbdocbomjaaGreatDoorWQPut
import Derived.Test.YtjcipbdocbomjaaGreatDoorWApart
import Derived.Test.YtjcipbdocbomjaaGreatDoorWArr
import Derived.Test.YtjcipbdocbomjaaGreatDoorWZeros
import Derived.Test.YtjcipbdocbomjaaGreatDoorWFoot
import Derived.Test.YtjcipbdocbomjaaGreatDoorWKept
import Derived.Test.YtjcipbdocbomjaaGreatDoorWShare
import Derived.Test.YtjcipbdocbomjaaGreatDoorWN
import Derived.Test.YtjcipbdocbomjaaGreatDoorWFootNe
import Derived.Test.YtjcipbdocbomjaaGreatDoorWAt
import Derived.Test.YtjcipbdocbomjaaGreatDoorWEqStruct
import Derived.Test.YtjcipbdocbomjaaGreatDoorWRepsOne
import Derived.Test.YtjcipbdocbomjaaGreatDoorWInv
import Derived.Test.YtjcipbdocbomjaaGreatDoorWInvWords
import Derived.Test.YtjcipbdocbomjaaGreatDoorWGuard
import Derived.Test.YtjcipbdocbomjaaGreatDoorWNEv
import Derived.Test.YtjcipbdocbomjaaGreatDoorWMore
import Derived.Shelf.Strings.Builder1
import Derived.Shelf.Small.Wraps
import Derived.Shelf.Strings.Cut
import Derived.Shelf.Strings.Count
import Derived.Shelf.Strings.FieldsAny
import Derived.Shelf.Strings.FuncGrows
set_option linter.unusedVariables false
set_option linter.unusedSimpArgs false
open Go.RowKit Go.Proofs.YtjcipbdocbomjaaGreatDoorW.PrintWords Go.Proofs.YtjcipbdocbomjaaGreatDoorW.PrintLast Go.Proofs.YtjcipbdocbomjaaGreatDoorW.PrintMore
namespace Go.Proofs.YtjcipbdocbomjaaGreatDoor.K
attribute [local go_sem] max2_int min2_int max_two min_two max_three min_three max_four min_four
theorem info33 : (Tryz.prog.info? 33).map (fun i => (i.zero, i.size, i.bytes)) = some (some (.agg #[(.string ⟨#[]⟩), (.string ⟨#[]⟩), (.string ⟨#[]⟩), (.slice none 0 0)]), 4, 72) := by kernel_rfl
theorem info30 : (Tryz.prog.info? 30).map (fun i => (i.zero, i.size, i.bytes)) = some (some (.agg #[(.string ⟨#[]⟩), (.slice none 0 0)]), 2, 40) := by kernel_rfl
theorem info35 : (Tryz.prog.info? 35).map (fun i => (i.zero, i.size, i.bytes)) = some (some (.agg #[(.string ⟨#[]⟩), (.string ⟨#[]⟩), (.string ⟨#[]⟩), (.string ⟨#[]⟩), (.slice none 0 0)]), 5, 88) := by kernel_rfl
structure S33 where
 f0 : ByteArray
 f1 : ByteArray
 f2 : ByteArray
 f3 : (List S33)
def z33 : S33 := ⟨(⟨#[]⟩ : ByteArray), (⟨#[]⟩ : ByteArray), (⟨#[]⟩ : ByteArray), ([] : List S33)⟩
def F33 (d : Kd S33) : Kd S33 := Kd.iso (Kd.pair Kd.string (Kd.pair Kd.string (Kd.pair Kd.string (Kd.slice 33 d)))) (fun x : S33 => (x.f0, x.f1, x.f2, x.f3))
theorem mono33 : Kd.Mono F33 := Kd.mono_iso _ (Kd.mono_pair (Kd.mono_const _) (Kd.mono_pair (Kd.mono_const _) (Kd.mono_pair (Kd.mono_const _) (Kd.mono_slice 33 Kd.mono_id))))
theorem sub33 : Kd.Sub F33 [33] := Kd.sub_iso _ (Kd.sub_pair (Kd.sub_const _ (by decide)) (Kd.sub_pair (Kd.sub_const _ (by decide)) (Kd.sub_pair (Kd.sub_const _ (by decide)) (Kd.sub_slice 33 (by decide) Kd.sub_id))))
theorem sz33 : ∀ n, (Kd.upto F33 4 [33] n).sz = 4 := Kd.upto_sz (fun _ => rfl)
def k33 : Kd S33 := Kd.fix F33 4 [33] sz33 (Kd.upto_E sub33)
theorem k33_heap : Kd.Heap k33 := Kd.heap_fix (fun _ h_ => Kd.heap_iso _ (Kd.heap_pair Kd.heap_string (Kd.heap_pair Kd.heap_string (Kd.heap_pair Kd.heap_string (Kd.heap_slice 33 h_)))))
theorem k33_open {w : World} {x : S33} {cs : List Value} (h : k33.K w x cs) : ∃ A3 c3, cs = [.string x.f0, .string x.f1, .string x.f2, .slice A3 x.f3.length c3] ∧ x.f3.length ≤ c3 ∧ k33.C w A3 x.f3.length x.f3 := by
 obtain ⟨n, h⟩ := h
 cases n with
 | zero => exact h.elim
 | succ n =>
  obtain ⟨_, _, rfl, rfl, ⟨_, _, rfl, rfl, ⟨_, _, rfl, rfl, ⟨A3, c3, rfl, l3, g3⟩⟩⟩⟩ := h
  exact ⟨A3, c3, rfl, l3, Kd.fix_C g3⟩
theorem k33_mk (w : World) (x : S33) {A3 : Option Addr} {c3 : Nat} (l3 : x.f3.length ≤ c3) (g3 : k33.C w A3 x.f3.length x.f3) : k33.K w x [.string x.f0, .string x.f1, .string x.f2, .slice A3 x.f3.length c3] := by
 obtain ⟨n3, q3⟩ := Kd.fix_C_back mono33 g3
 have r3 := Kd.upto_C_le mono33 sz33 (show n3 ≤ n3 by omega) q3
 exact ⟨n3 + 1, ⟨[.string x.f0], [.string x.f1, .string x.f2, .slice A3 x.f3.length c3], rfl, rfl, ⟨[.string x.f1], [.string x.f2, .slice A3 x.f3.length c3], rfl, rfl, ⟨[.string x.f2], [.slice A3 x.f3.length c3], rfl, rfl, ⟨A3, c3, rfl, l3, r3⟩⟩⟩⟩⟩
theorem k33_mkM (w : World) (base : Nat) (ok : Nat → Prop) (x : S33) {v3 : Value} (g3 : k33.R 33 w base ok v3 x.f3) : k33.M w base ok x [.string x.f0, .string x.f1, .string x.f2, v3] := by
 obtain ⟨n3, q3⟩ := Kd.fix_R_back mono33 g3
 have r3 := Kd.upto_R_le mono33 sz33 (show n3 ≤ n3 by omega) q3
 exact ⟨n3 + 1, ⟨[.string x.f0], [.string x.f1, .string x.f2, v3], rfl, rfl, ⟨[.string x.f1], [.string x.f2, v3], rfl, rfl, ⟨[.string x.f2], [v3], rfl, rfl, ⟨v3, rfl, r3⟩⟩⟩⟩⟩
def rd_T33 (xs : List S33) (i : Int) : S33 := xs.getD i.toNat z33
theorem at_T33 {w : World} {A : Option Addr} {n : Nat} {xs : List S33} (h : Kd.C k33 w A n xs) (i : Int) (h0 : 0 ≤ i) (h1 : i < n) : ∃ ad A3 c3, A = some ad ∧ w.cell? (ad.add (i.toNat * 4)) = some (.string (rd_T33 xs i).f0) ∧ w.cell? ⟨(ad.add (i.toNat * 4)).block, (ad.add (i.toNat * 4)).off + 1, none⟩ = some (.string (rd_T33 xs i).f1) ∧ w.cell? ⟨(ad.add (i.toNat * 4)).block, (ad.add (i.toNat * 4)).off + 2, none⟩ = some (.string (rd_T33 xs i).f2) ∧ w.cell? ⟨(ad.add (i.toNat * 4)).block, (ad.add (i.toNat * 4)).off + 3, none⟩ = some (.slice A3 (rd_T33 xs i).f3.length c3) ∧ (rd_T33 xs i).f3.length ≤ c3 ∧ k33.C w A3 (rd_T33 xs i).f3.length (rd_T33 xs i).f3 := by
 obtain ⟨ad, c, e, _, hK, hc0⟩ := Kd.C_get h z33 i h0 h1
 have hc : ∀ j u, c[j]? = some u → w.cell? (ad.add (i.toNat * 4 + j)) = some u := hc0
 obtain ⟨A3, c3, rfl, l3, g3⟩ := k33_open hK
 exact ⟨ad, A3, c3, e, hc 0 _ rfl, by rw [← add_field _ _ 1 (by omega)]; exact hc 1 _ rfl, by rw [← add_field _ _ 2 (by omega)]; exact hc 2 _ rfl, by rw [← add_field _ _ 3 (by omega)]; exact hc 3 _ rfl, l3, g3⟩
structure S35 where
 f0 : ByteArray
 f1 : S33
def z35 : S35 := ⟨(⟨#[]⟩ : ByteArray), z33⟩
def k35 : Kd S35 := Kd.iso (Kd.pair Kd.string k33) (fun x : S35 => (x.f0, x.f1))
theorem k35_heap : Kd.Heap k35 := Kd.heap_iso _ (Kd.heap_pair Kd.heap_string k33_heap)
theorem k35_open {w : World} {x : S35} {cs : List Value} (h : k35.K w x cs) : ∃ A4 c4, cs = [.string x.f0, .string x.f1.f0, .string x.f1.f1, .string x.f1.f2, .slice A4 x.f1.f3.length c4] ∧ x.f1.f3.length ≤ c4 ∧ k33.C w A4 x.f1.f3.length x.f1.f3 := by
 obtain ⟨_, _, rfl, rfl, s1⟩ := h
 obtain ⟨A4, c4, rfl, l4, g4⟩ := k33_open s1
 exact ⟨A4, c4, rfl, l4, g4⟩
theorem k35_mk (w : World) (x : S35) {A4 : Option Addr} {c4 : Nat} (l4 : x.f1.f3.length ≤ c4) (g4 : k33.C w A4 x.f1.f3.length x.f1.f3) : k35.K w x [.string x.f0, .string x.f1.f0, .string x.f1.f1, .string x.f1.f2, .slice A4 x.f1.f3.length c4] := ⟨[.string x.f0], [.string x.f1.f0, .string x.f1.f1, .string x.f1.f2, .slice A4 x.f1.f3.length c4], rfl, rfl, (k33_mk w x.f1 l4 g4)⟩
theorem k35_mkM (w : World) (base : Nat) (ok : Nat → Prop) (x : S35) {v4 : Value} (g4 : k33.R 33 w base ok v4 x.f1.f3) : k35.M w base ok x [.string x.f0, .string x.f1.f0, .string x.f1.f1, .string x.f1.f2, v4] := ⟨[.string x.f0], [.string x.f1.f0, .string x.f1.f1, .string x.f1.f2, v4], rfl, rfl, (k33_mkM w base ok x.f1 g4)⟩
theorem k35_openF {W : World} {ok : Nat → Prop} {x : S35} {cs : List Value} (h : Kd.FK k35 W ok x cs) : ∃ A4 c4, cs = [.string x.f0, .string x.f1.f0, .string x.f1.f1, .string x.f1.f2, .slice A4 x.f1.f3.length c4] ∧ x.f1.f3.length ≤ c4 ∧ Kd.F k33 W ok A4 x.f1.f3.length x.f1.f3 := by
 obtain ⟨A4, c4, rfl, l4, _⟩ := k35_open (Kd.FK_now h)
 exact ⟨A4, c4, rfl, l4, (fun W' hW => by obtain ⟨A4_, c4_, he, l4_, g4_⟩ := k35_open (h W' hW); injection (Option.some.inj (show some (Value.slice A4 x.f1.f3.length c4) = some (Value.slice A4_ x.f1.f3.length c4_) from congrArg (fun l => l[4]?) he)) with ha_ _ _; rw [ha_]; exact g4_)⟩
def rd_T35 (xs : List S35) (i : Int) : S35 := xs.getD i.toNat z35
theorem at_T35 {w : World} {A : Option Addr} {n : Nat} {xs : List S35} (h : Kd.C k35 w A n xs) (i : Int) (h0 : 0 ≤ i) (h1 : i < n) : ∃ ad A4 c4, A = some ad ∧ w.cell? (ad.add (i.toNat * 5)) = some (.string (rd_T35 xs i).f0) ∧ w.cell? ⟨(ad.add (i.toNat * 5)).block, (ad.add (i.toNat * 5)).off + 1, none⟩ = some (.string (rd_T35 xs i).f1.f0) ∧ w.cell? ⟨(ad.add (i.toNat * 5)).block, (ad.add (i.toNat * 5)).off + 2, none⟩ = some (.string (rd_T35 xs i).f1.f1) ∧ w.cell? ⟨(ad.add (i.toNat * 5)).block, (ad.add (i.toNat * 5)).off + 3, none⟩ = some (.string (rd_T35 xs i).f1.f2) ∧ w.cell? ⟨(ad.add (i.toNat * 5)).block, (ad.add (i.toNat * 5)).off + 4, none⟩ = some (.slice A4 (rd_T35 xs i).f1.f3.length c4) ∧ (rd_T35 xs i).f1.f3.length ≤ c4 ∧ k33.C w A4 (rd_T35 xs i).f1.f3.length (rd_T35 xs i).f1.f3 := by
 obtain ⟨ad, c, e, _, hK, hc0⟩ := Kd.C_get h z35 i h0 h1
 have hc : ∀ j u, c[j]? = some u → w.cell? (ad.add (i.toNat * 5 + j)) = some u := hc0
 obtain ⟨A4, c4, rfl, l4, g4⟩ := k35_open hK
 exact ⟨ad, A4, c4, e, hc 0 _ rfl, by rw [← add_field _ _ 1 (by omega)]; exact hc 1 _ rfl, by rw [← add_field _ _ 2 (by omega)]; exact hc 2 _ rfl, by rw [← add_field _ _ 3 (by omega)]; exact hc 3 _ rfl, by rw [← add_field _ _ 4 (by omega)]; exact hc 4 _ rfl, l4, g4⟩
structure S30 where
 f0 : ByteArray
 f1 : (List S35)
def z30 : S30 := ⟨(⟨#[]⟩ : ByteArray), ([] : List S35)⟩
def k30 : Kd S30 := Kd.iso (Kd.pair Kd.string (Kd.slice 35 k35)) (fun x : S30 => (x.f0, x.f1))
theorem k30_heap : Kd.Heap k30 := Kd.heap_iso _ (Kd.heap_pair Kd.heap_string (Kd.heap_slice 35 k35_heap))
theorem k30_open {w : World} {x : S30} {cs : List Value} (h : k30.K w x cs) : ∃ A1 c1, cs = [.string x.f0, .slice A1 x.f1.length c1] ∧ x.f1.length ≤ c1 ∧ k35.C w A1 x.f1.length x.f1 := by
 obtain ⟨_, _, rfl, rfl, ⟨A1, c1, rfl, l1, g1⟩⟩ := h
 exact ⟨A1, c1, rfl, l1, g1⟩
theorem k30_mk (w : World) (x : S30) {A1 : Option Addr} {c1 : Nat} (l1 : x.f1.length ≤ c1) (g1 : k35.C w A1 x.f1.length x.f1) : k30.K w x [.string x.f0, .slice A1 x.f1.length c1] := ⟨[.string x.f0], [.slice A1 x.f1.length c1], rfl, rfl, ⟨A1, c1, rfl, l1, g1⟩⟩
theorem k30_mkM (w : World) (base : Nat) (ok : Nat → Prop) (x : S30) {v1 : Value} (g1 : k35.R 35 w base ok v1 x.f1) : k30.M w base ok x [.string x.f0, v1] := ⟨[.string x.f0], [v1], rfl, rfl, ⟨v1, rfl, g1⟩⟩
theorem k30_openF {W : World} {ok : Nat → Prop} {x : S30} {cs : List Value} (h : Kd.FK k30 W ok x cs) : ∃ A1 c1, cs = [.string x.f0, .slice A1 x.f1.length c1] ∧ x.f1.length ≤ c1 ∧ Kd.F k35 W ok A1 x.f1.length x.f1 := by
 obtain ⟨A1, c1, rfl, l1, _⟩ := k30_open (Kd.FK_now h)
 exact ⟨A1, c1, rfl, l1, (fun W' hW => by obtain ⟨A1_, c1_, he, l1_, g1_⟩ := k30_open (h W' hW); injection (Option.some.inj (show some (Value.slice A1 x.f1.length c1) = some (Value.slice A1_ x.f1.length c1_) from congrArg (fun l => l[1]?) he)) with ha_ _ _; rw [ha_]; exact g1_)⟩
theorem k30_mkF (W : World) (ok : Nat → Prop) (x : S30) {A1 : Option Addr} {c1 : Nat} (l1 : x.f1.length ≤ c1) (g1 : Kd.F k35 W ok A1 x.f1.length x.f1) : Kd.FK k30 W ok x [.string x.f0, .slice A1 x.f1.length c1] := fun W2 hW => k30_mk W2 x l1 (g1 W2 hW)
def rd_T30 (xs : List S30) (i : Int) : S30 := xs.getD i.toNat z30
theorem at_T30 {w : World} {A : Option Addr} {n : Nat} {xs : List S30} (h : Kd.C k30 w A n xs) (i : Int) (h0 : 0 ≤ i) (h1 : i < n) : ∃ ad A1 c1, A = some ad ∧ w.cell? (ad.add (i.toNat * 2)) = some (.string (rd_T30 xs i).f0) ∧ w.cell? ⟨(ad.add (i.toNat * 2)).block, (ad.add (i.toNat * 2)).off + 1, none⟩ = some (.slice A1 (rd_T30 xs i).f1.length c1) ∧ (rd_T30 xs i).f1.length ≤ c1 ∧ k35.C w A1 (rd_T30 xs i).f1.length (rd_T30 xs i).f1 := by
 obtain ⟨ad, c, e, _, hK, hc0⟩ := Kd.C_get h z30 i h0 h1
 have hc : ∀ j u, c[j]? = some u → w.cell? (ad.add (i.toNat * 2 + j)) = some u := hc0
 obtain ⟨A1, c1, rfl, l1, g1⟩ := k30_open hK
 exact ⟨ad, A1, c1, e, hc 0 _ rfl, by rw [← add_field _ _ 1 (by omega)]; exact hc 1 _ rfl, l1, g1⟩
end Go.Proofs.YtjcipbdocbomjaaGreatDoor.K
namespace Go.Proofs.YtjcipbdocbomjaaGreatDoor.K
attribute [local go_sem] max2_int min2_int max_two min_two max_three min_three max_four min_four
def IsS96 (w0 W : World) (g : Nat) (f0 : List ByteArray) (f1 : Bool) : Prop := ∃ A0 c0, W.heap[g]? = some (.cells #[.slice A0 f0.length c0, .bool f1] 96 (0, 0)) ∧ (w0.heap.size ≤ g ∧ f0.length ≤ c0) ∧ Kd.C Kd.string w0 A0 f0.length f0
theorem IsS96.grown {w0 W : World} {g : Nat} {f0 : List ByteArray} {f1 : Bool} {W1 : World} {row : Option Nat} (h : IsS96 w0 W g f0 f1) (hw : W.grownBy W1 row) (hne : some g ≠ row) : IsS96 w0 W1 g f0 f1 := by
 obtain ⟨A0, c0, hb, hg, hr0⟩ := h
 exact ⟨A0, c0, blk_grown hb hw hne, hg, hr0⟩
theorem IsS96.below {w0 W : World} {g : Nat} {f0 : List ByteArray} {f1 : Bool} {W1 : World} (h : IsS96 w0 W g f0 f1) (hw : Below W.heap.size W W1) : IsS96 w0 W1 g f0 f1 := h.grown (grown_of_below hw none) (by simp)
theorem IsS96.drew {w0 W : World} {g : Nat} {f0 : List ByteArray} {f1 : Bool} (h : IsS96 w0 W g f0 f1) : IsS96 w0 W.drew g f0 f1 := h
theorem IsS96.apart {w0 W : World} {g : Nat} {f0 : List ByteArray} {f1 : Bool} {α : Type} {d : Kd α} {e : Nat} {base : Nat} {ok : Nat → Prop} {v : Value} {xs : List α} (h : IsS96 w0 W g f0 f1) (ho : d.R e W base ok v xs) (ht : ∀ q, q ∈ e :: d.E → q ≠ 96) : d.R e W base (fun k => ok k ∧ k ≠ g) v xs := by
 obtain ⟨A0, c0, hb, hg, hr0⟩ := h
 exact Kd.R_types ho hb ht
theorem IsS96.own_ne {w0 W : World} {g : Nat} {f0 : List ByteArray} {f1 : Bool} {α : Type} {d : Kd α} {e : Nat} {base : Nat} {ok : Nat → Prop} {v : Value} {xs : List α} (h : IsS96 w0 W g f0 f1) (ho : d.R e W base ok v xs) (ht : e ≠ 96) : some g ≠ v.ownBlock := by
 obtain ⟨A0, c0, hb, hg, hr0⟩ := h
 exact Kd.R_ne ho hb ht
theorem IsS96.lt {w0 W : World} {g : Nat} {f0 : List ByteArray} {f1 : Bool} (h : IsS96 w0 W g f0 f1) : g < W.heap.size := by
 obtain ⟨A0, c0, hb, hg, hr0⟩ := h
 exact blk_lt hb
theorem IsS96.ge {w0 W : World} {g : Nat} {f0 : List ByteArray} {f1 : Bool} (h : IsS96 w0 W g f0 f1) : w0.heap.size ≤ g := by
 obtain ⟨A0, c0, hb, hg, hr0⟩ := h
 exact hg.1
theorem IsS96.far {w0 W : World} {g : Nat} {f0 : List ByteArray} {f1 : Bool} {p : Addr} (h : IsS96 w0 W g f0 f1) (hne : g ≠ p.block) (u : Value) : IsS96 w0 (W.setCell p u) g f0 f1 := by
 obtain ⟨A0, c0, hb, hg, hr0⟩ := h
 exact ⟨A0, c0, blk_far hb hne u, hg, hr0⟩
theorem cellS96_0 {W : World} {g : Nat} {A0 : Option Addr} {c0 : Nat} {f0 : List ByteArray} {f1 : Bool} (h : W.heap[g]? = some (.cells #[.slice A0 f0.length c0, .bool f1] 96 (0, 0))) : W.cell? ⟨g, 0, none⟩ = some (.slice A0 f0.length c0) := (blk_cell h 0).trans rfl
theorem cellS96_1 {W : World} {g : Nat} {A0 : Option Addr} {c0 : Nat} {f0 : List ByteArray} {f1 : Bool} (h : W.heap[g]? = some (.cells #[.slice A0 f0.length c0, .bool f1] 96 (0, 0))) : W.cell? ⟨g, 1, none⟩ = some (.bool f1) := (blk_cell h 1).trans rfl
theorem IsS96.set_1 {w0 W : World} {g : Nat} {f0 : List ByteArray} {f1 : Bool} (h : IsS96 w0 W g f0 f1) (x : Bool) : IsS96 w0 (W.setCell ⟨g, 1, none⟩ (.bool x)) g f0 x := by
 obtain ⟨A0, c0, hb, hg, hr0⟩ := h
 exact ⟨A0, c0, by simpa using blk_set hb 1 (.bool x), hg, hr0⟩
theorem IsS96.new (w0 W : World) (A0 : Option Addr) (c0 : Nat) (f0 : List ByteArray) (f1 : Bool) (hB : Below w0.heap.size w0 W) (hc : f0.length ≤ c0) (hr0 : Kd.C Kd.string w0 A0 f0.length f0) : IsS96 w0 (W.alloc (.cells #[.slice A0 f0.length c0, .bool f1] 96)) W.heap.size f0 f1 := ⟨A0, c0, by simpa using heap_alloc_new W _, ⟨hB.size, hc⟩, hr0⟩
end Go.Proofs.YtjcipbdocbomjaaGreatDoor.K
namespace Go.Proofs
open Go.Shelf
def Tryz.lays169_ren : Go.Shelf.Ren := ⟨fun | 169 => 28 | n => n, fun | 70 => 50 | 9 => 9 | 0 => 0 | 72 => 53 | 37 => 51 | 127 => 74 | 3 => 3 | 5 => 5 | n => n, fun | n => n⟩
theorem Tryz.lays169 : Go.Proofs.Lays.n169 Tryz.prog Tryz.lays169_ren := {
 mixed := by kernel_rfl
 f169 := Tryz.func28.trans (congrArg some (by kernel_rfl))
 t0 := Tryz.underlying0
 a0 := Tryz.isAgg0
 z0 := Tryz.sizeOf0
 v0 := Tryz.zeroValue0
 t3 := Tryz.underlying3
 a3 := Tryz.isAgg3
 z3 := Tryz.sizeOf3
 v3 := Tryz.zeroValue3
 t9 := Tryz.underlying9
 a9 := Tryz.isAgg9
 z9 := Tryz.sizeOf9
 v9 := Tryz.zeroValue9
 t37 := Tryz.underlying51
 a37 := Tryz.isAgg51
 z37 := Tryz.sizeOf51
 v37 := Tryz.zeroValue51
 t70 := Tryz.underlying50
 a70 := Tryz.isAgg50
 z70 := Tryz.sizeOf50
 v70 := Tryz.zeroValue50
 t72 := Tryz.underlying53
 a72 := Tryz.isAgg53
 z72 := Tryz.sizeOf53
 v72 := Tryz.zeroValue53
 t127 := Tryz.underlying74
 a127 := Tryz.isAgg74
 z127 := Tryz.sizeOf74
 v127 := Tryz.zeroValue74 }
theorem Tryz.Builder_Extra_169 : Builder.Extra Tryz.prog Tryz.lays169_ren := {
 sizeBuilder := by kernel_rfl
 liesBuilder := by kernel_rfl
 t5 := Tryz.underlying5
 a5 := Tryz.isAgg5
 z5 := Tryz.sizeOf5
 v5 := Tryz.zeroValue5
 infoByte := by kernel_rfl
 cellsByte := by kernel_rfl
 sizeByte := by kernel_rfl
 neB5 := by decide }
open Go.RowKit in
theorem Tryz.Builder_String_any (B b : Nat) (l : List UInt8) (w : World) (h : Lib.IsBuilder 53 5 B b (Lib.byteCells l) w) (hBw : B ≤ w.heap.size) :
  Calls Tryz.prog 28 #[.pointer (some ⟨b, 0, none⟩)] w fun e w' => e = .returned (.string ⟨l.toArray⟩) ∧ Below B w w' := Any.Builder_String_any Tryz.lays169 Tryz.Builder_Extra_169 B b l w h hBw
def Tryz.lays103_ren : Go.Shelf.Ren := ⟨fun | 103 => 52 | 210 => 69 | 206 => 83 | n => n, fun | 9 => 9 | 4 => 4 | 24 => 75 | 3 => 3 | n => n, fun | n => n⟩
theorem Tryz.lays103 : Go.Proofs.Lays.n103 Tryz.prog Tryz.lays103_ren := {
 mixed := by kernel_rfl
 f103 := Tryz.func52.trans (congrArg some (by kernel_rfl))
 f206 := Tryz.func83.trans (congrArg some (by kernel_rfl))
 f210 := Tryz.func69.trans (congrArg some (by kernel_rfl))
 t3 := Tryz.underlying3
 a3 := Tryz.isAgg3
 z3 := Tryz.sizeOf3
 v3 := Tryz.zeroValue3
 t4 := Tryz.underlying4
 a4 := Tryz.isAgg4
 z4 := Tryz.sizeOf4
 v4 := Tryz.zeroValue4
 t9 := Tryz.underlying9
 a9 := Tryz.isAgg9
 z9 := Tryz.sizeOf9
 v9 := Tryz.zeroValue9
 t24 := Tryz.underlying75
 a24 := Tryz.isAgg75
 z24 := Tryz.sizeOf75
 v24 := Tryz.zeroValue75 }
open Go.RowKit in
theorem Tryz.strings_CutPrefix (s p : ByteArray) (w : World) :
  Calls Tryz.prog 52 #[.string s, .string p] w fun e w' => e = .returned (.tuple #[.string ⟨(Lib.trimPrefix s.data.toList p.data.toList).toArray⟩, .bool (Lib.hasPrefix s.data.toList p.data.toList)]) ∧ w' = w := Any.strings_CutPrefix Tryz.lays103 s p w
def Tryz.lays145_ren : Go.Shelf.Ren := ⟨fun | 145 => 29 | 220 => 51 | 219 => 68 | 217 => 79 | 225 => 80 | 224 => 81 | 267 => 82 | 266 => 95 | 314 => 96 | n => n, fun | 9 => 9 | 4 => 4 | 59 => 60 | 3 => 3 | 5 => 5 | 46 => 103 | 146 => 128 | 51 => 111 | n => n, fun | 1 => 1 | n => n⟩
theorem Tryz.lays145 : Go.Proofs.Lays.n145 Tryz.prog Tryz.lays145_ren := {
 mixed := by kernel_rfl
 f145 := Tryz.func29.trans (congrArg some (by kernel_rfl))
 f217 := Tryz.func79.trans (congrArg some (by kernel_rfl))
 f219 := Tryz.func68.trans (congrArg some (by kernel_rfl))
 f220 := Tryz.func51.trans (congrArg some (by kernel_rfl))
 f224 := Tryz.func81.trans (congrArg some (by kernel_rfl))
 f225 := Tryz.func80.trans (congrArg some (by kernel_rfl))
 f266 := Tryz.func95.trans (congrArg some (by kernel_rfl))
 f267 := Tryz.func82.trans (congrArg some (by kernel_rfl))
 f314 := Tryz.func96.trans (congrArg some (by kernel_rfl))
 t3 := Tryz.underlying3
 a3 := Tryz.isAgg3
 z3 := Tryz.sizeOf3
 v3 := Tryz.zeroValue3
 t4 := Tryz.underlying4
 a4 := Tryz.isAgg4
 z4 := Tryz.sizeOf4
 v4 := Tryz.zeroValue4
 t5 := Tryz.underlying5
 a5 := Tryz.isAgg5
 z5 := Tryz.sizeOf5
 v5 := Tryz.zeroValue5
 t9 := Tryz.underlying9
 a9 := Tryz.isAgg9
 z9 := Tryz.sizeOf9
 v9 := Tryz.zeroValue9
 t46 := Tryz.underlying103
 a46 := Tryz.isAgg103
 z46 := Tryz.sizeOf103
 v46 := Tryz.zeroValue103
 t51 := Tryz.underlying111
 a51 := Tryz.isAgg111
 z51 := Tryz.sizeOf111
 v51 := Tryz.zeroValue111
 t59 := Tryz.underlying60
 a59 := Tryz.isAgg60
 z59 := Tryz.sizeOf60
 v59 := Tryz.zeroValue60
 t146 := Tryz.underlying128
 a146 := Tryz.isAgg128
 z146 := Tryz.sizeOf128
 v146 := Tryz.zeroValue128
 g1 := by kernel_rfl }
open Go.RowKit Go.Lib in
theorem Tryz.strings_Cut (s sep : ByteArray) (m : Int) (w : World) (hs : s.size < 4294967281) (hm : w.cell? ⟨1, 0, none⟩ = some (.int .i64 m)) :
  Calls Tryz.prog 29 #[.string s, .string sep] w fun e w' => e = .returned (.tuple #[.string ⟨(Lib.cut s.data.toList sep.data.toList).1.toArray⟩, .string ⟨(Lib.cut s.data.toList sep.data.toList).2.1.toArray⟩, .bool (Lib.cut s.data.toList sep.data.toList).2.2]) ∧ ∃ n, w' = w.drewN n := Any.strings_Cut Tryz.lays145 s sep m w hs hm
def Tryz.lays138_ren : Go.Shelf.Ren := ⟨fun | 138 => 163 | 195 => 164 | 218 => 165 | 143 => 166 | 219 => 68 | 217 => 79 | 225 => 80 | 224 => 81 | 267 => 82 | 266 => 95 | 314 => 96 | n => n, fun | 9 => 9 | 3 => 3 | 4 => 4 | 5 => 5 | 0 => 0 | 46 => 103 | 146 => 128 | 51 => 111 | n => n, fun | 1 => 1 | n => n⟩
theorem Tryz.lays138 : Go.Proofs.Lays.n138 Tryz.prog Tryz.lays138_ren := {
 mixed := by kernel_rfl
 f138 := Tryz.func163.trans (congrArg some (by kernel_rfl))
 f143 := Tryz.func166.trans (congrArg some (by kernel_rfl))
 f195 := Tryz.func164.trans (congrArg some (by kernel_rfl))
 f217 := Tryz.func79.trans (congrArg some (by kernel_rfl))
 f218 := Tryz.func165.trans (congrArg some (by kernel_rfl))
 f219 := Tryz.func68.trans (congrArg some (by kernel_rfl))
 f224 := Tryz.func81.trans (congrArg some (by kernel_rfl))
 f225 := Tryz.func80.trans (congrArg some (by kernel_rfl))
 f266 := Tryz.func95.trans (congrArg some (by kernel_rfl))
 f267 := Tryz.func82.trans (congrArg some (by kernel_rfl))
 f314 := Tryz.func96.trans (congrArg some (by kernel_rfl))
 t0 := Tryz.underlying0
 a0 := Tryz.isAgg0
 z0 := Tryz.sizeOf0
 v0 := Tryz.zeroValue0
 t3 := Tryz.underlying3
 a3 := Tryz.isAgg3
 z3 := Tryz.sizeOf3
 v3 := Tryz.zeroValue3
 t4 := Tryz.underlying4
 a4 := Tryz.isAgg4
 z4 := Tryz.sizeOf4
 v4 := Tryz.zeroValue4
 t5 := Tryz.underlying5
 a5 := Tryz.isAgg5
 z5 := Tryz.sizeOf5
 v5 := Tryz.zeroValue5
 t9 := Tryz.underlying9
 a9 := Tryz.isAgg9
 z9 := Tryz.sizeOf9
 v9 := Tryz.zeroValue9
 t46 := Tryz.underlying103
 a46 := Tryz.isAgg103
 z46 := Tryz.sizeOf103
 v46 := Tryz.zeroValue103
 t51 := Tryz.underlying111
 a51 := Tryz.isAgg111
 z51 := Tryz.sizeOf111
 v51 := Tryz.zeroValue111
 t146 := Tryz.underlying128
 a146 := Tryz.isAgg128
 z146 := Tryz.sizeOf128
 v146 := Tryz.zeroValue128
 g1 := by kernel_rfl }
open Go.RowKit Go.Lib in
theorem Tryz.strings_Count_one (s : ByteArray) (c : UInt8) (w : World) :
  Calls Tryz.prog 163 #[.string s, .string ⟨#[c]⟩] w fun e w' => e = .returned (.int .i64 (Lib.countByte s.data.toList c)) ∧ w' = w := Any.strings_Count_one Tryz.lays138 s c w
def Tryz.laysGw17_ren : Go.Shelf.Ren := ⟨fun | 17 => 71 | 15 => 84 | 20 => 97 | n => n, fun | 9 => 9 | 23 => 87 | 4 => 4 | 3 => 3 | 0 => 0 | 21 => 21 | n => n, fun | n => n⟩
theorem Tryz.laysGw17 : Go.Proofs.LaysGw.n17 Tryz.prog Tryz.laysGw17_ren := {
 mixed := by kernel_rfl
 f15 := Tryz.func84.trans (congrArg some (by kernel_rfl))
 f17 := Tryz.func71.trans (congrArg some (by kernel_rfl))
 f20 := Tryz.func97.trans (congrArg some (by kernel_rfl))
 t0 := Tryz.underlying0
 a0 := Tryz.isAgg0
 z0 := Tryz.sizeOf0
 v0 := Tryz.zeroValue0
 i0 := by kernel_rfl
 t3 := Tryz.underlying3
 a3 := Tryz.isAgg3
 z3 := Tryz.sizeOf3
 v3 := Tryz.zeroValue3
 i3 := by kernel_rfl
 t4 := Tryz.underlying4
 a4 := Tryz.isAgg4
 z4 := Tryz.sizeOf4
 v4 := Tryz.zeroValue4
 i4 := by kernel_rfl
 t9 := Tryz.underlying9
 a9 := Tryz.isAgg9
 z9 := Tryz.sizeOf9
 v9 := Tryz.zeroValue9
 i9 := by kernel_rfl
 t21 := Tryz.underlying21
 a21 := Tryz.isAgg21
 z21 := Tryz.sizeOf21
 v21 := Tryz.zeroValue21
 i21 := by kernel_rfl
 t23 := Tryz.underlying87
 a23 := Tryz.isAgg87
 z23 := Tryz.sizeOf87
 v23 := Tryz.zeroValue87
 i23 := by kernel_rfl }
def Tryz.lays157_ren : Go.Shelf.Ren := ⟨fun | 157 => 72 | 229 => 85 | 199 => 86 | 261 => 98 | 311 => 102 | 312 => 103 | n => n, fun | 9 => 9 | 31 => 89 | 3 => 3 | 5 => 5 | 4 => 4 | 119 => 106 | 0 => 0 | 40 => 87 | 152 => 131 | 21 => 21 | 154 => 133 | 51 => 111 | 141 => 135 | 196 => 141 | 193 => 138 | 198 => 144 | 49 => 142 | 194 => 139 | 201 => 147 | 226 => 163 | 46 => 103 | 227 => 164 | n => n, fun | 0 => 2 | 6 => 3 | n => n⟩
theorem Tryz.lays157 : Go.Proofs.Lays.n157 Tryz.prog Tryz.lays157_ren := {
 mixed := by kernel_rfl
 f157 := Tryz.func72.trans (congrArg some (by kernel_rfl))
 f199 := Tryz.func86.trans (congrArg some (by kernel_rfl))
 f229 := Tryz.func85.trans (congrArg some (by kernel_rfl))
 f261 := Tryz.func98.trans (congrArg some (by kernel_rfl))
 f311 := Tryz.func102.trans (congrArg some (by kernel_rfl))
 f312 := Tryz.func103.trans (congrArg some (by kernel_rfl))
 t0 := Tryz.underlying0
 a0 := Tryz.isAgg0
 z0 := Tryz.sizeOf0
 v0 := Tryz.zeroValue0
 t3 := Tryz.underlying3
 a3 := Tryz.isAgg3
 z3 := Tryz.sizeOf3
 v3 := Tryz.zeroValue3
 t4 := Tryz.underlying4
 a4 := Tryz.isAgg4
 z4 := Tryz.sizeOf4
 v4 := Tryz.zeroValue4
 t5 := Tryz.underlying5
 a5 := Tryz.isAgg5
 z5 := Tryz.sizeOf5
 v5 := Tryz.zeroValue5
 t9 := Tryz.underlying9
 a9 := Tryz.isAgg9
 z9 := Tryz.sizeOf9
 v9 := Tryz.zeroValue9
 t21 := Tryz.underlying21
 a21 := Tryz.isAgg21
 z21 := Tryz.sizeOf21
 v21 := Tryz.zeroValue21
 t31 := Tryz.underlying89
 a31 := Tryz.isAgg89
 z31 := Tryz.sizeOf89
 v31 := Tryz.zeroValue89
 t40 := Tryz.underlying87
 a40 := Tryz.isAgg87
 z40 := Tryz.sizeOf87
 v40 := Tryz.zeroValue87
 t46 := Tryz.underlying103
 a46 := Tryz.isAgg103
 z46 := Tryz.sizeOf103
 v46 := Tryz.zeroValue103
 t49 := Tryz.underlying142
 a49 := Tryz.isAgg142
 z49 := Tryz.sizeOf142
 v49 := Tryz.zeroValue142
 t51 := Tryz.underlying111
 a51 := Tryz.isAgg111
 z51 := Tryz.sizeOf111
 v51 := Tryz.zeroValue111
 t119 := Tryz.underlying106
 a119 := Tryz.isAgg106
 z119 := Tryz.sizeOf106
 t141 := Tryz.underlying135
 a141 := Tryz.isAgg135
 z141 := Tryz.sizeOf135
 v141 := Tryz.zeroValue135
 t152 := Tryz.underlying131
 a152 := Tryz.isAgg131
 z152 := Tryz.sizeOf131
 v152 := Tryz.zeroValue131
 t154 := Tryz.underlying133
 a154 := Tryz.isAgg133
 z154 := Tryz.sizeOf133
 v154 := Tryz.zeroValue133
 t193 := Tryz.underlying138
 a193 := Tryz.isAgg138
 z193 := Tryz.sizeOf138
 v193 := Tryz.zeroValue138
 t194 := Tryz.underlying139
 a194 := Tryz.isAgg139
 z194 := Tryz.sizeOf139
 v194 := Tryz.zeroValue139
 t196 := Tryz.underlying141
 a196 := Tryz.isAgg141
 z196 := Tryz.sizeOf141
 v196 := Tryz.zeroValue141
 t198 := Tryz.underlying144
 a198 := Tryz.isAgg144
 z198 := Tryz.sizeOf144
 v198 := Tryz.zeroValue144
 t201 := Tryz.underlying147
 a201 := Tryz.isAgg147
 z201 := Tryz.sizeOf147
 v201 := Tryz.zeroValue147
 t226 := Tryz.underlying163
 a226 := Tryz.isAgg163
 z226 := Tryz.sizeOf163
 v226 := Tryz.zeroValue163
 t227 := Tryz.underlying164
 a227 := Tryz.isAgg164
 z227 := Tryz.sizeOf164
 v227 := Tryz.zeroValue164
 g0 := by kernel_rfl
 g6 := by kernel_rfl }
open Go.RowKit Go.Lib in
theorem Tryz.strings_Fields_any (s : ByteArray) (w : World) (hs : s.size < 4294967281) (htab : Lib.TabIs Tryz.prog w "strings.asciiSpace" .u8 Lib.asciiSpaceTab) (hW : Lib.WhiteTab 3 w) :
  Calls Tryz.prog 72 #[.string s] w fun e w' => ∃ A, e = .returned (.slice (some ⟨A, 0, none⟩) (Lib.fieldsD s.data.toList).length (Lib.fieldsD s.data.toList).length) ∧ w.heap.size ≤ A ∧
   w'.ownsRow w.heap.size 9 1 (.slice (some ⟨A, 0, none⟩) (Lib.fieldsD s.data.toList).length (Lib.fieldsD s.data.toList).length) (Lib.fieldsD s.data.toList).length ((Lib.fieldsD s.data.toList).map fun x => Value.string ⟨x.toArray⟩) ∧ Below w.heap.size w w' := Any.strings_Fields_any Tryz.lays157 (by kernel_rfl) (by kernel_rfl) (by kernel_rfl) s w hs htab hW
open Go.RowKit Go.Lib in
theorem Tryz.strings_ContainsFunc_grows (g : Nat) (lb : Array Value) (eg : ∀ args w, (callFunc g args).run Tryz.prog w = .ok (.enter g args) w) (p : Nat → Bool) (s : ByteArray) (w : World) (hp : PredGrows Tryz.prog g lb p w) :
  Calls Tryz.prog 71 #[.string s, .func (.func g) #[] lb] w fun e w' => e = .returned (.bool (decide (0 ≤ Lib.idxFunc p true s))) ∧ Below w.heap.size w w' := Any.strings_ContainsFunc_grows Tryz.laysGw17 g lb eg p s w hp
end Go.Proofs
namespace Go.Proofs.YtjcipbdocbomjaaGreatDoor.K
attribute [local go_sem] max2_int min2_int max_two min_two max_three min_three max_four min_four
end Go.Proofs.YtjcipbdocbomjaaGreatDoor.K
