/- Texts of this claim's proof, put together: Row; conditions: as each states. -/
import Derived.Test.YtjcipbdocbomjaaGreatDoorRows
import Derived.Test.YtjcipbdocbomjaaGreatDoorZ7
import Derived.WalkKit
import Derived.ProofKit
import Derived.OpenShut
import Derived.SliceStrings
import Derived.Lib.SmallJoins
import Derived.Deep.DeepHandedRow
import Derived.Lib.LaidTab
import Derived.Lib.LaidU8
set_option linter.unusedVariables false
set_option linter.unusedSimpArgs false
open Go.RowKit Go.Proofs.YtjcipbdocbomjaaGreatDoorW.PrintWords Go.Proofs.YtjcipbdocbomjaaGreatDoorW.PrintLast Go.Proofs.YtjcipbdocbomjaaGreatDoorW.PrintMore
namespace Go.Proofs.YtjcipbdocbomjaaGreatDoor.K
open Go.ChangeShapes Go.WideShapes Go.ChangeAt Go.RowKit Go.Proofs.YtjcipbdocbomjaaGreatDoorW.PrintWords Go.Proofs.YtjcipbdocbomjaaGreatDoorW.PrintLast Go.Proofs.YtjcipbdocbomjaaGreatDoorW.PrintMore
theorem own : ownKnob Tryz.prog.godebug = none := by kernel_rfl
theorem laidOut : laidOutB Tryz.prog = true := by kernel_rfl
theorem cells9 : Tryz.prog.cellsOf 9 = 1 := by kernel_rfl
theorem cells33 : Tryz.prog.cellsOf 33 = 4 := by kernel_rfl
theorem cells31 : Tryz.prog.cellsOf 31 = 1 := by kernel_rfl
theorem cells35 : Tryz.prog.cellsOf 35 = 5 := by kernel_rfl
theorem cells30 : Tryz.prog.cellsOf 30 = 2 := by kernel_rfl
theorem cells28 : Tryz.prog.cellsOf 28 = 1 := by kernel_rfl
section
variable {H : Type} {enc : TypeId × Value → H} {W : World} {base : Nat} {spare : Nat → Bool} {held : Bool}
theorem slice_read {α : Type} {d : Kd α} (z : α) {t e fuel : Nat} {cs : List Value} {x : DataW H × List MemPlace} (ht : Tryz.prog.underlying t = some (.slice e)) (hsz : Tryz.prog.cellsOf e = d.sz)
  (he : ∀ n, n < fuel → ∀ (c : List Value) (y : DataW H × List MemPlace), c.length = d.sz → DataW.trod enc Tryz.prog W base spare held n e c = some y → ∃ p : α, d.K W p c)
  (h : DataW.trod enc Tryz.prog W base spare held fuel t cs = some x) :
  ∃ (A : Option Addr) (c : Nat) (l : List α), cs = [.slice A l.length c] ∧ l.length ≤ c ∧ Kd.C d W A l.length l := by
 rcases DataW.trod_slice ht h with ⟨rfl, _⟩ | ⟨a, len, cap, elems, rest, n, rfl, rfl, hx, hb, hl, hm, hlen, hel, _, _⟩
 ·exact ⟨none, 0, [], rfl, Nat.le_refl _, Kd.C_nil _ _⟩
 ·have hall : ∀ i, i < len → ∃ (p : α) (c : List Value), c.length = d.sz ∧ d.K W p c ∧ ∀ j u, c[j]? = some u → W.cell? (a.add (i * d.sz + j)) = some u := by
   intro i hi
   have h1 := hel i hi
   rw [List.getElem?_eq_getElem (by omega)] at h1
   obtain ⟨c, hc, hy⟩ := Option.bind_eq_some_iff.1 h1
   rw [hsz] at hc
   obtain ⟨_, hcl, hcc⟩ := World.cells?_some hc
   obtain ⟨p, hp⟩ := he n (by omega) c _ hcl hy
   refine ⟨p, c, hcl, hp, fun j u hu => ?_⟩
   have hj : j < d.sz := by rw [← hcl]; exact (List.getElem?_eq_some_iff.1 hu).1
   have h2 := hcc j hj
   rw [hu] at h2
   have h3 : (a.add (i * d.sz)).add j = a.add (i * d.sz + j) := by
    unfold Addr.add
    by_cases h4 : i * d.sz = 0 <;> by_cases h5 : j = 0 <;> simp [h4, h5, Nat.add_assoc]
   rw [← h3]
   exact h2
  refine ⟨some a, cap, (List.range len).map (fun i => if hi : i < len then (hall i hi).choose else z), by simp, by simpa using hl, by simp, by simp only [List.length_map, List.length_range]; simp only [maxLen] at hm; omega, fun _ => ⟨a, rfl, fun j p hj => ?_⟩⟩
  rw [List.getElem?_map] at hj
  obtain ⟨i, hi, rfl⟩ := Option.map_eq_some_iff.1 hj
  have hjl : j < len := by
   have := (List.getElem?_eq_some_iff.1 hi).1
   simpa using this
  rw [List.getElem?_range hjl] at hi
  obtain rfl := Option.some.inj hi
  simp only [hjl, dif_pos]
  obtain ⟨c, h1, h2, h3⟩ := (hall j hjl).choose_spec
  exact ⟨c, h1, h2, h3⟩
theorem string_read {fuel : Nat} {c : List Value} {y : DataW H × List MemPlace} (h : DataW.trod enc Tryz.prog W base spare held fuel 9 c = some y) : ∃ s : ByteArray, c = [.string s] := by
 obtain ⟨s, e, _⟩ := DataW.trod_string Tryz.underlying9 h
 exact ⟨s, e⟩
theorem st4 {t : TypeId} {f0 f1 f2 f3 : Field} {fuel : Nat} {cs : List Value} {x : DataW H × List MemPlace} (ht : Tryz.prog.underlying t = some (.struct #[f0, f1, f2, f3])) (h : DataW.trod enc Tryz.prog W base spare held fuel t cs = some x) :
  ∃ y0 y1 y2 y3 n, fuel = n + 1 ∧ DataW.trod enc Tryz.prog W base spare held n f0.type ((cs.drop f0.offset).take (Tryz.prog.cellsOf f0.type)) = some y0 ∧
   DataW.trod enc Tryz.prog W base spare held n f1.type ((cs.drop f1.offset).take (Tryz.prog.cellsOf f1.type)) = some y1 ∧ DataW.trod enc Tryz.prog W base spare held n f2.type ((cs.drop f2.offset).take (Tryz.prog.cellsOf f2.type)) = some y2 ∧
   DataW.trod enc Tryz.prog W base spare held n f3.type ((cs.drop f3.offset).take (Tryz.prog.cellsOf f3.type)) = some y3 := by
 obtain ⟨xs, n, hn, rfl, hl, hlen, hf⟩ := DataW.trod_struct ht h
 match xs, hlen with
 | [y0, y1, y2, y3], _ => exact ⟨y0, y1, y2, y3, n, hn, by simpa using hf 0 f0 rfl, by simpa using hf 1 f1 rfl, by simpa using hf 2 f2 rfl, by simpa using hf 3 f3 rfl⟩
theorem st2 {t : TypeId} {f0 f1 : Field} {fuel : Nat} {cs : List Value} {x : DataW H × List MemPlace} (ht : Tryz.prog.underlying t = some (.struct #[f0, f1])) (h : DataW.trod enc Tryz.prog W base spare held fuel t cs = some x) :
  ∃ y0 y1 n, fuel = n + 1 ∧ DataW.trod enc Tryz.prog W base spare held n f0.type ((cs.drop f0.offset).take (Tryz.prog.cellsOf f0.type)) = some y0 ∧
   DataW.trod enc Tryz.prog W base spare held n f1.type ((cs.drop f1.offset).take (Tryz.prog.cellsOf f1.type)) = some y1 := by
 obtain ⟨xs, n, hn, rfl, hl, hlen, hf⟩ := DataW.trod_struct ht h
 match xs, hlen with
 | [y0, y1], _ => exact ⟨y0, y1, n, hn, by simpa using hf 0 f0 rfl, by simpa using hf 1 f1 rfl⟩
theorem list4 {c : List Value} (h : c.length = 4) : ∃ a b d e, c = [a, b, d, e] := by
 match c, h with
 | [a, b, d, e], _ => exact ⟨a, b, d, e, rfl⟩
theorem list5 {c : List Value} (h : c.length = 5) : ∃ a b d e f, c = [a, b, d, e, f] := by
 match c, h with
 | [a, b, d, e, f], _ => exact ⟨a, b, d, e, f, rfl⟩
theorem list2 {c : List Value} (h : c.length = 2) : ∃ a b, c = [a, b] := by
 match c, h with
 | [a, b], _ => exact ⟨a, b, rfl⟩
theorem expr_read : ∀ (fuel : Nat) (c : List Value) (y : DataW H × List MemPlace), c.length = 4 → DataW.trod enc Tryz.prog W base spare held fuel 33 c = some y → ∃ p : S33, k33.K W p c := by
 intro fuel
 induction fuel using Nat.strongRecOn with
 | _ fuel ih =>
 intro c y hc h
 obtain ⟨c0, c1, c2, c3, rfl⟩ := list4 hc
 obtain ⟨y0, y1, y2, y3, n, rfl, h0, h1, h2, h3⟩ := st4 Tryz.underlying33 h
 ·simp only [cells9, cells31, List.drop_succ_cons, List.drop_zero, List.take_succ_cons, List.take_zero] at h0 h1 h2 h3
  obtain ⟨s0, e0⟩ := string_read h0
  obtain ⟨s1, e1⟩ := string_read h1
  obtain ⟨s2, e2⟩ := string_read h2
  obtain ⟨A, cp, l, e3, hl, hC⟩ := slice_read (d := k33) z33 Tryz.underlying31 (by rw [cells33]; rfl) (fun m hm c' y' hc' h' => ih m (by omega) c' y' hc' h') h3
  simp only [List.cons.injEq, and_true] at e0 e1 e2 e3
  subst e0 e1 e2 e3
  exact ⟨⟨s0, s1, s2, l⟩, k33_mk W ⟨s0, s1, s2, l⟩ hl hC⟩
theorem rule_read (fuel : Nat) (c : List Value) (y : DataW H × List MemPlace) (hc : c.length = 5) (h : DataW.trod enc Tryz.prog W base spare held fuel 35 c = some y) : ∃ p : S35, k35.K W p c := by
 obtain ⟨c0, c1, c2, c3, c4, rfl⟩ := list5 hc
 obtain ⟨y0, y1, n, rfl, h0, h1⟩ := st2 Tryz.underlying35 h
 ·simp only [cells9, cells33, List.drop_succ_cons, List.drop_zero, List.take_succ_cons, List.take_zero] at h0 h1
  obtain ⟨s0, e0⟩ := string_read h0
  obtain ⟨p, hp⟩ := expr_read n _ _ rfl h1
  simp only [List.cons.injEq, and_true] at e0
  subst e0
  obtain ⟨A, cp, e, hl, hC⟩ := k33_open hp
  simp only [List.cons.injEq, and_true] at e
  obtain ⟨rfl, rfl, rfl, rfl⟩ := e
  exact ⟨⟨s0, p⟩, k35_mk W ⟨s0, p⟩ hl hC⟩
theorem kind_read (fuel : Nat) (c : List Value) (y : DataW H × List MemPlace) (hc : c.length = 2) (h : DataW.trod enc Tryz.prog W base spare held fuel 30 c = some y) : ∃ p : S30, k30.K W p c := by
 obtain ⟨c0, c1, rfl⟩ := list2 hc
 obtain ⟨y0, y1, n, rfl, h0, h1⟩ := st2 Tryz.underlying30 h
 ·simp only [cells9, cells28, List.drop_succ_cons, List.drop_zero, List.take_succ_cons, List.take_zero] at h0 h1
  obtain ⟨s0, e0⟩ := string_read h0
  obtain ⟨A, cp, l, e1, hl, hC⟩ := slice_read (d := k35) z35 Tryz.underlying28 (by rw [cells35]; rfl) (fun m hm c' y' hc' h' => rule_read m c' y' hc' h') h1
  simp only [List.cons.injEq, and_true] at e0 e1
  subst e0 e1
  exact ⟨⟨s0, l⟩, k30_mk W ⟨s0, l⟩ hl hC⟩
theorem kinds_read {a : Option Addr} {len cap : Nat} {d : DataW H} {p : List MemPlace} (h : DataW.Trod enc Tryz.prog W base spare held 22 (.slice a len cap) d p) :
  ∃ l : List S30, len = l.length ∧ Kd.C k30 W a l.length l ∧ l.length ≤ cap := by
 obtain ⟨fuel, hf⟩ := h
 obtain ⟨A, c, l, e, hl, hC⟩ := slice_read (d := k30) z30 Tryz.underlying22 (by rw [cells30]; rfl) (fun m hm c' y' hc' h' => kind_read m c' y' hc' h') hf
 simp [Value.cells] at e
 obtain ⟨rfl, rfl, rfl⟩ := e
 exact ⟨l, rfl, hC, hl⟩
end
abbrev laids : List (String × DataW Unit) := [("unicode.White_Space", Rows.laid_unicode_White_Space), ("strings.asciiSpace", Rows.laid_strings_asciiSpace), ("lunette/rule.words", Rows.laid_lunette_rule_words)]
theorem white_is : (Rows.laid_unicode_White_Space : DataW Unit) = Lib.whiteData := by kernel_rfl
theorem ascii_is : (Rows.laid_strings_asciiSpace : DataW Unit) = Lib.tabData .u8 Lib.asciiSpaceTab := by kernel_rfl
theorem tabs_of {W : World} (hL : laidMet Tryz.prog laids W) (hs : W.ShapedOpen Tryz.prog) : Tabs W where
 white := whiteTab_of_reads { Tryz.lays157 with } ⟨by kernel_rfl, by kernel_rfl, by kernel_rfl, by kernel_rfl, by kernel_rfl, by kernel_rfl, by kernel_rfl, by kernel_rfl⟩ (white_is ▸ Lib.laidMet.reads hL (.head _))
 ascii := by
  obtain ⟨g, t, cs, fuel, p, hg, hty, hvar, hd⟩ := Lib.laidMet.reads hL (.tail _ (.head _))
  rw [ascii_is] at hd
  obtain rfl : g = 2 := Option.some.inj (hg.symm.trans (show Tryz.prog.globalNamed "strings.asciiSpace" = some 2 by kernel_rfl))
  obtain rfl : t = 106 := Option.some.inj (hty.symm.trans (show (Tryz.prog.globals[2]?).map (·.type) = some 106 by kernel_rfl))
  unfold Lib.TabIs
  rw [hvar, ← Lib.cells_of_tab Tryz.underlying106 Tryz.underlying5 (by kernel_rfl) (by kernel_rfl) hd]
 words := by
  obtain ⟨g, t, cs, fuel, p, hg, hty, hvar, hd⟩ := Lib.laidMet.reads hL (.tail _ (.tail _ (.head _)))
  have hn : Tryz.prog.globalNamed "lunette/rule.words" = some 0 := by kernel_rfl
  obtain rfl : g = 0 := Option.some.inj (hg.symm.trans hn)
  obtain rfl : t = 100 := Option.some.inj (hty.symm.trans (show (Tryz.prog.globals[0]?).map (·.type) = some 100 by kernel_rfl))
  obtain ⟨xs, m, rfl, hx, hcl, hxl, hall⟩ := DataW.trod_array Tryz.underlying100 hd
  have hcell : ∀ j s, theWords[j]? = some s → W.cell? ⟨0, j, none⟩ = some (.string s) := by
   intro j s hj
   have hj6 : j < 6 := by
    have := (List.getElem?_eq_some_iff.1 hj).1
    simpa [theWords] using this
   rw [World.var?_cell hn hvar j]
   have h1 := hall j hj6
   have hxj : xs[j]? = some xs[j] := List.getElem?_eq_getElem (by omega)
   rw [hxj, cells9, Nat.mul_one] at h1
   obtain ⟨s', he, hy, _⟩ := DataW.trod_string Tryz.underlying9 h1
   have h2 : cs[j]? = some (.string s') := by
    have h3 := congrArg (·[0]?) he
    simpa [List.getElem?_take, List.getElem?_drop] using h3
   rw [h2]
   have h4 : (xs.map (·.1))[j]? = some (DataW.lit (.string s'.data.toList)) := by
    rw [List.getElem?_map, hxj, hy]; rfl
   have h5 : xs.map (·.1) = theWords.map fun s => (DataW.lit (.string s.data.toList) : DataW Unit) := by
    have h6 := congrArg Prod.fst hx
    rw [show (Rows.laid_lunette_rule_words : DataW Unit) = .agg (theWords.map fun s => (DataW.lit (.string s.data.toList) : DataW Unit)) by kernel_rfl] at h6
    exact (DataW.agg.inj h6).symm
   rw [h5, List.getElem?_map, hj] at h4
   simp only [Option.map_some, Option.some.injEq, DataW.lit.injEq, Lit.string.injEq] at h4
   have h7 : s = s' := by
    cases s with | mk a => cases s' with | mk b =>
    simp only at h4
    rw [Array.toList_inj] at h4
    rw [h4]
   rw [h7]
  refine ⟨rfl, by decide, fun _ => ⟨⟨0, 0, none⟩, rfl, fun j p hj => ⟨[.string p], rfl, rfl, fun i u hu => ?_⟩⟩⟩
  cases i with
  | succ i => simp at hu
  | zero =>
   simp only [List.getElem?_cons_zero, Option.some.injEq] at hu
   subst hu
   have h8 := hcell j p hj
   have h9 : (⟨0, 0, none⟩ : Addr).add (j * Kd.string.sz + 0) = ⟨0, j, none⟩ := by
    show (⟨0, 0, none⟩ : Addr).add (j * 1 + 0) = ⟨0, j, none⟩
    rw [Nat.mul_one, Nat.add_zero]
    cases j <;> simp [Addr.add]
   rw [h9]; exact h8
 len := cell_of_shapedOpen_int (zero := #[.int .i64 0]) (t := 3) hs (of_decide_eq_true (by kernel_rfl)) (by kernel_rfl) rfl (by kernel_rfl) (by kernel_rfl) Tryz.underlying3
noncomputable def laidWorld (os : Os) : World :=
 let N := (World.settled Tryz.prog os).heap.size
 let w0 := World.holding Tryz.prog os ⟨#[.cells (Lib.whiteT.map fun (z : Nat) => Value.int .u16 (z : Int)).toArray (Tryz.lays157_ren.t 198), .cells #[.slice (some ⟨N, 0, none⟩) 7 7, .slice none 0 0, .int .i64 2] (Tryz.lays157_ren.t 196)], #[], []⟩
 let put (h : Array Obj) (g : Nat) (cs : Array Value) : Array Obj := h.modify g fun
  | .cells _ t frozen => .cells cs t frozen
  | o => o
 let h1 := put w0.heap 0 (theWords.map fun s => Value.string s).toArray
 let h2 := put h1 2 (Lib.asciiSpaceTab.map fun z => Value.int .u8 z).toArray
 let h3 := put h2 3 #[.pointer (some ⟨N + 1, 0, none⟩)]
 { w0 with heap := h3 }
end Go.Proofs.YtjcipbdocbomjaaGreatDoor.K
